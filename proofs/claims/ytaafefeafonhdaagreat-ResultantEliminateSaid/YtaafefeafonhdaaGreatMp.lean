/- Mp -/
import Derived.Test.YtaafefeafonhdaaGreatMh
import Derived.RangeFuncNested
import Derived.RangeFuncBound
import Derived.Shelf.RegionOpen
import Derived.OwnWalkIn
import Derived.LoopNIn
import Derived.LoopIn
set_option linter.unusedVariables false
set_option maxRecDepth 100000
set_option maxHeartbeats 400000000
set_option linter.unusedSimpArgs false
namespace Go.Proofs.YtaafefeafonhdaaGreat
open Go.RowKit
section
variable{P:Program}{ops:Array Oper}{Q:Exit->Act->World->Prop}{md:Region.Mode}{S:World->Prop}{y:Nat}
def zH(P:Program)(md:Region.Mode)(ops:Array Oper)(Q:Exit->Act->World->Prop)(S:World->Prop)(y:Nat):Nat->Array Bool->Act->World->Prop
 |0,listed,a,w=>Region.ready md ops listed=[]/\Q .normal a w
 |fuel+1,listed,a,w=>
  (Region.ready md ops listed=[]->Q .normal a w)/\
  ∀i∈Region.ready md ops listed,wpOpIn Fence.wide 2 P ops Q i (λa' w'=>(i≠y->listed.getD y false=false->S w')/\zH P md ops Q S y fuel (listed.setIfInBounds i true) a' w') a w
theorem qrI:∀(fuel:Nat)(listed:Array Bool)(a:Act)(w:World),zH P md ops Q S y fuel listed a w->wpAnyIn Fence.wide 2 P md ops Q fuel listed a w
 |0,_,_,_,h=>h
 |fuel+1,_,_,_,h=>⟨h.1,λi hi=>wpOpIn_mono (λa' w' h'=>qrI fuel _ a' w' h'.2) (h.2 i hi)⟩
theorem qrN{o:Oper}{a:Act}{w:World}{K:Act->World->Prop}(h:Oper.wp P o a w K Q):Oper.wpIn Fence.wide 2 P o a w K Q:=by
 refine⟨λ_ _=>trivial,?_⟩;rw[Fence.wide_round,Oper.semAt_none];unfold Oper.wp at h;generalize (execOp a.eval o).run P w=r at*
 cases r with
 |ok x w'=>
  cases x with
  |enter f args=>exact⟨(λh=>by cases h),callsIn_wide.2 h⟩
  |row row args=>exact⟨(λh=>by cases h),λc cs _=>let ⟨v,w',r,s⟩:=h c cs;⟨v,w',r,stepsIn_wide.2 s⟩⟩
  |round l f tmps assign body=>exact False.elim h
  |_=>exact h
 |halt x w'=>cases x<;>exact h
theorem qrS{i:Nat}{o:Oper}{v:Value}{a:Act}(hi:ops[i]?=some o)(hy:YieldsIf P ops S o v a){K:Act->World->Prop}{w:World}(hS:S w)(h:K (a.put o.dst v) w):wpOpIn Fence.wide 2 P ops Q i K a w:=by
 unfold wpOpIn;simp only[hi];rcases hy with⟨hw,hv⟩|⟨hw,rfl⟩
 ·simp only[hw,if_true];refine qrN ?_;simp only[Oper.wp,hv w hS,Oper.upon];exact h
 ·simp only[hw,Bool.false_eq_true,if_false];exact⟨λ_ _=>trivial,h⟩
theorem qEM{j:Nat}{oi oj:Oper}{v:Value}(hj:ops[j]?=some oj)(hap:oi.apart ops oj=true)(hsi:∀cs b,oi.op≠ .select cs b)(hsj:∀cs b,oj.op≠ .select cs b)
 (hQ:∀c a w,Q (.panic c) (a.put oi.dst v) w->Q (.panic c) a w) {K:Act->World->Prop} {a:Act} {w:World} (hy:YieldsIf P ops S oi v a) (h:wpOpIn Fence.wide 2 P ops Q j K (a.put oi.dst v) w):
 wpOpIn Fence.wide 2 P ops Q j (λa' w'=>YieldsIf P ops S oi v a'/\K (a'.put oi.dst v) w') a w:=by
 obtain⟨h1,h2,h3⟩:=Oper.apart_spec hap;have keep:∀(a:Act),YieldsIf P ops S oi v a->∀u,YieldsIf P ops S oi v (a.put oj.dst u):=λa hy u=>hy.of_same (execOp_put oi hsi a oj.dst u h3) (wanted_put oi a oj.dst u h3);have qzS:∀d,YieldsIf P ops S oi v {a with defers:=d::a.defers}:=λd=>hy.of_same rfl rfl;unfold wpOpIn at*;simp only[hj]at*;rw[wanted_put oj a oi.dst v h1]at h
 split
 ·rename_i hw;simp only[hw,if_true]at h;refine⟨λ_ _=>trivial,?_⟩;have h:=h.2;rw[Fence.wide_round,Oper.semAt_none]at h⊢;rw[execOp_put oj hsj a oi.dst v h1]at h;generalize (execOp a.eval oj).run P w=r at*
  cases r with
  |ok x w'=>
   cases x<;>simp only[Oper.uponIn]at h⊢
   case value u=>exact⟨keep a hy u,by rw[<-Act.put_comm a v u h2];exact h⟩
   case skip=>exact⟨keep a hy _,by rw[<-Act.put_comm a v undef h2];exact h⟩
   case defer d=>
    refine⟨keep _ (qzS d) _,?_⟩;rw[<-Act.put_comm _ v undef h2, <-Act.put_defers];exact h
   case enter f args=>
    refine⟨h.1,CallsIn.mono h.2 λe w'' he=>?_⟩
    cases e with
    |returned u=>exact⟨keep a hy u,by rw[<-Act.put_comm a v u h2];exact he⟩
    |panicked c=>exact hQ _ _ _ he
    |outgrown=>exact he
   case row row args=>exact⟨h.1,RowsIn.mono h.2 λu w'' he=>⟨keep a hy u,by rw[<-Act.put_comm a v u h2];exact he⟩⟩
   case round l f tmps assign body=>
    refine⟨h.1,RoundIn.mono h.2 λe w'' he=>?_⟩
    cases e with
    |returned u=>exact⟨keep a hy u,by rw[<-Act.put_comm a v u h2];exact he⟩
    |panicked c=>exact hQ _ _ _ he
    |outgrown=>exact he
  |halt x w'=>
   cases x<;>simp only[Oper.uponIn]at h⊢
   case panic u=>exact hQ _ _ _ h
 ·rename_i hw;simp only[hw]at h;exact⟨λ_ _=>trivial,keep a hy _,by rw[<-Act.put_comm a v undef h2];exact h.2⟩
theorem qAX{i f:Nat}{listed:Array Bool}(hc:Cl md ops listed)(hw:DU md ops f y i=true)(hr:i∈Region.ready md ops listed):listed.getD y false=false:=by
 cases h:listed.getD y false with
 |false=>rfl
 |true=>
  have h1:=qfB hc i f y hw λo' AZ e he hb=>hc y o' AZ h e he hb;have h0:=(mem_ready.1 hr).1;rcases Nat.lt_or_ge i listed.size with h'|h'
  ·simp[h']at h0 h1;rw[h0]at h1;cases h1
  ·simp[Array.getElem?_eq_none h']at h1
theorem qEG{i f:Nat}{oi:Oper}{v:Value}(hi:ops[i]?=some oi)(Bb:∀(j:Nat)(o:Oper) cs b,ops[j]?=some o->o.op≠ .select cs b)
 (hQ:∀c a w,Q (.panic c) (a.put oi.dst v) w->Q (.panic c) a w) (Wx:i≠y) (hw:DU md ops f y i=true):
 ∀(fuel:Nat)(listed:Array Bool)(a:Act)(w:World),Cl md ops listed->
  (∀j oj,ops[j]?=some oj->j≠i->listed.getD j true=false->(∀e∈oj.after,Region.binds md e=true->e.on≠i)->oi.apart ops oj=true)->
  i∈Region.ready md ops listed->YieldsIf P ops S oi v a->S w->
  zH P md ops Q S y fuel (listed.setIfInBounds i true) (a.put oi.dst v) w->zH P md ops Q S y (fuel+1) listed a w:=by
 intro fuel
 induction fuel with
 |zero=>
  intro listed a w _ _ hr hy hS H;refine⟨λh=>(by rw[h]at hr;cases hr),λj hj=>?_⟩
  by_cases iR:j=i
  ·subst iR;exact qrS hi hy hS ⟨λ_ _=>hS,H⟩
  ·have:=ready_mono hj iR;rw[H.1]at this;cases this
 |succ fuel ih=>
  intro listed a w nZ AP hr hy hS H;refine⟨λh=>(by rw[h]at hr;cases hr),λj hj=>?_⟩
  by_cases iR:j=i
  ·subst iR;exact qrS hi hy hS ⟨λ_ _=>hS,H⟩
  ·have tZ:j≠y:=λe=>qpF nZ hw hr (e ▸ hj);have h1:=H.2 j (ready_mono hj iR);obtain⟨AV,oj,uX,kI⟩:=mem_ready.1 hj
   have KR:∀e∈oj.after,Region.binds md e=true->e.on≠i:=λe he hb heq=>by
    have h1:=kI e he hb;have h0:=(mem_ready.1 hr).1;rw[heq]at h1;rcases Nat.lt_or_ge i listed.size with h'|h'
    ·simp[h']at h0 h1;rw[h0]at h1;cases h1
    ·simp[Array.getElem?_eq_none h']at h1
   have h2:=qEM uX (AP j oj uX iR AV KR) (λcs b=>Bb i oi cs b hi) (λcs b=>Bb j oj cs b uX) hQ hy h1
   have KD:∀k ok,ops[k]?=some ok->k≠i->(listed.setIfInBounds j true).getD k true=false->
    (∀e∈ok.after,Region.binds md e=true->e.on≠i)->oi.apart ops ok=true:=λk ok hk KH Bf hno=>by
    refine AP k ok hk KH ?_ hno
    by_cases lC:j=k
    ·subst lC;exact AV
    ·rw[getD_set_ne true lC]at Bf;exact Bf
   have WL:=qAX nZ hw hr
   have qnz:(listed.setIfInBounds i true).getD y false=false:=by rw[getD_set_ne false Wx];exact WL
   refine wpOpIn_mono (λa' w' h3=>⟨λ_ _=>h3.2.1 tZ qnz,ih (listed.setIfInBounds j true) a' w' (nZ.step hj) KD (ready_mono hr (Ne.symm iR)) h3.1 (h3.2.1 tZ qnz) ?_⟩) h2;rw[Array.setIfInBounds_comm _ _ iR];exact h3.2.2
theorem Eb(i:Nat){oi:Oper}{v:Value}{fuel:Nat}{listed:Array Bool}{a:Act}{w:World}
 (hy:∀w,S w->(execOp a.eval oi).run P w=.ok (.value v) w) (h:zH P md ops Q S y fuel (listed.setIfInBounds i true) (a.put oi.dst v) w)
 (hs:Region.noSelect ops=true:=by kernel_rfl) (hf:Region.free md ops listed i=true:=by kernel_rfl) (hr:(Region.ready md ops listed).contains i=true:=by kernel_rfl) (hl:DU md ops ops.size y i=true:=by kernel_rfl) (hc:Vs md ops listed=true:=by kernel_rfl) (Wx:(i==y)=false:=by kernel_rfl) (hS:S w:=by first|exact ak|exact hHeld)
 (hi:ops[i]?=some oi:=by simp only[sO,sP,sQ];rfl) (hwd:Region.wanted oi (yielded ops a.tmps)=true:=by rfl) (hQ:∀c a w,Q (.panic c) (a.put oi.dst v) w->Q (.panic c) a w:=by exactλ_ _ _ h=>h):zH P md ops Q S y (fuel+1) listed a w:=
 qEG hi (Region.noSelect_spec hs) hQ (by simpa using Wx) hl fuel listed a w (qjt hc) (Region.free_spec hi hf) (by simpa using hr) (.inl ⟨hwd,hy⟩) hS h
theorem TN(i:Nat){o:Oper}{fuel:Nat}{listed:Array Bool}{a:Act}{w:World}
 (h:∀K':Act->World->Prop,Shut (∀a w,(listed.getD y false=false->S w)->zH P md ops Q S y fuel (listed.setIfInBounds i true) a w->K' a w)->if Region.wanted o (yielded ops a.tmps)=true then Oper.wp P o a w K' Q else K' (a.put o.dst undef) w) (hr:Region.ready md ops listed=[i]:=by kernel_rfl) (Wx:(i==y)=false:=by kernel_rfl) (ho:ops[i]?=some o:=by simp only[sO,sP,sQ];rfl):zH P md ops Q S y (fuel+1) listed a w:=by
 refine⟨λh0=>(by rw[h0]at hr;cases hr),λj hj=>?_⟩;rw[hr]at hj;simp only[List.mem_singleton]at hj;subst hj;refine wpOpIn_step ho λK' hK=>?_;have h0:=h K' λa w h1 h2=>hK a w ⟨λ_=>h1,h2⟩
 split
 ·rename_i hw;rw[av hw]at h0;exact qrN h0
 ·rename_i hw;rw[aj hw]at h0;exact⟨λ_ _=>trivial,h0⟩
theorem qrL{o:Oper}{fuel:Nat}{listed:Array Bool}{a:Act}{w:World}
 (h:∀K':Act->World->Prop,Shut (∀a w,zH P md ops Q S y fuel (listed.setIfInBounds y true) a w->K' a w)->if Region.wanted o (yielded ops a.tmps)=true then Oper.wpIn Fence.wide 2 P o a w K' Q else(∀f,o.about P w a.eval=some f->Fence.wide.fn f)/\K' (a.put o.dst undef) w) (hr:Region.ready md ops listed=[y]:=by kernel_rfl) (ho:ops[y]?=some o:=by simp only[sO,sP,sQ];rfl):zH P md ops Q S y (fuel+1) listed a w:=by
 refine⟨λh0=>(by rw[h0]at hr;cases hr),λj hj=>?_⟩;rw[hr]at hj;simp only[List.mem_singleton]at hj;subst hj;exact wpOpIn_step ho λK' hK=>h K' λa w h1=>hK a w ⟨λe=>absurd rfl e,h1⟩
theorem qf7{listed:Array Bool}{a:Act}{w:World}{fuel:Nat}(h:Q .normal a w)(hr:Region.ready md ops listed=[]:=by kernel_rfl):
 zH P md ops Q S y fuel listed a w:=by
 cases fuel with
 |zero=>exact⟨hr,h⟩
 |succ _=>exact⟨λ_=>h,by rw[hr];simp⟩
theorem qrO(S:World->Prop)(y:Nat){id:Nat}{a:Act}{w:World}(hm:P.follows .mixedOrders=true)(hS:S w.drew)
 (h:S w.drew->zH P .any ops Q S y ops.size (Array.replicate ops.size false) a w.drew):(Code.region id ops true).wp P Q a w:=
 wpIn_wide.1 (wpIn_region_any hm (qrI _ _ _ _ (h hS)))
end
def Kq(X:Nat->Prop)(n:Nat)(W W':World):Prop:=W.heap.size<=W'.heap.size/\∀b,b<n->¬X b->W'.heap[b]?=W.heap[b]?
theorem Kq.trans{X:Nat->Prop}{n:Nat}{A B C:World}(h:Kq X n A B)(k:Kq X n B C):Kq X n A C:=⟨aK h.1 k.1,λb hb hx=>(k.2 b hb hx).trans (h.2 b hb hx)⟩
theorem Kq.putObj{X:Nat->Prop}{n:Nat}(W:World)(l:Nat)(o':Obj)(hl:n<=l):Kq X n W (W.putObj l o'):=
 ⟨by simp[World.putObj],λb hb _=>World.putObj_heap_other (by omega)⟩
theorem Kq.gZ{X:Nat->Prop}{n:Nat}{W W':World}(h:Ext W W')(hn:n<=W.heap.size):Kq X n W W':=⟨h.size,λb hb _=>h.heap (by omega)⟩
abbrev Yt(Pm:Mo->Prop):={x:TE//Pm x.m}
abbrev ytA{Pm:Mo->Prop}(x:Yt Pm):Array Value:= #[.agg #[.int .i64 x.1.m.a,.int .i64 x.1.m.b,.int .i64 x.1.m.c,.int .i64 x.1.m.d],.agg #[.bool x.1.b,.slice x.1.a x.1.n x.1.p]]
def Ec{Pm:Mo->Prop}(pre:List (Yt Pm)):List Mo:=pre.map λx=>x.1.m
theorem qDz(M:Nat->Prop)(v:Value)(l:List Tm)(w:World)(hM:Mb M w)(hP:eU M w v l)(hL:aF (aB l)<=1099511627776):
 Calls Tryz.prog 93 #[v] w λe w'=>∃u cb,e=.returned (.func (.func 119) #[] #[.pointer (some ⟨cb,0,none⟩)])/\w'.cell? ⟨cb,0,none⟩=some u/\w.heap.size<=cb/\eU M w' u (norm l)/\Ext w w':=by
 obtain⟨va,vc,rfl⟩:=hP.form;have HP:=ae hP;clear hP
 go_enter Tryz.func93,Tryz.ntmps93
 go_wp2_with (fail);refine(Lx M _ l w hM HP.out hL).mono ?_;rintro e w1 ⟨u,rfl,hu,ah⟩;obtain⟨ua,uc,rfl⟩:=hu.dB.form;have hB:=au.OL w1 (.slice ua (norm l).length uc) 36
 have HF:Hid (∃u cb,Ending.returned (.func (.func 119) #[] #[.pointer (some ⟨w1.heap.size,0,none⟩)])=.returned (.func (.func 119) #[] #[.pointer (some ⟨cb,0,none⟩)])/\(w1.alloc (.cells #[.slice ua (norm l).length uc] 36)).cell? ⟨cb,0,none⟩=some u/\w.heap.size<=cb/\eU M (w1.alloc (.cells #[.slice ua (norm l).length uc] 36)) u (norm l)/\Ext w (w1.alloc (.cells #[.slice ua (norm l).length uc] 36))):=
  ⟨_,_,rfl,hB.cell (i:=0) (by omega),ah.size,hu.dB.ext ((ai w1).alloc _),ah.alloc _⟩
 clear hu hB ah;go_wp2;go_ret;exact HF.out
def Cj(t:Nat)(c0 c1:Value)(m:Mo)(w:World):Prop:=w.cell? ⟨t,0,none⟩=some c0/\w.cell? ⟨t,1,none⟩=some c1/\w.cell? ⟨t,2,none⟩=some (.int .i64 m.a)/\w.cell? ⟨t,3,none⟩=some (.int .i64 m.b)/\w.cell? ⟨t,4,none⟩=some (.int .i64 m.c)/\w.cell? ⟨t,5,none⟩=some (.int .i64 m.d)
theorem Cj.ext{t:Nat}{c0 c1:Value}{m:Mo}{w w':World}(h:Cj t c0 c1 m w)(he:Ext w w'):Cj t c0 c1 m w':=by
 have h1:=dM _ _ h.1;unfold Cj;rw[he.cell h1,he.cell h1,he.cell h1,he.cell h1,he.cell h1,he.cell h1];exact h
theorem qD3(X:Nat->Prop)(w:World)(cb:Nat)(u:Value)(L:List Tm)(Pm:Mo->Prop)(hM:Mb X w)(hc:w.cell? ⟨cb,0,none⟩=some u)(hX:¬X cb)(hP:eU X w u L)(Hw:∀t∈L,Pm t.2):
 SeqStopsK Fence.wide 2 Tryz.prog 119 #[.pointer (some ⟨cb,0,none⟩)] (ytA (Pm:=Pm)) (Kq X w.heap.size) (λxs=>Ec xs=L.map (λt=>t.2)) (λ_=>True) L.length w:=by
 intro l J Jx W hW hJ hJx hY h0;have qE:=dM _ _ hc;have Dj:Ext w W:=hW;obtain⟨ua,uc,rfl⟩:=hP.form;have HY:=ae hY;have HJ:=ae hJ;have HP:=ae hP;have HPM:=ae Hw
 have hcW:W.cell? ⟨cb,0,none⟩=some (.slice ua L.length uc):=by rw[Dj.cell qE];exact hc
 have hll:=hP.len;have RU:Kp X w W:=Kp.gZ Dj;clear hY hJ hJx hW hP Hw hc;refine callsIn_wide.2 ?_;show Calls Tryz.prog 119 #[.func (.yield l) #[] #[],.pointer (some ⟨cb,0,none⟩)] W _
 go_enter Tryz.func119,Tryz.ntmps119
 go_wp2
 go_loopw [7] (λi wr=>∃(k:Nat)(pre:List (Yt Pm)),k<=L.length/\i=.int .i64 k/\J pre wr/\Hid (pre.map (λx=>x.1.m)=(L.take k).map (λt=>t.2))/\Kp X w wr) (λi _=>L.length-(intOf i).toNat)
 case atStart=>exact⟨0,[],bu _,rfl,h0,(rfl:[]=[]),RU⟩
 case round=>
  clear h0 RU hcW Dj;obtain⟨k,pre,hk,rfl,GI,Mc,jA⟩:=hrel
  by_cases hlt:k<L.length
  ·have Ru:=HP.out.kp jA;obtain⟨b,off,c,m,b1,a1,n1,p1,hua,xL,hmx,hb,x0,x1,x2,x3,x4,x5,hI,hT,pQ⟩:=Ru.at (k:=k) hlt;subst hua;have Hw:=HPM.out _ pQ;have HT:=ae hT;have aQ:Ext wr (wr.alloc (.cells #[.bool b1,.slice a1 n1 p1,.int .i64 m.a,.int .i64 m.b,.int .i64 m.c,.int .i64 m.d] 78)):=(ai wr).alloc _;have jf:=au.aO wr #[.bool b1,.slice a1 n1 p1,.int .i64 m.a,.int .i64 m.b,.int .i64 m.c,.int .i64 m.d] 78 6 rfl;have HI:=ae hI;clear Ru hT pQ hI
   go_upto_region 3 with(fail)
   generalize wr.alloc (.cells #[.bool b1,.slice a1 n1 p1,.int .i64 m.a,.int .i64 m.b,.int .i64 m.c,.int .i64 m.d] 78)=Wa at aQ jf⊢;clear x0 x1 x2 x3 x4 x5;have HS:Hid (Cj wr.heap.size (.bool b1) (.slice a1 n1 p1) m Wa.drew):=Cj.ext (w:=Wa) ⟨jf.cell (i:=0) (by omega),jf.cell (i:=1) (by omega),jf.cell (i:=2) (by omega),jf.cell (i:=3) (by omega),jf.cell (i:=4) (by omega),jf.cell (i:=5) (by omega)⟩ (ai Wa).drew;have dN:=aQ.trans (ai Wa).drew;have nW:=hM.size (aK jA.1 dN.size);refine qrO (Cj wr.heap.size (.bool b1) (.slice a1 n1 p1) m) 6 (by kernel_rfl) HS.out (λhHeld=>?_)
   ((refine Eb 0 (v:=?_) ?_ ?_;rotate_left 1;(intro wS hSw;obtain⟨S1,S2,S3,S4,S5,S6⟩:=hSw;go_simp;try with_reducible rfl);(try simp only[Act.put,eO,eQ,eT]));(refine Eb 1 (v:=?_) ?_ ?_;rotate_left 1;(intro wS hSw;obtain⟨S1,S2,S3,S4,S5,S6⟩:=hSw;go_simp;try with_reducible rfl);(try simp only[Act.put,eO,eQ,eT]));(refine Eb 2 (v:=?_) ?_ ?_;rotate_left 1;(intro wS hSw;obtain⟨S1,S2,S3,S4,S5,S6⟩:=hSw;go_simp;try with_reducible rfl);(try simp only[Act.put,eO,eQ,eT]));(refine Eb 3 (v:=?_) ?_ ?_;rotate_left 1;(intro wS hSw;obtain⟨S1,S2,S3,S4,S5,S6⟩:=hSw;go_simp;try with_reducible rfl);(try simp only[Act.put,eO,eQ,eT]));(refine Eb 4 (v:=?_) ?_ ?_;rotate_left 1;(intro wS hSw;obtain⟨S1,S2,S3,S4,S5,S6⟩:=hSw;go_simp;try with_reducible rfl);(try simp only[Act.put,eO,eQ,eT])))
   (refine TN 5 ?_;intro K hK)
   go_simp;refine(La _ _ c _ nW (HI.out.ext dN)).mono ?_;rintro e_ wz ⟨e0,e1,rfl,hr,ah⟩;go_wp2_with (fail);refine hK.out _ _ (λ_=>hHeld.ext ah) ?_;clear hK K;(try simp only[Act.put,eO,eQ,eT]);obtain⟨b2,a2,n2,p2,rfl,rfl⟩:=hr.form;have xI:=dN.trans ah;have Ny:J pre wz:=HJ.out pre wr wz none GI (xI.grownBy none) (λr e=>by cases e)
   have hln:pre.length<L.length:=by
    have h1:=congrArg List.length Mc.out;simp only[List.length_map,List.length_take]at h1;omega
   obtain⟨fn,tmps,assign,body,hy,hR⟩:=HY.out pre ⟨⟨b2,a2,n2,p2,m⟩,Hw⟩ wz Ny hln
   (refine qrL ?_;intro K hK)
   rw[av (by rfl)];refine⟨λ_ _=>trivial,?_⟩;rw[Fence.wide_round,Oper.semAt_none];go_simp;clear hy;refine hR.mono ?_;have Fb:Kp X w wz:=jA.trans (Kp.gZ xI)
   have ZW:Hid ((pre++[(⟨⟨b2,a2,n2,p2,m⟩,Hw⟩:Yt Pm)]).map (λx=>x.1.m)=(L.take (k+1)).map (λt=>t.2)):=by
    show _=_;rw[HT.out,List.map_append,List.map_append,Mc.out];rfl
   rintro e_ wy (⟨rfl,hJy,KJ⟩|⟨rfl,hJx⟩)
   ·have hkF:Kp X w wy:=⟨aK Fb.1 KJ.1,λq hq hx=>(KJ.2 q hq hx).trans (Fb.2 q hq hx)⟩;clear hR Fb KJ Ny xI hr ah dN nW hHeld aQ jf GI jA;refine hK.out _ _ ?_;clear hK K;(try simp only[Act.put,eO,eQ,eT])
    (refine TN 7 ?_;intro K hK)
    go_simp;refine hK.out _ _ (λh=>by cases h) ?_;clear hK K;(try simp only[Act.put,eO,eQ,eT]);refine qf7 ?_;go_wp2
    go_roundw
    case rel=>exact⟨k+1,_,by omega,by go_num,hJy,ZW,hkF⟩
    case measure=>simp[intOf];omega
   ·clear hR Fb Ny xI hr ah dN nW hHeld aQ jf GI jA;refine hK.out _ _ ?_;clear hK K;(try simp only[Act.put,eO,eQ,eT])
    (refine TN 7 ?_;intro K hK)
    go_simp;refine hK.out _ _ (λh=>by cases h) ?_;clear hK K;(try simp only[Act.put,eO,eQ,eT]);refine qf7 ?_;go_wp2;refine aV (results_none rfl _ _ _) rfl ?_;exact⟨⟨_,rfl⟩,.inr ⟨_,trivial,hJx⟩⟩
  ·have mH:k=L.length:=by omega
   subst mH
   have HF:Hid (pre.map (λx=>x.1.m)=L.map (λt=>t.2)):=by show _=_;rw[Mc.out,List.take_length]
   go_wp2
   go_end0
   exact⟨⟨_,rfl⟩,.inl ⟨pre,HF.out,GI⟩⟩
attribute [local go_sem] Oper.semAt_some
def qH(m:Mo):Nat->Nat
 |0=>0
 |k+1=>if 0<m.get (k+1)then k+1 else qH m k
theorem qmU(m:Mo)(k:Nat):qH m k<=k:=by
 induction k with
 |zero=>exact aA _
 |succ k ih=>unfold qH;split<;>omega
def o5(l:List Mo):Nat:=l.foldl (λh m=>max h (qH m 4)) 0
theorem qAg(l:List Mo)(m:Mo):o5 (l++[m])=max (o5 l) (qH m 4):=by simp[o5]
theorem qAf(l:List Mo):o5 l<=4:=by
 suffices h:∀(l:List Mo)(k:Nat),k<=4->l.foldl (λh m=>max h (qH m 4)) k<=4 from h l 0 (by omega)
 intro l
 induction l with
 |nil=>intro k hk;exact hk
 |cons m l ih=>intro k hk;exact ih _ (by have:=qmU m 4;show max k (qH m 4)<=4;omega)
def Ad(w:World)(hb:Nat)(t:TypeId)(B:Nat)(f:Nat->Value)(W:World):Prop:=au W hb t 1 f/\Ext w W/\B<=W.heap.size
theorem Ad.grown{w W W':World}{hb:Nat}{t:TypeId}{f:Nat->Value}{B:Nat}{row:Option Nat}(h:Ad w hb t B f W)(hB:w.heap.size<=B)(hlt:hb<B)(hg:W.grownBy W' row)(hr:∀r,row=some r->B<=r/\∃o:Obj,W.heap[r]?=some o/\o.isCells=false):Ad w hb t B f W':=by
 refine⟨h.1.grown hg (λe=>?_),h.2.1.grown hg (λk hk=>?_),aK h.2.2 hg.size⟩
 ·have:=(hr hb e.symm).1;omega
 ·have:=(hr k hk).1;omega
theorem Ad.set{w W:World}{hb:Nat}{t:TypeId}{f:Nat->Value}{B:Nat}(h:Ad w hb t B f W)(hw:w.heap.size<=hb)(u:Value):Ad w hb t B (λ_=>u) (W.setCell ⟨hb,0,none⟩ u):=by
 refine⟨(h.1.set 0 u).congr (λi hi=>?_),h.2.1.set (p:=⟨hb,0,none⟩) hw u,by simpa[World.setCell]using h.2.2⟩
 have:i=0:=by omega
 subst this;simp[fG]
theorem Kq.set{X:Nat->Prop}{n:Nat}{W W':World}(h:Kq X n W W'){hb o:Nat}(hx:X hb)(u:Value):Kq X n W (W'.setCell ⟨hb,o,none⟩ u):=
 ⟨by simpa[World.setCell]using h.1,λb hb' hn=>by rw[Below.heap_setCell _ ⟨hb,o,none⟩ _ b (λ(e:b=hb)=>hn (e ▸ hx))];exact h.2 b hb' hn⟩
theorem qDu(M:Nat->Prop)(v:Value)(l:List Tm)(w:World)(hM:Mb M w)(hP:eU M w v l)(hL:aF (aB l)<=1099511627776):
 Calls Tryz.prog 56 #[v] w λe w'=>e=.returned (.int .i64 (o5 ((norm l).map (·.2)):Nat))/\Ext w w':=by
 obtain⟨va,vc,rfl⟩:=hP.form;have aL:Ext w (w.alloc (.cells #[.int .i64 0] 3)):=(ai w).alloc _;have aW:=au.OL w (.int .i64 0) 3;have bD:Mb (Mx M w.heap.size (w.heap.size+1)) (w.alloc (.cells #[.int .i64 0] 3)):=Mx.mb hM (by simp) (by simp);have HP:=ae ((hP.more (M':=Mx M w.heap.size (w.heap.size+1)) (Mx.more (aA _))).ext aL);clear hP;refine callsIn_wide.1 (callsIn_of_wp_marks (F:=Fence.wide) (n:=3) Tryz.func56 rfl trivial ?_);refine wpIn_wide.2 ?_;simp only[Tryz.ntmps56,List.size_toArray,List.length_cons,List.length_nil,Nat.reduceAdd,Nat.reduceSub,Array.replicate_succ,Array.replicate_zero,List.push_toArray,List.append_toArray,List.nil_append,List.cons_append];go_wp2_with (fail);refine(qDz _ _ l _ bD HP.out hL).mono ?_;rintro e w1 ⟨u,cb,rfl,qE,hcs,hu,ah⟩;have dF:=aL.trans ah
 have hx:¬Mx M w.heap.size (w.heap.size+1) cb:=λh=>by
  rcases h with h|h
  ·have:=hM cb h;simp at hcs;omega
  ·simp at hcs;omega
 have hsz:w.heap.size+1<=w1.heap.size:=by have:=ah.size;simp at this;omega
 have bS:Hid (Ad w w.heap.size 3 w1.heap.size (λ_=>.int .i64 0) w1):=⟨aW.ext ah,dF,aA _⟩;have Jm:=ae (qD3 (Mx M w.heap.size (w.heap.size+1)) w1 cb u (norm l) (λ_=>True) (bD.ext ah) qE hx hu (λ_ _=>trivial));clear aW aL bD HP qE hcs hu ah dF hx;go_wp2
 refine wpIn_wide.1 (wpIn_rangeFunc_ownH (F:=Fence.wide) (n:=3) rfl (by omega) (gf:=119) (lb:= #[.pointer (some ⟨cb,0,none⟩)]) rfl trivial (enters_of Tryz.func119 (by kernel_rfl) rfl) Jm.out Kq.trans (λW l o o' hl _ _ _=>Kq.putObj W l o' hl) (Below.refl _ _) (λ_=>rfl)
  (λ(pre:List (Yt (λ_=>True))) W=>Ad w w.heap.size 3 w1.heap.size (λ_=>.int .i64 (o5 (Ec pre):Nat)) W) (λ_ _ _=>False)
  (λpre W W' row h hg hr=>h.grown (aK (Nat.le_succ _) hsz) hsz hg hr) (λc s W W' row h=>h.elim) bS.out
  (λx a' W=>∃Bx,w1.heap.size<=Bx/\au W Bx 76 4 (arr (moA x.1.m))/\a'={tmps:= #[.slice va l.length vc,undef,.int .i64 0,.pointer (some ⟨w.heap.size,0,none⟩),.pointer (some ⟨Bx,0,none⟩),undef,undef,.slice va l.length vc,.func (.func 119) #[] #[.pointer (some ⟨cb,0,none⟩)],.agg #[.int .i64 x.1.m.a,.int .i64 x.1.m.b,.int .i64 x.1.m.c,.int .i64 x.1.m.d],.agg #[.bool x.1.b,.slice x.1.a x.1.n x.1.p],undef,undef,undef,undef,undef,undef,undef,undef,undef,undef,undef,undef,undef,undef,undef,undef,undef],defers:=[]})
  (λx a' s W W' row h hg hr=>?hax) ?assign ?body ?done ?stop)
 case hax=>
  obtain⟨Bx,h1,h2,h3⟩:=h;refine⟨Bx,h1,h2.grown hg (λe=>?_),h3⟩;obtain⟨_,o,ho,hoc⟩:=hr Bx e.symm;obtain⟨cur,qxG,_⟩:=h2;rw[qxG]at ho;cases ho;cases hoc
 case assign=>
  intro lq pre x W K hi hK
  gi_wp2
  exact hK _ _ ((KeepsOthers.alloc _ _).from _) (Kq.gZ ((ai W).alloc _) hi.2.2) ⟨hi.1.alloc _,hi.2.1.alloc _,aK hi.2.2 (by simp)⟩ ⟨W.heap.size,hi.2.2,au.aO W (moA x.1.m) 76 4 rfl,rfl⟩
 case body=>
  rintro lq pre x a' W hl ⟨r,hr⟩ hi ⟨Bx,kg,qD,rfl⟩ hlen;obtain⟨⟨xb,xa,xn,xp,m⟩,Hw⟩:=x;have y0:=qD.cell (i:=0) (by omega);have y1:=qD.cell (i:=1) (by omega);have y2:=qD.cell (i:=2) (by omega);have y3:=qD.cell (i:=3) (by omega);simp only[arr,moA]at y0 y1 y2 y3
  have HS:Hid (o5 (Ec (pre++[(⟨⟨xb,xa,xn,xp,m⟩,Hw⟩:Yt (λ_=>True))]))=max (o5 (Ec pre)) (qH m 4)):=by
   show _=_;rw[show Ec (pre++[(⟨⟨xb,xa,xn,xp,m⟩,Hw⟩:Yt (λ_=>True))])=Ec pre++[m] by simp[Ec],qAg]
  have h4:=qAf (Ec pre);generalize o5 (Ec pre)=h0 at*;have HI:=ae hi;clear qD hi hr hlen
  gi_wp2
  gi_loopw [12] (λi wz=>∃k:Nat,k<=4/\i=.int .i64 k/\Ad w w.heap.size 3 w1.heap.size (λ_=>.int .i64 (max h0 (qH m k):Nat)) wz/\KeepsFrom w1.heap.size W wz/\Kq (Mx M w.heap.size (w.heap.size+1)) w1.heap.size W wz) (λi _=>4-(intOf i).toNat)
  case atStart=>exact⟨0,by omega,rfl,by simpa[qH]using HI.out,(KeepsOthers.refl _).from _,⟨aA _,λ_ _ _=>rfl⟩⟩
  case round=>
   obtain⟨k,hk,rfl,⟨hB,hE,hS⟩,Ke,VW⟩:=hrel;clear y0 y1 y2 y3
   have i0:∀w,(Instr.index 76 (.agg #[.int .i64 m.a,.int .i64 m.b,.int .i64 m.c,.int .i64 m.d]) (.int .i64 0)).run Tryz.prog w=.ok (.int .i64 m.a) w:=λ_=>by kernel_rfl
   have i1:∀w,(Instr.index 76 (.agg #[.int .i64 m.a,.int .i64 m.b,.int .i64 m.c,.int .i64 m.d]) (.int .i64 1)).run Tryz.prog w=.ok (.int .i64 m.b) w:=λ_=>by kernel_rfl
   have i2:∀w,(Instr.index 76 (.agg #[.int .i64 m.a,.int .i64 m.b,.int .i64 m.c,.int .i64 m.d]) (.int .i64 2)).run Tryz.prog w=.ok (.int .i64 m.c) w:=λ_=>by kernel_rfl
   have i3:∀w,(Instr.index 76 (.agg #[.int .i64 m.a,.int .i64 m.b,.int .i64 m.c,.int .i64 m.d]) (.int .i64 3)).run Tryz.prog w=.ok (.int .i64 m.d) w:=λ_=>by kernel_rfl
   by_cases hlt:k<4
   ·have hget:∃e,m.get (k+1)=e/\∀w,(Instr.index 76 (.agg #[.int .i64 m.a,.int .i64 m.b,.int .i64 m.c,.int .i64 m.d]) (.int .i64 (k:Int))).run Tryz.prog w=.ok (.int .i64 e) w:=by
     have:k=0\/k=1\/k=2\/k=3:=by omega
     rcases this with rfl|rfl|rfl|rfl
     ·exact⟨m.a,rfl,i0⟩
     ·exact⟨m.b,rfl,i1⟩
     ·exact⟨m.c,rfl,i2⟩
     ·exact⟨m.d,rfl,i3⟩
    obtain⟨e,he,ix⟩:=hget;clear i0 i1 i2 i3;have c0:=hB.cell (i:=0) (by omega);have f0:=hB.frozen 0;have hle:=qmU m k;generalize hg:max h0 (qH m k)=g at*;have qFH:=hB.lt
    by_cases hpos:0<e
    ·have hu:qH m (k+1)=k+1:=by unfold qH;rw[he,av hpos]
     by_cases jT:g<k+1
     ·have fE:max h0 (qH m (k+1))=k+1:=by rw[hu];omega
      have HG:=ae fE;clear he hu hg fE
      gi_wp2
      refine⟨⟨k+1,by omega,by go_num,?_,Ke.trans ((KeepsOthers.setCell _ _ _).from _),VW.set (.inr ⟨aA _,by omega⟩) _⟩,by simp[intOf];omega⟩;rw[HG.out];exact Ad.set ⟨hB,hE,hS⟩ (aA _) _
     ·have fE:max h0 (qH m (k+1))=g:=by rw[hu];omega
      have HG:=ae fE;clear he hu hg fE
      gi_wp2
      refine⟨⟨k+1,by omega,by go_num,?_,Ke,VW⟩,by simp[intOf];omega⟩;rw[HG.out];exact⟨hB,hE,hS⟩
    ·have hu:qH m (k+1)=qH m k:=by conv=>lhs;unfold qH
                                   rw[he,aj hpos]
     have fE:max h0 (qH m (k+1))=g:=by rw[hu];exact hg
     have HG:=ae fE;clear he hu hg fE
     gi_wp2
     refine⟨⟨k+1,by omega,by go_num,?_,Ke,VW⟩,by simp[intOf];omega⟩;rw[HG.out];exact⟨hB,hE,hS⟩
   ·have rA:k=4:=by omega
    subst rA;clear i0 i1 i2 i3
    gi_wp2
    refine⟨Ke,VW,?_⟩;show Ad _ _ _ _ _ _;rw[HS.out];exact⟨hB,hE,hS⟩
 case done=>
  rintro D ys W hD Xg ⟨hB,hE,hS⟩ hK;have c0:=hB.cell (i:=0) (by omega)
  have HYS:Hid (o5 (Ec ys)=o5 ((norm l).map (·.2))):=by show _=_;rw[Xg]
  clear Xg;go_wp2;refine⟨by simp,.inl ⟨_,_,rfl,run_takeDeferred hK,?_⟩⟩;refine⟨_,results_tmp rfl _ _ _,?_⟩;exact⟨by rw[<-HYS.out];rfl,hE.grown (grownBy_putObj' W D _) (λk hk=>by cases hk;omega)⟩
 case stop=>exactλD c pre W hD hs h=>h.elim
end Go.Proofs.YtaafefeafonhdaaGreat
namespace Go.Proofs.YtaafefeafonhdaaGreat
open Go.RowKit
attribute [local go_sem] Oper.semAt_some
end Go.Proofs.YtaafefeafonhdaaGreat
namespace Go.Proofs.YtaafefeafonhdaaGreat
open Go.RowKit
def JR(w:World)(a:Option Addr)(n cap:Nat)(X:Nat->TE):Prop:=
 n<=cap/\cap<=maxLen/\(n=0\/∃b off,a=some ⟨b,off,none⟩/\b<w.heap.size/\∀i,i<n->w.cell? ⟨b,off+i*6,none⟩=some (.bool (X i).b)/\w.cell? ⟨b,off+i*6+1,none⟩=some (.slice (X i).a (X i).n (X i).p)/\
  w.cell? ⟨b,off+i*6+2,none⟩=some (.int .i64 (X i).m.a)/\w.cell? ⟨b,off+i*6+3,none⟩=some (.int .i64 (X i).m.b)/\w.cell? ⟨b,off+i*6+4,none⟩=some (.int .i64 (X i).m.c)/\w.cell? ⟨b,off+i*6+5,none⟩=some (.int .i64 (X i).m.d))
theorem JR.ext{w w':World}{a:Option Addr}{n cap:Nat}{X:Nat->TE}(h:JR w a n cap X)(he:Ext w w'):JR w' a n cap X:=by
 obtain⟨h1,h2,h3⟩:=h;refine⟨h1,h2,?_⟩;rcases h3 with h3|⟨b,off,ha,hb,hc⟩
 ·exact .inl h3
 ·refine .inr ⟨b,off,ha,bB hb he.size,λi hi=>?_⟩;rw[he.cell hb,he.cell hb,he.cell hb,he.cell hb,he.cell hb,he.cell hb];exact hc i hi
def XQ(E:Int)(m:Mo)(k:Nat):Prop:= -1000<=m.get k/\m.get k<=E
def qfj(D:Nat)(E:Int)(x:TE):Prop:=x.n<=D/\∀k,k<4->XQ E x.m (k+1)
def TV(n:Nat)(X:Nat->TE)(T D:Nat)(E:Int):Prop:=n<=T/\∀i,i<n->qfj D E (X i)
def qiU(p:Prop)(w:World)(e:Ending)(w':World):Prop:=∃b:Bool,e=.returned (.bool b)/\(b=true↔p)/\w=w'
theorem qCr(a:Option Addr)(n cap:Nat)(X:Nat->TE)(T D:Nat)(E:Int)(w:World)(h:JR w a n cap X)(hX:∀i,i<n->(X i).n<=9223372036854775807):
 Calls Tryz.prog 32 #[.slice a n cap,.int .i64 (T:Int),.int .i64 (D:Int),.int .i64 E] w (qiU (TV n X T D E) w):=by
 obtain⟨h1,h2,h3⟩:=h;unfold maxLen at h2;have H3:=ae h3;have HX:=ae hX;clear h3 hX
 by_cases hT:n<=T
 ·go_enter Tryz.func32,Tryz.ntmps32
  go_wp2
  go_loop [9] (λi=>∃k:Nat,k<=n/\i=.int .i64 k/\Hid (∀j,j<k->qfj D E (X j))) (λi=>n-(intOf i).toNat)
  case atStart=>exact⟨0,bu _,rfl,λj hj=>absurd hj (Nat.not_lt_zero _)⟩
  case round=>
   obtain⟨k,hk,rfl,F3⟩:=hrel
   by_cases hlt:k<n
   ·rcases H3.out with h0|⟨b,off,rfl,hb,Df⟩
    ·omega
    obtain⟨x0,x1,x2,x3,x4,x5⟩:=Df k hlt;have hxn:=HX.out k hlt;clear Df
    by_cases hD:(X k).n<=D
    ·go_wp2
     go_loop [10] (λi=>∃q:Nat,q<=4/\i=.int .i64 q/\Hid (∀j,j<q->XQ E (X k).m (j+1))) (λi=>4-(intOf i).toNat)
     case atStart=>exact⟨0,bu _,rfl,λj hj=>absurd hj (Nat.not_lt_zero _)⟩
     case round=>
      obtain⟨q,hq,rfl,HQ⟩:=hrel
      by_cases hq4:q<4
      ·have hc:∃e,(X k).m.get (q+1)=e/\w.cell? ⟨b,off+k*6+2+q,none⟩=some (.int .i64 e):=by
        have:q=0\/q=1\/q=2\/q=3:=by omega
        rcases this with rfl|rfl|rfl|rfl
        ·exact⟨_,rfl,x2⟩
        ·exact⟨_,rfl,x3⟩
        ·exact⟨_,rfl,x4⟩
        ·exact⟨_,rfl,x5⟩
       obtain⟨e,he,xe⟩:=hc;have HE:=ae he;clear he x2 x3 x4 x5
       by_cases h1:E<e
       ·go_wp2;go_ret;exact⟨false,rfl,⟨(λh=>by cases h),λh=>by have:=((h.2 k hlt).2 q hq4).2;rw[HE.out]at this;omega⟩,rfl⟩
       by_cases h2:e< -1000
       ·go_wp2;go_ret;exact⟨false,rfl,⟨(λh=>by cases h),λh=>by have:=((h.2 k hlt).2 q hq4).1;rw[HE.out]at this;omega⟩,rfl⟩
       have HN:Hid (∀j,j<q+1->XQ E (X k).m (j+1)):=λj hj=>by
        by_cases lC:j=q
        ·subst lC;unfold XQ;rw[HE.out];omega
        ·exact HQ.out j (by omega)
       go_wp2
       go_round
       case rel=>exact⟨q+1,by omega,by go_num,HN⟩
       case measure=>simp[intOf];omega
      ·have HN:Hid (∀j,j<k+1->qfj D E (X j)):=λj hj=>by
        by_cases lC:j=k
        ·subst lC;exact⟨hD,λi hi=>HQ.out i (by omega)⟩
        ·exact F3.out j (by omega)
       go_wp2
       go_round
       case rel=>exact⟨k+1,by omega,by go_num,HN⟩
       case measure=>simp[intOf];omega
    ·go_wp2;go_ret;exact⟨false,rfl,⟨(λh=>by cases h),λh=>absurd (h.2 k hlt).1 hD⟩,rfl⟩
   ·go_wp2;go_ret;exact⟨true,rfl,⟨λ_=>⟨hT,λi hi=>F3.out i (by omega)⟩,λ_=>rfl⟩,rfl⟩
 ·go_enter Tryz.func32,Tryz.ntmps32
  go_wp2;go_ret;exact⟨false,rfl,⟨(λh=>by cases h),λh=>absurd h.1 hT⟩,rfl⟩
end Go.Proofs.YtaafefeafonhdaaGreat
namespace Go.Proofs.YtaafefeafonhdaaGreat
open Go.ChangeShapes Go.WideShapes Go.ChangeAt Go.RowKit Go.Deep
theorem Vk(a:Addr):a.add 0=a:=by unfold Addr.add;simp
section
variable{H:Type}{enc:TypeId × Value->H}{W:World}
theorem qBp{fuel:Nat}{v:Value}{x:DataW H × List MemPlace}(h:DataW.trod enc Tryz.prog W 0 (λ_=>true) true fuel 28 [v]=some x):
 ∃a n cap,v=.slice a n cap/\n<=9223372036854775807/\(n<=1099511627776->∃d,dL M0 W (.slice a n cap) n d):=by
 rcases open_ints Tryz.underlying28 Tryz.underlying140 (by kernel_rfl) h with⟨h0,_⟩|⟨a,len,cap,zs,hcs,hb,hl,hm,hz,_,hc,hwf⟩
 ·simp only[List.cons.injEq,and_true]at h0;exact⟨none,0,0,h0,by omega,λ_=>⟨λ_=>0,dL.nil _ _⟩⟩
 ·simp only[List.cons.injEq,and_true]at hcs;refine⟨some a,len,cap,hcs,by unfold maxLen at hm;omega,λhL=>?_⟩;rw[av rfl]at hz
  have hw:∀i,i<len->0<=zs.getD i 0/\zs.getD i 0<4294967296:=by
   intro i hi
   have hi':i<zs.length:=by omega
   have h1:=hwf (zs.getD i 0) (by rw[List.getD_eq_getElem?_getD,List.getElem?_eq_getElem hi'];simp);simp[Lit.wf,IntKind.min,IntKind.max,IntKind.signed,IntKind.bits]at h1
   have h2:zs.getD i 0=zs[i]?.getD 0:=by simp
   rw[h2];omega
  rcases Nat.eq_zero_or_pos len with h0|h0
  ·subst h0;exact⟨λ_=>0,hL,(by intro i hi;omega),.inl ⟨rfl,some a,cap,rfl,hm,λh=>by cases h⟩⟩
  ·refine⟨λi=>(zs.getD i 0).toNat,hL,(λi hi=>by have:=hw i hi;show(zs.getD i 0).toNat<4294967296;omega),.inr ?_⟩;have lY:=hc 0 (by omega);rw[Vk]at lY;have H5:=World.cell?_spot lY;have Kt:=dM _ _ lY;obtain⟨b,o,s⟩:=a;simp only at H5 Kt;subst H5;refine⟨b,o,cap,rfl,hl,hm,⟨Kt,λh=>h⟩,λi hi=>?_⟩;have h3:=hc i (by omega);rw[Cn]at h3;rw[h3];have:=hw i hi;simp only[Option.some.injEq,Value.int.injEq,true_and];omega
theorem open_int{fuel:Nat}{v0 v1:Value}{x:DataW H × List MemPlace}(h:DataW.trod enc Tryz.prog W 0 (λ_=>true) true fuel 30 [v0,v1]=some x):
 ∃b a n cap,v0=.bool b/\v1=.slice a n cap/\n<=9223372036854775807/\(n<=1099511627776->∃d,dL M0 W (.slice a n cap) n d):=by
 obtain⟨y0,y1,q,_,_,e0,e1⟩:=trod_struct2 Tryz.underlying30 h;rw[show Tryz.prog.cellsOf 4=1 by kernel_rfl]at e0;rw[show Tryz.prog.cellsOf 28=1 by kernel_rfl]at e1;obtain⟨b,hb,_⟩:=DataW.trod_bool Tryz.underlying4 e0;simp at hb;obtain⟨a,n,cap,hv,hn,hd⟩:=qBp e1;exact⟨b,a,n,cap,hb,hv,hn,hd⟩
theorem qBo{fuel:Nat}{v0 v1 v2 v3:Value}{x:DataW H × List MemPlace}(h:DataW.trod enc Tryz.prog W 0 (λ_=>true) true fuel 76 [v0,v1,v2,v3]=some x):
 ∃m:Mo,v0=.int .i64 m.a/\v1=.int .i64 m.b/\v2=.int .i64 m.c/\v3=.int .i64 m.d:=by
 obtain⟨xs,q,_,_,_,Bh,hx⟩:=DataW.trod_array Tryz.underlying76 h
 have hce:Tryz.prog.cellsOf 3=1:=by kernel_rfl
 rw[hce]at hx
 have key:∀i,i<4->∃y,DataW.trod enc Tryz.prog W 0 (λ_=>true) true q 3 (([v0,v1,v2,v3].drop (i*1)).take 1)=some y:=λi hi=>by
  rw[hx i hi,List.getElem?_eq_getElem (by omega)];exact⟨_,rfl⟩
 obtain⟨y0,e0⟩:=key 0 (by omega);obtain⟨y1,e1⟩:=key 1 (by omega);obtain⟨y2,e2⟩:=key 2 (by omega);obtain⟨y3,e3⟩:=key 3 (by omega);obtain⟨a,ha,_,_⟩:=DataW.trod_int Tryz.underlying3 e0;obtain⟨b,hb,_,_⟩:=DataW.trod_int Tryz.underlying3 e1;obtain⟨c,hc,_,_⟩:=DataW.trod_int Tryz.underlying3 e2;obtain⟨d,hd,_,_⟩:=DataW.trod_int Tryz.underlying3 e3;simp at ha hb hc hd;exact⟨⟨a,b,c,d⟩,ha,hb,hc,hd⟩
def Gg(W:World)(a:Option Addr)(n cap:Nat)(X:Nat->TE):Prop:=JR W a n cap X/\(∀i,i<n->(X i).n<=9223372036854775807)/\∀i,i<n->(X i).n<=1099511627776->∃d,dL M0 W (.slice (X i).a (X i).n (X i).p) (X i).n d
end
theorem qpG(C:Nat):∀(l:List Tm),(∀t∈l,t.1.natAbs<=C)->aB l<=l.length*C
 |[],_=>by simp[aB]
 |t::l,h=>by
  have h1:=qpG C l λs hs=>h s (List.mem_cons_of_mem _ hs);have h2:=h t (List.mem_cons_self ..);simp only[aB,List.length_cons,Nat.add_mul,Nat.one_mul];omega
theorem Gg.aM{W:World}{a:Option Addr}{n cap:Nat}{X:Nat->TE}{T D:Nat}{E:Int}(h:Gg W a n cap X)(hf:TV n X T D E)(hT:T<=1000)(hD:D<=1000):
 ∃l,eU M0 W (.slice a n cap) l/\l.length<=T/\aF (aB l)<=D+1/\∀s∈l,∀k,s.2.get k<=max E 0/\ -1000<=s.2.get k:=by
 obtain⟨⟨h1,h2,h3⟩,_,h4⟩:=h
 have hn:∀i,i<n->(X i).n<=1099511627776:=λi hi=>by have:=(hf.2 i hi).1;omega
 have kI:∀i,∃z:Int,i<n->dh M0 W (.bool (X i).b) (.slice (X i).a (X i).n (X i).p) z/\z.natAbs<=4294967296^D:=by
  intro i
  by_cases hi:i<n
  ·obtain⟨d,hd⟩:=h4 i hi (hn i hi);refine⟨bO (X i).b (nv d (X i).n),λ_=>⟨⟨(X i).b,nv d (X i).n,rfl,⟨_,d,hd,rfl⟩,rfl⟩,?_⟩⟩;rw[vB];exact aK (Nat.le_of_lt (qM d _ hd.2.1)) (Nat.pow_le_pow_right (by omega) (hf.2 i hi).1)
  ·exact⟨0,λh=>absurd h hi⟩
 have vW:=hf.1;refine⟨bU n (λi=>(kI i).choose) X,lI.v ⟨by omega,?_,λi hi=>((kI i).choose_spec hi).1⟩,by rw[zJ];exact hf.1,?_,?_⟩
 ·rcases h3 with rfl|⟨b,off,rfl,hb,hc⟩
  ·exact .inl ⟨⟨a,cap,rfl,h2⟩,rfl⟩
  ·exact .inr ⟨b,off,cap,rfl,h1,h2,⟨hb,λh=>h⟩,hc⟩
 ·have hb:aB (bU n (λi=>(kI i).choose) X)<=(bU n (λi=>(kI i).choose) X).length*4294967296^D:=by
   refine qpG _ _ λt ht=>?_;unfold bU at ht;obtain⟨i,hi,rfl⟩:=List.mem_map.1 ht;exact((kI i).choose_spec (List.mem_range.1 hi)).2
  rw[zJ]at hb;rw[qC,Nat.pow_succ]
  have h5:n*4294967296^D<4294967296^D*4294967296:=by
   rw[Nat.mul_comm];exact Nat.mul_lt_mul_of_pos_left (by omega) (Nat.pow_pos (by omega))
  omega
 ·intro s hs k;unfold bU at hs;obtain⟨i,hi,rfl⟩:=List.mem_map.1 hs;have h6:=(hf.2 i (List.mem_range.1 hi)).2;have g1: -1000<=(X i).m.get 1/\(X i).m.get 1<=E:=h6 0 (by omega);have g2: -1000<=(X i).m.get 2/\(X i).m.get 2<=E:=h6 1 (by omega);have g3: -1000<=(X i).m.get 3/\(X i).m.get 3<=E:=h6 2 (by omega);have g4: -1000<=(X i).m.get 4/\(X i).m.get 4<=E:=h6 3 (by omega);show(X i).m.get k<=max E 0/\ -1000<=(X i).m.get k
  by_cases e1:k=1
  ·subst e1;omega
  by_cases e2:k=2
  ·subst e2;omega
  by_cases e3:k=3
  ·subst e3;omega
  by_cases e4:k=4
  ·subst e4;omega
  have h0:(X i).m.get k=0:=by unfold Mo.get;rw[aj e1,aj e2,aj e3,aj e4]
  rw[h0];omega
end Go.Proofs.YtaafefeafonhdaaGreat
namespace Go.Proofs.YtaafefeafonhdaaGreat
open Go.RowKit
theorem qt8{d:Nat}{t:RT (d+1)}(h:fA (d+1) t=true)(ho:zw (d+1) t)(hl:t.1≠0):∃m,aH (terms (d+1) t) m≠0/\0<m.get t.1.toNat:=by
 obtain⟨g1,g2,g3,g4,g5,g6⟩:=uN h hl;rw[vC g1.1 g1.2];have bZ:∀i,i<t.2.2.1->dV (t.1.toNat-1) (terms d (t.2.2.2 i)):=λi hi=>uY h hl i hi;obtain⟨m,hm⟩:=xz _ _ (g5 (t.2.2.1-1) (by omega)).2 (ho.2 _ (by omega)) g6;have ug:m.get t.1.toNat=0:=gQ λhc=>hm ((bZ _ (by omega)).uO (k:=t.1.toNat) (by omega) (by omega) hc);refine⟨Mo.add m (xp t.1.toNat ((t.2.2.1-1:Nat):Int)),?_,?_⟩
 ·rw[QP (by omega) (by omega) bZ _ (by omega) m ug];exact hm
 ·rw[iL,gM _ _ _ (by omega) (by omega),av rfl,ug];omega
end Go.Proofs.YtaafefeafonhdaaGreat
namespace Go.Proofs.YtaafefeafonhdaaGreat
open Go.ChangeShapes Go.WideShapes Go.ChangeAt Go.RowKit Go.Deep
theorem qjH{l:List Tm}{B:Nat}(h:∀s∈l,∀k,s.2.get k<=(B:Int)):bE B (norm l):=by
 intro m hm k;refine gQ λhc=>hm (rY λs hs e=>?_);obtain⟨t,ht,e2⟩:=qpA hs;have:=h t ht k;rw[e2,e]at this;omega
namespace recpolyOf
end recpolyOf
end Go.Proofs.YtaafefeafonhdaaGreat
namespace Go.Proofs.YtaafefeafonhdaaGreat
open Go.RowKit
def quN(c:Int):List Tm:=if c=0 then[]else[(c,Mo.zero)]
theorem qCs(m:Mo)(w:World):Calls Tryz.prog 35 #[jZ m] w λe w'=>e=.returned (.bool m.nn)/\Ext w w':=by
 obtain⟨a,b,c,d⟩:=m;have hE:Hid (Ext w (w.alloc (.cells #[.int .i64 a,.int .i64 b,.int .i64 c,.int .i64 d] 76))):=(ai w).alloc _
 by_cases h0:a<0
 ·have H:Hid (Mo.nn ⟨a,b,c,d⟩=false):=by show _=_;unfold Mo.nn;simp[show¬(0<=a)from by omega]
  go_enter Tryz.func35,Tryz.ntmps35
  go_wp2;refine wp_loop_rounds 1 ?_;rw[rounds_succ];go_wp2;go_ret;exact⟨by rw[H.out];rfl,hE.out⟩
 by_cases h1:b<0
 ·have H:Hid (Mo.nn ⟨a,b,c,d⟩=false):=by show _=_;unfold Mo.nn;simp[show¬(0<=b)from by omega]
  go_enter Tryz.func35,Tryz.ntmps35
  go_wp2;refine wp_loop_rounds 2 ?_;rw[rounds_succ];go_wp2;rw[rounds_succ];go_wp2;go_ret;exact⟨by rw[H.out];rfl,hE.out⟩
 by_cases h2:c<0
 ·have H:Hid (Mo.nn ⟨a,b,c,d⟩=false):=by show _=_;unfold Mo.nn;simp[show¬(0<=c)from by omega]
  go_enter Tryz.func35,Tryz.ntmps35
  go_wp2;refine wp_loop_rounds 3 ?_;rw[rounds_succ];go_wp2;rw[rounds_succ];go_wp2;rw[rounds_succ];go_wp2;go_ret;exact⟨by rw[H.out];rfl,hE.out⟩
 by_cases h3:d<0
 ·have H:Hid (Mo.nn ⟨a,b,c,d⟩=false):=by show _=_;unfold Mo.nn;simp[show¬(0<=d)from by omega]
  go_enter Tryz.func35,Tryz.ntmps35
  go_wp2;refine wp_loop_rounds 4 ?_;rw[rounds_succ];go_wp2;rw[rounds_succ];go_wp2;rw[rounds_succ];go_wp2;rw[rounds_succ];go_wp2;go_ret;exact⟨by rw[H.out];rfl,hE.out⟩
 have H:Hid (Mo.nn ⟨a,b,c,d⟩=true):=by show _=_;unfold Mo.nn;simp[show 0<=a from by omega,show 0<=b from by omega,show 0<=c from by omega,show 0<=d from by omega]
 go_enter Tryz.func35,Tryz.ntmps35
 go_wp2;refine wp_loop_rounds 5 ?_;rw[rounds_succ];go_wp2;rw[rounds_succ];go_wp2;rw[rounds_succ];go_wp2;rw[rounds_succ];go_wp2;rw[rounds_succ];go_wp2;go_ret;exact⟨by rw[H.out];rfl,hE.out⟩
def Vf(b o1 o2:Nat)(m m':Mo)(w:World):Prop:=(w.cell? ⟨b,o1,none⟩=some (.int .i64 m.a)/\w.cell? ⟨b,o1+1,none⟩=some (.int .i64 m.b)/\w.cell? ⟨b,o1+2,none⟩=some (.int .i64 m.c)/\w.cell? ⟨b,o1+3,none⟩=some (.int .i64 m.d))/\
 (w.cell? ⟨b,o2,none⟩=some (.int .i64 m'.a)/\w.cell? ⟨b,o2+1,none⟩=some (.int .i64 m'.b)/\w.cell? ⟨b,o2+2,none⟩=some (.int .i64 m'.c)/\w.cell? ⟨b,o2+3,none⟩=some (.int .i64 m'.d))
theorem Vf.ext{b o1 o2:Nat}{m m':Mo}{w w':World}(h:Vf b o1 o2 m m' w)(he:Ext w w'):Vf b o1 o2 m m' w':=by
 have h1:=dM _ _ h.1.1;unfold Vf;rw[he.cell h1,he.cell h1,he.cell h1,he.cell h1,he.cell h1,he.cell h1,he.cell h1,he.cell h1];exact h
def Qw(M:Nat->Prop)(w:World)(l:List Tm)(e:Ending)(w':World):Prop:=
 ∃(z:Int)(ok b:Bool)(a:Option Addr)(n p:Nat),e=.returned (.tuple #[.agg #[.bool b,.slice a n p],.bool ok])/\dH M w' (.bool b) (.slice a n p) z/\(ok=true->af l [(z,Mo.zero)])/\(ok=false->z=0/\∃m k,aH l m≠0/\1<=k/\k<=4/\0<m.get k)/\Ext w w'
theorem aG.qAW{M:Nat->Prop}{w:World}{x:PE}{l:List Tm}(h:aG M w 4 x l)(h0:x.lv≠0):∃m k,aH l m≠0/\1<=k/\k<=4/\0<m.get k:=by
 obtain⟨t,h1,h2,h3,h4⟩:=h;obtain⟨e0,_⟩:=h1.form;simp only[Value.int.injEq,true_and]at e0;have iH:=Af h2;obtain⟨m,hm,hp⟩:=qt8 h2 h1.ok (by rw[<-e0];exact h0);exact⟨m,t.1.toNat,by rw[<-h4];exact hm,by rw[e0]at h0;omega,by omega,hp⟩
theorem aG.const{M:Nat->Prop}{w:World}{x:PE}{l:List Tm}(h:aG M w 4 x l)(h0:x.lv=0):∃z,dh M w (.bool x.b) (.slice x.a x.n x.p) z/\af l [(z,Mo.zero)]:=by
 obtain⟨t,h1,h2,h3,h4⟩:=h;obtain⟨e0,_⟩:=h1.form;simp only[Value.int.injEq,true_and]at e0
 have ht:t.1<=0:=by omega
 rw[rM ht]at h4;have h5:vO M w (.bool x.b) (.slice x.a x.n x.p) t.2.1:=h1.2.2.1;exact⟨t.2.1.val,⟨t.2.1.neg,nv t.2.1.dg t.2.1.n,h5.1,⟨_,_,h5.2,rfl⟩,rfl⟩,h4.symm⟩
theorem qjC{M:Nat->Prop}{w W:World}{l:List Tm}{g:Nat}{ok b:Bool}{a:Option Addr}{n p:Nat}{v0 v1 v4 v5 v6 v7 v8 v9 v10 v11 v12:Value}(t0:W.cell? ⟨g,0,none⟩=some (.bool b))(t1:W.cell? ⟨g,1,none⟩=some (.slice a n p))(h:Qw M w l (.returned (.tuple #[.agg #[.bool b,.slice a n p],.bool ok])) W):
 bodyPost Tryz.prog Tryz.f72 (Qw M w l) Exit.ret {tmps:= #[v0,v1,.pointer (some ⟨g,0,none⟩),.bool ok,v4,v5,v6,v7,v8,v9,v10,v11,v12],defers:=[]} W:=
 aV (v:=.tuple #[.agg #[.bool b,.slice a n p],.bool ok]) (by simp[results,Tryz.results72,go_sem,t0,t1]) rfl h
theorem qCA(M:Nat->Prop)(x:PE)(l:List Tm)(w:World)(hM:Mb M w)(h:PI M w x l):Calls Tryz.prog 72 #[.agg (ag x)] w (Qw M w l):=by
 have hE:Ext w ((w.alloc (.cells (ag x) 42)).alloc (.cells #[.bool false,.slice none 0 0] 30)):=((ai w).alloc _).alloc _;have kg:=(au.aO w (ag x) 42 4 rfl).alloc (.cells #[.bool false,.slice none 0 0] 30);have nO:=au.aO (w.alloc (.cells (ag x) 42)) #[.bool false,.slice none 0 0] 30 2 rfl;simp only[World.size_alloc]at nO;have dz:Mb (Mx M w.heap.size (w.heap.size+2)) ((w.alloc (.cells (ag x) 42)).alloc (.cells #[.bool false,.slice none 0 0] 30)):=Mx.mb hM (by simp;omega) (by simp);have h2:=(h.more (M':=Mx M w.heap.size (w.heap.size+2)) (Mx.more (aA _))).ext hE;have HI:=ae h2;clear h h2
 go_enter Tryz.func72,Tryz.ntmps72
 go_wp2_with (fail);refine(xZ _ x l _ dz HI.out).mono ?_;rintro e w1 ⟨y,rfl,hy,ah⟩;have dF:=hE.trans ah;have bA:=kg.ext ah;have bJ:=nO.ext ah;have jr:=dz.ext ah;obtain⟨⟨q0,q1,q2,q3⟩,⟨f0,f1,f2,f3⟩,⟨r0,r1,r2,r3⟩,hk,hf⟩:=Ah (M':=Mx M w.heap.size (w.heap.size+2)) (w:=w) (.int .i64 y.lv) (.bool y.b) (.slice y.a y.n y.p) (.slice y.ka y.kn y.kp) bA (Mx.at (by omega)) (aA _) dF;have eG:au (aD w1 w.heap.size 0 (.int .i64 y.lv) (.bool y.b) (.slice y.a y.n y.p) (.slice y.ka y.kn y.kp)) (w.heap.size+1) 30 2 (arr #[.bool false,.slice none 0 0]):=bJ.of_heap (fD w1 w.heap.size 0 _ _ _ _ (w.heap.size+1) (by omega));have HY:=ae (hy.kp hk);have oL:Mb (Mx M w.heap.size (w.heap.size+2)) (aD w1 w.heap.size 0 (.int .i64 y.lv) (.bool y.b) (.slice y.a y.n y.p) (.slice y.ka y.kn y.kp)):=jr.size hk.1;have Dl:=bA.lt;clear q0 q1 q2 q3;obtain⟨q0,q1,q2,q3⟩:=bA.p4;have Ff:=eG.lt;generalize hW:aD w1 w.heap.size 0 (.int .i64 y.lv) (.bool y.b) (.slice y.a y.n y.p) (.slice y.ka y.kn y.kp)=W at r0 r1 r2 r3 hf eG HY oL Ff;unfold aD at hW;have HW:=ae hW;have tJ:=ae hf;have HM:=ae oL;have HB:=ae eG;clear kg nO dz ah hE bA bJ jr hy HI hk hf oL eG dF hW
 go_upto_region 2 with(fail)
 rw[HW.out];clear q0 q1 q2 q3 f0 f1 f2 f3 Dl HW
 by_cases h0:y.lv=0
 ·obtain⟨z,hz,hs⟩:=HY.out.const h0;have HZ:=ae hz;have HS:=ae hs;clear hz hs HY;rw[h0]at r0;go_wp2_with (fail);refine(La _ _ z _ HM.out HZ.out).mono ?_;rintro e w2 ⟨d0,d1,rfl,hc,az⟩;obtain⟨b2,a2,n2,p2,rfl,rfl⟩:=hc.form;obtain⟨⟨s0,s1,g0,g1⟩,⟨t0,t1⟩,mH,kv⟩:=mD (M':=Mx M w.heap.size (w.heap.size+2)) (w:=w) (.bool b2) (.slice a2 n2 p2) (HB.out.ext az) (Mx.at (by omega)) (by omega) (tJ.out.trans az);have HF:Hid (Qw M w l (.returned (.tuple #[.agg #[.bool b2,.slice a2 n2 p2],.bool true])) ((w2.setCell ⟨w.heap.size+1,0,none⟩ (.bool b2)).setCell ⟨w.heap.size+1,1,none⟩ (.slice a2 n2 p2))):=⟨z,true,b2,a2,n2,p2,rfl,(hc.kp mH).more Mx.less,λ_=>HS.out,λh=>absurd h (by decide),kv⟩;clear r0 r1 r2 r3 hc az mH kv;simp only[arr]at s0 s1;go_wp2;exact qjC t0 t1 HF.out
 ·obtain⟨m,k,h1,h2,h3,h4⟩:=HY.out.qAW h0;have hz:=qoJ (Mx M w.heap.size (w.heap.size+2)) W;obtain⟨⟨s0,s1,g0,g1⟩,⟨t0,t1⟩,mH,kv⟩:=mD (M':=Mx M w.heap.size (w.heap.size+2)) (w:=w) (.bool false) (.slice none 0 0) HB.out (Mx.at (by omega)) (by omega) tJ.out;have HF:Hid (Qw M w l (.returned (.tuple #[.agg #[.bool false,.slice none 0 0],.bool false])) ((W.setCell ⟨w.heap.size+1,0,none⟩ (.bool false)).setCell ⟨w.heap.size+1,1,none⟩ (.slice none 0 0))):=⟨0,false,false,none,0,0,rfl,(hz.kp mH).more Mx.less,λh=>absurd h (by decide),λ_=>⟨rfl,m,k,h1,h2,h3,h4⟩,kv⟩;clear hz HY mH kv h1 h2 h3 h4;simp only[arr]at s0 s1
  have l1:(y.lv==0)=false:=by simp[h0]
  go_wp2;exact qjC t0 t1 HF.out
end Go.Proofs.YtaafefeafonhdaaGreat
namespace Go.Proofs.YtaafefeafonhdaaGreat
open Go.ChangeShapes Go.WideShapes Go.ChangeAt Go.RowKit Go.Deep
theorem mq.ext{M:Nat->Prop}{B:Nat}{w w':World}{v:Value}{l:List Tm}(h:mq M B w v l)(he:Ext w w'):mq M B w' v l:=by
 obtain⟨n,z,x,h1,h2,h3⟩:=h;exact⟨n,z,x,h1.ext he,λi hi=>(h2 i hi).ext he,h3⟩
namespace recpolyTo
end recpolyTo
end Go.Proofs.YtaafefeafonhdaaGreat
namespace Go.Proofs.YtaafefeafonhdaaGreat
open Go.RowKit
def dS(l:List Tm):Nat->List Tm
 |0=>[(1,Mo.zero)]
 |n+1=>aC (dS l n) l
theorem OT(l:List Tm)(n:Nat):dS l (n+1)=aC (dS l n) l:=rfl
theorem XU(l:List Tm):af (aC l [(1,Mo.zero)]) l:=by
 have h:=OP l (1,Mo.zero);rw[IC]at h;refine h.trans λm=>?_;rw[mO];simp
theorem qqa(l:List Tm)(a:Nat):∀b:Nat,af (aC (dS l a) (dS l b)) (dS l (a+b))
 |0=>XU _
 |b+1=>by
  have h:=af.OM (dS l a) (dS l b) l;exact h.symm.trans ((qqa l a b).qN l)
theorem qpH(l:List Tm):∀n:Nat,aB (dS l n)=aB l^n
 |0=>by simp[dS,aB]
 |n+1=>by rw[OT,DN,qpH l n,Nat.pow_succ]
theorem qjN(x:Nat):∀n:Nat,aF (x^n)<=n*aF x+1
 |0=>by rw[Nat.pow_zero];exact aK ((qC 1 1).2 (by decide)) (by omega)
 |n+1=>by
  rw[Nat.pow_succ];have h1:=nN (x^n) x;have h2:=qjN x n;have h3:(n+1)*aF x=n*aF x+aF x:=Nat.succ_mul _ _;omega
theorem qbL(l:List Tm)(n:Nat):aF (aB (dS l n))<=n*aF (aB l)+1:=by rw[qpH];exact qjN _ n
theorem qpv{l:List Tm}(h:∀m:Mo,m.nn=false->aH l m=0):∀n:Nat,∀m:Mo,m.nn=false->aH (dS l n) m=0
 |0=>λm hm=>by
  refine rY λs hs e=>?_;rw[List.mem_singleton.1 hs]at e;rw[<-e]at hm;exact absurd hm (by decide)
 |n+1=>Ll (qpv h n) h
theorem qjI{l:List Tm}{B:Nat}(h:bE B l)(hn:∀m:Mo,m.nn=false->aH l m=0):∀n:Nat,bE (n*B) (dS l n)
 |0=>by rw[Nat.zero_mul];exact QQ 1
 |n+1=>by
  rw[Nat.succ_mul];exact(qjI h hn n).aC h (qpv hn n)
def Pw(b:Nat):Prop:=∃j,b=2^j
theorem qB7:Pw 1:=⟨0,rfl⟩
theorem qB8{b:Nat}(h:Pw b):Pw (b*2):=by
 obtain⟨j,rfl⟩:=h;exact⟨j+1,by rw[Nat.pow_succ]⟩
theorem qqs{b:Nat}(h:Pw b):0<b:=by
 obtain⟨j,rfl⟩:=h;exact Nat.pow_pos (by decide)
theorem qqr{b:Nat}(h:Pw b):b=1\/(Pw (b/2)/\b=b/2*2):=by
 obtain⟨j,rfl⟩:=h
 cases j with
 |zero=>exact .inl rfl
 |succ j=>rw[Nat.pow_succ,Nat.mul_div_cancel _ (by decide)];exact .inr ⟨⟨j,rfl⟩,rfl⟩
theorem qtX(n:Nat){b:Nat}(h:Pw b):(n&&& b=0)↔(n/b)%2=0:=by
 obtain⟨j,rfl⟩:=h;have ht:n.testBit j=decide (n/2^j%2=1):=Nat.testBit_eq_decide_div_mod_eq;constructor
 ·intro h0
  have h1:(n&&& 2^j).testBit j=false:=by rw[h0];simp
  rw[Nat.testBit_and,Nat.testBit_two_pow_self,Bool.and_true,ht]at h1;have h2:=of_decide_eq_false h1;omega
 ·intro h0;refine Nat.eq_of_testBit_eq λi=>?_;rw[Nat.testBit_and,Nat.zero_testBit,Nat.testBit_two_pow]
  by_cases eD:j=i
  ·subst eD;rw[ht,decide_eq_false (by omega)];rfl
  ·simp[eD]
theorem qji(n b:Nat)(hn:n<4611686018427387904)(hb:b<4611686018427387904)(h:Pw b):(bits .and .i64 (n:Int) (b:Int)=0)↔(n/b)%2=0:=by
 rw[(bits_nat .i64 62 (by decide) (λz h1 h2=>IntWalk.i64_in z (by omega)) n b (by omega) (by omega)).1, <-qtX n h];omega
theorem qBS(n b:Nat)(hb:0<b):n/b=(n/(b*2))+(n/(b*2))+(n/b)%2:=by
 rw[<-Nat.div_div_eq_div_mul];omega
abbrev JC(M:Nat->Prop)(s g:Nat):Nat->Prop:=Mx (Mx M s (s+2)) g (g+1)
structure yD(M:Nat->Prop)(w:World)(g:Nat)(l r:List Tm)(y z:PE)(wr:World):Prop where
 p:P4 wr w.heap.size y
 q:au wr (w.heap.size+1) 42 4 (arr zA)
 b:au wr g 42 4 (arr (ag z))
 cy:aG (JC M w.heap.size g) wr 4 y l
 cz:aG (JC M w.heap.size g) wr 4 z r
 m:Mb (JC M w.heap.size g) wr
 e:Ext w wr
 gs:w.heap.size+2<=g
section
variable{M:Nat->Prop}{w wr w':World}{g:Nat}{l r r':List Tm}{y z z':PE}
theorem yD.ext(h:yD M w g l r y z wr)(he:Ext wr w'):yD M w g l r y z w':=
 ⟨h.p.ext he,h.q.ext he,h.b.ext he,h.cy.ext he,h.cz.ext he,h.m.ext he,h.e.trans he,h.gs⟩
theorem yD.bP(h:yD M w g l r y z wr)(hs:af r r'):yD M w g l r' y z wr:=
 ⟨h.p,h.q,h.b,h.cy,CR.bP h.cz hs,h.m,h.e,h.gs⟩
theorem qi9{f:Nat->Value}{z:PE}:∀i,i<4->uo f 0 (.int .i64 z.lv) (.bool z.b) (.slice z.a z.n z.p) (.slice z.ka z.kn z.kp) i=arr (ag z) i:=by
 intro i hi
 have:i=0\/i=1\/i=2\/i=3:=by omega
 rcases this with rfl|rfl|rfl|rfl
 ·exact D6 _ 0 _ _ _ _
 ·exact D7 _ 0 _ _ _ _
 ·exact D8 _ 0 _ _ _ _
 ·exact D9 _ 0 _ _ _ _
theorem P4.of_heap{b:Nat}{x:PE}(h:P4 wr b x)(he:w'.heap[b]?=wr.heap[b]?):P4 w' b x:=by
 have hc:=λo=>World.cell?_of_block (w:=wr) (w':=w') (a:=⟨b,o,none⟩) he;obtain⟨p0,p1,p2,p3⟩:=h;exact⟨(hc 0).trans p0,(hc 1).trans p1,(hc 2).trans p2,(hc 3).trans p3⟩
theorem yD.put(h:yD M w g l r y z wr)(hz:aG (JC M w.heap.size g) wr 4 z' r'):yD M w g l r' y z' (aD wr g 0 (.int .i64 z'.lv) (.bool z'.b) (.slice z'.a z'.n z'.p) (.slice z'.ka z'.kn z'.kp)):=by
 have Wu:=h.gs;have hM:JC M w.heap.size g g:=Mx.at ⟨aA _,Nat.lt_succ_self _⟩;have hk:Kp (JC M w.heap.size g) wr (aD wr g 0 (.int .i64 z'.lv) (.bool z'.b) (.slice z'.a z'.n z'.p) (.slice z'.ka z'.kn z'.kp)):=Kp.aD hM 0 _ _ _ _;have h1:=fD wr g 0 (.int .i64 z'.lv) (.bool z'.b) (.slice z'.a z'.n z'.p) (.slice z'.ka z'.kn z'.kp) w.heap.size (by omega);have h2:=fD wr g 0 (.int .i64 z'.lv) (.bool z'.b) (.slice z'.a z'.n z'.p) (.slice z'.ka z'.kn z'.kp) (w.heap.size+1) (by omega);have h3:=h.b.aD 0 (.int .i64 z'.lv) (.bool z'.b) (.slice z'.a z'.n z'.p) (.slice z'.ka z'.kn z'.kp);have h4:=h3.congr (f':=arr (ag z')) (λi hi=>qi9 i hi);have h5:=h.e.aD (g:=g) (by omega) 0 (.int .i64 z'.lv) (.bool z'.b) (.slice z'.a z'.n z'.p) (.slice z'.ka z'.kn z'.kp);have h6:=h.cy.kp hk;have h7:=hz.kp hk;have h8:=h.m.size hk.1;generalize aD wr g 0 (.int .i64 z'.lv) (.bool z'.b) (.slice z'.a z'.n z'.p) (.slice z'.ka z'.kn z'.kp)=W at*;exact⟨h.p.of_heap h1,h.q.of_heap h2,h4,h6,h7,h8,h5,Wu⟩
end
theorem qfE(M:Nat->Prop)(x:PE)(l:List Tm)(B:Nat)(n:Int)(w:World)(hM:Mb M w)(h:PI M w x l)(hn:n<=1000000)(hL:n.toNat*aF (aB l)+2<=1099511627776)(hB:bE B l)(mV:(n.toNat*B+1)*(n.toNat*B+1)<=1099511627776):
 Calls Tryz.prog 23 #[.agg (ag x),.int .i64 n] w (di M w 4 (dS l n.toNat)):=by
 obtain⟨hE,hP,hQ,dz⟩:=MZ hM x;have kg:au _ w.heap.size 42 4 (arr (ag x)):=(au.aO w (ag x) 42 4 rfl).alloc (.cells zA 42);have h2:=(h.more (M':=Mx M w.heap.size (w.heap.size+2)) (Mx.more (aA _))).ext hE;have HI:=ae h2;have l5:=ae hB;have HL:=ae hL;have oF:=ae mV;obtain⟨x0,x1,x2,x3⟩:=hP;clear h h2 hB hL mV
 go_enter Tryz.func23,Tryz.ntmps23
 go_wp2_with (fail);refine(xZ _ x l _ dz HI.out).mono ?_;rintro e w1 ⟨y,rfl,hy,ah⟩;have dF:=hE.trans ah;have bA:=kg.ext ah;have hQ1:=hQ.ext ah;obtain⟨⟨q0,q1,q2,q3⟩,⟨f0,f1,f2,f3⟩,⟨r0,r1,r2,r3⟩,hk,hf⟩:=Ah (M':=Mx M w.heap.size (w.heap.size+2)) (w:=w) (.int .i64 y.lv) (.bool y.b) (.slice y.a y.n y.p) (.slice y.ka y.kn y.kp) bA (Mx.at (by omega)) (aA _) dF;have pK:P4 (aD w1 w.heap.size 0 (.int .i64 y.lv) (.bool y.b) (.slice y.a y.n y.p) (.slice y.ka y.kn y.kp)) w.heap.size y:=⟨r0,r1,r2,r3⟩;have EN:=hQ1.of_heap (fD w1 w.heap.size 0 (.int .i64 y.lv) (.bool y.b) (.slice y.a y.n y.p) (.slice y.ka y.kn y.kp) (w.heap.size+1) (by omega));have hY1:=hy.kp hk;have oL:Mb (Mx M w.heap.size (w.heap.size+2)) (aD w1 w.heap.size 0 (.int .i64 y.lv) (.bool y.b) (.slice y.a y.n y.p) (.slice y.ka y.kn y.kp)):=(dz.ext ah).size hk.1;have Dl:=bA.lt;clear q0 q1 q2 q3;obtain⟨q0,q1,q2,q3⟩:=bA.p4;generalize hW:aD w1 w.heap.size 0 (.int .i64 y.lv) (.bool y.b) (.slice y.a y.n y.p) (.slice y.ka y.kn y.kp)=W at pK hf EN hY1 oL;unfold aD at hW;have HW:=ae hW;have tJ:=ae hf;have HM:=ae oL;have HQ:=ae EN;have HP:=ae pK;have HY:=ae hY1;clear kg hQ dz ah hE bA hQ1 hy HI hk hf oL EN pK hY1 dF hW r0 r1 r2 r3 x0 x1 x2 x3
 go_upto_region 2 with(fail)
 rw[HW.out];clear q0 q1 q2 q3 f0 f1 f2 f3 Dl HW;go_wp2_with (fail);refine(DD 1 W HM.out (by omega) (by omega)).mono ?_;rintro e w2 ⟨d0,d1,rfl,hc,az⟩;obtain⟨b2,a2,n2,p2,rfl,rfl⟩:=hc.form;go_wp2_with (fail);refine(TA _ b2 a2 n2 p2 1 w2 (HM.out.ext az) hc.dB).mono ?_;rintro e w3 ⟨c,rfl,ig,aN⟩;have bg:Ext w3 (w3.alloc (.cells #[.int .i64 c.lv,.bool c.b,.slice c.a c.n c.p,.slice c.ka c.kn c.kp] 42)):=(ai w3).alloc _;have gY:=au.aO w3 (ag c) 42 4 rfl;have gB:=(az.trans aN).trans bg;have K3:=(tJ.out.trans (az.trans aN)).size;have Wu:w.heap.size+2<=w3.heap.size:=aK (by have:=HQ.out.lt;omega) (az.trans aN).size;have xO:∀g,JC M w.heap.size w3.heap.size g->Mx M w.heap.size (w.heap.size+2) g\/w3.heap.size<=g:=Mx.more (aA _)
 have hPS:yD M w w3.heap.size l (dS l 0) y c (w3.alloc (.cells #[.int .i64 c.lv,.bool c.b,.slice c.a c.n c.p,.slice c.ka c.kn c.kp] 42)):=
  ⟨HP.out.ext gB,HQ.out.ext gB,gY,(((HY.out.ext (az.trans aN)).more xO).ext bg),((ig.more xO).ext bg).up (by omega),Mx.mb (HM.out.ext (az.trans aN)) (by simp) (by simp),tJ.out.trans gB,Wu⟩
 generalize gN:w3.alloc (.cells #[.int .i64 c.lv,.bool c.b,.slice c.a c.n c.p,.slice c.ka c.kn c.kp] 42)=W4 at hPS;have xm:=ae gN;have qm:=ae hPS;clear az aN bg hc ig gY gB K3 xO hPS gN HY HQ HP HM tJ
 go_upto_region 3 with(fail)
 rw[xm.out]
 by_cases iN:n<=0
 ·have hnt:n.toNat=0:=by omega
  rw[hnt];obtain⟨z0,z1,z2,z3⟩:=qm.out.b.p4;have gP:=qm.out.b.lt;go_wp2;refine wp_loop_rounds 1 ?_;rw[rounds_succ];go_wp2;refine wp_loop_rounds 1 ?_;rw[rounds_succ];go_wp2_with (fail);refine(FD _ 4 c (dS l 0) _ qm.out.m qm.out.cz).mono ?_;rintro e w5 ⟨v,rfl,hv,aU⟩;obtain⟨⟨q0,q1,q2,q3⟩,⟨f0,f1,f2,f3⟩,⟨r0,r1,r2,r3⟩,HF⟩:=gI (M:=M) (w:=w) (qm.out.q.ext aU) (.inl (Mx.at (by omega))) (by omega) (qm.out.e.trans aU) hv (λg hg=>.inl (.inl hg));clear aU hv z0 z1 z2 z3 gP;go_wp2;exact aV (v:=.agg (ag v)) (by simp[results,Tryz.results23,go_sem,r0,r1,r2,r3]) rfl (by rw[hnt];exact HF.out)
 ·obtain⟨N,rfl⟩:∃N:Nat,n=N:=⟨n.toNat,by omega⟩;rw[Int.toNat_natCast]at*
  have VY:0<N:=by omega
  have Rs:N<=1000000:=by omega
  clear iN hn;go_wp2
  go_loopw [6] (λi wr=>∃b:Nat,Pw b/\b<=N/\i=.int .i64 b/\Ext W4 wr) (λi _=>2000000-(intOf i).toNat)
  case atStart=>exact⟨1,qB7,VY,rfl,ai _⟩
  case round=>
   obtain⟨b,hb,hbN,rfl,bT⟩:=hrel
   by_cases hle:b<=N/2
   ·go_wp2
    go_roundw
    case rel=>exact⟨b*2,qB8 hb,by omega,by go_num,bT⟩
    case measure=>have:=qqs hb;simp[intOf];omega
   ·have hNb:N/(b*2)=0:=Nat.div_eq_of_lt (by omega);have Jj:Hid (Pw b):=hb;clear hb;have Er:=ae (qm.out.ext bT);clear bT;go_wp2
    go_loopw [7] (λi wr=>∃(b e:Nat)(z:PE),((b=0/\e=N)\/(Pw b/\b<=N/\e=N/(b*2)))/\i=.int .i64 b/\yD M w w3.heap.size l (dS l e) y z wr) (λi _=>(intOf i).toNat)
    case atStart=>exact⟨b,0,c,.inr ⟨Jj.out,hbN,hNb.symm⟩,rfl,Er.out⟩
    case round=>
     obtain⟨b,e,z,hbe,rfl,hS⟩:=hrel;have HS:=ae hS;obtain⟨z0,z1,z2,z3⟩:=hS.b.p4;have gP:=hS.b.lt;clear hS Jj Er qm hNb hle hbN;rcases hbe with⟨iZ,heN⟩|⟨hb,hbN,he⟩
     ·subst iZ;subst heN;go_wp2_with (fail);refine(FD _ 4 z (dS l e) _ HS.out.m HS.out.cz).mono ?_;rintro e_ w5 ⟨v,rfl,hv,aU⟩;obtain⟨⟨q0,q1,q2,q3⟩,⟨f0,f1,f2,f3⟩,⟨r0,r1,r2,r3⟩,HF⟩:=gI (M:=M) (w:=w) (HS.out.q.ext aU) (.inl (Mx.at (by omega))) (by omega) (HS.out.e.trans aU) hv (λg hg=>.inl (.inl hg));clear aU hv z0 z1 z2 z3 gP;go_wp2;exact aV (v:=.agg (ag v)) (by simp[results,Tryz.results23,go_sem,r0,r1,r2,r3]) rfl HF.out
     ·have hbp:=qqs hb;have iw:=qBS N b hbp;rw[<-he]at iw;have qFx:N/b<=N:=Nat.div_le_self _ _
      have xN:e+e<=N:=by omega
      have Jj:=ae hb;have kR:=ae iw;have nny:=HS.out.cy.nn;have HD:Hid (∀a,bE (a*B) (dS l a)):=λa=>qjI l5.out nny a
      have HLe:Hid (∀a b,a+b<=N->aF (aB (dS l a))+aF (aB (dS l b))<=1099511627776):=λa b ry=>by
       have h1:=qbL l a;have h2:=qbL l b;have h3:=fq (aF (aB l)) ry;rw[Nat.add_mul]at h3;have:=HL.out;omega
      have HBe:Hid (∀a b,a+b<=N->(a*B+1)*(b*B+1)<=1099511627776):=λa b ry=>aK (Nat.mul_le_mul (Nat.add_le_add_right (fq B (by omega)) 1) (Nat.add_le_add_right (fq B (by omega)) 1)) oF.out;clear hb iw nny;go_wp2_with (fail);refine(Ya _ 4 z z (dS l e) (dS l e) (e*B) (e*B) _ HS.out.m HS.out.cz HS.out.cz (HLe.out e e xN) (HD.out e) (HD.out e) (HBe.out e e xN)).mono ?_;rintro e_ w5 ⟨v,rfl,hv,aU⟩;have vV:=((HS.out.ext aU).put hv).bP (qqa l e e);clear z0 z1 z2 z3;obtain⟨z0,z1,z2,z3⟩:=(HS.out.b.ext aU).p4;have g0:=(HS.out.b.ext aU).frozen 0;have g1:=(HS.out.b.ext aU).frozen 1;have g2:=(HS.out.b.ext aU).frozen 2;have g3:=(HS.out.b.ext aU).frozen 3;have qxY:=(HS.out.b.ext aU).lt;generalize Kn:aD w5 w3.heap.size 0 (.int .i64 v.lv) (.bool v.b) (.slice v.a v.n v.p) (.slice v.ka v.kn v.kp)=W5 at vV;unfold aD at Kn;have HW5:=ae Kn;have mo:=ae vV;clear Kn vV hv aU HS
      go_upto_region 10 with(fail)
      rw[HW5.out];clear z0 z1 z2 z3 g0 g1 g2 g3 qxY gP;obtain⟨z0,z1,z2,z3⟩:=mo.out.b.p4;obtain⟨y0,y1,y2,y3⟩:=mo.out.p;have gP:=mo.out.b.lt;have wK:=dM _ _ y0
      by_cases Wi:N/b%2=0
      ·have hz:(bits .and .i64 (N:Int) (b:Int)==0)=true:=by rw[beq_iff_eq];exact(qji N b (by omega) (by omega) Jj.out).2 Wi
       clear z0 z1 z2 z3 y0 y1 y2 y3;go_wp2
       go_roundw
       case rel=>
        refine⟨b/2,e+e,v,?_,by go_num,mo.out⟩;rcases qqr Jj.out with h1|⟨h1,h2⟩
        ·exact .inl ⟨by omega,by have:=kR.out;rw[h1]at this Wi;omega⟩
        ·exact .inr ⟨h1,by omega,by rw[<-h2];have:=kR.out;omega⟩
       case measure=>simp[intOf];omega
      ·have hz:(bits .and .i64 (N:Int) (b:Int)==0)=false:=by rw[beq_eq_false_iff_ne];exactλh=>Wi ((qji N b (by omega) (by omega) Jj.out).1 h)
       have ah:e+e+1<=N:=by have:=kR.out;omega
       have Jb:Hid (aF (aB (dS l (e+e)))+aF (aB l)<=1099511627776):=by
        show _<=_;have h1:=qbL l (e+e);have h3:=fq (aF (aB l)) ah;rw[Nat.add_mul,Nat.one_mul]at h3;have:=HL.out;omega
       have bS:Hid (((e+e)*B+1)*(B+1)<=1099511627776):=by
        have h:=HBe.out (e+e) 1 ah
        rwa[Nat.one_mul]at h
       go_wp2_with (fail);refine(Ya _ 4 v y (dS l (e+e)) l ((e+e)*B) B _ mo.out.m mo.out.cz mo.out.cy Jb.out (HD.out _) l5.out bS.out).mono ?_;rintro e_ w6 ⟨u,rfl,hu,fM⟩;have hS6:yD M w w3.heap.size l (dS l (e+e+1)) y u _:=(mo.out.ext fM).put hu;clear z0 z1 z2 z3 y0 y1 y2 y3;obtain⟨z0,z1,z2,z3⟩:=(mo.out.b.ext fM).p4;have g0:=(mo.out.b.ext fM).frozen 0;have g1:=(mo.out.b.ext fM).frozen 1;have g2:=(mo.out.b.ext fM).frozen 2;have g3:=(mo.out.b.ext fM).frozen 3;have qxZ:=(mo.out.b.ext fM).lt;generalize Av:aD w6 w3.heap.size 0 (.int .i64 u.lv) (.bool u.b) (.slice u.a u.n u.p) (.slice u.ka u.kn u.kp)=W6 at hS6;unfold aD at Av;have HW6:=ae Av;have UL:=ae hS6;clear Av hS6 hu fM mo wK gP
       go_upto_region 8 with(fail)
       rw[HW6.out];clear z0 z1 z2 z3 g0 g1 g2 g3 qxZ;go_wp2
       go_roundw
       case rel=>
        refine⟨b/2,e+e+1,u,?_,by go_num,UL.out⟩;rcases qqr Jj.out with h1|⟨h1,h2⟩
        ·exact .inl ⟨by omega,by have:=kR.out;rw[h1]at this Wi;omega⟩
        ·exact .inr ⟨h1,by omega,by rw[<-h2];have:=kR.out;omega⟩
       case measure=>simp[intOf];omega
structure SPw(l:List Tm)(K B e:Nat)(r:List Tm):Prop where
 s:af r (dS l e)
 n:aB r<=aB (dS l e)
 c:Canon r
 len:r.length<=K^e
 ex:∀t∈r,∀k,t.2.get k<=(e*B:Nat)
theorem SPw.zero(l:List Tm)(K B:Nat):SPw l K B 0 (quN 1):=
 ⟨af.refl _,aA _,⟨List.pairwise_singleton ..,λt ht=>by rw[List.mem_singleton.1 ht];exact⟨by decide,by decide⟩⟩,aA _,λt ht k=>by rw[List.mem_singleton.1 ht];simp[CO]⟩
def Vi(b:Nat)(m:Mo)(w:World):Prop:=w.cell? ⟨b,0,none⟩=some (.int .i64 m.a)/\w.cell? ⟨b,1,none⟩=some (.int .i64 m.b)/\w.cell? ⟨b,2,none⟩=some (.int .i64 m.c)/\w.cell? ⟨b,3,none⟩=some (.int .i64 m.d)
theorem Vi.ext{b:Nat}{m:Mo}{w w':World}(h:Vi b m w)(he:Ext w w'):Vi b m w':=by
 have h1:=dM _ _ h.1;unfold Vi;rw[he.cell h1,he.cell h1,he.cell h1,he.cell h1];exact h
end Go.Proofs.YtaafefeafonhdaaGreat
namespace Go.Proofs.YtaafefeafonhdaaGreat
open Go.ChangeShapes Go.WideShapes Go.ChangeAt Go.RowKit Go.Deep
section
end
def QB(s:Nat)(b:Bool)(a:Option Addr)(n c:Nat)(y z:Int)(w:World):Prop:=(w.cell? ⟨s,0,none⟩=some (.bool b)/\w.cell? ⟨s,1,none⟩=some (.slice a n c))/\w.cell? ⟨s+1,0,none⟩=some (.int .i8 y)/\w.cell? ⟨s+1,1,none⟩=some (.int .i8 z)
theorem QB.ext{s:Nat}{b:Bool}{a:Option Addr}{n c:Nat}{y z:Int}{w w':World}(h:QB s b a n c y z w)(he:Ext w w'):QB s b a n c y z w':=by
 have h1:=dM _ _ h.1.1;have h2:=dM _ _ h.2.1;unfold QB;rw[he.cell h1,he.cell h1,he.cell h2,he.cell h2];exact h
def SPB(s:Nat)(b:Bool)(a:Option Addr)(n c:Nat)(y z:Int)(g:Nat)(r:PE)(w:World):Prop:=QB s b a n c y z w/\P4 w g r
theorem SPB.ext{s:Nat}{b:Bool}{a:Option Addr}{n c:Nat}{y z:Int}{g:Nat}{r:PE}{w w':World}(h:SPB s b a n c y z g r w)(he:Ext w w'):SPB s b a n c y z g r w':=⟨h.1.ext he,h.2.ext he⟩
namespace recpolyPower
end recpolyPower
end Go.Proofs.YtaafefeafonhdaaGreat
namespace Go.Proofs.YtaafefeafonhdaaGreat
open Go.RowKit
structure IE where
 b:Bool
 a:Option Addr
 n:Nat
 p:Nat
instance:Inhabited IE:=⟨⟨false,none,0,0⟩⟩
def mr(M:Nat->Prop)(w:World)(a:Option Addr)(n cap:Nat)(X:Nat->IE)(z:Nat->Int):Prop:=
 n<=1099511627776/\n<=cap/\cap<=maxLen/\(a=none->cap=0)/\∀i,i<n->∃b off,a=some ⟨b,off,none⟩/\b<w.heap.size/\¬M b/\w.cell? ⟨b,off+i*2,none⟩=some (.bool (X i).b)/\w.cell? ⟨b,off+i*2+1,none⟩=some (.slice (X i).a (X i).n (X i).p)/\dh M w (.bool (X i).b) (.slice (X i).a (X i).n (X i).p) (z i)
section
variable{M M':Nat->Prop}{w w':World}{a:Option Addr}{n cap:Nat}{X:Nat->IE}{z:Nat->Int}
theorem mr.kp(h:mr M w a n cap X z)(he:Kp M w w'):mr M w' a n cap X z:=by
 obtain⟨h1,h2,h3,h4,h5⟩:=h;refine⟨h1,h2,h3,h4,λi hi=>?_⟩;obtain⟨b,off,e,hb,hm,c0,c1,hv⟩:=h5 i hi;exact⟨b,off,e,bB hb he.1,hm,by rw[he.cell hb hm];exact c0,by rw[he.cell hb hm];exact c1,hv.kp he⟩
theorem mr.ext(h:mr M w a n cap X z)(he:Ext w w'):mr M w' a n cap X z:=h.kp (Kp.gZ he)
theorem mr.more(h:mr M w a n cap X z)(hm:∀g,M' g->M g\/w.heap.size<=g):mr M' w a n cap X z:=by
 obtain⟨h1,h2,h3,h4,h5⟩:=h;refine⟨h1,h2,h3,h4,λi hi=>?_⟩;obtain⟨b,off,e,hb,hn,c0,c1,hv⟩:=h5 i hi;exact⟨b,off,e,hb,λhg=>(hm b hg).elim hn (λh=>by omega),c0,c1,hv.more hm⟩
theorem mr.cut(h:mr M w a n cap X z){k:Nat}(hk:k<=n):mr M w a k cap X z:=by
 obtain⟨h1,h2,h3,h4,h5⟩:=h;exact⟨by omega,by omega,h3,h4,λi hi=>h5 i (by omega)⟩
end
def tz(z:Nat->Int):Nat->Nat
 |0=>0
 |n+1=>if z n=0 then tz z n else n+1
theorem qrv(z:Nat->Int):∀n,tz z n<=n
 |0=>aA _
 |n+1=>by
  unfold tz
  split
  ·have:=qrv z n;omega
  ·exact aA _
theorem qEm{z:Nat->Int}{n:Nat}(h0:0<n)(h:z (n-1)=0):tz z n=tz z (n-1):=by
 obtain⟨k,rfl⟩:∃k,n=k+1:=⟨n-1,by omega⟩;rw[show tz z (k+1)=if z k=0 then tz z k else k+1 from rfl,av (show z k=0 from h)];rfl
theorem qEn{z:Nat->Int}{n:Nat}(h0:0<n)(h:z (n-1)≠0):tz z n=n:=by
 obtain⟨k,rfl⟩:∃k,n=k+1:=⟨n-1,by omega⟩;rw[show tz z (k+1)=if z k=0 then tz z k else k+1 from rfl,aj (show z k≠0 from h)]
theorem qEq(M:Nat->Prop)(a:Option Addr)(n cap:Nat)(X:Nat->IE)(z:Nat->Int)(w:World)(h:mr M w a n cap X z):
 Calls Tryz.prog 73 #[.slice a n cap] w λe w'=>e=.returned (.slice a (tz z n) cap)/\Ext w w':=by
 have hn:=h.1;have jG:=h.2.1;have eu:=h.2.2.1;have NR:=h.2.2.2.1;have HU:=ae h;clear h;unfold maxLen at eu
 go_enter Tryz.func73,Tryz.ntmps73
 go_wp2
 go_loopw [3] (λi wr=>∃k:Nat,k<=n/\tz z n=tz z k/\i=.int .i64 k/\Ext w wr) (λi _=>(intOf i).toNat)
 case atStart=>exact⟨n,aA _,rfl,rfl,ai _⟩
 case round=>
  obtain⟨k,hk,ht,rfl,bT⟩:=hrel
  by_cases iq:k=0
  ·subst iq;have HT:Hid (tz z n=0):=ht;clear ht;go_wp2;go_ret;exact⟨by rw[HT.out];rfl,bT⟩
  ·have kU:0<k:=by omega
   obtain⟨b,off,Sn,hb,hmb,x0,x1,hv⟩:=(HU.out.ext bT).2.2.2.2 (k-1) (by omega);subst Sn;have HV:=ae hv
   have j1:(0:Int)<=(k:Int)-1:=by omega
   have j2:((k:Int)-1).toNat=k-1:=by omega
   have j3:(k:Int)-1<(n:Int):=by omega
   clear hv;go_wp2_with (fail);refine(Lb _ _ (z (k-1)) _ HV.out).mono ?_;rintro e w1 ⟨rfl,ah⟩;have qmo:=bT.trans ah;clear x0 x1 hb ah bT
   by_cases hz:z (k-1)=0
   ·have t0:((z (k-1)).sign==0)=true:=by simp[hz]
    go_wp2
    go_roundw
    case rel=>exact⟨k-1,by omega,by rw[ht,qEm kU hz],by go_num,qmo⟩
    case measure=>simp[intOf];omega
   ·have t0:((z (k-1)).sign==0)=false:=by simp[hz]
    have HT:Hid (tz z n=k):=ht.trans (qEn kU hz);clear ht;go_wp2;go_ret;exact⟨by rw[HT.out];rfl,qmo⟩
def vD(L n:Nat)(z:Nat->Int):List Tm:=aM L n λi=>[(z i,Mo.zero)]
theorem quA{l:List Tm}{m:Mo}(h:aH l m≠0):∃t∈l,t.2=m:=by
 refine gQ λhc=>h (rY λt ht e=>hc ⟨t,ht,e⟩)
def yf(w:World)(g o:Nat)(e0 e1:Value):World:=(w.setCell ⟨g,o,none⟩ e0).setCell ⟨g,o+1,none⟩ e1
def UK(M:Nat->Prop)(w:World)(g N k:Nat)(z:Nat->Int):Prop:=
 ∃X:Nat->IE,∃f,au w g 30 (N*2) f/\∀i,i<k->f (i*2)=.bool (X i).b/\f (i*2+1)=.slice (X i).a (X i).n (X i).p/\dh M w (.bool (X i).b) (.slice (X i).a (X i).n (X i).p) (z i)
section
variable{M M':Nat->Prop}{w w':World}{g N k:Nat}{z:Nat->Int}
theorem UK.ext(h:UK M w g N k z)(he:Ext w w'):UK M w' g N k z:=by
 obtain⟨X,f,hB,hf⟩:=h;exact⟨X,f,hB.ext he,λi hi=>⟨(hf i hi).1,(hf i hi).2.1,(hf i hi).2.2.ext he⟩⟩
theorem UK.at(h:UK M w g N k z){j:Nat}(hj:j<N):(∃e,w.cell? ⟨g,j*2,none⟩=some e)/\(∃e,w.cell? ⟨g,j*2+1,none⟩=some e)/\(∀o,w.frozen? ⟨g,o,none⟩=false)/\g<w.heap.size:=by
 obtain⟨X,f,hB,hf⟩:=h;exact⟨⟨_,hB.cell (by omega)⟩,⟨_,hB.cell (by omega)⟩,hB.frozen,hB.lt⟩
theorem UK.set(h:UK M w g N k z)(hg:M g){b:Bool}{a:Option Addr}{n p:Nat}(hc:dh M w (.bool b) (.slice a n p) (z k)):UK M (yf w g (k*2) (.bool b) (.slice a n p)) g N (k+1) z:=by
 obtain⟨X,f,hB,hf⟩:=h;have hk:Kp M w (yf w g (k*2) (.bool b) (.slice a n p)):=(Kp.set M w (p:=⟨g,k*2,none⟩) hg _).trans (Kp.set M _ (p:=⟨g,k*2+1,none⟩) hg _);refine⟨λi=>if i=k then⟨b,a,n,p⟩else X i,_,(hB.set (k*2) (.bool b)).set (k*2+1) (.slice a n p),λi hi=>?_⟩;unfold fG
 by_cases fe:i=k
 ·subst fe;simp only[if_true];exact⟨by rw[aj (by omega)],trivial,hc.kp hk⟩
 ·simp only[aj fe];rw[aj (by omega),aj (by omega),aj (by omega),aj (by omega)];obtain⟨h1,h2,h3⟩:=hf i (by omega);exact⟨h1,h2,h3.kp hk⟩
theorem UK.row(h:UK M w g N N z)(hm:∀g,M' g->M g\/w.heap.size<=g)(hg:¬M' g)(hN:N<=1099511627776):∃X,mr M' w (some ⟨g,0,none⟩) N N X z:=by
 obtain⟨X,f,hB,hf⟩:=h;refine⟨X,hN,aA _,by unfold maxLen;omega,λe=>(by cases e),λi hi=>?_⟩;obtain⟨h1,h2,h3⟩:=hf i hi;exact⟨g,0,rfl,hB.lt,hg,by rw[Nat.zero_add,hB.cell (by omega),h1],by rw[Nat.zero_add,hB.cell (by omega),h2],h3.more hm⟩
theorem UK.fresh{f:Nat->Value}(hB:au w g 30 (N*2) f):UK M w g N 0 z:=⟨λ_=>⟨false,none,0,0⟩,f,hB,λi hi=>absurd hi (Nat.not_lt_zero _)⟩
end
theorem Ext.yf{a w:World}(h:Ext a w){g:Nat}(hg:a.heap.size<=g)(o:Nat)(e0 e1:Value):Ext a (Go.Proofs.YtaafefeafonhdaaGreat.yf w g o e0 e1):=(h.set (p:=⟨g,o,none⟩) hg e0).set (p:=⟨g,o+1,none⟩) hg e1
theorem qDf(w:World)(g o:Nat)(e0 e1:Value):(yf w g o e0 e1).heap.size=w.heap.size:=by simp[yf]
def xw(M:Nat->Prop)(w:World)(L:Nat)(l:List Tm)(E:Int)(e:Ending)(w':World):Prop:=∃y:PE,e=.returned (.tuple #[.agg (ag y),.int .i64 E])/\aG M w' L y l/\Ext w w'
theorem di.LB{M:Nat->Prop}{w W:World}{L:Nat}{l:List Tm}{y:PE}(h:di M w L l (.returned (.agg (ag y))) W)(E:Int):xw M w L l E (.returned (.tuple #[.agg (ag y),.int .i64 E])) W:=by
 obtain⟨y',e,h1,h2⟩:=h;simp only[Ending.returned.injEq,Value.agg.injEq]at e;exact⟨y',by rw[e],h1,h2⟩
theorem qww(M:Nat->Prop)(a:Option Addr)(n cap:Nat)(X:Nat->IE)(z:Nat->Int)(D:Nat)(w:World)(hM:Mb M w)(h:mr M w a n cap X z)(hD:D+1<=4):
 Calls Tryz.prog 106 #[.slice a n cap,.int .i64 ((D:Int)+1)] w (xw M w (D+1) (vD (D+1) n z) 0):=by
 obtain⟨i0,hi,hz0,hz1,hz2⟩:=info_parts Tryz.xU;have hn:=h.1;have jG:=h.2.1;have eu:=h.2.2.1;have HU:=ae h;have HM:=ae hM;have aL:Ext w (w.alloc (.cells zA 42)):=(ai w).alloc _;have aW:=au.aO w zA 42 4 rfl;have aR:=qfJ ((D:Int)+1) (w.alloc (.cells zA 42));rw[show eH ((D:Int)+1)=true by unfold eH;simp;omega]at aR;have aJ:=ae aR;have dC:=ae aL;have dO:=ae aW;clear h aR aL aW;unfold maxLen at eu
 go_enter Tryz.func106,Tryz.ntmps106
 go_wp2_with (fail);refine aJ.out.mono ?_;rintro e wq ⟨rfl,rfl⟩;clear aJ
 go_wp2_with (first|(refine wpList_make_full _ rfl _ _ _ rfl (w.heap.size+1) 42 i0 (.agg #[.int .i64 0,.bool false,.slice none 0 0,.slice none 0 0]) 4 Tryz.underlying34 hi hz0 hz1 .i64 .i64 _ _ n rfl rfl ?c4 ?c5 ?c2 ?c3 ?c6 ?_))
 case c2=>rw[hz2];omega
 case c3=>unfold maxLen;omega
 case c4=>simp
 case c5=>simp
 case c6=>simp
 intro w1 hown hgrow;have bR:=(au.made hown rfl (by omega)).congr (f':=fH) (λi _=>Ed i);have ah:=mE hgrow;have bS:=ae (dO.out.ext ah);have aP:=ae (dC.out.trans ah)
 have dI:w.heap.size+2<=w1.heap.size:=by have:=bR.lt;omega
 have l6:Hid (Kids (Mx M w.heap.size (w.heap.size+2)) w1 D (w.heap.size+1) n (λ_=>[])):=Kids.fresh bR;clear hown hgrow bR ah dO dC;go_wp2
 go_loopw [18] (λi wr=>∃k:Nat,k<=n/\i=.int .i64 k/\w.heap.size+2<=wr.heap.size/\Hid (Kids (Mx M w.heap.size (w.heap.size+2)) wr D (w.heap.size+1) n (λi=>if i<k then[(z i,Mo.zero)]else[]))/\Hid (Ext w wr)/\Hid (au wr w.heap.size 42 4 (arr zA))) (λi _=>n-(intOf i).toNat)
 case atStart=>exact⟨0,bu _,rfl,dI,l6.out.congr λi _=>by rw[aj (by omega)];exact af.refl _,aP,bS⟩
 case round=>
  clear l6 aP bS dI;obtain⟨k,hk,rfl,hsz,HK,bM,uz⟩:=hrel
  by_cases hlt:k<n
  ·obtain⟨b,off,Sn,hb,hmb,x0,x1,hv⟩:=HU.out.2.2.2.2 k hlt;subst Sn;rw[<-bM.out.cell hb]at x0 x1
   have gD:b<wr.heap.size:=by omega
   have aQ:Ext wr (wr.alloc (.cells #[.bool (X k).b,.slice (X k).a (X k).n (X k).p] 30)):=(ai wr).alloc _;have hV2:dh (Mx M w.heap.size (w.heap.size+2)) (wr.alloc (.cells #[.bool (X k).b,.slice (X k).a (X k).n (X k).p] 30)) _ _ (z k):=((hv.more (Mx.more (aA _))).ext bM.out).ext aQ;have jr:Mb (Mx M w.heap.size (w.heap.size+2)) (wr.alloc (.cells #[.bool (X k).b,.slice (X k).a (X k).n (X k).p] 30)):=Mx.mb HM.out (by simp;omega) (by simp;omega);have aJ:=ae (TA _ _ _ _ _ _ _ jr hV2);have ek:=ae aQ;clear hv hV2 jr aQ;go_wp2_with (fail);refine(aJ.out).mono ?_;rintro e w4 ⟨y,rfl,bW,bg⟩;have aU:=ek.out.trans bg;have fJ:=HK.out.ext aU;obtain⟨⟨_,k0⟩,⟨_,k1⟩,⟨_,k2⟩,⟨_,k3⟩,bn,jh⟩:=fJ.at k hlt;have jw:=bn (k*4);have ku:=bn (k*4+1);have kv:=bn (k*4+2);have oU:=bn (k*4+3)
   have nD:Hid (Kids (Mx M w.heap.size (w.heap.size+2)) (aD w4 (w.heap.size+1) (k*4) (.int .i64 y.lv) (.bool y.b) (.slice y.a y.n y.p) (.slice y.ka y.kn y.kp)) D (w.heap.size+1) n (λi=>if i<k+1 then[(z i,Mo.zero)]else[])):=by
    refine(fJ.set (Mx.at (by omega)) k hlt (CR.up bW (bu D))).congr λi _=>?_
    by_cases fe:i=k
    ·subst fe;rw[av rfl,av (by omega)];exact af.refl _
    ·rw[aj fe]
     by_cases h3:i<k
     ·rw[av h3,av (by omega)];exact af.refl _
     ·rw[aj h3,aj (by omega)];exact af.refl _
   have cZ:Hid (Ext w (aD w4 (w.heap.size+1) (k*4) (.int .i64 y.lv) (.bool y.b) (.slice y.a y.n y.p) (.slice y.ka y.kn y.kp))):=(bM.out.trans aU).aD (by omega) _ _ _ _ _;have mM:Hid (au (aD w4 (w.heap.size+1) (k*4) (.int .i64 y.lv) (.bool y.b) (.slice y.a y.n y.p) (.slice y.ka y.kn y.kp)) w.heap.size _ _ _):=(uz.out.ext aU).of_heap (fD _ _ _ _ _ _ _ _ (by omega))
   have uG:Hid (w.heap.size+2<=(aD w4 (w.heap.size+1) (k*4) (.int .i64 y.lv) (.bool y.b) (.slice y.a y.n y.p) (.slice y.ka y.kn y.kp)).heap.size):=by show _<=_;rw[kN];have:=aU.size;omega
   clear fJ bn bW bg aU x0 x1;go_wp2
   go_roundw
   case rel=>exact⟨k+1,by omega,by go_num,uG.out,nD,cZ,mM⟩
   case measure=>simp[intOf];omega
  ·have hkn:k=n:=by omega
   subst hkn;have ND:Mb (Mx M w.heap.size (w.heap.size+1)) wr:=Mx.mb HM.out (by omega) (by omega)
   have NA:dP (Mx M w.heap.size (w.heap.size+1)) wr D (.slice (some ⟨w.heap.size+1,0,none⟩) k k) k (λi=>[(z i,Mo.zero)]):=by
    refine dP.qfi ((HK.out.congr λi hi=>?_).more (λg hg=>.inl (hg.imp id λh=>by omega))) (λhg=>hg.elim (HM.out.new (by omega)) (λh=>by omega)) hn;simp only[av hi];exact af.refl _
   have aJ:=ae (qfK _ D _ k _ wr ND hD NA);clear NA HK;go_wp2_with (fail);refine aJ.out.mono ?_;intro e w2 hp;obtain⟨y,rfl,hy,az⟩:=hp.x;have fP:=ae (FD _ (D+1) y _ w2 (ND.ext az) hy);clear hp hy aJ;go_wp2_with (fail);refine fP.out.mono ?_;rintro e w3 ⟨y3,rfl,K9,aN⟩;obtain⟨⟨q0,q1,q2,q3⟩,⟨f0,f1,f2,f3⟩,⟨r0,r1,r2,r3⟩,HF⟩:=gI (M:=M) (w:=w) ((uz.out.ext az).ext aN) (Mx.at (by omega)) (aA _) ((bM.out.trans az).trans aN) K9 Mx.sub;have bQ:=ae (HF.out.LB 0);have Ff:=((uz.out.ext az).ext aN).lt;clear HF K9 az aN fP ND;go_wp2;exact aV (v:=.tuple #[.agg (ag y3),.int .i64 0]) (by simp[results,Tryz.results106,go_sem,r0,r1,r2,r3]) rfl bQ.out
end Go.Proofs.YtaafefeafonhdaaGreat
