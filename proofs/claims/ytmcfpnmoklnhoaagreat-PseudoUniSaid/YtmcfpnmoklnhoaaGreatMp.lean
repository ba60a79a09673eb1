/- Regions that draw their order and hold a call of yield (an iterator's body). sparse: Terms, as an iterator. sparse: Level. sparse: Total. -/
import Derived.Test.YtmcfpnmoklnhoaaGreatMm
import Derived.RangeFuncNested
import Derived.RangeFuncBound
import Derived.RangeFuncCalls
import Derived.RangeFuncLeaves
import Derived.Shelf.Abstract
import Derived.Shelf.RegionOpen
import Derived.OwnWalkIn
import Derived.TacticsInMore
import Derived.LoopNIn
import Derived.LoopIn
set_option linter.unusedVariables false
set_option maxRecDepth 100000
set_option maxHeartbeats 400000000
set_option linter.unusedSimpArgs false

namespace Go.Proofs.YtmcfpnmoklnhoaaGreat
open Go.RowKit

section
variable {P:Program} {ops:Array Oper} {Q:Exit->Act->World->Prop} {md:Region.Mode} {S:World->Prop} {y:Nat}
def qdF (P:Program) (md:Region.Mode) (ops:Array Oper) (Q:Exit->Act->World->Prop) (S:World->Prop) (y:Nat):Nat->Array Bool->Act->World->Prop
 | 0,listed,a,w=>Region.ready md ops listed = []/\Q .normal a w
 | fuel+1,listed,a,w=>
  (Region.ready md ops listed = []->Q .normal a w) /\
  ∀ i ∈ Region.ready md ops listed,wpOpIn Fence.wide 2 P ops Q i (fun a' w'=>(i≠y->listed.getD y false=false->S w')/\qdF P md ops Q S y fuel (listed.setIfInBounds i true) a' w') a w
theorem qfz : ∀ (fuel:Nat) (listed:Array Bool) (a:Act) (w:World),qdF P md ops Q S y fuel listed a w->wpAnyIn Fence.wide 2 P md ops Q fuel listed a w
 | 0,_,_,_,h=>h
 | fuel+1,_,_,_,h=>⟨h.1,fun i hi=>wpOpIn_mono (fun a' w' h'=>qfz fuel _ a' w' h'.2) (h.2 i hi)⟩
theorem qg7 {o:Oper} {a:Act} {w:World} {K:Act->World->Prop} (h:Oper.wp P o a w K Q):Oper.wpIn Fence.wide 2 P o a w K Q:=by
 refine ⟨fun _ _=>trivial,?_⟩;rw [Fence.wide_round,Oper.semAt_none];unfold Oper.wp at h;generalize (execOp a.eval o).run P w=r at *
 cases r with
 | ok x w'=>
  cases x with
  | enter f args=>exact ⟨(fun h=>by cases h),callsIn_wide.2 h⟩
  | row row args=>exact ⟨(fun h=>by cases h),fun c cs _=>let ⟨v,w',r,s⟩:=h c cs;⟨v,w',r,stepsIn_wide.2 s⟩⟩
  | round l f tmps assign body=>exact False.elim h
  | _=>exact h
 | halt x w'=>cases x <;> exact h
theorem qgb {i:Nat} {o:Oper} {v:Value} {a:Act} (hi:ops[i]? = some o) (hy:YieldsIf P ops S o v a) {K:Act->World->Prop} {w:World} (hS:S w) (h:K (a.put o.dst v) w):wpOpIn Fence.wide 2 P ops Q i K a w:=by
 unfold wpOpIn;simp only [hi];rcases hy with ⟨hw,hv⟩ | ⟨hw,rfl⟩
 ·simp only [hw,if_true];refine qg7 ?_;simp only [Oper.wp,hv w hS,Oper.upon];exact h
 ·simp only [hw,Bool.false_eq_true,if_false];exact ⟨fun _ _=>trivial,h⟩
theorem qiA {j : Nat} {oi oj : Oper} {v : Value} (hj : ops[j]? = some oj) (hap : oi.apart ops oj = true) (hsi : ∀ cs b, oi.op ≠ .select cs b) (hsj : ∀ cs b, oj.op ≠ .select cs b)
  (hQ : ∀ c a w,Q (.panic c) (a.put oi.dst v) w->Q (.panic c) a w) {K:Act->World->Prop} {a:Act} {w:World} (hy:YieldsIf P ops S oi v a) (h:wpOpIn Fence.wide 2 P ops Q j K (a.put oi.dst v) w) :
  wpOpIn Fence.wide 2 P ops Q j (fun a' w'=>YieldsIf P ops S oi v a'/\K (a'.put oi.dst v) w') a w:=by
 obtain ⟨h1,h2,h3⟩:=Oper.apart_spec hap;have keep : ∀ (a:Act),YieldsIf P ops S oi v a -> ∀ u,YieldsIf P ops S oi v (a.put oj.dst u):=fun a hy u=>hy.of_same (execOp_put oi hsi a oj.dst u h3) (wanted_put oi a oj.dst u h3);have keepD : ∀ d,YieldsIf P ops S oi v { a with defers:=d :: a.defers }:=fun d=>hy.of_same rfl rfl;unfold wpOpIn at *;simp only [hj] at *;rw [wanted_put oj a oi.dst v h1] at h
 split
 ·rename_i hw;simp only [hw,if_true] at h;refine ⟨fun _ _=>trivial,?_⟩;have h:=h.2;rw [Fence.wide_round,Oper.semAt_none] at h ⊢;rw [execOp_put oj hsj a oi.dst v h1] at h;generalize (execOp a.eval oj).run P w=r at *
  cases r with
  | ok x w'=>
   cases x <;> simp only [Oper.uponIn] at h ⊢
   case value u=>exact ⟨keep a hy u,by rw [<- Act.put_comm a v u h2];exact h⟩
   case skip=>exact ⟨keep a hy _,by rw [<- Act.put_comm a v undef h2];exact h⟩
   case defer d=>
    refine ⟨keep _ (keepD d) _,?_⟩;rw [<- Act.put_comm _ v undef h2,<- Act.put_defers];exact h
   case enter f args=>
    refine ⟨h.1,CallsIn.mono h.2 fun e w'' he=>?_⟩
    cases e with
    | returned u=>exact ⟨keep a hy u,by rw [<- Act.put_comm a v u h2];exact he⟩
    | panicked c=>exact hQ _ _ _ he
    | outgrown=>exact he
   case row row args=>exact ⟨h.1,RowsIn.mono h.2 fun u w'' he=>⟨keep a hy u,by rw [<- Act.put_comm a v u h2];exact he⟩⟩
   case round l f tmps assign body=>
    refine ⟨h.1,RoundIn.mono h.2 fun e w'' he=>?_⟩
    cases e with
    | returned u=>exact ⟨keep a hy u,by rw [<- Act.put_comm a v u h2];exact he⟩
    | panicked c=>exact hQ _ _ _ he
    | outgrown=>exact he
  | halt x w'=>
   cases x <;> simp only [Oper.uponIn] at h ⊢
   case panic u=>exact hQ _ _ _ h
 ·rename_i hw;simp only [hw] at h;exact ⟨fun _ _=>trivial,keep a hy _,by rw [<- Act.put_comm a v undef h2];exact h.2⟩
theorem qj7 {i f:Nat} {listed:Array Bool} (hc:Cl md ops listed) (hw:qep md ops f y i=true) (hr:i ∈ Region.ready md ops listed):listed.getD y false=false:=by
 cases h:listed.getD y false with
 | false=>rfl
 | true=>
  have h1:=qdQ hc i f y hw fun o' ho' e he hb=>hc y o' ho' h e he hb;have h0:=(mem_ready.1 hr).1;rcases Nat.lt_or_ge i listed.size with h' | h'
  ·simp [h'] at h0 h1;rw [h0] at h1;cases h1
  ·simp [Array.getElem?_eq_none h'] at h1
theorem qiB {i f : Nat} {oi : Oper} {v : Value} (hi : ops[i]? = some oi) (hsel : ∀ (j : Nat) (o : Oper) cs b, ops[j]? = some o -> o.op ≠ .select cs b)
  (hQ : ∀ c a w,Q (.panic c) (a.put oi.dst v) w->Q (.panic c) a w) (hiy:i≠y) (hw:qep md ops f y i=true) :
  ∀ (fuel:Nat) (listed:Array Bool) (a:Act) (w:World),Cl md ops listed -> 
   (∀ j oj,ops[j]? = some oj->j≠i->listed.getD j true=false->(∀ e ∈ oj.after,Region.binds md e=true->e.on≠i)->oi.apart ops oj=true) ->
   i ∈ Region.ready md ops listed->YieldsIf P ops S oi v a->S w ->
   qdF P md ops Q S y fuel (listed.setIfInBounds i true) (a.put oi.dst v) w->qdF P md ops Q S y (fuel+1) listed a w:=by
 intro fuel
 induction fuel with
 | zero=>
  intro listed a w _ _ hr hy hS H;refine ⟨fun h=>(by rw [h] at hr;cases hr),fun j hj=>?_⟩
  by_cases hji:j=i
  ·subst hji;exact qgb hi hy hS ⟨fun _ _=>hS,H⟩
  ·have:=ready_mono hj hji;rw [H.1] at this;cases this
 | succ fuel ih=>
  intro listed a w hcl hfree hr hy hS H;refine ⟨fun h=>(by rw [h] at hr;cases hr),fun j hj=>?_⟩
  by_cases hji:j=i
  ·subst hji;exact qgb hi hy hS ⟨fun _ _=>hS,H⟩
  ·have hjl:j≠y:=fun e=>qhp hcl hw hr (e ▸ hj);have h1:=H.2 j (ready_mono hj hji);obtain ⟨hjun,oj,hoj,hall⟩:=mem_ready.1 hj
   have hnot : ∀ e ∈ oj.after,Region.binds md e=true->e.on≠i:=fun e he hb heq=>by
    have h1:=hall e he hb;have h0:=(mem_ready.1 hr).1;rw [heq] at h1;rcases Nat.lt_or_ge i listed.size with h' | h'
    ·simp [h'] at h0 h1;rw [h0] at h1;cases h1
    ·simp [Array.getElem?_eq_none h'] at h1
   have h2:=qiA hoj (hfree j oj hoj hji hjun hnot) (fun cs b=>hsel i oi cs b hi) (fun cs b=>hsel j oj cs b hoj) hQ hy h1
   have hfree' : ∀ k ok, ops[k]? = some ok -> k ≠ i -> (listed.setIfInBounds j true).getD k true = false ->
     (∀ e ∈ ok.after,Region.binds md e=true->e.on≠i)->oi.apart ops ok=true:=fun k ok hk hki hun hno=>by
    refine hfree k ok hk hki ?_ hno
    by_cases hjk:j=k
    ·subst hjk;exact hjun
    ·rw [getD_set_ne true hjk] at hun;exact hun
   have hny:=qj7 hcl hw hr
   have hny':(listed.setIfInBounds i true).getD y false=false:=by rw [getD_set_ne false hiy];exact hny
   refine wpOpIn_mono (fun a' w' h3=>⟨fun _ _=>h3.2.1 hjl hny',ih (listed.setIfInBounds j true) a' w' (hcl.step hj) hfree' (ready_mono hr (Ne.symm hji)) h3.1 (h3.2.1 hjl hny') ?_⟩) h2;rw [Array.setIfInBounds_comm _ _ hji];exact h3.2.2
theorem qba (i : Nat) {oi : Oper} {v : Value} {fuel : Nat} {listed : Array Bool} {a : Act} {w : World} 
  (hs:Region.noSelect ops=true) (hf:Region.free md ops listed i=true) (hr:(Region.ready md ops listed).contains i=true) (hl:qep md ops ops.size y i=true) (hc:clB md ops listed=true) (hiy:(i == y)=false) (hS:S w)
  (hi:ops[i]? = some oi) (hwd:Region.wanted oi (yielded ops a.tmps)=true) (hy : ∀ w,S w->(execOp a.eval oi).run P w = .ok (.value v) w) (hQ : ∀ c a w,Q (.panic c) (a.put oi.dst v) w->Q (.panic c) a w)
  (h:qdF P md ops Q S y fuel (listed.setIfInBounds i true) (a.put oi.dst v) w):qdF P md ops Q S y (fuel+1) listed a w:=
 qiB hi (Region.noSelect_spec hs) hQ (by simpa using hiy) hl fuel listed a w (qlQ hc) (Region.free_spec hi hf) (by simpa using hr) (.inl ⟨hwd,hy⟩) hS h
theorem qdd (i : Nat) {o : Oper} {fuel : Nat} {listed : Array Bool} {a : Act} {w : World} (hr : Region.ready md ops listed = [i]) (hiy : (i == y) = false) (ho : ops[i]? = some o)
  (h : ∀ K':Act->World->Prop,Shut (∀ a w,(listed.getD y false=false->S w)->qdF P md ops Q S y fuel (listed.setIfInBounds i true) a w->K' a w)->if Region.wanted o (yielded ops a.tmps)=true then Oper.wp P o a w K' Q else K' (a.put o.dst undef) w):qdF P md ops Q S y (fuel+1) listed a w:=by
 refine ⟨fun h0=>(by rw [h0] at hr;cases hr),fun j hj=>?_⟩;rw [hr] at hj;simp only [List.mem_singleton] at hj;subst hj;refine wpOpIn_step ho fun K' hK=>?_;have h0:=h K' fun a w h1 h2=>hK a w ⟨fun _=>h1,h2⟩
 split
 ·rename_i hw;rw [if_pos hw] at h0;exact qg7 h0
 ·rename_i hw;rw [if_neg hw] at h0;exact ⟨fun _ _=>trivial,h0⟩
theorem qfx {o : Oper} {fuel : Nat} {listed : Array Bool} {a : Act} {w : World} (hr : Region.ready md ops listed = [y]) (ho : ops[y]? = some o)
  (h : ∀ K':Act->World->Prop,Shut (∀ a w,qdF P md ops Q S y fuel (listed.setIfInBounds y true) a w->K' a w)->if Region.wanted o (yielded ops a.tmps)=true then Oper.wpIn Fence.wide 2 P o a w K' Q else (∀ f,o.about P w a.eval=some f->Fence.wide.fn f)/\K' (a.put o.dst undef) w):qdF P md ops Q S y (fuel+1) listed a w:=by
 refine ⟨fun h0=>(by rw [h0] at hr;cases hr),fun j hj=>?_⟩;rw [hr] at hj;simp only [List.mem_singleton] at hj;subst hj;exact wpOpIn_step ho fun K' hK=>h K' fun a w h1=>hK a w ⟨fun e=>absurd rfl e,h1⟩
theorem qeu {listed : Array Bool} {a : Act} {w : World} (hr : Region.ready md ops listed = []) (h : Q .normal a w) :
  ∀ fuel,qdF P md ops Q S y fuel listed a w
 | 0=>⟨hr,h⟩
 | _+1=>⟨fun _=>h,by rw [hr];simp⟩
theorem qgc (S : World -> Prop) (y : Nat) {id : Nat} {a : Act} {w : World} (hm : P.follows .mixedOrders = true) (hS : S w.drew)
  (h:S w.drew->qdF P .any ops Q S y ops.size (Array.replicate ops.size false) a w.drew):(Code.region id ops true).wp P Q a w:=
 wpIn_wide.1 (wpIn_region_any hm (qfz _ _ _ _ (h hS)))
end


def Kq (X:Nat->Prop) (n:Nat) (W W':World):Prop:=W.heap.size<=W'.heap.size /\ ∀ b,b<n -> ¬ X b->W'.heap[b]? = W.heap[b]?
theorem Kq.trans {X:Nat->Prop} {n:Nat} {A B C:World} (h:Kq X n A B) (k:Kq X n B C):Kq X n A C:=⟨Nat.le_trans h.1 k.1,fun b hb hx=>(k.2 b hb hx).trans (h.2 b hb hx)⟩
theorem Kq.putObj {X:Nat->Prop} {n:Nat} (W:World) (l:Nat) (o':Obj) (hl:n<=l):Kq X n W (W.putObj l o'):=
 ⟨by simp [World.putObj],fun b hb _=>World.putObj_heap_other (by omega)⟩
theorem Kq.of_ext {X:Nat->Prop} {n:Nat} {W W':World} (h:Ext W W') (hn:n<=W.heap.size):Kq X n W W':=⟨h.size,fun b hb _=>h.heap (by omega)⟩
abbrev Yt (Pm:Mo->Prop):={ x:TE // Pm x.m }
abbrev ytA {Pm:Mo->Prop} (x:Yt Pm):Array Value:=#[.agg #[.int .i64 x.1.m.a,.int .i64 x.1.m.b,.int .i64 x.1.m.c,.int .i64 x.1.m.d],.agg #[.bool x.1.b,.slice x.1.a x.1.n x.1.p]]
def ytM {Pm:Mo->Prop} (pre:List (Yt Pm)):List Mo:=pre.map fun x=>x.1.m
theorem qkN (M : Nat -> Prop) (v : Value) (l : List Tm) (w : World) (hM : Mb M w) (hP : qbh M w v l) (hL : dlen (nrm l) <= 1099511627776) :
  Calls Tryz.prog 152 #[v] w fun e w'=>∃ u cb,e = .returned (.func (.func 170) #[] #[.pointer (some ⟨cb,0,none⟩)])/\w'.cell? ⟨cb,0,none⟩=some u/\w.heap.size<=cb/\qbh M w' u (norm l)/\Ext w w':=by
 obtain ⟨va,vc,rfl⟩:=hP.form;have HP:=Lib.hid hP;clear hP
 go_enter Tryz.func152,Tryz.ntmps152
 go_wp2_with (fail);refine (qdN M _ l w hM HP.out hL).mono ?_;rintro e w1 ⟨u,rfl,hu,he1⟩;obtain ⟨ua,uc,rfl⟩:=hu.toV.form;have hB:=Blk.of_alloc1 w1 (.slice ua (norm l).length uc) 71
 have HF:Hid (∃ u cb,Ending.returned (.func (.func 170) #[] #[.pointer (some ⟨w1.heap.size,0,none⟩)]) = .returned (.func (.func 170) #[] #[.pointer (some ⟨cb,0,none⟩)])/\(w1.alloc (.cells #[.slice ua (norm l).length uc] 71)).cell? ⟨cb,0,none⟩=some u/\w.heap.size<=cb/\qbh M (w1.alloc (.cells #[.slice ua (norm l).length uc] 71)) u (norm l)/\Ext w (w1.alloc (.cells #[.slice ua (norm l).length uc] 71))):=
  ⟨_,_,rfl,hB.cell (i:=0) (by omega),he1.size,hu.toV.ext ((Ext.refl w1).alloc _),he1.alloc _⟩
 clear hu hB he1;go_wp2;go_ret;exact HF.out
def STm (t:Nat) (c0 c1:Value) (m:Mo) (w:World):Prop:=w.cell? ⟨t,0,none⟩=some c0/\w.cell? ⟨t,1,none⟩=some c1/\w.cell? ⟨t,2,none⟩=some (.int .i64 m.a)/\w.cell? ⟨t,3,none⟩=some (.int .i64 m.b)/\w.cell? ⟨t,4,none⟩=some (.int .i64 m.c)/\w.cell? ⟨t,5,none⟩=some (.int .i64 m.d)
theorem STm.ext {t:Nat} {c0 c1:Value} {m:Mo} {w w':World} (h:STm t c0 c1 m w) (he:Ext w w'):STm t c0 c1 m w':=by
 have h1:=World.block_lt_of_cell? _ _ h.1;unfold STm;rw [he.cell h1,he.cell h1,he.cell h1,he.cell h1,he.cell h1,he.cell h1];exact h
theorem qgi (X : Nat -> Prop) (w : World) (cb : Nat) (u : Value) (L : List Tm) (Pm : Mo -> Prop) (hM : Mb X w) (hc : w.cell? ⟨cb, 0, none⟩ = some u) (hX : ¬ X cb) (hP : qbh X w u L) (hpm : ∀ t ∈ L, Pm t.2) :
  SeqStopsK Fence.wide 2 Tryz.prog 170 #[.pointer (some ⟨cb,0,none⟩)] (ytA (Pm:=Pm)) (Kq X w.heap.size) (fun xs=>ytM xs=L.map (fun t=>t.2)) (fun _=>True) L.length w:=by
 intro l J Jx W hW hJ hJx hY h0;have hcb:=World.block_lt_of_cell? _ _ hc;have heW:Ext w W:=hW;obtain ⟨ua,uc,rfl⟩:=hP.form;have HY:=Lib.hid hY;have HJ:=Lib.hid hJ;have HP:=Lib.hid hP;have HPM:=Lib.hid hpm
 have hcW:W.cell? ⟨cb,0,none⟩=some (.slice ua L.length uc):=by rw [heW.cell hcb];exact hc
 have hll:=hP.len;have hkW:Kp X w W:=Kp.of_ext heW;clear hY hJ hJx hW hP hpm hc;refine callsIn_wide.2 ?_;show Calls Tryz.prog 170 #[.func (.yield l) #[] #[],.pointer (some ⟨cb,0,none⟩)] W _
 go_enter Tryz.func170,Tryz.ntmps170
 go_wp2
 go_loopw [7] (fun i wr=>∃ (k:Nat) (pre:List (Yt Pm)),k<=L.length/\i = .int .i64 k/\J pre wr/\Hid (pre.map (fun x=>x.1.m)=(L.take k).map (fun t=>t.2))/\Kp X w wr) (fun i _=>L.length - (intOf i).toNat)
 case atStart=>exact ⟨0,[],Nat.zero_le _,rfl,h0,(rfl : [] = []),hkW⟩
 case round=>
  clear h0 hkW hcW heW;obtain ⟨k,pre,hk,rfl,hJp,HPR,hkr⟩:=hrel
  by_cases hlt:k<L.length
  ·have hPr:=HP.out.kp hkr;obtain ⟨b,off,c,m,b1,a1,n1,p1,hua,hcap,hmx,hb,x0,x1,x2,x3,x4,x5,hI,hT,hmem⟩:=hPr.at (k:=k) hlt;subst hua;have hpm:=HPM.out _ hmem;have HT:=Lib.hid hT;have hEa:Ext wr (wr.alloc (.cells #[.bool b1,.slice a1 n1 p1,.int .i64 m.a,.int .i64 m.b,.int .i64 m.c,.int .i64 m.d] 129)):=(Ext.refl wr).alloc _;have hBt:=Blk.of_arr wr #[.bool b1,.slice a1 n1 p1,.int .i64 m.a,.int .i64 m.b,.int .i64 m.c,.int .i64 m.d] 129 6 rfl;have HI:=Lib.hid hI;clear hPr hT hmem hI
   go_upto_region 3 with (fail)
   generalize wr.alloc (.cells #[.bool b1,.slice a1 n1 p1,.int .i64 m.a,.int .i64 m.b,.int .i64 m.c,.int .i64 m.d] 129)=Wa at hEa hBt ⊢;clear x0 x1 x2 x3 x4 x5;have HS:Hid (STm wr.heap.size (.bool b1) (.slice a1 n1 p1) m Wa.drew):=STm.ext (w:=Wa) ⟨hBt.cell (i:=0) (by omega),hBt.cell (i:=1) (by omega),hBt.cell (i:=2) (by omega),hBt.cell (i:=3) (by omega),hBt.cell (i:=4) (by omega),hBt.cell (i:=5) (by omega)⟩ (Ext.refl Wa).drew;have hEd:=hEa.trans (Ext.refl Wa).drew;have hMd:=hM.size (Nat.le_trans hkr.1 hEd.size);refine qgc (STm wr.heap.size (.bool b1) (.slice a1 n1 p1) m) 6 (by kernel_rfl) HS.out (fun hHeld=>?_);((refine qba 0 (oi:=?_) (v:=?_) (by kernel_rfl) (by kernel_rfl) (by kernel_rfl) (by kernel_rfl) (by kernel_rfl) (by kernel_rfl) (by first | exact hSn | exact hHeld) ?_ ?_ ?_ ?_ ?_;rotate_left 2;(simp only [xgA,xgB,xgC];rfl);rfl;(intro wS hSw;obtain ⟨S1,S2,S3,S4,S5,S6⟩:=hSw;go_simp;try with_reducible rfl);(exact fun _ _ _ h=>h);(try simp only [Act.put,xgD,xgE,xgF]));(refine qba 1 (oi:=?_) (v:=?_) (by kernel_rfl) (by kernel_rfl) (by kernel_rfl) (by kernel_rfl) (by kernel_rfl) (by kernel_rfl) (by first | exact hSn | exact hHeld) ?_ ?_ ?_ ?_ ?_;rotate_left 2;(simp only [xgA,xgB,xgC];rfl);rfl;(intro wS hSw;obtain ⟨S1,S2,S3,S4,S5,S6⟩:=hSw;go_simp;try with_reducible rfl);(exact fun _ _ _ h=>h);(try simp only [Act.put,xgD,xgE,xgF]));(refine qba 2 (oi:=?_) (v:=?_) (by kernel_rfl) (by kernel_rfl) (by kernel_rfl) (by kernel_rfl) (by kernel_rfl) (by kernel_rfl) (by first | exact hSn | exact hHeld) ?_ ?_ ?_ ?_ ?_;rotate_left 2;(simp only [xgA,xgB,xgC];rfl);rfl;(intro wS hSw;obtain ⟨S1,S2,S3,S4,S5,S6⟩:=hSw;go_simp;try with_reducible rfl);(exact fun _ _ _ h=>h);(try simp only [Act.put,xgD,xgE,xgF]));(refine qba 3 (oi:=?_) (v:=?_) (by kernel_rfl) (by kernel_rfl) (by kernel_rfl) (by kernel_rfl) (by kernel_rfl) (by kernel_rfl) (by first | exact hSn | exact hHeld) ?_ ?_ ?_ ?_ ?_;rotate_left 2;(simp only [xgA,xgB,xgC];rfl);rfl;(intro wS hSw;obtain ⟨S1,S2,S3,S4,S5,S6⟩:=hSw;go_simp;try with_reducible rfl);(exact fun _ _ _ h=>h);(try simp only [Act.put,xgD,xgE,xgF]));(refine qba 4 (oi:=?_) (v:=?_) (by kernel_rfl) (by kernel_rfl) (by kernel_rfl) (by kernel_rfl) (by kernel_rfl) (by kernel_rfl) (by first | exact hSn | exact hHeld) ?_ ?_ ?_ ?_ ?_;rotate_left 2;(simp only [xgA,xgB,xgC];rfl);rfl;(intro wS hSw;obtain ⟨S1,S2,S3,S4,S5,S6⟩:=hSw;go_simp;try with_reducible rfl);(exact fun _ _ _ h=>h);(try simp only [Act.put,xgD,xgE,xgF])))
   (refine qdd 5 (o:=?_) (by kernel_rfl) (by kernel_rfl) ?_ ?_;rotate_left 1;(simp only [xgA,xgB,xgC];rfl);intro K hK);go_simp;refine (qbT _ _ c _ hMd (HI.out.ext hEd)).mono ?_;rintro e_ wz ⟨e0,e1,rfl,hr,he1⟩;go_wp2_with (fail);refine hK.out _ _ (fun _=>hHeld.ext he1) ?_;clear hK K;(try simp only [Act.put,xgD,xgE,xgF]);obtain ⟨b2,a2,n2,p2,rfl,rfl⟩:=hr.form;have hEz:=hEd.trans he1;have hJz:J pre wz:=HJ.out pre wr wz none hJp (hEz.grownBy none) (fun r e=>by cases e)
   have hln:pre.length<L.length:=by
    have h1:=congrArg List.length HPR.out;simp only [List.length_map,List.length_take] at h1;omega
   obtain ⟨fn,tmps,assign,body,hy,hR⟩:=HY.out pre ⟨⟨b2,a2,n2,p2,m⟩,hpm⟩ wz hJz hln;(refine qfx (o:=?_) (by kernel_rfl) ?_ ?_;rotate_left 1;(simp only [xgA,xgB,xgC];rfl);intro K hK);rw [if_pos (by rfl)];refine ⟨fun _ _=>trivial,?_⟩;rw [Fence.wide_round,Oper.semAt_none];go_simp;clear hy;refine hR.mono ?_;have hkz:Kp X w wz:=hkr.trans (Kp.of_ext hEz)
   have HPR2:Hid ((pre ++ [(⟨⟨b2,a2,n2,p2,m⟩,hpm⟩:Yt Pm)]).map (fun x=>x.1.m)=(L.take (k+1)).map (fun t=>t.2)):=by
    show _=_;rw [HT.out,List.map_append,List.map_append,HPR.out];rfl
   rintro e_ wy (⟨rfl,hJy,hky⟩ | ⟨rfl,hJx⟩)
   ·have hkF:Kp X w wy:=⟨Nat.le_trans hkz.1 hky.1,fun q hq hx=>(hky.2 q hq hx).trans (hkz.2 q hq hx)⟩;clear hR hkz hky hJz hEz hr he1 hEd hMd hHeld hEa hBt hJp hkr;refine hK.out _ _ ?_;clear hK K;(try simp only [Act.put,xgD,xgE,xgF]);(refine qdd 7 (o:=?_) (by kernel_rfl) (by kernel_rfl) ?_ ?_;rotate_left 1;(simp only [xgA,xgB,xgC];rfl);intro K hK);go_simp;refine hK.out _ _ (fun h=>by cases h) ?_;clear hK K;(try simp only [Act.put,xgD,xgE,xgF]);refine qeu (by kernel_rfl) ?_ _;go_wp2
    go_roundw
    case rel=>exact ⟨k+1,_,by omega,by go_num,hJy,HPR2,hkF⟩
    case measure=>simp [intOf];omega
   ·clear hR hkz hJz hEz hr he1 hEd hMd hHeld hEa hBt hJp hkr;refine hK.out _ _ ?_;clear hK K;(try simp only [Act.put,xgD,xgE,xgF]);(refine qdd 7 (o:=?_) (by kernel_rfl) (by kernel_rfl) ?_ ?_;rotate_left 1;(simp only [xgA,xgB,xgC];rfl);intro K hK);go_simp;refine hK.out _ _ (fun h=>by cases h) ?_;clear hK K;(try simp only [Act.put,xgD,xgE,xgF]);refine qeu (by kernel_rfl) ?_ _;go_wp2;refine bodyPost_ret (results_none rfl _ _ _) rfl ?_;exact ⟨⟨_,rfl⟩,.inr ⟨_,trivial,hJx⟩⟩
  ·have hk2:k=L.length:=by omega
   subst hk2
   have HF:Hid (pre.map (fun x=>x.1.m)=L.map (fun t=>t.2)):=by show _=_;rw [HPR.out,List.take_length]
   go_wp2
   go_end0
   exact ⟨⟨_,rfl⟩,.inl ⟨pre,HF.out,hJp⟩⟩

attribute [local go_sem] Oper.semAt_some

def hiU (m:Mo):Nat->Nat
 | 0=>0
 | k+1=>if 0<m.get (k+1) then k+1 else hiU m k
theorem qoq (m:Mo) (k:Nat):hiU m k<=k:=by
 induction k with
 | zero=>exact Nat.le_refl _
 | succ k ih=>unfold hiU;split <;> omega
def lvM (l:List Mo):Nat:=l.foldl (fun h m=>max h (hiU m 4)) 0
theorem qlm (l:List Mo) (m:Mo):lvM (l ++ [m])=max (lvM l) (hiU m 4):=by simp [lvM]
theorem qrK (l:List Mo):lvM l<=4:=by
 suffices h : ∀ (l:List Mo) (k:Nat),k<=4->l.foldl (fun h m=>max h (hiU m 4)) k<=4 from h l 0 (by omega)
 intro l
 induction l with
 | nil=>intro k hk;exact hk
 | cons m l ih=>intro k hk;exact ih _ (by have:=qoq m 4;show max k (hiU m 4)<=4;omega)
def LvI (w:World) (hb:Nat) (t:TypeId) (B:Nat) (f:Nat->Value) (W:World):Prop:=Blk W hb t 1 f/\Ext w W/\B<=W.heap.size
theorem LvI.grown {w W W':World} {hb:Nat} {t:TypeId} {f:Nat->Value} {B:Nat} {row:Option Nat} (h:LvI w hb t B f W) (hB:w.heap.size<=B) (hlt:hb<B) (hg:W.grownBy W' row) (hr : ∀ r,row=some r->B<=r /\ ∃ o:Obj,W.heap[r]? = some o/\o.isCells=false):LvI w hb t B f W':=by
 refine ⟨h.1.grown hg (fun e=>?_),h.2.1.grown hg (fun k hk=>?_),Nat.le_trans h.2.2 hg.size⟩
 ·have:=(hr hb e.symm).1;omega
 ·have:=(hr k hk).1;omega
theorem LvI.set {w W:World} {hb:Nat} {t:TypeId} {f:Nat->Value} {B:Nat} (h:LvI w hb t B f W) (hw:w.heap.size<=hb) (u:Value):LvI w hb t B (fun _=>u) (W.setCell ⟨hb,0,none⟩ u):=by
 refine ⟨(h.1.set 0 u).congr (fun i hi=>?_),h.2.1.set (p:=⟨hb,0,none⟩) hw u,by simpa [World.setCell] using h.2.2⟩
 have:i=0:=by omega
 subst this;simp [upd]
theorem Kq.set {X:Nat->Prop} {n:Nat} {W W':World} (h:Kq X n W W') {hb o:Nat} (hx:X hb) (u:Value):Kq X n W (W'.setCell ⟨hb,o,none⟩ u):=
 ⟨by simpa [World.setCell] using h.1,fun b hb' hn=>by rw [Below.heap_setCell _ ⟨hb,o,none⟩ _ b (fun (e:b=hb)=>hn (e ▸ hx))];exact h.2 b hb' hn⟩
theorem qpZ (M : Nat -> Prop) (v : Value) (l : List Tm) (w : World) (hM : Mb M w) (hP : qbh M w v l) (hL : dlen (nrm l) <= 1099511627776) :
  Calls Tryz.prog 110 #[v] w fun e w'=>e = .returned (.int .i64 (lvM ((norm l).map (·.2)):Nat))/\Ext w w':=by
 obtain ⟨va,vc,rfl⟩:=hP.form;have hE0:Ext w (w.alloc (.cells #[.int .i64 0] 3)):=(Ext.refl w).alloc _;have hB0:=Blk.of_alloc1 w (.int .i64 0) 3;have hM0:Mb (Mx M w.heap.size (w.heap.size+1)) (w.alloc (.cells #[.int .i64 0] 3)):=Mx.mb hM (by simp) (by simp);have HP:=Lib.hid ((hP.more (M':=Mx M w.heap.size (w.heap.size+1)) (Mx.more (Nat.le_refl _))).ext hE0);clear hP;refine callsIn_wide.1 (callsIn_of_wp_marks (F:=Fence.wide) (n:=3) Tryz.func110 rfl trivial ?_);refine wpIn_wide.2 ?_;simp only [Tryz.ntmps110,List.size_toArray,List.length_cons,List.length_nil,Nat.reduceAdd,Nat.reduceSub,Array.replicate_succ,Array.replicate_zero,List.push_toArray,List.append_toArray,List.nil_append,List.cons_append];go_wp2_with (fail);refine (qkN _ _ l _ hM0 HP.out hL).mono ?_;rintro e w1 ⟨u,cb,rfl,hcb,hcs,hu,he1⟩;have hE1:=hE0.trans he1
 have hx : ¬ Mx M w.heap.size (w.heap.size+1) cb:=fun h=>by
  rcases h with h | h
  ·have:=hM cb h;simp at hcs;omega
  ·simp at hcs;omega
 have hsz:w.heap.size+1<=w1.heap.size:=by have:=he1.size;simp at this;omega
 have HB1:Hid (LvI w w.heap.size 3 w1.heap.size (fun _=>.int .i64 0) w1):=⟨hB0.ext he1,hE1,Nat.le_refl _⟩;have HSQ:=Lib.hid (qgi (Mx M w.heap.size (w.heap.size+1)) w1 cb u (norm l) (fun _=>True) (hM0.ext he1) hcb hx hu (fun _ _=>trivial));clear hB0 hE0 hM0 HP hcb hcs hu he1 hE1 hx;go_wp2
 refine wpIn_wide.1 (wpIn_rangeFunc_ownH (F:=Fence.wide) (n:=3) rfl (by omega) (gf:=170) (lb:=#[.pointer (some ⟨cb,0,none⟩)]) rfl trivial (enters_of Tryz.func170 (by kernel_rfl) rfl) HSQ.out Kq.trans (fun W l o o' hl _ _ _=>Kq.putObj W l o' hl) (Below.refl _ _) (fun _=>rfl)
  (fun (pre:List (Yt (fun _=>True))) W=>LvI w w.heap.size 3 w1.heap.size (fun _=>.int .i64 (lvM (ytM pre):Nat)) W) (fun _ _ _=>False)
  (fun pre W W' row h hg hr=>h.grown (Nat.le_trans (Nat.le_succ _) hsz) hsz hg hr) (fun c s W W' row h=>h.elim) HB1.out
  (fun x a' W=>∃ Bx,w1.heap.size<=Bx/\Blk W Bx 127 4 (arr (moA x.1.m))/\a' = { tmps:=#[.slice va l.length vc,undef,.int .i64 0,.pointer (some ⟨w.heap.size,0,none⟩),.pointer (some ⟨Bx,0,none⟩),undef,undef,.slice va l.length vc,.func (.func 170) #[] #[.pointer (some ⟨cb,0,none⟩)],.agg #[.int .i64 x.1.m.a,.int .i64 x.1.m.b,.int .i64 x.1.m.c,.int .i64 x.1.m.d],.agg #[.bool x.1.b,.slice x.1.a x.1.n x.1.p],undef,undef,undef,undef,undef,undef,undef,undef,undef,undef,undef,undef,undef,undef,undef,undef,undef],defers:=[] })
  (fun x a' s W W' row h hg hr=>?hax) ?assign ?body ?done ?stop)
 case hax=>
  obtain ⟨Bx,h1,h2,h3⟩:=h;refine ⟨Bx,h1,h2.grown hg (fun e=>?_),h3⟩;obtain ⟨_,o,ho,hoc⟩:=hr Bx e.symm;obtain ⟨cur,hcur,_⟩:=h2;rw [hcur] at ho;cases ho;cases hoc
 case assign=>
  intro lq pre x W K hi hK
  gi_wp2
  exact hK _ _ ((KeepsOthers.alloc _ _).from _) (Kq.of_ext ((Ext.refl W).alloc _) hi.2.2) ⟨hi.1.alloc _,hi.2.1.alloc _,Nat.le_trans hi.2.2 (by simp)⟩ ⟨W.heap.size,hi.2.2,Blk.of_arr W (moA x.1.m) 127 4 rfl,rfl⟩
 case body=>
  rintro lq pre x a' W hl ⟨r,hr⟩ hi ⟨Bx,hBx,hBm,rfl⟩ hlen;obtain ⟨⟨xb,xa,xn,xp,m⟩,hpm⟩:=x;have y0:=hBm.cell (i:=0) (by omega);have y1:=hBm.cell (i:=1) (by omega);have y2:=hBm.cell (i:=2) (by omega);have y3:=hBm.cell (i:=3) (by omega);simp only [arr,moA] at y0 y1 y2 y3
  have HS:Hid (lvM (ytM (pre ++ [(⟨⟨xb,xa,xn,xp,m⟩,hpm⟩:Yt (fun _=>True))]))=max (lvM (ytM pre)) (hiU m 4)):=by
   show _=_;rw [show ytM (pre ++ [(⟨⟨xb,xa,xn,xp,m⟩,hpm⟩:Yt (fun _=>True))])=ytM pre ++ [m] by simp [ytM],qlm]
  have h4:=qrK (ytM pre);generalize lvM (ytM pre)=h0 at *;have HI:=Lib.hid hi;clear hBm hi hr hlen
  gi_wp2
  gi_loopw [12] (fun i wz=>∃ k:Nat,k<=4/\i = .int .i64 k/\LvI w w.heap.size 3 w1.heap.size (fun _=>.int .i64 (max h0 (hiU m k):Nat)) wz/\KeepsFrom w1.heap.size W wz/\Kq (Mx M w.heap.size (w.heap.size+1)) w1.heap.size W wz) (fun i _=>4 - (intOf i).toNat)
  case atStart=>exact ⟨0,by omega,rfl,by simpa [hiU] using HI.out,(KeepsOthers.refl _).from _,⟨Nat.le_refl _,fun _ _ _=>rfl⟩⟩
  case round=>
   obtain ⟨k,hk,rfl,⟨hB,hE,hS⟩,hKF,hKQ⟩:=hrel;clear y0 y1 y2 y3
   have i0 : ∀ w,(Instr.index 127 (.agg #[.int .i64 m.a,.int .i64 m.b,.int .i64 m.c,.int .i64 m.d]) (.int .i64 0)).run Tryz.prog w = .ok (.int .i64 m.a) w:=fun _=>by kernel_rfl
   have i1 : ∀ w,(Instr.index 127 (.agg #[.int .i64 m.a,.int .i64 m.b,.int .i64 m.c,.int .i64 m.d]) (.int .i64 1)).run Tryz.prog w = .ok (.int .i64 m.b) w:=fun _=>by kernel_rfl
   have i2 : ∀ w,(Instr.index 127 (.agg #[.int .i64 m.a,.int .i64 m.b,.int .i64 m.c,.int .i64 m.d]) (.int .i64 2)).run Tryz.prog w = .ok (.int .i64 m.c) w:=fun _=>by kernel_rfl
   have i3 : ∀ w,(Instr.index 127 (.agg #[.int .i64 m.a,.int .i64 m.b,.int .i64 m.c,.int .i64 m.d]) (.int .i64 3)).run Tryz.prog w = .ok (.int .i64 m.d) w:=fun _=>by kernel_rfl
   by_cases hlt:k<4
   ·have hget : ∃ e, m.get (k + 1) = e /\ ∀ w, (Instr.index 127 (.agg #[.int .i64 m.a, .int .i64 m.b, .int .i64 m.c, .int .i64 m.d]) (.int .i64 (k : Int))).run Tryz.prog w = .ok (.int .i64 e) w := by
     have:k=0∨k=1∨k=2∨k=3:=by omega
     rcases this with rfl | rfl | rfl | rfl
     ·exact ⟨m.a,rfl,i0⟩
     ·exact ⟨m.b,rfl,i1⟩
     ·exact ⟨m.c,rfl,i2⟩
     ·exact ⟨m.d,rfl,i3⟩
    obtain ⟨e,he,ix⟩:=hget;clear i0 i1 i2 i3;have c0:=hB.cell (i:=0) (by omega);have f0:=hB.frozen 0;have hle:=qoq m k;generalize hg:max h0 (hiU m k)=g at *;have hblt:=hB.lt
    by_cases hpos:0<e
    ·have hu:hiU m (k+1)=k+1:=by unfold hiU;rw [he,if_pos hpos]
     by_cases hgt:g<k+1
     ·have hg2:max h0 (hiU m (k+1))=k+1:=by rw [hu];omega
      have HG:=Lib.hid hg2;clear he hu hg hg2
      gi_wp2
      refine ⟨⟨k+1,by omega,by go_num,?_,hKF.trans ((KeepsOthers.setCell _ _ _).from _),hKQ.set (.inr ⟨Nat.le_refl _,by omega⟩) _⟩,by simp [intOf];omega⟩;rw [HG.out];exact LvI.set ⟨hB,hE,hS⟩ (Nat.le_refl _) _
     ·have hg2:max h0 (hiU m (k+1))=g:=by rw [hu];omega
      have HG:=Lib.hid hg2;clear he hu hg hg2
      gi_wp2
      refine ⟨⟨k+1,by omega,by go_num,?_,hKF,hKQ⟩,by simp [intOf];omega⟩;rw [HG.out];exact ⟨hB,hE,hS⟩
    ·have hu : hiU m (k + 1) = hiU m k := by conv => lhs; unfold hiU
                                             rw [he,if_neg hpos]
     have hg2:max h0 (hiU m (k+1))=g:=by rw [hu];exact hg
     have HG:=Lib.hid hg2;clear he hu hg hg2
     gi_wp2
     refine ⟨⟨k+1,by omega,by go_num,?_,hKF,hKQ⟩,by simp [intOf];omega⟩;rw [HG.out];exact ⟨hB,hE,hS⟩
   ·have hk4:k=4:=by omega
    subst hk4;clear i0 i1 i2 i3
    gi_wp2
    refine ⟨hKF,hKQ,?_⟩;show LvI _ _ _ _ _ _;rw [HS.out];exact ⟨hB,hE,hS⟩
 case done=>
  rintro D ys W hD hys ⟨hB,hE,hS⟩ hK;have c0:=hB.cell (i:=0) (by omega)
  have HYS:Hid (lvM (ytM ys)=lvM ((norm l).map (·.2))):=by show _=_;rw [hys]
  clear hys;go_wp2;refine ⟨by simp,.inl ⟨_,_,rfl,run_takeDeferred hK,?_⟩⟩;refine ⟨_,results_tmp rfl _ _ _,?_⟩;exact ⟨by rw [<- HYS.out];rfl,hE.grown (grownBy_putObj' W D _) (fun k hk=>by cases hk;omega)⟩
 case stop=>exact fun D c pre W hD hs h=>h.elim
end Go.Proofs.YtmcfpnmoklnhoaaGreat

namespace Go.Proofs.YtmcfpnmoklnhoaaGreat
open Go.RowKit
attribute [local go_sem] Oper.semAt_some

def qxs (m:Mo):Nat->Int
 | 0=>0
 | k+1=>qxs m k+m.get (k+1)
def PmB (m:Mo):Prop:=∀ k,0<=m.get k/\m.get k<=1073741824
def toM (l:List Mo):Int:=l.foldl (fun h m=>max h (qxs m 4)) (-1)
end Go.Proofs.YtmcfpnmoklnhoaaGreat
