/- Nr -/
import Derived.Test.YtmcfpnmoklnhoaaGreatMi
import Derived.Test.YtmcfpnmoklnhoaaGreatMq
import Derived.Test.YtmcfpnmoklnhoaaGreatNb
set_option linter.unusedVariables false
set_option maxRecDepth 100000
set_option maxHeartbeats 400000000
set_option linter.unusedSimpArgs false
namespace Go.Proofs.YtmcfpnmoklnhoaaGreat
def rb(n:Nat)(q:Rat):Prop:=aH q.num.natAbs<=n/\aH q.den<=n
theorem rb.mono{n m:Nat}{q:Rat}(h:rb n q)(hm:n<=m):rb m q:=⟨aR h.1 hm,aR h.2 hm⟩
theorem qjo(x y:Int):aH (x+y).natAbs<=max (aH x.natAbs) (aH y.natAbs)+1:=
 aR (jB (Int.natAbs_add_le x y)) (Nl _ _)
def ps(x:Rat)(P:Nat->Rat):Nat->Rat
 |0=>0
 |n+1=>ps x P n+x^n*P n
def hv(x:Rat)(P:Nat->Rat)(n:Nat):Nat->Rat
 |0=>0
 |j+1=>hv x P n j*x+P (n-1-j)
end Go.Proofs.YtmcfpnmoklnhoaaGreat
namespace Go.Proofs.YtmcfpnmoklnhoaaGreat
open Go.RowKit
section
variable{F:Fence}{n:Nat}{P:Program}{α:Type}
def xC(D:Nat)(r:Loop)(W:World):Prop:=W.heap[D+1]?=some (.loop r)/\W.heap[D]?=some (.deferred (some []))
theorem xC.lt{D:Nat}{r:Loop}{W:World}(h:xC D r W):D+1<W.heap.size:=(Array.getElem?_eq_some_iff.1 h.1).1
theorem xC.put{D:Nat}{r:Loop}{W:World}(h:xC D r W)(s:Loop):xC D s (W.putObj (D+1) (.loop s)):=⟨World.putObj_heap_same h.lt,(World.putObj_heap_other (by omega)).trans h.2⟩
end
theorem qqf(b:Bool)(x:Nat):dw (!b) x= -dw b x:=by
 unfold dw;cases b<;>simp
theorem qyx{M:Nat->Prop}(b:Bool)(a:Option Addr)(n p:Nat)(z:Int)(w:World)(hM:Mb M w)(h:dQ M w (.bool b) (.slice a n p) z):
 Calls Tryz.prog 139 #[.agg #[.bool b,.slice a n p]] w λe w'=>∃(b2:Bool)(a2:Option Addr)(n2 p2:Nat),e=.returned (.agg #[.bool b2,.slice a2 n2 p2])/\ek M w' (.bool b2) (.slice a2 n2 p2) (-z)/\Ext w w':=by
 have aV:Ext w ((w.alloc (.cells #[.bool b,.slice a n p] 30)).alloc (.cells zI 30)):=((aA w).alloc _).alloc _;have dm:=aG.bq (w.alloc (.cells #[.bool b,.slice a n p] 30)) zI 30 2 rfl;simp only[World.size_alloc]at dm;have dD:Mb (Mx M w.heap.size (w.heap.size+2)) ((w.alloc (.cells #[.bool b,.slice a n p] 30)).alloc (.cells zI 30)):=Mx.mb hM (by simp;omega) (by simp);obtain⟨nb,x,hb,hx,rfl⟩:=(h.more (M':=Mx M w.heap.size (w.heap.size+2)) (Mx.more (aI _))).ext aV;simp only[Value.bool.injEq]at hb;subst hb;have aW:=ae (Ot (!b) _ x _ dD hx);rw[qqf]at aW;have HB:=ae dm;have HE:=ae aV;clear aV dm dD h hM hx
 go_enter Tryz.func139,Tryz.ntmps139
 go_wp2_with (fail);refine aW.out.mono ?_;rintro e w1 ⟨d0,d1,rfl,hc,az⟩;obtain⟨kb,ka,kn,kp,rfl,rfl⟩:=hc.form;obtain⟨⟨q0,q1,f0,f1⟩,⟨r0,r1⟩,bD,eO⟩:=l6 (M':=Mx M w.heap.size (w.heap.size+2)) (w:=w) (.bool kb) (.slice ka kn kp) (HB.out.ext az) (Mx.at (by omega)) (by omega) (HE.out.trans az)
 have HF:Hid (∃(b2:Bool)(a2:Option Addr)(n2 p2:Nat),Ending.returned (.agg #[.bool kb,.slice ka kn kp])=.returned (.agg #[.bool b2,.slice a2 n2 p2])/\ek M ((w1.setCell ⟨w.heap.size+1,0,none⟩ (.bool kb)).setCell ⟨w.heap.size+1,1,none⟩ (.slice ka kn kp)) (.bool b2) (.slice a2 n2 p2) (-dw b x)/\Ext w ((w1.setCell ⟨w.heap.size+1,0,none⟩ (.bool kb)).setCell ⟨w.heap.size+1,1,none⟩ (.slice ka kn kp))):=
  ⟨_,_,_,_,rfl,(hc.kp bD).more Mx.less,eO⟩
 simp only[arr]at q0 q1;clear aW hc az bD eO;go_wp2;exact bu (v:=.agg #[.bool kb,.slice ka kn kp]) (by simp[results,Tryz.results139,go_sem,r0,r1]) rfl HF.out
def Y5(M:Nat->Prop)(w:World)(y z:Int)(e:Ending)(w':World):Prop:=∃(b:Bool)(a:Option Addr)(n p:Nat)(er:Int),e=.returned (.tuple #[.agg #[.bool b,.slice a n p],.int .i64 er])/\
 (y.tmod z=0->er=0/\ek M w' (.bool b) (.slice a n p) (y.tdiv z))/\(y.tmod z≠0->er=3/\ek M w' (.bool b) (.slice a n p) 0)/\Ext w w'
theorem quQ{M:Nat->Prop}(b:Bool)(a:Option Addr)(n p:Nat)(y:Int)(b':Bool)(a':Option Addr)(n' p':Nat)(z:Int)(w:World)(hM:Mb M w)(h:dQ M w (.bool b) (.slice a n p) y)(h':dQ M w (.bool b') (.slice a' n' p') z)(hz:z≠0)(hL:aH y.natAbs+1<=1099511627776):
 Calls Tryz.prog 69 #[.agg #[.bool b,.slice a n p],.agg #[.bool b',.slice a' n' p']] w (Y5 M w y z):=by
 have bL:=((aG.bq w #[.bool b,.slice a n p] 30 2 rfl).alloc (.cells #[.bool b',.slice a' n' p'] 30)).alloc (.cells zI 30);have dm:=(aG.bq (w.alloc (.cells #[.bool b,.slice a n p] 30)) #[.bool b',.slice a' n' p'] 30 2 rfl).alloc (.cells zI 30);have dJ:=aG.bq ((w.alloc (.cells #[.bool b,.slice a n p] 30)).alloc (.cells #[.bool b',.slice a' n' p'] 30)) zI 30 2 rfl;have aV:Ext w (((w.alloc (.cells #[.bool b,.slice a n p] 30)).alloc (.cells #[.bool b',.slice a' n' p'] 30)).alloc (.cells zI 30)):=(((aA w).alloc _).alloc _).alloc _;simp only[World.size_alloc]at dm dJ;have dD:Mb (Mx M w.heap.size (w.heap.size+3)) (((w.alloc (.cells #[.bool b,.slice a n p] 30)).alloc (.cells #[.bool b',.slice a' n' p'] 30)).alloc (.cells zI 30)):=Mx.mb hM (by simp;omega) (by simp);have h0:=(h.more (M':=Mx M w.heap.size (w.heap.size+3)) (Mx.more (aI _))).ext aV;have AU:=(h'.more (M':=Mx M w.heap.size (w.heap.size+3)) (Mx.more (aI _))).ext aV;generalize ze:((w.alloc (.cells #[.bool b,.slice a n p] 30)).alloc (.cells #[.bool b',.slice a' n' p'] 30)).alloc (.cells zI 30)=W0 at*;have Gz:=ae ze;have eG:=ae dJ;have gI:=ae aV;have ui:=ae dD;have c0:=bL.cell (i:=0) (by omega);have c1:=bL.cell (i:=1) (by omega);have c2:=dm.cell (i:=0) (by omega);have c3:=dm.cell (i:=1) (by omega);simp only[arr]at c0 c1 c2 c3;have g0:=bL.lt;have g1:=dm.lt;have aW:=ae (qjB b a n p y b' a' n' p' z W0 dD h0 AU hz hL)
 clear h h' hM ze bL dm dJ aV dD h0 AU hz hL
 go_enter Tryz.func69,Tryz.ntmps69
 go_upto_region 1 with(fail)
 rw[Gz.out];go_wp2_with (fail);refine aW.out.mono ?_;rintro e w1 ⟨qb,qa,qn,qp,rb,ra,rn,rp,rfl,hq,hr,az⟩;clear aW c0 c1 c2 c3 g0 g1
 go_upto_region 2 with(fail)
 have Ba:=(aG.bq w1 #[.bool qb,.slice qa qn qp] 30 2 rfl).alloc (.cells #[.bool rb,.slice ra rn rp] 30);have Dw:=aG.bq (w1.alloc (.cells #[.bool qb,.slice qa qn qp] 30)) #[.bool rb,.slice ra rn rp] 30 2 rfl;have jl:Ext w1 ((w1.alloc (.cells #[.bool qb,.slice qa qn qp] 30)).alloc (.cells #[.bool rb,.slice ra rn rp] 30)):=((aA _).alloc _).alloc _;simp only[World.size_alloc]at Dw;have hq2:=hq.ext jl;have pq:=hr.ext jl;have jR:=(eG.out.ext az).ext jl;have iN:=az.trans jl
 have wT:w.heap.size+3<=w1.heap.size:=by have:=(eG.out.ext az).lt;omega
 generalize hG:w1.heap.size=G at*;generalize hW1:(w1.alloc (.cells #[.bool qb,.slice qa qn qp] 30)).alloc (.cells #[.bool rb,.slice ra rn rp] 30)=W1 at*;have c0:=Ba.cell (i:=0) (by omega);have c1:=Ba.cell (i:=1) (by omega);have c2:=Dw.cell (i:=0) (by omega);have c3:=Dw.cell (i:=1) (by omega);simp only[arr]at c0 c1 c2 c3;have g1:=Ba.lt;have g2:=Dw.lt;have HQ:=ae hq2;have HB:=ae jR;have aS:=ae iN;have oP:=ae (qjA rb ra rn rp (y.tmod z) W1 pq.fB);have xk:=ae Ba;clear Ba Dw jl hq2 pq jR iN hG hW1 hq hr az;go_wp2_with (fail);refine oP.out.mono ?_;rintro e w2 ⟨rfl,aJ⟩;clear oP c2 c3 g2
 by_cases hm:y.tmod z=0
 ·have hmd:decide (y.tmod z=0)=true:=by simp[hm]
  have ZR:=ae hm;clear hm;obtain⟨⟨q0,q1,f0,f1⟩,⟨r0,r1⟩,bD,eO⟩:=l6 (M':=Mx M w.heap.size (w.heap.size+3)) (w:=w) (.bool qb) (.slice qa qn qp) (HB.out.ext aJ) (Mx.at (by omega)) (by omega) ((gI.out.trans aS.out).trans aJ)
  have HF:Hid (Y5 M w y z (.returned (.tuple #[.agg #[.bool qb,.slice qa qn qp],.int .i64 0])) ((w2.setCell ⟨w.heap.size+1+1,0,none⟩ (.bool qb)).setCell ⟨w.heap.size+1+1,1,none⟩ (.slice qa qn qp))):=
   ⟨_,_,_,_,0,rfl,λ_=>⟨rfl,((HQ.out.ext aJ).kp bD).more Mx.less⟩,λh=>absurd ZR.out h,eO⟩
  rw[<-aJ.cell g1]at c0 c1;have g1':=dH g1 aJ.size;simp only[arr]at q0 q1;clear bD eO g1 aJ;go_wp2;exact bu (v:=.tuple #[.agg #[.bool qb,.slice qa qn qp],.int .i64 0]) (by simp[results,Tryz.results69,go_sem,r0,r1]) rfl HF.out
 ·have hmd:decide (y.tmod z=0)=false:=by simp[hm]
  have ZR:=ae hm;clear hm c0 c1 g1;obtain⟨⟨q0,q1,f0,f1⟩,⟨r0,r1⟩,bD,eO⟩:=l6 (M':=Mx M w.heap.size (w.heap.size+3)) (w:=w) (.bool false) (.slice none 0 0) (HB.out.ext aJ) (Mx.at (by omega)) (by omega) ((gI.out.trans aS.out).trans aJ)
  have HF:Hid (Y5 M w y z (.returned (.tuple #[.agg #[.bool false,.slice none 0 0],.int .i64 3])) ((w2.setCell ⟨w.heap.size+1+1,0,none⟩ (.bool false)).setCell ⟨w.heap.size+1+1,1,none⟩ (.slice none 0 0))):=
   ⟨_,_,_,_,3,rfl,λh=>absurd h ZR.out,λ_=>⟨rfl,ek.zero _ _⟩,eO⟩
  simp only[arr]at q0 q1;clear bD eO aJ;go_wp2;exact bu (v:=.tuple #[.agg #[.bool false,.slice none 0 0],.int .i64 3]) (by simp[results,Tryz.results69,go_sem,r0,r1]) rfl HF.out
attribute [local go_sem] Oper.semAt_some
section
end
end Go.Proofs.YtmcfpnmoklnhoaaGreat
namespace Go.Proofs.YtmcfpnmoklnhoaaGreat
open Go.RowKit
section
variable{P:Program}{ops:Array Oper}{Q:Exit->Act->World->Prop}{md:Region.Mode}{S:World->Prop}{last:Nat}
def zW(P:Program)(md:Region.Mode)(ops:Array Oper)(Q:Exit->Act->World->Prop)(S:World->Prop)(last:Nat):Nat->Array Bool->Act->World->Prop
 |0,listed,a,w=>Region.ready md ops listed=[]/\Q .normal a w
 |fuel+1,listed,a,w=>
  (Region.ready md ops listed=[]->Q .normal a w)/\
  ∀i∈Region.ready md ops listed,wpOp P ops Q i (λa' w'=>(i≠last->listed.getD last true=false->S w')/\zW P md ops Q S last fuel (listed.setIfInBounds i true) a' w') a w
theorem qq0:∀(fuel:Nat)(listed:Array Bool)(a:Act)(w:World),zW P md ops Q S last fuel listed a w->wpAny P md ops Q fuel listed a w
 |0,_,_,_,h=>h
 |fuel+1,_,_,_,h=>⟨h.1,λi hi=>wpOp_mono (λa' w' h'=>qq0 fuel _ a' w' h'.2) (h.2 i hi)⟩
theorem qqY{i:Nat}{oi:Oper}{v:Value}{S':World->Prop}(hi:ops[i]?=some oi)(Iu:∀(j:Nat)(o:Oper) cs b,ops[j]?=some o->o.op≠ .select cs b)
 (hQ:∀c a w,Q (.panic c) (a.put oi.dst v) w->Q (.panic c) a w) (WN:i≠last) (hw:(∀w,S' w)\/((∀w,S w->S' w)/\waits md ops last i=true)):
 ∀(fuel:Nat)(listed:Array Bool)(a:Act)(w:World),
  (∀j oj,ops[j]?=some oj->j≠i->listed.getD j true=false->(∀e∈oj.after,Region.binds md e=true->e.on≠i)->oi.apart ops oj=true)->
  i∈Region.ready md ops listed->YieldsIf P ops S' oi v a->((∀w,S' w)\/listed.getD last true=false)->(listed.getD last true=false->S w)->
  zW P md ops Q S last fuel (listed.setIfInBounds i true) (a.put oi.dst v) w->zW P md ops Q S last (fuel+1) listed a w:=by
 intro fuel
 induction fuel with
 |zero=>
  intro listed a w _ hr hy hno hS H;have Q7:S' w:=hw.elim (λh=>h w) (λh=>hno.elim (λk=>k w) (λk=>h.1 w (hS k)));refine⟨λh=>(by rw[h]at hr;cases hr),λj hj=>?_⟩
  by_cases lu:j=i
  ·subst lu;exact hy.wpOp hi Q7 ⟨λ_ hl=>hS hl,H⟩
  ·have:=ready_mono hj lu;rw[H.1]at this;cases this
 |succ fuel ih=>
  intro listed a w H9 hr hy hno hS H;have Q7:S' w:=hw.elim (λh=>h w) (λh=>hno.elim (λk=>k w) (λk=>h.1 w (hS k)));refine⟨λh=>(by rw[h]at hr;cases hr),λj hj=>?_⟩
  by_cases lu:j=i
  ·subst lu;exact hy.wpOp hi Q7 ⟨λ_ hl=>hS hl,H⟩
  ·have h1:=H.2 j (ready_mono hj lu);obtain⟨Ic,oj,Bu,qE⟩:=mem_ready.1 hj
   have RL:∀e∈oj.after,Region.binds md e=true->e.on≠i:=λe he hb heq=>by
    have h1:=qE e he hb;have h0:=(mem_ready.1 hr).1;rw[heq]at h1;rcases Nat.lt_or_ge i listed.size with h'|h'
    ·simp[h']at h0 h1;rw[h0]at h1;cases h1
    ·simp[Array.getElem?_eq_none h']at h1
   have h2:=wpOp_putIf Bu (H9 j oj Bu lu Ic RL) (λcs b=>Iu i oi cs b hi) (λcs b=>Iu j oj cs b Bu) hQ hy h1
   have Rm:∀k ok,ops[k]?=some ok->k≠i->(listed.setIfInBounds j true).getD k true=false->
    (∀e∈ok.after,Region.binds md e=true->e.on≠i)->oi.apart ops ok=true:=λk ok hk Ry BC hno=>by
    refine H9 k ok hk Ry ?_ hno
    by_cases qJ:j=k
    ·subst qJ;exact Ic
    ·rw[getD_set_ne true qJ]at BC;exact BC
   refine wpOp_mono (λa' w' h3=>⟨λwQ hl=>h3.2.1 wQ (by rw[getD_set_ne true WN];exact hl),ih (listed.setIfInBounds j true) a' w' Rm (ready_mono hr (Ne.symm lu)) h3.1 ?_ ?_ ?_⟩) h2
   ·rcases hno with h|h
    ·exact .inl h
    ·rcases hw with k|⟨_,k⟩
     ·exact .inl k
     ·refine .inr ?_;have wQ:j≠last:=λe=>qoQ k hr (e ▸ hj);rw[getD_set_ne true wQ];exact h
   ·intro hl
    by_cases wQ:j=last
    ·exfalso;subst wQ;rcases Nat.lt_or_ge j listed.size with h'|h'
     ·simp[h']at hl
     ·simp[Array.getElem?_eq_none h']at hl
    ·rw[getD_set_ne true wQ]at hl;exact h3.2.1 wQ (by rw[getD_set_ne true WN];exact hl)
   ·rw[Array.setIfInBounds_comm _ _ lu];exact h3.2.2
theorem qR(i:Nat){oi:Oper}{v:Value}{fuel:Nat}{listed:Array Bool}{a:Act}{w:World}
 (hy:∀w,S w->(execOp a.eval oi).run P w=.ok (.value v) w) (h:zW P md ops Q S last fuel (listed.setIfInBounds i true) (a.put oi.dst v) w)
 (hs:Region.noSelect ops=true:=by kernel_rfl) (hf:Region.free md ops listed i=true:=by kernel_rfl) (hr:(Region.ready md ops listed).contains i=true:=by kernel_rfl) (hl:(waits md ops last i&& !(listed.getD last true)&&i !=last)=true:=by kernel_rfl) (hS:S w:=by first|exact ag|exact hHeld)
 (hi:ops[i]?=some oi:=by simp only[fC,fD,fE];rfl) (hwd:Region.wanted oi (yielded ops a.tmps)=true:=by rfl) (hQ:∀c a w,Q (.panic c) (a.put oi.dst v) w->Q (.panic c) a w:=by exactλ_ _ _ h=>h):zW P md ops Q S last (fuel+1) listed a w:=by
 simp only[Bool.and_eq_true,bne_iff_ne,ne_eq,Bool.not_eq_true']at hl;exact qqY (S':=S) hi (Region.noSelect_spec hs) hQ hl.2 (.inr ⟨λ_ h=>h,hl.1.1⟩) fuel listed a w (Region.free_spec hi hf) (by simpa using hr) (.inl ⟨hwd,hy⟩) (.inr hl.1.2) (λ_=>hS) h
theorem F8(i:Nat){oi:Oper}{v:Value}{fuel:Nat}{listed:Array Bool}{a:Act}{w:World}
 (hy:∀w,(execOp a.eval oi).run P w=.ok (.value v) w) (h:zW P md ops Q S last fuel (listed.setIfInBounds i true) (a.put oi.dst v) w)
 (hs:Region.noSelect ops=true:=by kernel_rfl) (hf:Region.free md ops listed i=true:=by kernel_rfl) (hr:(Region.ready md ops listed).contains i=true:=by kernel_rfl) (hl:(i !=last)=true:=by kernel_rfl) (hS:S w:=by first|exact ag|exact hHeld)
 (hi:ops[i]?=some oi:=by simp only[fC,fD,fE];rfl) (hwd:Region.wanted oi (yielded ops a.tmps)=true:=by rfl) (hQ:∀c a w,Q (.panic c) (a.put oi.dst v) w->Q (.panic c) a w:=by exactλ_ _ _ h=>h):zW P md ops Q S last (fuel+1) listed a w:=
 qqY (S':=λ_=>True) hi (Region.noSelect_spec hs) hQ (by simpa using hl) (.inl λ_=>trivial) fuel listed a w (Region.free_spec hi hf) (by simpa using hr) (.inl ⟨hwd,λw _=>hy w⟩) (.inl λ_=>trivial) (λ_=>hS) h
theorem vX(i:Nat){o:Oper}{fuel:Nat}{listed:Array Bool}{a:Act}{w:World}
 (h:∀K':Act->World->Prop,Shut (∀a w,(i≠last->listed.getD last true=false->S w)->zW P md ops Q S last fuel (listed.setIfInBounds i true) a w->K' a w)->if Region.wanted o (yielded ops a.tmps)=true then Oper.wp P o a w K' Q else K' (a.put o.dst undef) w) (hr:Region.ready md ops listed=[i]:=by kernel_rfl) (ho:ops[i]?=some o:=by simp only[fC,fD,fE];rfl):zW P md ops Q S last (fuel+1) listed a w:=by
 refine⟨λh0=>(by rw[h0]at hr;cases hr),λj hj=>?_⟩;rw[hr]at hj;simp only[List.mem_singleton]at hj;subst hj;exact wpOp_step ho λK' hK=>h K' λa w h1 h2=>hK a w ⟨h1,h2⟩
theorem TP{listed:Array Bool}{a:Act}{w:World}{fuel:Nat}(h:Q .normal a w)(hr:Region.ready md ops listed=[]:=by kernel_rfl):
 zW P md ops Q S last fuel listed a w:=by
 cases fuel with
 |zero=>exact⟨hr,h⟩
 |succ _=>exact⟨λ_=>h,by rw[hr];simp⟩
theorem TV(S:World->Prop)(last:Nat){id:Nat}{a:Act}{w:World}(hm:P.follows .mixedOrders=true)(hS:S w.drew)
 (h:S w.drew->zW P .any ops Q S last ops.size (Array.replicate ops.size false) a w.drew):(Code.region id ops true).wp P Q a w:=
 wp_region_any hm (qq0 _ _ _ _ (h hS))
end
end Go.Proofs.YtmcfpnmoklnhoaaGreat
