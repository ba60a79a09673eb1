/- Ne -/
import Derived.Test.YtmcfpnmoklnhoaaGreatMp
import Derived.Test.YtmcfpnmoklnhoaaGreatNb
set_option linter.unusedVariables false
set_option maxRecDepth 100000
set_option maxHeartbeats 400000000
set_option linter.unusedSimpArgs false
namespace Go.Proofs.YtmcfpnmoklnhoaaGreat
open Go.RowKit
section
variable{F:Fence}{n:Nat}{P:Program}{α:Type}
def vX(D:Nat)(r:Loop)(W:World):Prop:=W.heap[D+1]?=some (.loop r)/\W.heap[D]?=some (.deferred (some []))
theorem vX.lt{D:Nat}{r:Loop}{W:World}(h:vX D r W):D+1<W.heap.size:=(Array.getElem?_eq_some_iff.1 h.1).1
theorem vX.put{D:Nat}{r:Loop}{W:World}(h:vX D r W)(s:Loop):vX D s (W.putObj (D+1) (.loop s)):=⟨World.putObj_heap_same h.lt,(World.putObj_heap_other (by omega)).trans h.2⟩
end
theorem qn6(b:Bool)(x:Nat):bP (!b) x= -bP b x:=by
 unfold bP;cases b<;>simp
theorem qvY{M:Nat->Prop}(b:Bool)(a:Option Addr)(n p:Nat)(z:Int)(w:World)(hM:Mb M w)(h:dB M w (.bool b) (.slice a n p) z):
 Calls Tryz.prog 139 #[.agg #[.bool b,.slice a n p]] w λe w'=>∃(b2:Bool)(a2:Option Addr)(n2 p2:Nat),e=.returned (.agg #[.bool b2,.slice a2 n2 p2])/\dJ M w' (.bool b2) (.slice a2 n2 p2) (-z)/\Ext w w':=by
 have aQ:Ext w ((w.alloc (.cells #[.bool b,.slice a n p] 30)).alloc (.cells zI 30)):=((Ext.refl w).alloc _).alloc _;have bM:=ak.bf (w.alloc (.cells #[.bool b,.slice a n p] 30)) zI 30 2 rfl;simp only[World.size_alloc]at bM;have dw:Mb (Mx M w.heap.size (w.heap.size+2)) ((w.alloc (.cells #[.bool b,.slice a n p] 30)).alloc (.cells zI 30)):=Mx.mb hM (by simp;omega) (by simp);obtain⟨nb,x,hb,hx,rfl⟩:=(h.more (M':=Mx M w.heap.size (w.heap.size+2)) (Mx.more (Nat.le_refl _))).ext aQ;simp only[Value.bool.injEq]at hb;subst hb;have aO:=Lib.hid (Mv (!b) _ x _ dw hx);rw[qn6]at aO;have HB:=Lib.hid bM;have HE:=Lib.hid aQ;clear aQ bM dw h hM hx
 go_enter Tryz.func139,Tryz.ntmps139
 go_wp2_with (fail);refine aO.out.mono ?_;rintro e w1 ⟨d0,d1,rfl,hc,af⟩;obtain⟨kb,ka,kn,kp,rfl,rfl⟩:=hc.form;obtain⟨⟨q0,q1,f0,f1⟩,⟨r0,r1⟩,aZ,dM⟩:=nL (M':=Mx M w.heap.size (w.heap.size+2)) (w:=w) (.bool kb) (.slice ka kn kp) (HB.out.ext af) (Mx.at (by omega)) (by omega) (HE.out.trans af)
 have HF:Hid (∃(b2:Bool)(a2:Option Addr)(n2 p2:Nat),Ending.returned (.agg #[.bool kb,.slice ka kn kp])=.returned (.agg #[.bool b2,.slice a2 n2 p2])/\dJ M ((w1.setCell ⟨w.heap.size+1,0,none⟩ (.bool kb)).setCell ⟨w.heap.size+1,1,none⟩ (.slice ka kn kp)) (.bool b2) (.slice a2 n2 p2) (-bP b x)/\Ext w ((w1.setCell ⟨w.heap.size+1,0,none⟩ (.bool kb)).setCell ⟨w.heap.size+1,1,none⟩ (.slice ka kn kp))):=
  ⟨_,_,_,_,rfl,(hc.kp aZ).more Mx.less,dM⟩
 simp only[arr]at q0 q1;clear aO hc af aZ dM;go_wp2;exact bodyPost_ret (v:=.agg #[.bool kb,.slice ka kn kp]) (by simp[results,Tryz.results139,go_sem,r0,r1]) rfl HF.out
def Xc(M:Nat->Prop)(w:World)(y z:Int)(e:Ending)(w':World):Prop:=∃(b:Bool)(a:Option Addr)(n p:Nat)(er:Int),e=.returned (.tuple #[.agg #[.bool b,.slice a n p],.int .i64 er])/\
 (y.tmod z=0->er=0/\dJ M w' (.bool b) (.slice a n p) (y.tdiv z))/\(y.tmod z≠0->er=3/\dJ M w' (.bool b) (.slice a n p) 0)/\Ext w w'
theorem qst{M:Nat->Prop}(b:Bool)(a:Option Addr)(n p:Nat)(y:Int)(b':Bool)(a':Option Addr)(n' p':Nat)(z:Int)(w:World)(hM:Mb M w)(h:dB M w (.bool b) (.slice a n p) y)(h':dB M w (.bool b') (.slice a' n' p') z)(hz:z≠0)(hL:az y.natAbs+1<=1099511627776):
 Calls Tryz.prog 69 #[.agg #[.bool b,.slice a n p],.agg #[.bool b',.slice a' n' p']] w (Xc M w y z):=by
 have bO:=((ak.bf w #[.bool b,.slice a n p] 30 2 rfl).alloc (.cells #[.bool b',.slice a' n' p'] 30)).alloc (.cells zI 30);have bM:=(ak.bf (w.alloc (.cells #[.bool b,.slice a n p] 30)) #[.bool b',.slice a' n' p'] 30 2 rfl).alloc (.cells zI 30);have cZ:=ak.bf ((w.alloc (.cells #[.bool b,.slice a n p] 30)).alloc (.cells #[.bool b',.slice a' n' p'] 30)) zI 30 2 rfl;have aQ:Ext w (((w.alloc (.cells #[.bool b,.slice a n p] 30)).alloc (.cells #[.bool b',.slice a' n' p'] 30)).alloc (.cells zI 30)):=(((Ext.refl w).alloc _).alloc _).alloc _;simp only[World.size_alloc]at bM cZ;have dw:Mb (Mx M w.heap.size (w.heap.size+3)) (((w.alloc (.cells #[.bool b,.slice a n p] 30)).alloc (.cells #[.bool b',.slice a' n' p'] 30)).alloc (.cells zI 30)):=Mx.mb hM (by simp;omega) (by simp);have h0:=(h.more (M':=Mx M w.heap.size (w.heap.size+3)) (Mx.more (Nat.le_refl _))).ext aQ;have zh:=(h'.more (M':=Mx M w.heap.size (w.heap.size+3)) (Mx.more (Nat.le_refl _))).ext aQ;generalize xX:((w.alloc (.cells #[.bool b,.slice a n p] 30)).alloc (.cells #[.bool b',.slice a' n' p'] 30)).alloc (.cells zI 30)=W0 at*;have Fy:=Lib.hid xX;have fH:=Lib.hid cZ;have gB:=Lib.hid aQ;have AZ:=Lib.hid dw;have c0:=bO.cell (i:=0) (by omega);have c1:=bO.cell (i:=1) (by omega);have c2:=bM.cell (i:=0) (by omega);have c3:=bM.cell (i:=1) (by omega);simp only[arr]at c0 c1 c2 c3;have g0:=bO.lt;have g1:=bM.lt;have aO:=Lib.hid (qhK b a n p y b' a' n' p' z W0 dw h0 zh hz hL)
 clear h h' hM xX bO bM cZ aQ dw h0 zh hz hL
 go_enter Tryz.func69,Tryz.ntmps69
 go_upto_region 1 with(fail)
 rw[Fy.out];go_wp2_with (fail);refine aO.out.mono ?_;rintro e w1 ⟨qb,qa,qn,qp,rb,ra,rn,rp,rfl,hq,hr,af⟩;clear aO c0 c1 c2 c3 g0 g1
 go_upto_region 2 with(fail)
 have zw:=(ak.bf w1 #[.bool qb,.slice qa qn qp] 30 2 rfl).alloc (.cells #[.bool rb,.slice ra rn rp] 30);have BL:=ak.bf (w1.alloc (.cells #[.bool qb,.slice qa qn qp] 30)) #[.bool rb,.slice ra rn rp] 30 2 rfl;have fZ:Ext w1 ((w1.alloc (.cells #[.bool qb,.slice qa qn qp] 30)).alloc (.cells #[.bool rb,.slice ra rn rp] 30)):=((Ext.refl _).alloc _).alloc _;simp only[World.size_alloc]at BL;have hq2:=hq.ext fZ;have wR:=hr.ext fZ;have gX:=(fH.out.ext af).ext fZ;have ig:=af.trans fZ
 have Ez:w.heap.size+3<=w1.heap.size:=by have:=(fH.out.ext af).lt;omega
 generalize hG:w1.heap.size=G at*;generalize hW1:(w1.alloc (.cells #[.bool qb,.slice qa qn qp] 30)).alloc (.cells #[.bool rb,.slice ra rn rp] 30)=W1 at*;have c0:=zw.cell (i:=0) (by omega);have c1:=zw.cell (i:=1) (by omega);have c2:=BL.cell (i:=0) (by omega);have c3:=BL.cell (i:=1) (by omega);simp only[arr]at c0 c1 c2 c3;have g1:=zw.lt;have g2:=BL.lt;have HQ:=Lib.hid hq2;have HB:=Lib.hid gX;have aL:=Lib.hid ig;have nH:=Lib.hid (qhJ rb ra rn rp (y.tmod z) W1 wR.eH);have xm:=Lib.hid zw;clear zw BL fZ hq2 wR gX ig hG hW1 hq hr af;go_wp2_with (fail);refine nH.out.mono ?_;rintro e w2 ⟨rfl,aA⟩;clear nH c2 c3 g2
 by_cases hm:y.tmod z=0
 ·have hmd:decide (y.tmod z=0)=true:=by simp[hm]
  have Yb:=Lib.hid hm;clear hm;obtain⟨⟨q0,q1,f0,f1⟩,⟨r0,r1⟩,aZ,dM⟩:=nL (M':=Mx M w.heap.size (w.heap.size+3)) (w:=w) (.bool qb) (.slice qa qn qp) (HB.out.ext aA) (Mx.at (by omega)) (by omega) ((gB.out.trans aL.out).trans aA)
  have HF:Hid (Xc M w y z (.returned (.tuple #[.agg #[.bool qb,.slice qa qn qp],.int .i64 0])) ((w2.setCell ⟨w.heap.size+1+1,0,none⟩ (.bool qb)).setCell ⟨w.heap.size+1+1,1,none⟩ (.slice qa qn qp))):=
   ⟨_,_,_,_,0,rfl,λ_=>⟨rfl,((HQ.out.ext aA).kp aZ).more Mx.less⟩,λh=>absurd Yb.out h,dM⟩
  rw[<-aA.cell g1]at c0 c1;have g1':=Nat.lt_of_lt_of_le g1 aA.size;simp only[arr]at q0 q1;clear aZ dM g1 aA;go_wp2;exact bodyPost_ret (v:=.tuple #[.agg #[.bool qb,.slice qa qn qp],.int .i64 0]) (by simp[results,Tryz.results69,go_sem,r0,r1]) rfl HF.out
 ·have hmd:decide (y.tmod z=0)=false:=by simp[hm]
  have Yb:=Lib.hid hm;clear hm c0 c1 g1;obtain⟨⟨q0,q1,f0,f1⟩,⟨r0,r1⟩,aZ,dM⟩:=nL (M':=Mx M w.heap.size (w.heap.size+3)) (w:=w) (.bool false) (.slice none 0 0) (HB.out.ext aA) (Mx.at (by omega)) (by omega) ((gB.out.trans aL.out).trans aA)
  have HF:Hid (Xc M w y z (.returned (.tuple #[.agg #[.bool false,.slice none 0 0],.int .i64 3])) ((w2.setCell ⟨w.heap.size+1+1,0,none⟩ (.bool false)).setCell ⟨w.heap.size+1+1,1,none⟩ (.slice none 0 0))):=
   ⟨_,_,_,_,3,rfl,λh=>absurd h Yb.out,λ_=>⟨rfl,dJ.zero _ _⟩,dM⟩
  simp only[arr]at q0 q1;clear aZ dM aA;go_wp2;exact bodyPost_ret (v:=.tuple #[.agg #[.bool false,.slice none 0 0],.int .i64 3]) (by simp[results,Tryz.results69,go_sem,r0,r1]) rfl HF.out
attribute [local go_sem] Oper.semAt_some
section
variable{M M':Nat->Prop}{w w':World}{v:Value}{l:List Tm}
theorem Oq.ext(h:Oq M w v l)(he:Ext w w'):Oq M w' v l:=by
 obtain⟨n,z,m,c0,c1,⟨eu,hrow⟩,h1,h2⟩:=h;refine⟨n,z,m,c0,c1,⟨eu,?_⟩,h1,λi hi=>(h2 i hi).ext he⟩;rcases hrow with hrow|⟨b,off,cap,hv,hn,hc,hb,hcell⟩
 ·exact .inl hrow
 ·refine .inr ⟨b,off,cap,hv,hn,hc,⟨Nat.lt_of_lt_of_le hb.1 he.size,λh=>h⟩,λi hi=>?_⟩;rw[he.cell hb.1,he.cell hb.1,he.cell hb.1,he.cell hb.1,he.cell hb.1,he.cell hb.1];exact hcell i hi
end
end Go.Proofs.YtmcfpnmoklnhoaaGreat
namespace Go.Proofs.YtmcfpnmoklnhoaaGreat
open Go.RowKit
section
variable{P:Program}{ops:Array Oper}{Q:Exit->Act->World->Prop}{md:Region.Mode}{S:World->Prop}{last:Nat}
def yD(P:Program)(md:Region.Mode)(ops:Array Oper)(Q:Exit->Act->World->Prop)(S:World->Prop)(last:Nat):Nat->Array Bool->Act->World->Prop
 |0,listed,a,w=>Region.ready md ops listed=[]/\Q .normal a w
 |fuel+1,listed,a,w=>
  (Region.ready md ops listed=[]->Q .normal a w)/\
  ∀i∈Region.ready md ops listed,wpOp P ops Q i (λa' w'=>(i≠last->listed.getD last true=false->S w')/\yD P md ops Q S last fuel (listed.setIfInBounds i true) a' w') a w
theorem qoN:∀(fuel:Nat)(listed:Array Bool)(a:Act)(w:World),yD P md ops Q S last fuel listed a w->wpAny P md ops Q fuel listed a w
 |0,_,_,_,h=>h
 |fuel+1,_,_,_,h=>⟨h.1,λi hi=>wpOp_mono (λa' w' h'=>qoN fuel _ a' w' h'.2) (h.2 i hi)⟩
theorem qoL{i:Nat}{oi:Oper}{v:Value}{S':World->Prop}(hi:ops[i]?=some oi)(GD:∀(j:Nat)(o:Oper) cs b,ops[j]?=some o->o.op≠ .select cs b)
 (hQ:∀c a w,Q (.panic c) (a.put oi.dst v) w->Q (.panic c) a w) (UU:i≠last) (hw:(∀w,S' w)\/((∀w,S w->S' w)/\waits md ops last i=true)):
 ∀(fuel:Nat)(listed:Array Bool)(a:Act)(w:World),
  (∀j oj,ops[j]?=some oj->j≠i->listed.getD j true=false->(∀e∈oj.after,Region.binds md e=true->e.on≠i)->oi.apart ops oj=true)->
  i∈Region.ready md ops listed->YieldsIf P ops S' oi v a->((∀w,S' w)\/listed.getD last true=false)->(listed.getD last true=false->S w)->
  yD P md ops Q S last fuel (listed.setIfInBounds i true) (a.put oi.dst v) w->yD P md ops Q S last (fuel+1) listed a w:=by
 intro fuel
 induction fuel with
 |zero=>
  intro listed a w _ hr hy hno hS H;have Pn:S' w:=hw.elim (λh=>h w) (λh=>hno.elim (λk=>k w) (λk=>h.1 w (hS k)));refine⟨λh=>(by rw[h]at hr;cases hr),λj hj=>?_⟩
  by_cases j5:j=i
  ·subst j5;exact hy.wpOp hi Pn ⟨λ_ hl=>hS hl,H⟩
  ·have:=ready_mono hj j5;rw[H.1]at this;cases this
 |succ fuel ih=>
  intro listed a w Gh hr hy hno hS H;have Pn:S' w:=hw.elim (λh=>h w) (λh=>hno.elim (λk=>k w) (λk=>h.1 w (hS k)));refine⟨λh=>(by rw[h]at hr;cases hr),λj hj=>?_⟩
  by_cases j5:j=i
  ·subst j5;exact hy.wpOp hi Pn ⟨λ_ hl=>hS hl,H⟩
  ·have h1:=H.2 j (ready_mono hj j5);obtain⟨Gj,oj,z8,oG⟩:=mem_ready.1 hj
   have P9:∀e∈oj.after,Region.binds md e=true->e.on≠i:=λe he hb heq=>by
    have h1:=oG e he hb;have h0:=(mem_ready.1 hr).1;rw[heq]at h1;rcases Nat.lt_or_ge i listed.size with h'|h'
    ·simp[h']at h0 h1;rw[h0]at h1;cases h1
    ·simp[Array.getElem?_eq_none h']at h1
   have h2:=wpOp_putIf z8 (Gh j oj z8 j5 Gj P9) (λcs b=>GD i oi cs b hi) (λcs b=>GD j oj cs b z8) hQ hy h1
   have PN:∀k ok,ops[k]?=some ok->k≠i->(listed.setIfInBounds j true).getD k true=false->
    (∀e∈ok.after,Region.binds md e=true->e.on≠i)->oi.apart ops ok=true:=λk ok hk PX Af hno=>by
    refine Gh k ok hk PX ?_ hno
    by_cases pJ:j=k
    ·subst pJ;exact Gj
    ·rw[getD_set_ne true pJ]at Af;exact Af
   refine wpOp_mono (λa' w' h3=>⟨λvG hl=>h3.2.1 vG (by rw[getD_set_ne true UU];exact hl),ih (listed.setIfInBounds j true) a' w' PN (ready_mono hr (Ne.symm j5)) h3.1 ?_ ?_ ?_⟩) h2
   ·rcases hno with h|h
    ·exact .inl h
    ·rcases hw with k|⟨_,k⟩
     ·exact .inl k
     ·refine .inr ?_;have vG:j≠last:=λe=>qmN k hr (e ▸ hj);rw[getD_set_ne true vG];exact h
   ·intro hl
    by_cases vG:j=last
    ·exfalso;subst vG;rcases Nat.lt_or_ge j listed.size with h'|h'
     ·simp[h']at hl
     ·simp[Array.getElem?_eq_none h']at hl
    ·rw[getD_set_ne true vG]at hl;exact h3.2.1 vG (by rw[getD_set_ne true UU];exact hl)
   ·rw[Array.setIfInBounds_comm _ _ j5];exact h3.2.2
theorem pQ(i:Nat){oi:Oper}{v:Value}{fuel:Nat}{listed:Array Bool}{a:Act}{w:World}
 (hy:∀w,S w->(execOp a.eval oi).run P w=.ok (.value v) w) (h:yD P md ops Q S last fuel (listed.setIfInBounds i true) (a.put oi.dst v) w)
 (hs:Region.noSelect ops=true:=by kernel_rfl) (hf:Region.free md ops listed i=true:=by kernel_rfl) (hr:(Region.ready md ops listed).contains i=true:=by kernel_rfl) (hl:(waits md ops last i&& !(listed.getD last true)&&i !=last)=true:=by kernel_rfl) (hS:S w:=by first|exact ag|exact hHeld)
 (hi:ops[i]?=some oi:=by simp only[iL,iM,iN];rfl) (hwd:Region.wanted oi (yielded ops a.tmps)=true:=by rfl) (hQ:∀c a w,Q (.panic c) (a.put oi.dst v) w->Q (.panic c) a w:=by exactλ_ _ _ h=>h):yD P md ops Q S last (fuel+1) listed a w:=by
 simp only[Bool.and_eq_true,bne_iff_ne,ne_eq,Bool.not_eq_true']at hl;exact qoL (S':=S) hi (Region.noSelect_spec hs) hQ hl.2 (.inr ⟨λ_ h=>h,hl.1.1⟩) fuel listed a w (Region.free_spec hi hf) (by simpa using hr) (.inl ⟨hwd,hy⟩) (.inr hl.1.2) (λ_=>hS) h
theorem EW(i:Nat){oi:Oper}{v:Value}{fuel:Nat}{listed:Array Bool}{a:Act}{w:World}
 (hy:∀w,(execOp a.eval oi).run P w=.ok (.value v) w) (h:yD P md ops Q S last fuel (listed.setIfInBounds i true) (a.put oi.dst v) w)
 (hs:Region.noSelect ops=true:=by kernel_rfl) (hf:Region.free md ops listed i=true:=by kernel_rfl) (hr:(Region.ready md ops listed).contains i=true:=by kernel_rfl) (hl:(i !=last)=true:=by kernel_rfl) (hS:S w:=by first|exact ag|exact hHeld)
 (hi:ops[i]?=some oi:=by simp only[iL,iM,iN];rfl) (hwd:Region.wanted oi (yielded ops a.tmps)=true:=by rfl) (hQ:∀c a w,Q (.panic c) (a.put oi.dst v) w->Q (.panic c) a w:=by exactλ_ _ _ h=>h):yD P md ops Q S last (fuel+1) listed a w:=
 qoL (S':=λ_=>True) hi (Region.noSelect_spec hs) hQ (by simpa using hl) (.inl λ_=>trivial) fuel listed a w (Region.free_spec hi hf) (by simpa using hr) (.inl ⟨hwd,λw _=>hy w⟩) (.inl λ_=>trivial) (λ_=>hS) h
theorem uJ(i:Nat){o:Oper}{fuel:Nat}{listed:Array Bool}{a:Act}{w:World}
 (h:∀K':Act->World->Prop,Shut (∀a w,(i≠last->listed.getD last true=false->S w)->yD P md ops Q S last fuel (listed.setIfInBounds i true) a w->K' a w)->if Region.wanted o (yielded ops a.tmps)=true then Oper.wp P o a w K' Q else K' (a.put o.dst undef) w) (hr:Region.ready md ops listed=[i]:=by kernel_rfl) (ho:ops[i]?=some o:=by simp only[iL,iM,iN];rfl):yD P md ops Q S last (fuel+1) listed a w:=by
 refine⟨λh0=>(by rw[h0]at hr;cases hr),λj hj=>?_⟩;rw[hr]at hj;simp only[List.mem_singleton]at hj;subst hj;exact wpOp_step ho λK' hK=>h K' λa w h1 h2=>hK a w ⟨h1,h2⟩
theorem Rs{listed:Array Bool}{a:Act}{w:World}{fuel:Nat}(h:Q .normal a w)(hr:Region.ready md ops listed=[]:=by kernel_rfl):
 yD P md ops Q S last fuel listed a w:=by
 cases fuel with
 |zero=>exact⟨hr,h⟩
 |succ _=>exact⟨λ_=>h,by rw[hr];simp⟩
theorem Rw(S:World->Prop)(last:Nat){id:Nat}{a:Act}{w:World}(hm:P.follows .mixedOrders=true)(hS:S w.drew)
 (h:S w.drew->yD P .any ops Q S last ops.size (Array.replicate ops.size false) a w.drew):(Code.region id ops true).wp P Q a w:=
 wp_region_any hm (qoN _ _ _ _ (h hS))
end
def ZG(MM:Nat->Prop)(base:Nat)(w:World)(v:Value)(n:Nat)(z z':Nat->Int)(m:Nat->Mo)(k:Nat):Prop:=
 ∃X:Nat->TE,Own w base 129 6 v n (tx X)/\(∀i,i<n->dJ MM w (.bool (X i).b) (.slice (X i).a (X i).n (X i).p) (if i<k then z' i else z i)/\(X i).m=m i)
theorem ZG.ext{MM:Nat->Prop}{base:Nat}{w w':World}{g cap n:Nat}{z z':Nat->Int}{m:Nat->Mo}{k:Nat}(h:ZG MM base w (.slice (some ⟨g,0,none⟩) n cap) n z z' m k)(he:Ext w w'):ZG MM base w' (.slice (some ⟨g,0,none⟩) n cap) n z z' m k:=by
 obtain⟨X,hO,hX⟩:=h;exact⟨X,hO.ext he,λi hi=>⟨(hX i hi).1.ext he,(hX i hi).2⟩⟩
end Go.Proofs.YtmcfpnmoklnhoaaGreat
