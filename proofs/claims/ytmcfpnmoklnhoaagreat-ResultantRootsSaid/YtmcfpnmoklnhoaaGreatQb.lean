/- subresultant.quotient, remainder, check. subresultant.remainder. subresultant.check. Regions with calls and two allocs in any order, beside mutable blocks. subresultant.descend where the second polynomial has degree 1. subresultant.Chain where the second polynomial has degree 1 and the first one at least that. subresultant.Psc where the second polynomial has degree 1 and the first one at least that. mainvar.Coef at a level from 1 to 4 and an exponent from 0. cylinderlaw25.fit, the plain facts and the calls. cylinderlaw25.fit: the walk. -/
import Derived.Test.YtmcfpnmoklnhoaaGreatEg
import Derived.Test.YtmcfpnmoklnhoaaGreatBj
set_option linter.unusedVariables false
set_option maxRecDepth 100000
set_option maxHeartbeats 400000000
set_option linter.unusedSimpArgs false

namespace Go.Proofs.YtmcfpnmoklnhoaaGreat
open Go.RowKit

noncomputable def qqe (l r:List Tm):List Tm:=open Classical in if h : ¬ Sim r []/\Dv r l then norm h.2.choose else []
theorem qlR {l r q:List Tm} (hq:NN q) (hr:NN r) (hz : ¬ Sim r []) (h:Sim (pmul q r) l):qqe l r=norm q:=by
 have hd:Dv r l:=⟨q,hq,h⟩;unfold qqe;rw [dif_pos ⟨hz,hd⟩];have hs:=hd.choose_spec;exact (qbt hs.1 hq hr hz (hs.2.trans h.symm)).norm
theorem qhx {l r:List Tm} (h:Sim r [] ∨ ¬ Dv r l):qqe l r = []:=by
 unfold qqe;rw [dif_neg];rintro ⟨h1,h2⟩;exact h.elim h1 fun h=>h h2
def qsY (M:Nat->Prop) (w:World) (q:List Tm) (A:Nat) (e:Ending) (w':World):Prop:=∃ v:PE,e = .returned (.agg (peA v))/\CRx M w' 4 v q/\dlen (nrm q)<=A/\Ext w w'
theorem qn2 {M:Nat->Prop} {w':World} {l r:List Tm} {A:Nat} {v:PE} {er:Int} (hr:NN r) (h:(er=2/\Sim r []/\v=PE.z)∨(er=0 /\ ¬ Sim r [] /\ ∃ q,CRx M w' 4 v q/\Sim (pmul q r) l/\dlen (nrm q)<=A)∨(er=3/\v=PE.z /\ ¬ Sim r [] /\ ¬ Dv r l)):CRx M w' 4 v (qqe l r)/\dlen (nrm (qqe l r))<=A:=by
 rcases h with ⟨_,h1,rfl⟩ | ⟨_,h1,q,h2,h3,h4⟩ | ⟨_,rfl,h1,h2⟩
 ·rw [qhx (.inl h1)];exact ⟨CR.zero _ _ _,Nat.zero_le _⟩
 ·rw [qlR h2.nn hr h1 h3];exact ⟨h2.sim (qam h2.nn).symm,Nat.le_trans (qal (qog q)) h4⟩
 ·rw [qhx (.inr h2)];exact ⟨CR.zero _ _ _,Nat.zero_le _⟩
theorem qa8.qt {M:Nat->Prop} {w w':World} {q:List Tm} {e:Ending} {A:Nat} (h:qa8 M w 4 q e w') (hb:dlen (nrm q)<=A):qsY M w q A e w':=by
 obtain ⟨y,e1,c,x⟩:=h;exact ⟨y,e1,c,hb,x⟩
theorem qqs (w:World) (x:PE):qaZ (w.alloc (.cells (peA x) 33)) w.heap.size 0 x:=by
 have hB:=Blk.of_arr w (peA x) 33 4 rfl;exact ⟨hB.cell (i:=0) (by omega),hB.cell (i:=1) (by omega),hB.cell (i:=2) (by omega),hB.cell (i:=3) (by omega)⟩
theorem qht (M : Nat -> Prop) (l r : List Tm) (x y : PE) (AA : Nat) (w : World) (hM : Mb M w) (h : PI M w x l) (hy : PI M w y r) (hr : NN r) (hC : ∀ (M' : Nat -> Prop) (W : World), Mb M' W -> PI M' W x l -> PI M' W y r -> Calls Tryz.prog 14 #[.agg (peA x), .agg (peA y)] W (qrw M' W l r AA)) :
  Calls Tryz.prog 196 #[.agg (peA x),.agg (peA y)] w (qsY M w (qqe l r) AA):=by
 obtain ⟨hE,⟨x0,x1,x2,x3⟩,⟨y0,y1,y2,y3⟩,hB2,hM2⟩:=qkb hM x y;have h2:=(h.more (M':=Mx M w.heap.size (w.heap.size+3)) (Mx.more (Nat.le_refl _))).ext hE;have hy2:=(hy.more (M':=Mx M w.heap.size (w.heap.size+3)) (Mx.more (Nat.le_refl _))).ext hE;have CT:=Lib.hid (hC _ _ hM2 h2 hy2);have HQ:Hid (NN r):=hr;have HB:=Lib.hid hB2;have HE:=Lib.hid hE;clear h2 hy2 h hy hr hC hM2 hB2 hE hM
 go_enter Tryz.func196,Tryz.ntmps196
 go_wp2_with (fail);refine CT.out.mono ?_;rintro e w1 ⟨v,er,rfl,hc,he1⟩;obtain ⟨hq,hqd⟩:=qn2 HQ.out hc;have hEA:=(Ext.refl w1).alloc (.cells (peA v) 33);obtain ⟨b0,b1,b2,b3⟩:=qqs w1 v;have hq2:=hq.ext hEA;have HQD:=Lib.hid hqd;have HX1:=Lib.hid (he1.trans hEA);generalize hW2:w1.alloc (.cells (peA v) 33)=W2 at *;have HW2:=Lib.hid hW2;clear CT hc he1 hq hqd hEA hW2 x0 x1 x2 x3 y0 y1 y2 y3
 go_upto_region 2 with (fail)
 rw [HW2.out];generalize w1.heap.size=g1 at *;clear HW2;obtain ⟨⟨q0,q1,q2,q3⟩,⟨f0,f1,f2,f3⟩,⟨r0,r1,r2,r3⟩,HF⟩:=qbR (M:=M) (w:=w) (HB.out.ext HX1.out) (Mx.at (by omega)) (by omega) (HE.out.trans HX1.out) hq2 Mx.sub;have HR:=Lib.hid (qa8.qt HF.out HQD.out);clear HF hq2;go_wp2;exact bodyPost_ret (v:=.agg (peA v)) (by simp [results,Tryz.results196,go_sem,r0,r1,r2,r3]) rfl HR.out


theorem DgR.neg {L n:Nat} {l:List Tm} (h:DgR L (qbz l) n):DgR L l n:=
 ⟨fun m hm=>h.1 m (by rw [qaL];omega),h.2.imp id fun ⟨m,h1,h2⟩=>⟨m,by rw [qaL] at h1;omega,h2⟩⟩
def qsX (M:Nat->Prop) (w:World) (f g:List Tm) (J:Nat) (e:Ending) (w':World):Prop:=∃ (y:PE) (n V:Nat),e = .returned (.agg (peA y))/\DgR J g n/\StR J f n V/\CRx M w' 4 y (qdv J n V f (qbz g))/\Ext w w'
def SBr (g:Nat) (x y:PE) (w:World):Prop:=P4 w g x/\P4 w (g+1) y
theorem SBr.ext {g:Nat} {x y:PE} {w w':World} (h:SBr g x y w) (he:Ext w w'):SBr g x y w':=⟨h.1.ext he,h.2.ext he⟩
theorem qmb (w:World):Ext w (w.alloc (.cells zA 33))/\Blk (w.alloc (.cells zA 33)) w.heap.size 33 4 (arr zA):=⟨(Ext.refl _).alloc _,Blk.of_arr w zA 33 4 rfl⟩
theorem qrp {w:World} {g:Nat} {t:TypeId} {f:Nat->Value} (h:Blk w g t 4 f) (x:PE):Blk (set4 w g 0 (.int .i64 x.lv) (.bool x.b) (.slice x.a x.n x.p) (.slice x.ka x.kn x.kp)) g t 4 (arr (peA x)):=
 (h.set4 0 (.int .i64 x.lv) (.bool x.b) (.slice x.a x.n x.p) (.slice x.ka x.kn x.kp)).congr fun i hi=>match i,hi with
  | 0,_=>qdF f 0 _ _ _ _
  | 1,_=>qdE f 0 _ _ _ _
  | 2,_=>qdD f 0 _ _ _ _
  | 3,_=>qdC f 0 _ _ _ _
theorem qgh (T : Nat) (M : Nat -> Prop) (f g : List Tm) (x y : PE) (J B C A D : Nat) (w : World) (h1 : 1 <= J) (h4 : J <= 4) (hM : Mb M w) (h : PI M w x f) (k : PI M w y g) (nf : NN f) (ng : NN g) (hz : ¬ Sim g []) (hB : Deg B f) (hC : Deg C g) (hC2 : C + 1 <= 1099511627776) (hA : dlen (nrm f) <= A) (hD : dlen (nrm g) <= D) (hD2 : D + 1 <= 1099511627776) (hN : DvM T B C A D) (hT : ∀ n V : Nat, DgR J g n -> StR J f n V -> V <= T) :
  Calls Tryz.prog 195 #[.agg (peA x),.agg (peA y),.int .i64 (J:Int)] w (qsX M w f g J):=by
 obtain ⟨hE,hX,hY,hBz,hM2⟩:=qkb hM x y;have h2:=(h.more (M':=Mx M w.heap.size (w.heap.size+3)) (Mx.more (Nat.le_refl _))).ext hE;have k2:=(k.more (M':=Mx M w.heap.size (w.heap.size+3)) (Mx.more (Nat.le_refl _))).ext hE;have hMg:Mx M w.heap.size (w.heap.size+3) (w.heap.size+2):=Mx.at (by omega);have hMs : ∀ b,M b->Mx M w.heap.size (w.heap.size+3) b:=Mx.sub;generalize hW:((w.alloc (.cells (peA x) 33)).alloc (.cells (peA y) 33)).alloc (.cells zA 33)=W at *;generalize Mx M w.heap.size (w.heap.size+3)=M' at *;have CN:Hid (∀ (Mk:Nat->Prop) (wk:World),Ext W wk->Mb Mk wk->(∀ b,Mk b->M' b∨W.heap.size<=b)->Calls Tryz.prog 116 #[.agg (peA y)] wk (qa8 Mk wk 4 (qbz g))):=fun Mk wk he hm hs=>qji Mk y g C wk hm ((k2.more hs).ext he) (by omega) hC hC2
 have CR:Hid (∀ (Mk:Nat->Prop) (wk:World) (u:PE),Ext W wk->Mb Mk wk->(∀ b,Mk b->M' b∨W.heap.size<=b)->CRx Mk wk 4 u (qbz g)->Calls Tryz.prog 206 #[.agg (peA x),.agg (peA u),.int .i64 (J:Int)] wk fun e w'=>∃ (y:PE) (er:Int) (n V:Nat),e = .returned (.tuple #[.agg (peA y),.int .i64 er])/\CRx Mk w' 4 y (qdv J n V f (qbz g))/\DgR J g n/\StR J f n V/\Ext wk w'):=fun Mk wk u he hm hs hu=>by
  refine (qqg T Mk x u f (qbz g) (J:Int) B C A D wk hm ((h2.more hs).ext he) hu.pi nf (qdw ng) hB (qdQ hC) hA (by rw [qdP];exact hD) hN fun J' n V e hd hs=>by (obtain rfl:J=J':=by omega);exact hT n V hd.neg hs).mono ?_;rintro e w' ⟨y',er,rfl,hr,he'⟩;rcases hr with ⟨h5,_⟩ | ⟨_,h5,_⟩ | ⟨J',n,V,e1,_,_,_,hd,hs',_,hc⟩
  ·exact absurd ⟨by omega,by omega⟩ h5
  ·exact absurd (fun m=>by have:=h5 m;rw [qaL] at this;simp only [qab] at this ⊢;omega) hz
  ·have:J'=J:=by omega
   subst this;exact ⟨y',er,n,V,rfl,hc,hd.neg,hs',he'⟩
 have HS:Hid (SBr w.heap.size x y W):=⟨hX,hY⟩;have HBZ:=Lib.hid hBz;have HE:=Lib.hid hE;have HM2:=Lib.hid hM2;have HMG:=Lib.hid hMg;have HMS:=Lib.hid hMs;have HW:=Lib.hid hW;clear hE hX hY hBz hM2 h2 k2 hMg hMs hW hM h k nf ng hz hB hC hC2 hA hD hD2 hN hT h1 h4
 go_enter Tryz.func195,Tryz.ntmps195
 go_upto_region 1 with (fail)
 rw [HW.out];obtain ⟨gz,hgz⟩ : ∃ q,q=w.heap.size:=⟨_,rfl⟩;have HGZ:=Lib.hid hgz;rw [<- hgz] at HS HBZ HMG ⊢;clear hgz HW;have hS:SBr gz x y W.drew:=HS.out.ext (Ext.refl W).drew;have hD0:=(Ext.refl W).drew;have HMB:Hid (Mb M' W.drew):=HM2.out.ext hD0;have HSUB:Hid (∀ b,M' b->M' b∨W.heap.size<=b):=fun b h=>.inl h;refine qad (SBr gz x y) 10 (by kernel_rfl) hS (fun hHeld=>?_);clear hS;generalize W.drew=wd at *;have HD0:=Lib.hid hD0;clear hD0;(refine tkB [0,1,3] ?_;(iterate 3 (refine tk1 (oi:=?_) (v:=?_) (by kernel_rfl) (by first | exact hSn | exact hHeld) ?_ ?_ ?_ ?_ ?_;rotate_left 2;(simp only [xgA,xgB,xgC];rfl);rfl;(intro wS hSw;obtain ⟨⟨A0,A1,A2,A3⟩,B0,B1,B2,B3⟩:=hSw;go_simp;try with_reducible rfl);(exact fun _ _ _ h=>h);(try simp only [Act.put,xgD,xgE,xgF])));refine tkE ?_);(refine qau 2 8 (oi:=?_) (oj:=?_) (by kernel_rfl) ?_ ?_ ?_ ?_;rotate_left 2;(simp only [xgA,xgB,xgC];rfl);(simp only [xgA,xgB,xgC];rfl);all_goals intro K hK)
 focus
  go_simp;refine (CN.out M' wd HD0.out HMB.out HSUB.out).mono ?_;rintro e v1 ⟨u,rfl,hu,d1⟩;go_wp2_with (fail)
  try clear hSn
  have hSn:=hHeld.ext (d1);refine hK.out _ _ (fun _=>hSn) ?_;clear hK K;(try simp only [Act.put,xgD,xgE,xgF]);(refine qau 4 8 (oi:=?_) (oj:=?_) (by kernel_rfl) ?_ ?_ ?_ ?_;rotate_left 2;(simp only [xgA,xgB,xgC];rfl);(simp only [xgA,xgB,xgC];rfl);all_goals intro K hK)
  focus
   go_simp;refine (CR.out M' v1 u (HD0.out.trans d1) (HMB.out.ext d1) HSUB.out hu).mono ?_;rintro e v2 ⟨z,er,n,V,rfl,hz,hdg,hst,d2⟩;go_wp2_with (fail)
   try clear hSn
   have hSn:=hHeld.ext (d1.trans d2);refine hK.out _ _ (fun _=>hSn) ?_;clear hK K;(try simp only [Act.put,xgD,xgE,xgF]);(refine tkB [5,6,7] ?_;(iterate 3 (refine tk1 (oi:=?_) (v:=?_) (by kernel_rfl) (by first | exact hSn | exact hHeld) ?_ ?_ ?_ ?_ ?_;rotate_left 2;(simp only [xgA,xgB,xgC];rfl);rfl;(intro wS hSw;obtain ⟨⟨A0,A1,A2,A3⟩,B0,B1,B2,B3⟩:=hSw;go_simp;try with_reducible rfl);(exact fun _ _ _ h=>h);(try simp only [Act.put,xgD,xgE,xgF])));refine tkE ?_);(refine qaa 8 (o:=?_) (by kernel_rfl) ?_ ?_;rotate_left 1;(simp only [xgA,xgB,xgC];rfl);intro K hK);go_simp;obtain ⟨dA,hBq⟩:=qmb v2
   try clear hSn
   have hSn:=hHeld.ext ((d1.trans d2).trans dA);refine hK.out _ _ (fun _=>hSn) ?_;clear hK K;(try simp only [Act.put,xgD,xgE,xgF]);have hql:=(d1.trans d2).size;have hqg:v2.heap.size<(v2.alloc (.cells zA 33)).heap.size:=hBq.lt;generalize v2.alloc (.cells zA 33)=vF at *;have hzq:CRx (fun b=>M' b∨b=v2.heap.size) vF 4 z (qdv J n V f (qbz g)):=(hz.more (fun b hb=>hb.imp id fun h=>by omega)).ext dA;have EF:=(d1.trans d2).trans dA;generalize v2.heap.size=gq at *;clear hz hu d1 d2 dA hqg
  rotate_left
  focus
   go_simp;obtain ⟨dA,hBq⟩:=qmb v1
   try clear hSn
   have hSn:=hHeld.ext ((d1).trans dA);refine hK.out _ _ (fun _=>hSn) ?_;clear hK K;(try simp only [Act.put,xgD,xgE,xgF]);have hql:=(d1).size;have hqg:v1.heap.size<(v1.alloc (.cells zA 33)).heap.size:=hBq.lt;generalize v1.alloc (.cells zA 33)=v2 at *
   have hMq:Mb (fun b=>M' b∨b=v1.heap.size) v2:=fun b hb=>hb.elim (fun h=>((HMB.out.ext d1).ext dA) b h) fun h=>by rw [h];exact hqg
   replace hu:CRx (fun b=>M' b∨b=v1.heap.size) v2 4 u (qbz g):=(hu.more (fun b hb=>hb.imp id fun h=>by omega)).ext dA
   have hsq : ∀ b,(M' b∨b=v1.heap.size)->M' b∨W.heap.size<=b:=fun b hb=>hb.imp id fun h=>by have:=HD0.out.size;omega
   generalize v1.heap.size=gq at *;(refine qaa 4 (o:=?_) (by kernel_rfl) ?_ ?_;rotate_left 1;(simp only [xgA,xgB,xgC];rfl);intro K hK);go_simp;refine (CR.out (fun b=>M' b∨b=gq) v2 u ((HD0.out.trans d1).trans dA) hMq hsq hu).mono ?_;rintro e vF ⟨z,er,n,V,rfl,hz,hdg,hst,d2⟩;go_wp2_with (fail)
   try clear hSn
   have hSn:=hHeld.ext ((d1.trans dA).trans d2);refine hK.out _ _ (fun _=>hSn) ?_;clear hK K;(try simp only [Act.put,xgD,xgE,xgF]);(refine tkB [5,6,7] ?_;(iterate 3 (refine tk1 (oi:=?_) (v:=?_) (by kernel_rfl) (by first | exact hSn | exact hHeld) ?_ ?_ ?_ ?_ ?_;rotate_left 2;(simp only [xgA,xgB,xgC];rfl);rfl;(intro wS hSw;obtain ⟨⟨A0,A1,A2,A3⟩,B0,B1,B2,B3⟩:=hSw;go_simp;try with_reducible rfl);(exact fun _ _ _ h=>h);(try simp only [Act.put,xgD,xgE,xgF])));refine tkE ?_);have hzq:=hz;have EF:=(d1.trans dA).trans d2;replace hBq:=hBq.ext d2;clear hz hu d1 d2 dA hqg hMq hsq
 rotate_left
 rotate_left
 focus
  go_simp;obtain ⟨dA,hBq⟩:=qmb wd
  try clear hSn
  have hSn:=hHeld.ext (((Ext.refl wd)).trans dA);refine hK.out _ _ (fun _=>hSn) ?_;clear hK K;(try simp only [Act.put,xgD,xgE,xgF]);have hql:=((Ext.refl wd)).size;have hqg:wd.heap.size<(wd.alloc (.cells zA 33)).heap.size:=hBq.lt;generalize wd.alloc (.cells zA 33)=v0 at *
  have hMq:Mb (fun b=>M' b∨b=wd.heap.size) v0:=fun b hb=>hb.elim (fun h=>(HMB.out.ext dA) b h) fun h=>by rw [h];exact hqg
  have hsq : ∀ b,(M' b∨b=wd.heap.size)->M' b∨W.heap.size<=b:=fun b hb=>hb.imp id fun h=>by have:=HD0.out.size;omega
  obtain ⟨gq,hgq⟩ : ∃ q,q=wd.heap.size:=⟨_,rfl⟩;rw [<- hgq] at hMq hsq hBq hqg ⊢
  replace hql:wd.heap.size<=gq:=by omega
  clear hgq;(refine qaa 2 (o:=?_) (by kernel_rfl) ?_ ?_;rotate_left 1;(simp only [xgA,xgB,xgC];rfl);intro K hK);go_simp;refine (CN.out (fun b=>M' b∨b=gq) v0 (HD0.out.trans dA) hMq hsq).mono ?_;rintro e v1 ⟨u,rfl,hu,d1⟩;go_wp2_with (fail)
  try clear hSn
  have hSn:=hHeld.ext (dA.trans d1);refine hK.out _ _ (fun _=>hSn) ?_;clear hK K;(try simp only [Act.put,xgD,xgE,xgF]);(refine qaa 4 (o:=?_) (by kernel_rfl) ?_ ?_;rotate_left 1;(simp only [xgA,xgB,xgC];rfl);intro K hK);go_simp;refine (CR.out (fun b=>M' b∨b=gq) v1 u ((HD0.out.trans dA).trans d1) (hMq.ext d1) hsq hu).mono ?_;rintro e vF ⟨z,er,n,V,rfl,hz,hdg,hst,d2⟩;go_wp2_with (fail)
  try clear hSn
  have hSn:=hHeld.ext ((dA.trans d1).trans d2);refine hK.out _ _ (fun _=>hSn) ?_;clear hK K;(try simp only [Act.put,xgD,xgE,xgF]);(refine tkB [5,6,7] ?_;(iterate 3 (refine tk1 (oi:=?_) (v:=?_) (by kernel_rfl) (by first | exact hSn | exact hHeld) ?_ ?_ ?_ ?_ ?_;rotate_left 2;(simp only [xgA,xgB,xgC];rfl);rfl;(intro wS hSw;obtain ⟨⟨A0,A1,A2,A3⟩,B0,B1,B2,B3⟩:=hSw;go_simp;try with_reducible rfl);(exact fun _ _ _ h=>h);(try simp only [Act.put,xgD,xgE,xgF])));refine tkE ?_);have hzq:=hz;have EF:=(dA.trans d1).trans d2;replace hBq:=(hBq.ext d1).ext d2;clear hz hu d1 d2 dA hqg hMq hsq
 all_goals
  have HBK:Hid (Blk vF (gz+2) 33 4 (arr zA)):=HBZ.out.ext (HD0.out.trans EF);have hB1:=qrp hBq z;have hkp:Kp (fun b=>M' b∨b=gq) vF (set4 vF gq 0 (.int .i64 z.lv) (.bool z.b) (.slice z.a z.n z.p) (.slice z.ka z.kn z.kp)):=Kp.set4 (.inr rfl) _ _ _ _ _
  have hle:wd.heap.size<=gq:=by omega
  have hEd:=EF.set4 hle 0 (.int .i64 z.lv) (.bool z.b) (.slice z.a z.n z.p) (.slice z.ka z.kn z.kp);have hz1:=hzq.kp hkp;obtain ⟨q0,q1,q2,q3⟩:vF.cell? ⟨gq,0,none⟩=some (.int .i64 0)/\vF.cell? ⟨gq,1,none⟩=some (.bool false)/\vF.cell? ⟨gq,2,none⟩=some (.slice none 0 0)/\vF.cell? ⟨gq,3,none⟩=some (.slice none 0 0):=⟨hBq.cell (i:=0) (by omega),hBq.cell (i:=1) (by omega),hBq.cell (i:=2) (by omega),hBq.cell (i:=3) (by omega)⟩;obtain ⟨f0,f1,f2,f3⟩:vF.frozen? ⟨gq,0,none⟩=false/\vF.frozen? ⟨gq,1,none⟩=false/\vF.frozen? ⟨gq,2,none⟩=false/\vF.frozen? ⟨gq,3,none⟩=false:=⟨hBq.frozen 0,hBq.frozen 1,hBq.frozen 2,hBq.frozen 3⟩;obtain ⟨W1,hW1⟩ : ∃ W1,W1=set4 vF gq 0 (.int .i64 z.lv) (.bool z.b) (.slice z.a z.n z.p) (.slice z.ka z.kn z.kp):=⟨_,rfl⟩;rw [<- hW1] at hB1 hkp hEd hz1;unfold set4 at hW1;have hSn1:=hHeld.ext hEd
  try clear hSn
  (refine qaa 9 (o:=?_) (by kernel_rfl) ?_ ?_;rotate_left 1;(simp only [xgA,xgB,xgC];rfl);intro K hK);go_simp;rw [<- hW1];clear hW1;refine hK.out _ _ (fun _=>hSn1) ?_;clear hK K q0 q1 q2 q3 f0 f1 f2 f3;(try simp only [Act.put,xgD,xgE,xgF]);have HB1:=Lib.hid hB1;have hBK2:Blk W1 (gz+2) 33 4 (arr zA):=HBZ.out.ext (HD0.out.trans hEd)
  have hHN:w.heap.size<=gz+2:=by have:=HGZ.out;omega
  obtain ⟨⟨q0,q1,q2,q3⟩,⟨f0,f1,f2,f3⟩,⟨r0,r1,r2,r3⟩,HF⟩:=qbR (M:=M) (w:=w) hBK2 HMG.out hHN (HE.out.trans (HD0.out.trans hEd)) (hz1.more (M':=M') fun b hb=>.inl (.inl hb)) HMS.out;have HR:Hid (qsX M w f g J (.returned (.agg (peA z))) _):=⟨_,n,V,HF.out.choose_spec.1,hdg,hst,HF.out.choose_spec.2.1,HF.out.choose_spec.2.2⟩;obtain ⟨b0,b1,b2,b3⟩:W1.cell? ⟨gq,0,none⟩=some (.int .i64 z.lv)/\W1.cell? ⟨gq,1,none⟩=some (.bool z.b)/\W1.cell? ⟨gq,2,none⟩=some (.slice z.a z.n z.p)/\W1.cell? ⟨gq,3,none⟩=some (.slice z.ka z.kn z.kp):=⟨HB1.out.cell (i:=0) (by omega),HB1.out.cell (i:=1) (by omega),HB1.out.cell (i:=2) (by omega),HB1.out.cell (i:=3) (by omega)⟩;clear hzq hkp hz1 hBq hB1 HB1 hBK2 HBK hEd EF hSn1 hHeld HF hdg hst hle hql hHN;((refine qaa 10 (o:=?_) (by kernel_rfl) ?_ ?_;rotate_left 1;(simp only [xgA,xgB,xgC];rfl);intro K hK);go_simp;(refine hK.out _ _ (fun h=>absurd rfl h) ?_);clear hK K;refine qac (by kernel_rfl) ?_ _);go_wp2;exact bodyPost_ret (v:=.agg (peA z)) (by simp [results,Tryz.results195,go_sem,r0,r1,r2,r3]) rfl HR.out


def qk3 (f g:List Tm) (L:Int) (w:World) (e:Ending) (w':World):Prop:=∃ er:Int,e = .returned (.int .i64 er)/\((¬ (1<=L/\L<=4)/\er=4)∨((1<=L/\L<=4)/\(Sim f []∨Sim g [])/\er=2)∨((1<=L/\L<=4) /\ ¬ Sim f [] /\ ¬ Sim g []/\er=0))/\Ext w w'
theorem qeI (w:World) (x y:PE):P4 ((w.alloc (.cells (peA x) 33)).alloc (.cells (peA y) 33)) w.heap.size x/\P4 ((w.alloc (.cells (peA x) 33)).alloc (.cells (peA y) 33)) (w.heap.size+1) y:=by
 have h1:=Blk.of_arr (w.alloc (.cells (peA x) 33)) (peA y) 33 4 rfl;have h2:=(Blk.of_arr w (peA x) 33 4 rfl).alloc (.cells (peA y) 33);simp only [World.size_alloc] at h1 h2;exact ⟨h2.p4,h1.p4⟩
theorem qnT (M:Nat->Prop) (f g:List Tm) (x y:PE) (L:Int) (w:World) (hM:Mb M w) (h:PI M w x f) (k:PI M w y g):Calls Tryz.prog 163 #[.agg (peA x),.agg (peA y),.int .i64 L] w (qk3 f g L w):=by
 have hX:=((Ext.refl w).alloc (.cells (peA x) 33)).alloc (.cells (peA y) 33);have hB:=qeI w x y;have CF:Hid (∀ W',Ext w W'->Calls Tryz.prog 72 #[.agg (peA x)] W' fun e w'=>∃ b:Bool,e = .returned (.bool b)/\(b=true↔Sim f [])/\Ext W' w'):=fun W' he=>qbh M x f W' (hM.ext he) (h.ext he);have CG:Hid (∀ W',Ext w W'->Calls Tryz.prog 72 #[.agg (peA y)] W' fun e w'=>∃ b:Bool,e = .returned (.bool b)/\(b=true↔Sim g [])/\Ext W' w'):=fun W' he=>qbh M y g W' (hM.ext he) (k.ext he);clear hM h k;generalize hW:(w.alloc (.cells (peA x) 33)).alloc (.cells (peA y) 33)=W at *;have HW:=Lib.hid hW;have HX:=Lib.hid hX;have HB:=Lib.hid hB;clear hX hB hW
 by_cases l1:L<1
 ·have HR:Hid (qk3 f g L w (.returned (.int .i64 4)) W):=⟨4,rfl,.inl ⟨by omega,rfl⟩,HX.out⟩;clear CF CG
  go_enter Tryz.func163,Tryz.ntmps163
  go_upto_region 1 with (fail)
  rw [HW.out];go_wp2;go_ret;exact HR.out
 by_cases l4:4<L
 ·have HR:Hid (qk3 f g L w (.returned (.int .i64 4)) W):=⟨4,rfl,.inl ⟨by omega,rfl⟩,HX.out⟩;clear CF CG
  go_enter Tryz.func163,Tryz.ntmps163
  go_upto_region 1 with (fail)
  rw [HW.out];go_wp2;go_ret;exact HR.out
 have HL:Hid (1<=L/\L<=4):=⟨by omega,by omega⟩
 go_enter Tryz.func163,Tryz.ntmps163
 go_upto_region 1 with (fail)
 rw [HW.out];generalize w.heap.size=gz at *;obtain ⟨⟨x0,x1,x2,x3⟩,y0,y1,y2,y3⟩:=HB.out;go_wp2_with (fail);refine (CF.out _ HX.out).mono ?_;rintro e w1 ⟨b,rfl,hb,he1⟩;have HX1:=Lib.hid (HX.out.trans he1);have HBF:=Lib.hid hb;obtain ⟨⟨x0,x1,x2,x3⟩,y0,y1,y2,y3⟩:P4 w1 gz x/\P4 w1 (gz+1) y:=⟨HB.out.1.ext he1,HB.out.2.ext he1⟩;clear hb he1 CF HB HX;cases b
 rotate_left
 ·have HR:Hid (qk3 f g L w (.returned (.int .i64 2)) w1):=⟨2,rfl,.inr (.inl ⟨HL.out,.inl (HBF.out.1 rfl),rfl⟩),HX1.out⟩;go_wp2;go_ret;exact HR.out
 have HNF:Hid (¬ Sim f []):=fun h=>absurd (HBF.out.2 h) (by decide);clear HBF;go_wp2_with (fail);refine (CG.out _ HX1.out).mono ?_;rintro e w2 ⟨b,rfl,hb,he2⟩;have HX2:=Lib.hid (HX1.out.trans he2);have HBG:=Lib.hid hb;clear hb he2 CG HX1;cases b
 ·have HR:Hid (qk3 f g L w (.returned (.int .i64 0)) w2):=⟨0,rfl,.inr (.inr ⟨HL.out,HNF.out,fun h=>absurd (HBG.out.2 h) (by decide),rfl⟩),HX2.out⟩;go_wp2;go_ret;exact HR.out
 ·have HR:Hid (qk3 f g L w (.returned (.int .i64 2)) w2):=⟨2,rfl,.inr (.inl ⟨HL.out,.inr (HBG.out.1 rfl),rfl⟩),HX2.out⟩;go_wp2;go_ret;exact HR.out


def M9 (M':Nat->Prop) (A B:Option Nat):Nat->Prop:=fun g=>M' g∨A=some g∨B=some g
structure S9 (M':Nat->Prop) (wd wk:World) (A B:Option Nat):Prop where
 e:Ext wd wk
 m:Mb M' wd
 a : ∀ g,A=some g->Blk wk g 33 4 (arr zA)/\wd.heap.size<=g
 b : ∀ g,B=some g->Blk wk g 33 4 (arr zA)/\wd.heap.size<=g
 ne : ∀ g,A=some g->B≠some g
theorem S9.lt {M':Nat->Prop} {wd wk:World} {A B:Option Nat} (h:S9 M' wd wk A B) (g:Nat) (hg:A=some g∨B=some g):wd.heap.size<=g/\g<wk.heap.size:=by
 rcases hg with hg | hg
 ·exact ⟨(h.a g hg).2,(h.a g hg).1.lt⟩
 ·exact ⟨(h.b g hg).2,(h.b g hg).1.lt⟩
theorem S9.mb {M':Nat->Prop} {wd wk:World} {A B:Option Nat} (h:S9 M' wd wk A B):Mb (M9 M' A B) wk:=fun g hg=>hg.elim (fun q=>Nat.lt_of_lt_of_le (h.m g q) h.e.size) fun q=>(h.lt g q).2
theorem S9.start {M':Nat->Prop} {wd:World} (hm:Mb M' wd):S9 M' wd wd none none:=⟨Ext.refl _,hm,(fun g h=>by cases h),(fun g h=>by cases h),fun g h=>by cases h⟩
theorem S9.call {M':Nat->Prop} {wd wk w':World} {A B:Option Nat} (h:S9 M' wd wk A B) (d:Ext wk w'):S9 M' wd w' A B:=⟨h.e.trans d,h.m,fun g hg=>⟨(h.a g hg).1.ext d,(h.a g hg).2⟩,fun g hg=>⟨(h.b g hg).1.ext d,(h.b g hg).2⟩,h.ne⟩
theorem S9.sub {M':Nat->Prop} {wd wk:World} {A B:Option Nat} (h:S9 M' wd wk A B) : ∀ g,M9 M' A B g->M' g∨wd.heap.size<=g:=fun g hg=>hg.imp id fun q=>(h.lt g q).1
theorem S9.allA {M':Nat->Prop} {wd wk:World} {B:Option Nat} (h:S9 M' wd wk none B):S9 M' wd (wk.alloc (.cells zA 33)) (some wk.heap.size) B:=by
 have d:Ext wk (wk.alloc (.cells zA 33)):=(Ext.refl wk).alloc _;refine ⟨h.e.trans d,h.m,fun g hg=>?_,fun g hg=>⟨(h.b g hg).1.ext d,(h.b g hg).2⟩,fun g hg hb=>?_⟩
 ·cases hg;exact ⟨Blk.of_arr wk zA 33 4 rfl,h.e.size⟩
 ·cases hg;have:=(h.b _ hb).1.lt;omega
theorem S9.allB {M':Nat->Prop} {wd wk:World} {A:Option Nat} (h:S9 M' wd wk A none):S9 M' wd (wk.alloc (.cells zA 33)) A (some wk.heap.size):=by
 have d:Ext wk (wk.alloc (.cells zA 33)):=(Ext.refl wk).alloc _;refine ⟨h.e.trans d,h.m,fun g hg=>⟨(h.a g hg).1.ext d,(h.a g hg).2⟩,fun g hg=>?_,fun g hg hb=>?_⟩
 ·cases hg;exact ⟨Blk.of_arr wk zA 33 4 rfl,h.e.size⟩
 ·cases hb;have:=(h.a _ hg).1.lt;omega
theorem S9.keepA {M':Nat->Prop} {wd wk:World} {B:Option Nat} {x:PE} {l:List Tm} (_:S9 M' wd wk none B) (hx:CRx (M9 M' none B) wk 4 x l):CRx (M9 M' (some wk.heap.size) B) (wk.alloc (.cells zA 33)) 4 x l:=by
 refine (hx.more (M':=M9 M' (some wk.heap.size) B) fun g hg=>?_).ext ((Ext.refl wk).alloc _);rcases hg with hg | hg | hg
 ·exact .inl (.inl hg)
 ·cases hg;exact .inr (Nat.le_refl _)
 ·exact .inl (.inr (.inr hg))
theorem S9.keepB {M':Nat->Prop} {wd wk:World} {A:Option Nat} {x:PE} {l:List Tm} (_:S9 M' wd wk A none) (hx:CRx (M9 M' A none) wk 4 x l):CRx (M9 M' A (some wk.heap.size)) (wk.alloc (.cells zA 33)) 4 x l:=by
 refine (hx.more (M':=M9 M' A (some wk.heap.size)) fun g hg=>?_).ext ((Ext.refl wk).alloc _);rcases hg with hg | hg | hg
 ·exact .inl (.inl hg)
 ·exact .inl (.inr (.inl hg))
 ·cases hg;exact .inr (Nat.le_refl _)


def SG9 (a b:Nat) (x y:PE) (w:World):Prop:=P4 w a x/\P4 w b y
theorem SG9.ext {a b:Nat} {x y:PE} {w w':World} (h:SG9 a b x y w) (he:Ext w w'):SG9 a b x y w':=⟨h.1.ext he,h.2.ext he⟩








theorem qgU {L n:Nat} {l:List Tm} (h : ∀ s ∈ l,s.2.get L<=(n:Int)) (m:Mo) (hm:qab l m≠0):m.get L<=(n:Int):=
 Classical.byContradiction fun hc=>hm (qaB fun t ht e=>hc (e ▸ h t ht))


def SJ3 (g1 g2 g3:Nat) (x y v:PE) (w:World):Prop:=P4 w g1 x/\P4 w g2 y/\P4 w g3 v
theorem SJ3.ext {g1 g2 g3:Nat} {x y v:PE} {w w':World} (h:SJ3 g1 g2 g3 x y v w) (he:Ext w w'):SJ3 g1 g2 g3 x y v w':=⟨h.1.ext he,h.2.1.ext he,h.2.2.ext he⟩
theorem qgJ (z:Int) (hz : -100<=z/\z<=100) (W':World):Calls Tryz.prog 22 #[.int .i64 z] W' fun e w'=>∃ b a n p,e = .returned (.agg #[.bool b,.slice a n p])/\qbq M0 w' (.bool b) (.slice a n p) z/\Ext W' w':=by
 refine (qer z W' (mb0 _) (by omega) (by omega)).mono ?_;rintro e w' ⟨e0,e1,rfl,hI,he⟩;obtain ⟨b,a,n,p,rfl,rfl⟩:=hI.form;exact ⟨b,a,n,p,rfl,hI.toV,he⟩
end Go.Proofs.YtmcfpnmoklnhoaaGreat
