/- pseudo.Rem: the walk. PseudoDivide: the small functions; plain facts. -/
import Derived.Test.YtmcfpnmoklnhoaaGreatEc
import Derived.Test.YtmcfpnmoklnhoaaGreatBj
import Derived.Test.YtmcfpnmoklnhoaaGreatCg
import Derived.Test.YtmcfpnmoklnhoaaGreatDh
set_option linter.unusedVariables false
set_option maxRecDepth 100000
set_option maxHeartbeats 400000000
set_option linter.unusedSimpArgs false

namespace Go.Proofs.YtmcfpnmoklnhoaaGreat
open Go.RowKit

def qta (M:Nat->Prop) (w:World) (J:Nat) (f:List Tm) (e:Ending) (w':World):Prop:=∃ (M1:Nat->Prop) (rv:Value),e = .returned rv/\Mb M1 w'/\(∀ b,M b->M1 b)/\(∀ b,M1 b->M b∨w.heap.size<=b) /\
 ((Sim f []/\rv = .slice none 0 0)∨(¬ Sim f [] /\ ∃ a gf,rv = .slice (some ⟨gf,0,none⟩) (a+1) (a+1)/\w.heap.size<=gf/\M1 gf/\DgR J f a/\qax M1 w' 4 gf (a+1) (qb3 J f)))/\Ext w w'
theorem qsU {M:Nat->Prop} {w:World} {J:Nat} (h1:1<=J) (h4:J<=4) {f:List Tm} (hM:Mb M w) {e:Ending} {w':World} (h:qk4 M w f (J:Int) e w'):qta M w J f e w':=by
 obtain ⟨hr,he⟩:=h;rcases hr with ⟨hz,rfl⟩ | ⟨_,hl,_⟩ | ⟨hz,J',a,gf,hJ',_,_,rfl,hgf,hda,hkf⟩
 ·exact ⟨M,_,rfl,hM.ext he,fun _ hb=>hb,fun _ hb=>.inl hb,.inl ⟨hz,rfl⟩,he⟩
 ·exact absurd ⟨by omega,by omega⟩ hl
 ·obtain rfl:J=J':=by omega
  exact ⟨fun b=>M b∨b=gf,_,rfl,qb9 (hM.ext he) hkf.lt,fun _ hb=>.inl hb,fun b hb=>hb.imp id fun e=>by omega,.inr ⟨hz,a,gf,rfl,hgf,.inr rfl,hda,hkf⟩,he⟩
def qtQ (M:Nat->Prop) (w:World) (J:Nat) (g:List Tm) (e:Ending) (w':World):Prop:=∃ n gd,e = .returned (.slice (some ⟨gd,0,none⟩) (n+1) (n+1))/\w.heap.size<=gd/\DgR J g n/\qax (fun b=>M b∨b=gd) w' 4 gd (n+1) (qb3 J g)/\Ext w w'
theorem qtB {M:Nat->Prop} {w:World} {J:Nat} (h1:1<=J) (h4:J<=4) {g:List Tm} (hz : ¬ Sim g []) {e:Ending} {w':World} (h:qk4 M w g (J:Int) e w'):qtQ M w J g e w':=by
 obtain ⟨hr,he⟩:=h;rcases hr with ⟨h,_⟩ | ⟨_,hl,_⟩ | ⟨_,J',n,gd,hJ',_,_,rfl,hgd,hdg,hkd⟩
 ·exact absurd h hz
 ·exact absurd ⟨by omega,by omega⟩ hl
 ·obtain rfl:J=J':=by omega
  exact ⟨n,gd,rfl,hgd,hdg,hkd,he⟩
def RmO (M:Nat->Prop) (w':World) (f g:List Tm) (L:Int) (y:PE) (er:Int):Prop:=
 (¬ (1<=L/\L<=4)/\er=4/\y=PE.z)∨((1<=L/\L<=4)/\Sim g []/\er=2/\y=PE.z) ∨
 (∃ J n V:Nat,L=J/\1<=J/\J<=4 /\ ¬ Sim g []/\DgR J g n/\StR J f n V/\er=0/\CRx M w' 4 y (qdv J n V f g))
def qoX (M:Nat->Prop) (w:World) (f g:List Tm) (L:Int) (e:Ending) (w':World):Prop:=∃ (y:PE) (er:Int),e = .returned (.tuple #[.agg (peA y),.int .i64 er])/\RmO M w' f g L y er/\Ext w w'
structure DvM (T B C A D:Nat):Prop where
 n1:T<=300000/\B+T*C+C+10<=100000
 n2:(B+C+2)*(B+T*C+C+1) ^ 4<=1099511627776
 n3:A+T*(D+1)+D+10<=549755813888
theorem qqg (T : Nat) (M : Nat -> Prop) (x y : PE) (f g : List Tm) (L : Int) (B C A D : Nat) (w : World) (hM : Mb M w) (h : PI M w x f) (k : PI M w y g) (nf : NN f) (ng : NN g) (hB : Deg B f) (hC : Deg C g) (hA : dlen (nrm f) <= A) (hD : dlen (nrm g) <= D) (hN : DvM T B C A D) (hT : ∀ J n V : Nat, L = J -> DgR J g n -> StR J f n V -> V <= T) :
  Calls Tryz.prog 206 #[.agg (peA x),.agg (peA y),.int .i64 L] w (qoX M w f g L):=by
 obtain ⟨hE0,hX0,hY0,hB0,hM0⟩:=qkb hM x y;have h0:=(h.more (M':=Mx M w.heap.size (w.heap.size+3)) (Mx.more (Nat.le_refl _))).ext hE0;have k0:=(k.more (M':=Mx M w.heap.size (w.heap.size+3)) (Mx.more (Nat.le_refl _))).ext hE0
 have hsz0:w.heap.size+3=((((w.alloc (.cells (peA x) 33)).alloc (.cells (peA y) 33)).alloc (.cells zA 33))).heap.size:=by simp
 generalize hW:((w.alloc (.cells (peA x) 33)).alloc (.cells (peA y) 33)).alloc (.cells zA 33)=W at *;have HW:=Lib.hid hW;have HE:=Lib.hid hE0;have HPX:Hid (P4 W w.heap.size x):=hX0;have HPY:Hid (P4 W (w.heap.size+1) y):=hY0;have HBZ:=Lib.hid hB0;have HMB:=Lib.hid hM0;have HX:=Lib.hid h0;have HY:=Lib.hid k0;have HNF:=Lib.hid nf;have HNG:=Lib.hid ng;have HB:=Lib.hid hB;have HC:=Lib.hid hC;have HA:=Lib.hid hA;have HDD:=Lib.hid hD;have HN:=Lib.hid hN;have HT:=Lib.hid hT;have hMw : ∀ b,M b->b<w.heap.size:=hM;have HMW:=Lib.hid hMw;clear hW h0 k0 hM h k nf ng hB hC hA hD hN hT hE0 hX0 hY0 hB0 hM0 hMw
 go_enter Tryz.func206,Tryz.ntmps206
 go_upto_region 1 with (fail)
 rw [HW.out];clear HW
 by_cases hl:1<=L/\L<=4
 ·obtain ⟨J,rfl⟩ : ∃ J:Nat,L=J:=⟨L.toNat,by omega⟩;have HJ:Hid (1<=J/\J<=4):=⟨by omega,by omega⟩
  have hl1 : ¬ (J:Int)<1:=by omega
  have hl4 : ¬ (4:Int)<(J:Int):=by omega
  obtain ⟨y0,y1,y2,y3⟩:=HPY.out;have hEb:=(Ext.refl W).alloc (.cells (peA y) 33);have hBb:=Blk.of_arr W (peA y) 33 4 rfl
  have hsW:w.heap.size+3<=W.heap.size:=by omega
  clear hl hsz0;go_wp2_with (fail);refine (qhA (Mx M w.heap.size (w.heap.size+3)) y g W.heap.size 0 1 _ (HMB.out.ext hEb) hBb.p4 hBb.lt (HY.out.ext hEb)).mono ?_;rintro e w1 ⟨er,rfl,her,he1⟩;have he01:=hEb.trans he1;have HE1:=Lib.hid (HE.out.trans he01);have HPX1:Hid (P4 w1 w.heap.size x):=HPX.out.ext he01;have HPY1:Hid (P4 w1 (w.heap.size+1) y):=HPY.out.ext he01;have HBZ1:=Lib.hid (HBZ.out.ext he01);have HM1:=Lib.hid (HMB.out.ext he01);have HX1:=Lib.hid (HX.out.ext he01);have HY1:=Lib.hid (HY.out.ext he01)
  have hs1:w.heap.size+3<=w1.heap.size:=by have:=he01.size;omega
  clear y0 y1 y2 y3 hEb hBb he1 he01 HE HPX HPY HBZ HMB HX HY hsW;rcases her with ⟨rfl,hz⟩ | ⟨rfl,hz⟩
  ·obtain ⟨⟨q0,q1,q2,q3⟩,⟨f0,f1,f2,f3⟩,⟨r0,r1,r2,r3⟩,HF⟩:=qbR (M:=M) (M':=Mx M w.heap.size (w.heap.size+3)) (w:=w) (L:=0) (l:=[]) (y:=PE.z) HBZ1.out (Mx.at (by omega)) (by omega) HE1.out (CR.zero _ _ 0) Mx.sub;obtain ⟨_,_,_,hext⟩:=HF;have HF2:Hid (qoX M w f g J (.returned (.tuple #[.agg (peA PE.z),.int .i64 2])) _):=⟨PE.z,2,rfl,.inr (.inl ⟨⟨by have:=HJ.out;omega,by have:=HJ.out;omega⟩,hz,rfl,rfl⟩),hext⟩;simp only [PE.z] at r0 r1 r2 r3
   have hw2:w.heap.size+2<w1.heap.size:=by omega
   clear hext HBZ1 HE1 HM1 HX1 HY1 HPX1 HPY1 hz;go_wp2;exact bodyPost_ret (v:=.tuple #[.agg (peA PE.z),.int .i64 2]) (by simp [results,Tryz.results206,go_sem,r0,r1,r2,r3,PE.z]) rfl HF2.out
  ·have HZ:=Lib.hid hz;clear hz;have hBq:=HN.out.n1
   have hB4:Hid ((B+1) ^ 4<=1099511627776):=by
    have h2:=HN.out.n2;refine Nat.le_trans ?_ h2;refine Nat.le_trans (Nat.pow_le_pow_left (show B+1<=B+T*C+C+1 by omega) 4) (Nat.le_mul_of_pos_left _ (by omega))
   have hC4:Hid ((C+1) ^ 4<=1099511627776):=by
    have h2:=HN.out.n2;refine Nat.le_trans ?_ h2;refine Nat.le_trans (Nat.pow_le_pow_left (show C+1<=B+T*C+C+1 by omega) 4) (Nat.le_mul_of_pos_left _ (by omega))
   have hCn:Hid (C+1<=1073741824/\B+1<=1073741824):=⟨by omega,by omega⟩
   have hR:Hid (dlen (nrm g)<=1099511627776/\dlen (nrm f)<=1099511627776):=by
    have h3:=HN.out.n3
    have hd1:D<=1099511627776:=by omega
    have ha1:A<=1099511627776:=by omega
    exact ⟨Nat.le_trans HDD.out hd1,Nat.le_trans HA.out ha1⟩
   have hd:=(Ext.refl w1).drew;have hS:SP2 w.heap.size x y w1.drew:=⟨HPX1.out.ext hd,HPY1.out.ext hd⟩;have HE2:=Lib.hid (HE1.out.trans hd);have HBZ2:=Lib.hid (HBZ1.out.ext hd);have HM2:=Lib.hid (HM1.out.ext hd);have HX2:=Lib.hid (HX1.out.ext hd);have HY2:=Lib.hid (HY1.out.ext hd);have hs2:w.heap.size+3<=w1.drew.heap.size:=Nat.le_trans hs1 hd.size;clear hBq hd HPX1 HPY1 HE1 HBZ1 HM1 HX1 HY1
   go_upto_region 6 with (fail)
   refine qad (SP2 w.heap.size x y) 12 (by kernel_rfl) hS (fun hHeld=>?_);clear hS;generalize w1.drew=wd at *;have C1:Hid (Calls Tryz.prog 60 #[.agg (peA x),.int .i64 (J:Int)] wd (qta (Mx M w.heap.size (w.heap.size+3)) wd J f)):=(qeK (Mx M w.heap.size (w.heap.size+3)) x f J B wd HM2.out HX2.out HB.out hB4.out hCn.out.2 hR.out.2).mono fun e w' h=>qsU HJ.out.1 HJ.out.2 HM2.out h;(refine tkB [0,1,3,4] ?_;(iterate 4 (refine tk1 (oi:=?_) (v:=?_) (by kernel_rfl) (by first | exact hSn | exact hHeld) ?_ ?_ ?_ ?_ ?_;rotate_left 2;(simp only [xgA,xgB,xgC];rfl);rfl;(intro wS hSw;obtain ⟨⟨S1,S2,S3,S4⟩,S5,S6,S7,S8⟩:=hSw;go_simp;try with_reducible rfl);(exact fun _ _ _ h=>h);(try simp only [Act.put,xgD,xgE,xgF])));refine tkE ?_);((refine qaa 2 (o:=?_) (by kernel_rfl) ?_ ?_;rotate_left 1;(simp only [xgA,xgB,xgC];rfl);intro K hK);go_simp;(refine (C1.out).mono ?_);rintro e_ u1 ⟨M1,rv,rfl,hM1,hsub,hbk,hfr,ed1⟩;go_wp2_with (fail);(try clear hSn);(have hSn:=hHeld.ext ed1);(refine hK.out _ _ (fun _=>hSn) ?_);clear hK K;(try simp only [Act.put,xgD,xgE,xgF]));have C2:Hid (Calls Tryz.prog 60 #[.agg (peA y),.int .i64 (J:Int)] u1 (qtQ M1 u1 J g)):=(qeK M1 y g J C u1 hM1 ((HY2.out.more hbk).ext ed1) HC.out hC4.out hCn.out.1 hR.out.1).mono fun e w' h=>qtB HJ.out.1 HJ.out.2 HZ.out h;((refine qaa 5 (o:=?_) (by kernel_rfl) ?_ ?_;rotate_left 1;(simp only [xgA,xgB,xgC];rfl);intro K hK);go_simp;(refine (C2.out).mono ?_);rintro e_ u2 ⟨n,gd,rfl,hgd,hdg,hkd,ed2⟩;go_wp2_with (fail);(try clear hSn);(have hSn:=hHeld.ext (ed1.trans ed2));(refine hK.out _ _ (fun _=>hSn) ?_);clear hK K;(try simp only [Act.put,xgD,xgE,xgF]))
   have hM2:Mb (fun b=>M1 b∨b=gd) u2:=qb9 (hM1.ext ed2) hkd.lt
   have hst : ∃ V,StR J f n V/\((Sim f []/\rv = .slice none 0 0)∨(¬ Sim f [] /\ ∃ a gf,rv = .slice (some ⟨gf,0,none⟩) (a+1) (a+1)/\wd.heap.size<=gf/\gf≠gd/\(M1 gf∨gf=gd)/\DgR J f a/\qax (fun b=>M1 b∨b=gd) u2 4 gf (a+1) (qb3 J f))):=by
    rcases hfr with ⟨hz,hv⟩ | ⟨hz,a,gf,hv,hgf,hmf,hda,hkf⟩
    ·exact ⟨0,.inl ⟨hz,rfl⟩,.inl ⟨hz,hv⟩⟩
    ·have hl2:=hkf.lt;exact ⟨a+1 - n,.inr ⟨hz,a,hda,rfl⟩,.inr ⟨hz,a,gf,hv,hgf,by omega,.inl hmf,hda,(hkf.more (M':=fun b=>M1 b∨b=gd) fun b hb=>hb.imp id fun e=>by omega).ext ed2⟩⟩
   obtain ⟨V,hstr,hfr2⟩:=hst;have hV:=HT.out J n V rfl hdg hstr;have hn:n<=C:=qoJ hdg HC.out;have hPC:V*C<=T*C:=Nat.mul_le_mul_right C hV;have hPD:V*(D+1)<=T*(D+1):=Nat.mul_le_mul_right (D+1) hV;have hN1:=HN.out.n1;have hN3:=HN.out.n3;have hPd:PdH J n V B C A D f g:=⟨HJ.out.1,HJ.out.2,HNF.out,HNG.out,HB.out,HC.out,HA.out,HDD.out,hdg,hstr⟩;have hmul : ∀ a b:Nat,a<=100000->b<=100000->a*b<=1099511627776:=fun a b ha hb=>Nat.le_trans (Nat.mul_le_mul ha hb) (by decide);have C3:=Lib.hid (qkw (Mx M w.heap.size (w.heap.size+3)) (fun b=>M1 b∨b=gd) wd u2 J n V B C A D gd f g rv (ed1.trans ed2) hM2 HM2.out (fun b hb=>.inl (hsub b hb)) hPd hkd hfr2 (by omega) (by omega) (hmul _ _ (by omega) (by omega)) (by omega));have HNUM:Hid (V<=T/\n<=C/\V*C<=T*C/\V*(D+1)<=T*(D+1)):=⟨hV,hn,hPC,hPD⟩;have HPD:=Lib.hid hPd;have HST:=Lib.hid hstr;have HDG:=Lib.hid hdg;have hu2:wd.heap.size<=u2.heap.size:=(ed1.trans ed2).size;clear hV hn hPC hPD hN1 hN3 hPd hmul hstr hdg hfr hfr2 hkd hM2 hgd C1 C2 hM1 hsub hbk;((refine qaa 6 (o:=?_) (by kernel_rfl) ?_ ?_;rotate_left 1;(simp only [xgA,xgB,xgC];rfl);intro K hK);go_simp;(refine (C3.out).mono ?_);rintro e_ u3 ⟨gt,ra,rn,rc,R,rfl,hgt,hT,hG4,hrow,hrn,hRe,hRs,he4⟩;go_wp2_with (fail);(try clear hSn);(have hSn:=hHeld.ext he4);(refine hK.out _ _ (fun _=>hSn) ?_);clear hK K;(try simp only [Act.put,xgD,xgE,xgF]));(refine tkB [7,8,9,10,11] ?_;(iterate 5 (refine tk1 (oi:=?_) (v:=?_) (by kernel_rfl) (by first | exact hSn | exact hHeld) ?_ ?_ ?_ ?_ ?_;rotate_left 2;(simp only [xgA,xgB,xgC];rfl);rfl;(intro wS hSw;obtain ⟨⟨S1,S2,S3,S4⟩,S5,S6,S7,S8⟩:=hSw;go_simp;try with_reducible rfl);(exact fun _ _ _ h=>h);(try simp only [Act.put,xgD,xgE,xgF])));refine tkE ?_)
   refine qac (by kernel_rfl) ?_ _;have h1:=HN.out.n1;have h2:=HN.out.n2;have h3:=HN.out.n3;have h5:=HNUM.out;have hM4:Mb (Mx M w.heap.size (w.heap.size+3)) u3:=HM2.out.ext he4;have hpow : ∀ a b:Nat,a<=B+C+2->b<=B+T*C+C->a*(b+1) ^ 4<=1099511627776:=fun a b ha hb=>Nat.le_trans (Nat.mul_le_mul ha (Nat.pow_le_pow_left (by omega) 4)) h2;have hrow2:qbA (Mx M w.heap.size (w.heap.size+3)) u3 4 (.slice ra rn rc) rn R:=hrow.more fun b hb=>.inl (.inl hb)
   have hRc : ∀ i,i<rn->Cof J (B+V*C) (A+V*(D+1)) (R i):=fun i hi=>by rw [hRe i hi];exact HPD.out.rest i (by omega)
   have CJ:=Lib.hid (qjA (L:=J) (S:=B+V*C) (A:=A+V*(D+1)) u3 hM4 hrow2 HJ.out.1 HJ.out.2 (fun i hi=>(hRc i hi).2.2.1) (hpow _ _ (by omega) (by omega)) (by omega) (fun i hi=>(hRc i hi).2.2.2) (by omega));have HE3:=Lib.hid (HE2.out.trans he4);have HBZ3:=Lib.hid (HBZ2.out.ext he4);have HRS:=Lib.hid hRs;have hs3:w.heap.size+3<=u3.heap.size:=Nat.le_trans hs2 he4.size;clear h1 h2 h3 h5 hM4 hpow hrow2 hRc hT hG4 hrow hrn hRe hRs ed1 ed2 he4 C3 hHeld hSn HE2 HBZ2 HM2 HX2 HY2 hgt;go_wp2_with (fail);refine CJ.out.mono ?_;rintro e w9 ⟨r,rfl,hr,he9⟩;have hr9:CRx (Mx M w.heap.size (w.heap.size+3)) w9 4 r (qdv J n V f g):=hr.sim HRS.out;obtain ⟨⟨q0,q1,q2,q3⟩,⟨f0,f1,f2,f3⟩,⟨r0,r1,r2,r3⟩,HF⟩:=qbR (M:=M) (M':=Mx M w.heap.size (w.heap.size+3)) (w:=w) (HBZ3.out.ext he9) (Mx.at (by omega)) (by omega) (HE3.out.trans he9) hr9 Mx.sub;obtain ⟨yy,hyy,hcr,hext⟩:=HF
   obtain rfl:r=yy:=by
    simp only [peA,Ending.returned.injEq,Value.agg.injEq,Array.mk.injEq,List.cons.injEq,Value.int.injEq,Value.bool.injEq,Value.slice.injEq,true_and,and_true] at hyy;cases r;cases yy;simp only at hyy;simp [hyy]
   have HF2:Hid (qoX M w f g J (.returned (.tuple #[.agg (peA r),.int .i64 0])) _):=⟨r,0,rfl,.inr (.inr ⟨J,n,V,rfl,HJ.out.1,HJ.out.2,HZ.out,HDG.out,HST.out,rfl,hcr⟩),hext⟩
   have hw2:w.heap.size+2<w9.heap.size:=by have:=he9.size;omega
   clear hext hcr hr9 hr he9 HE3 HBZ3 CJ;go_wp2;exact bodyPost_ret (v:=.tuple #[.agg (peA r),.int .i64 0]) (by simp [results,Tryz.results206,go_sem,r0,r1,r2,r3]) rfl HF2.out
 ·have HL:=Lib.hid hl;obtain ⟨⟨q0,q1,q2,q3⟩,⟨f0,f1,f2,f3⟩,⟨r0,r1,r2,r3⟩,HF⟩:=qbR (M:=M) (M':=Mx M w.heap.size (w.heap.size+3)) (w:=w) (L:=0) (l:=[]) (y:=PE.z) HBZ.out (Mx.at (by omega)) (by omega) HE.out (CR.zero _ _ 0) Mx.sub;obtain ⟨_,_,_,hext⟩:=HF;have HF2:Hid (qoX M w f g L (.returned (.tuple #[.agg (peA PE.z),.int .i64 4])) _):=⟨PE.z,4,rfl,.inl ⟨hl,rfl,rfl⟩,hext⟩;simp only [PE.z] at r0 r1 r2 r3
  have hw2:w.heap.size+2<W.heap.size:=by omega
  clear hext
  by_cases hl1:L<1
  case' pos=>clear hl
  case' neg=>
   have hl4:4<L:=by omega
   clear hl
  all_goals
   clear HBZ HE HMB HX HY HPX HPY HL hsz0;go_wp2;exact bodyPost_ret (v:=.tuple #[.agg (peA PE.z),.int .i64 4]) (by simp [results,Tryz.results206,go_sem,r0,r1,r2,r3,PE.z]) rfl HF2.out


structure SmD (B:Nat) (l:List Tm):Prop where
 nn:NN l
 deg:Deg B l
 dl:dlen (nrm l)<=5
def DgV (J:Nat) (l:List Tm) (z:Int):Prop:=(Sim l []/\z = -1)∨(¬ Sim l [] /\ ∃ a:Nat,DgR J l a/\z=(a:Int))
theorem qb6 (M:Nat->Prop) (x:PE) (l:List Tm) (J:Nat) (z:Int) (w:World) (h1:1<=J) (h4:J<=4) (nl:NN l) (hz:DgV J l z) (hM:Mb M w) (h:PI M w x l):Calls Tryz.prog 43 #[.agg (peA x),.int .i64 (J:Int)] w fun e w'=>e = .returned (.int .i64 z)/\Ext w w':=by
 refine (qmi M x l (J:Int) w hM h).mono ?_;rintro e w' ⟨z',rfl,hr,he⟩;refine ⟨?_,he⟩
 congr 2
 rcases hz with ⟨hz,rfl⟩ | ⟨hz,a,ha,rfl⟩
 ·rcases hr with ⟨_,rfl⟩ | ⟨k,_⟩ | ⟨k,_⟩
  ·rfl
  ·exact absurd hz k
  ·exact absurd hz k
 ·rcases hr with ⟨k,_⟩ | ⟨_,k,_⟩ | ⟨_,J',b,k0,_,_,rfl,hb,_⟩
  ·exact absurd k hz
  ·exact absurd ⟨by omega,by omega⟩ k
  ·obtain rfl:J=J':=by omega
   rw [qcM nl hz ha hb]
theorem qjz (M:Nat->Prop) (x:PE) (l:List Tm) (J n:Nat) (B:Nat) (w:World) (h1:1<=J) (h4:J<=4) (nl:NN l) (hz : ¬ Sim l []) (hd:DgR J l n) (hM:Mb M w) (h:PI M w x l) (hB:Deg B l) (hB4:(B+1) ^ 4<=1099511627776) (hB2:B+1<=1073741824) (hR:dlen (nrm l)<=1099511627776):Calls Tryz.prog 117 #[.agg (peA x),.int .i64 (J:Int)] w (qa8 M w 4 (ck J (n:Int) l)):=by
 refine (qqw M x l (J:Int) B w hM h hB hB4 hB2 hR).mono ?_;rintro e w' ⟨v,s,rfl,hv,hs,he⟩;rcases hs with ⟨k,_⟩ | ⟨_,k,_⟩ | ⟨_,J',b,k0,_,_,hb,rfl⟩
 ·exact absurd k hz
 ·exact absurd ⟨by omega,by omega⟩ k
 ·obtain rfl:J=J':=by omega
  rw [qcM nl hz hd hb];exact ⟨v,rfl,hv,he⟩
end Go.Proofs.YtmcfpnmoklnhoaaGreat
