/- ResultantProduct: the walk. The law ResultantProduct returns true at every input, without a panic, and leaves its arguments as they were; no conditions. -/
import Derived.Test.YtlmipmebdelgbaaGreatVe
import Derived.Test.YtlmipmebdelgbaaGreatDk
import Derived.Test.YtlmipmebdelgbaaGreatMq
set_option linter.unusedVariables false
set_option linter.unusedSimpArgs false

namespace Go.Proofs.YtlmipmebdelgbaaGreat
open Go.RowKit

set_option maxRecDepth 100000 in
set_option maxHeartbeats 64000000 in
theorem law_prod26 (a1 : Option Addr) (n1 p1 : Nat) (X1 : Nat -> TE) (a2 : Option Addr) (n2 p2 : Nat) (X2 : Nat -> TE) (a3 : Option Addr) (n3 p3 : Nat) (X3 : Nat -> TE) (w : World) (h1 : qqA w a1 n1 p1 X1) (h2 : qqA w a2 n2 p2 X2) (h3 : qqA w a3 n3 p3 X3) :
  Calls Tryz.prog 5 #[.slice a1 n1 p1,.slice a2 n2 p2,.slice a3 n3 p3] w fun e w'=>e = .returned (.bool true)/\Ext w w':=by
 have HR1:=Lib.hid h1
 have HR2:=Lib.hid h2
 have HR3:=Lib.hid h3
 clear h1 h2 h3
 go_enter Tryz.func5,Tryz.ntmps5
 go_wp2_with (fail)
 refine (qlK _).mono ?_
 rintro e w1 ⟨rfl,he1⟩
 have HE1:=Lib.hid (he1)
 have CF1:=Lib.hid (qhg a1 n1 p1 X1 4 2 w1 (HR1.out.1.ext HE1.out) HR1.out.2.1)
 rw [show ((4:Nat):Int)=4 from rfl,show ((2:Nat):Int)=2 from rfl] at CF1
 have CF2:=Lib.hid (qhg a2 n2 p2 X2 4 2 w1 (HR2.out.1.ext HE1.out) HR2.out.2.1)
 rw [show ((4:Nat):Int)=4 from rfl,show ((2:Nat):Int)=2 from rfl] at CF2
 have CF3:=Lib.hid (qhg a3 n3 p3 X3 4 2 w1 (HR3.out.1.ext HE1.out) HR3.out.2.1)
 rw [show ((4:Nat):Int)=4 from rfl,show ((2:Nat):Int)=2 from rfl] at CF3
 clear he1
 go_wp2_with (fail)
 refine CF1.out.mono ?_
 rintro e w2 ⟨b,rfl,hb1,rfl⟩
 cases b with
 | false=>
  clear hb1 CF1 CF2 CF3
  go_wp2
  go_ret
  exact ⟨rfl,HE1.out⟩
 | true=>
 have HF1:=Lib.hid (hb1.1 rfl)
 clear hb1 CF1
 go_wp2_with (fail)
 refine CF2.out.mono ?_
 rintro e w2 ⟨b,rfl,hb2,rfl⟩
 cases b with
 | false=>
  clear hb2 CF2 CF3
  go_wp2
  go_ret
  exact ⟨rfl,HE1.out⟩
 | true=>
 have HF2:=Lib.hid (hb2.1 rfl)
 clear hb2 CF2
 go_wp2_with (fail)
 refine CF3.out.mono ?_
 rintro e w2 ⟨b,rfl,hb3,rfl⟩
 cases b with
 | false=>
  clear hb3 CF3
  go_wp2
  go_ret
  exact ⟨rfl,HE1.out⟩
 | true=>
 have HF3:=Lib.hid (hb3.1 rfl)
 clear hb3 CF3
 obtain ⟨l1,hl1,HS1,hd1,hx1⟩:=HR1.out.smD (B:=2) HF1.out (by omega) (by omega)
 obtain ⟨l2,hl2,HS2,hd2,hx2⟩:=HR2.out.smD (B:=2) HF2.out (by omega) (by omega)
 obtain ⟨l3,hl3,HS3,hd3,hx3⟩:=HR3.out.smD (B:=2) HF3.out (by omega) (by omega)
 have hlD1:=hl1.ext HE1.out
 have hlD2:=hl2.ext HE1.out
 have hlD3:=hl3.ext HE1.out
 have HS1:=Lib.hid HS1
 have HS2:=Lib.hid HS2
 have HS3:=Lib.hid HS3
 have CO1:Hid (∀ W,Ext w1 W->Calls Tryz.prog 10 #[.slice a1 n1 p1] W (qa3 M0 W 4 (norm l1))):=fun W h=>qq3 M0 _ l1 W (mb0 _) (hlD1.ext h) hd1 hx1
 have CO2:Hid (∀ W,Ext w1 W->Calls Tryz.prog 10 #[.slice a2 n2 p2] W (qa3 M0 W 4 (norm l2))):=fun W h=>qq3 M0 _ l2 W (mb0 _) (hlD2.ext h) hd2 hx2
 have CO3:Hid (∀ W,Ext w1 W->Calls Tryz.prog 10 #[.slice a3 n3 p3] W (qa3 M0 W 4 (norm l3))):=fun W h=>qq3 M0 _ l3 W (mb0 _) (hlD3.ext h) hd3 hx3
 clear hl1 hd1 hx1 HF1 HR1 hlD1 hl2 hd2 hx2 HF2 HR2 hlD2 hl3 hd3 hx3 HF3 HR3 hlD3
 generalize norm l1=f at *
 generalize norm l2=g at *
 generalize norm l3=h at *
 have HV1:Hid (Ext w1 w1):=Ext.refl w1
 go_wp2_with (fail)
 refine (CO1.out w1 HV1.out).mono ?_
 rintro e w2 ⟨x,rfl,hx,D⟩
 have HX1:=Lib.hid hx
 have HV2:=Lib.hid (HV1.out.trans D)
 clear hx D CO1 HV1
 go_wp2_with (fail)
 refine (CO2.out w2 HV2.out).mono ?_
 rintro e w3 ⟨y,rfl,hx,D⟩
 replace HX1:=Lib.hid (HX1.out.ext D)
 have HX2:=Lib.hid hx
 have HV3:=Lib.hid (HV2.out.trans D)
 clear hx D CO2 HV2
 go_wp2_with (fail)
 refine (CO3.out w3 HV3.out).mono ?_
 rintro e w4 ⟨z,rfl,hx,D⟩
 replace HX1:=Lib.hid (HX1.out.ext D)
 replace HX2:=Lib.hid (HX2.out.ext D)
 have HX3:=Lib.hid hx
 have HV4:=Lib.hid (HV3.out.trans D)
 clear hx D CO3 HV3
 go_upto_region 7 with (fail)
 obtain ⟨W,hW⟩ : ∃ W,W=((w4.alloc (.cells #[.int .i64 x.lv,.bool x.b,.slice x.a x.n x.p,.slice x.ka x.kn x.kp] 33)).alloc (.cells #[.int .i64 y.lv,.bool y.b,.slice y.a y.n y.p,.slice y.ka y.kn y.kp] 33)).alloc (.cells #[.int .i64 z.lv,.bool z.b,.slice z.a z.n z.p,.slice z.ka z.kn z.kp] 33):=⟨_,rfl⟩
 have hEW:Ext w4 W:=by rw [hW];exact ((((Ext.refl w4).alloc _).alloc _).alloc _)
 obtain ⟨g0,hg0⟩ : ∃ g0,g0=w4.heap.size:=⟨_,rfl⟩
 have HSB:Hid (SB3 g0 x y z W):=by rw [hW,hg0];exact qnq w4 x y z
 replace HX1:=Lib.hid (HX1.out.ext hEW)
 replace HX2:=Lib.hid (HX2.out.ext hEW)
 replace HX3:=Lib.hid (HX3.out.ext hEW)
 have HE:=Lib.hid (HE1.out.trans (HV4.out.trans hEW))
 rw [<- hW,<- hg0]
 clear hW hg0 hEW HE1 HV4
 obtain ⟨⟨x0,x1,x2,x3⟩,⟨y0,y1,y2,y3⟩,z0,z1,z2,z3⟩:=HSB.out
 go_wp2_with (fail)
 refine (qaQ M0 x f W (mb0 _) HX1.out.pi).mono ?_
 rintro e v1 ⟨b1,rfl,hb1,e1⟩
 have HE1:=Lib.hid e1
 have HB1:=Lib.hid hb1
 clear x0 x1 x2 x3 y0 y1 y2 y3 z0 z1 z2 z3 e1 hb1
 cases b1 with
 | true=>
  have HZ:Hid (Sim f []):=HB1.out.1 rfl
  clear HB1
  go_upto_region 8 with (fail)
  have hEd:Ext W v1.drew:=HE1.out.trans (Ext.refl v1).drew
  have HSd:Hid (SB3 g0 x y z v1.drew):=HSB.out.ext hEd
  have HXd:=Lib.hid (HX1.out.ext hEd)
  have HYd:=Lib.hid (HX2.out.ext hEd)
  have HED:=Lib.hid (HE.out.trans hEd)
  clear HX1 HX2 HX3 HSB HE HE1 hEd
  refine qae (SB3 g0 x y z) 19 (by kernel_rfl) HSd.out (fun hHeld=>?_)
  generalize v1.drew=wd at *
  (refine tkB [0,1,2,5] ?_;(iterate 4 (refine tk1 (oi:=?_) (v:=?_) (by kernel_rfl) (by first | exact hSn | exact hHeld) ?_ ?_ ?_ ?_ ?_;rotate_left 2;(simp only [xgA,xgB,xgC];rfl);rfl;(intro wS hSw;obtain ⟨⟨A1,A2,A3,A4⟩,⟨A5,A6,A7,A8⟩,A9,A10,A11,A12⟩:=hSw;go_simp;try with_reducible rfl);(exact fun _ _ _ h=>h);(try simp only [Act.put,xgD,xgE,xgF])));refine tkE ?_)
  ((refine qaa 3 (o:=?_) (by kernel_rfl) ?_ ?_;rotate_left 1;(simp only [xgA,xgB,xgC];rfl);intro K hK);go_simp;(refine (res_zeroL (J:=1) (by decide) (by decide) (HS1.out.sz (by decide)) (HS2.out.sz (by decide)) (.inl HZ.out) x y wd HXd.out HYd.out).mono ?_);rintro e_ t1 ⟨r,rfl,hr,d1⟩;go_wp2_with (fail);(try clear hSn);(have hSn:=hHeld.ext d1);(refine hK.out _ _ (fun _=>hSn) ?_);clear hK K;(try simp only [Act.put,xgD,xgE,xgF]))
  have CZ:=Lib.hid (z_true r [] t1 hr (Sim.refl _))
  ((refine qaa 4 (o:=?_) (by kernel_rfl) ?_ ?_;rotate_left 1;(simp only [xgA,xgB,xgC];rfl);intro K hK);go_simp;(refine (CZ.out).mono ?_);rintro e_ t2 ⟨rfl,d2⟩;go_wp2_with (fail);(try clear hSn);(have hSn:=hHeld.ext (d1.trans d2));(refine hK.out _ _ (fun _=>hSn) ?_);clear hK K;(try simp only [Act.put,xgD,xgE,xgF]))
  ((refine qaa 6 (o:=?_) (by kernel_rfl) ?_ ?_;rotate_left 1;(simp only [xgA,xgB,xgC];rfl);intro K hK);go_simp;(refine (z_true x f t2 (HXd.out.ext (d1.trans d2)) HZ.out).mono ?_);rintro e_ t3 ⟨rfl,d3⟩;go_wp2_with (fail);(try clear hSn);(have hSn:=hHeld.ext ((d1.trans d2).trans d3));(refine hK.out _ _ (fun _=>hSn) ?_);clear hK K;(try simp only [Act.put,xgD,xgE,xgF]))
  (refine tkB [7] ?_;(iterate 1 (refine tk1 (oi:=?_) (v:=?_) (by kernel_rfl) (by first | exact hSn | exact hHeld) ?_ ?_ ?_ ?_ ?_;rotate_left 2;(simp only [xgA,xgB,xgC];rfl);rfl;(intro wS hSw;obtain ⟨⟨A1,A2,A3,A4⟩,⟨A5,A6,A7,A8⟩,A9,A10,A11,A12⟩:=hSw;go_simp;try with_reducible rfl);(exact fun _ _ _ h=>h);(try simp only [Act.put,xgD,xgE,xgF])));refine tkE ?_)
  (refine tkB [8,9] ?_;(iterate 2 (refine ts1R (oi:=?_) (by kernel_rfl) (by first | exact hSn | exact hHeld) ?_ ?_ ?_ ?_;rotate_left 1;(simp only [xgA,xgB,xgC];rfl);rfl;(exact fun _ _ _ h=>h);(try simp only [Act.put,xgD,xgE,xgF])));refine tkE ?_)
  (refine tkB [10,11] ?_;(iterate 2 (refine tk1 (oi:=?_) (v:=?_) (by kernel_rfl) (by first | exact hSn | exact hHeld) ?_ ?_ ?_ ?_ ?_;rotate_left 2;(simp only [xgA,xgB,xgC];rfl);rfl;(intro wS hSw;obtain ⟨⟨A1,A2,A3,A4⟩,⟨A5,A6,A7,A8⟩,A9,A10,A11,A12⟩:=hSw;go_simp;try with_reducible rfl);(exact fun _ _ _ h=>h);(try simp only [Act.put,xgD,xgE,xgF])));refine tkE ?_)
  (refine tkB [12,13,14,15] ?_;(iterate 4 (refine ts1R (oi:=?_) (by kernel_rfl) (by first | exact hSn | exact hHeld) ?_ ?_ ?_ ?_;rotate_left 1;(simp only [xgA,xgB,xgC];rfl);rfl;(exact fun _ _ _ h=>h);(try simp only [Act.put,xgD,xgE,xgF])));refine tkE ?_)
  (refine tkB [16,17,18] ?_;(iterate 3 (refine tk1 (oi:=?_) (v:=?_) (by kernel_rfl) (by first | exact hSn | exact hHeld) ?_ ?_ ?_ ?_ ?_;rotate_left 2;(simp only [xgA,xgB,xgC];rfl);rfl;(intro wS hSw;obtain ⟨⟨A1,A2,A3,A4⟩,⟨A5,A6,A7,A8⟩,A9,A10,A11,A12⟩:=hSw;go_simp;try with_reducible rfl);(exact fun _ _ _ h=>h);(try simp only [Act.put,xgD,xgE,xgF])));refine tkE ?_)
  refine qac (by kernel_rfl) ?_ _
  have HF:=Lib.hid (HED.out.trans ((d1.trans d2).trans d3))
  clear hHeld hSn d1 d2 d3 hr CZ
  go_wp2
  go_ret
  exact ⟨rfl,HF.out⟩
 | false=>
 have HN1:Hid (¬ Sim f []):=fun hh=>by have:=HB1.out.2 hh;cases this
 clear HB1
 obtain ⟨⟨x0,x1,x2,x3⟩,⟨y0,y1,y2,y3⟩,z0,z1,z2,z3⟩:=HSB.out.ext HE1.out
 go_wp2_with (fail)
 refine (qaQ M0 y g v1 (mb0 _) (HX2.out.ext HE1.out).pi).mono ?_
 rintro e v2 ⟨b2,rfl,hb2,e2⟩
 have HE2:=Lib.hid (HE1.out.trans e2)
 have HB2:=Lib.hid hb2
 clear x0 x1 x2 x3 y0 y1 y2 y3 z0 z1 z2 z3 e2 hb2 HE1
 cases b2 with
 | true=>
  have HZ:Hid (Sim g []):=HB2.out.1 rfl
  clear HB2
  go_upto_region 8 with (fail)
  have hEd:Ext W v2.drew:=HE2.out.trans (Ext.refl v2).drew
  have HSd:Hid (SB3 g0 x y z v2.drew):=HSB.out.ext hEd
  have HXd:=Lib.hid (HX1.out.ext hEd)
  have HYd:=Lib.hid (HX2.out.ext hEd)
  have HED:=Lib.hid (HE.out.trans hEd)
  clear HX1 HX2 HX3 HSB HE HE2 hEd
  refine qae (SB3 g0 x y z) 19 (by kernel_rfl) HSd.out (fun hHeld=>?_)
  generalize v2.drew=wd at *
  (refine tkB [0,1,2,5] ?_;(iterate 4 (refine tk1 (oi:=?_) (v:=?_) (by kernel_rfl) (by first | exact hSn | exact hHeld) ?_ ?_ ?_ ?_ ?_;rotate_left 2;(simp only [xgA,xgB,xgC];rfl);rfl;(intro wS hSw;obtain ⟨⟨A1,A2,A3,A4⟩,⟨A5,A6,A7,A8⟩,A9,A10,A11,A12⟩:=hSw;go_simp;try with_reducible rfl);(exact fun _ _ _ h=>h);(try simp only [Act.put,xgD,xgE,xgF])));refine tkE ?_)
  ((refine qaa 3 (o:=?_) (by kernel_rfl) ?_ ?_;rotate_left 1;(simp only [xgA,xgB,xgC];rfl);intro K hK);go_simp;(refine (res_zeroL (J:=1) (by decide) (by decide) (HS1.out.sz (by decide)) (HS2.out.sz (by decide)) (.inr HZ.out) x y wd HXd.out HYd.out).mono ?_);rintro e_ t1 ⟨r,rfl,hr,d1⟩;go_wp2_with (fail);(try clear hSn);(have hSn:=hHeld.ext d1);(refine hK.out _ _ (fun _=>hSn) ?_);clear hK K;(try simp only [Act.put,xgD,xgE,xgF]))
  have CZ:=Lib.hid (z_true r [] t1 hr (Sim.refl _))
  ((refine qaa 4 (o:=?_) (by kernel_rfl) ?_ ?_;rotate_left 1;(simp only [xgA,xgB,xgC];rfl);intro K hK);go_simp;(refine (CZ.out).mono ?_);rintro e_ t2 ⟨rfl,d2⟩;go_wp2_with (fail);(try clear hSn);(have hSn:=hHeld.ext (d1.trans d2));(refine hK.out _ _ (fun _=>hSn) ?_);clear hK K;(try simp only [Act.put,xgD,xgE,xgF]))
  ((refine qaa 6 (o:=?_) (by kernel_rfl) ?_ ?_;rotate_left 1;(simp only [xgA,xgB,xgC];rfl);intro K hK);go_simp;(refine (z_false x f t2 (HXd.out.ext (d1.trans d2)) HN1.out).mono ?_);rintro e_ t3 ⟨rfl,d3⟩;go_wp2_with (fail);(try clear hSn);(have hSn:=hHeld.ext ((d1.trans d2).trans d3));(refine hK.out _ _ (fun _=>hSn) ?_);clear hK K;(try simp only [Act.put,xgD,xgE,xgF]))
  (refine tkB [7,8] ?_;(iterate 2 (refine tk1 (oi:=?_) (v:=?_) (by kernel_rfl) (by first | exact hSn | exact hHeld) ?_ ?_ ?_ ?_ ?_;rotate_left 2;(simp only [xgA,xgB,xgC];rfl);rfl;(intro wS hSw;obtain ⟨⟨A1,A2,A3,A4⟩,⟨A5,A6,A7,A8⟩,A9,A10,A11,A12⟩:=hSw;go_simp;try with_reducible rfl);(exact fun _ _ _ h=>h);(try simp only [Act.put,xgD,xgE,xgF])));refine tkE ?_)
  ((refine qaa 9 (o:=?_) (by kernel_rfl) ?_ ?_;rotate_left 1;(simp only [xgA,xgB,xgC];rfl);intro K hK);go_simp;(refine (z_true y g t3 (HYd.out.ext ((d1.trans d2).trans d3)) HZ.out).mono ?_);rintro e_ t4 ⟨rfl,d4⟩;go_wp2_with (fail);(try clear hSn);(have hSn:=hHeld.ext (((d1.trans d2).trans d3).trans d4));(refine hK.out _ _ (fun _=>hSn) ?_);clear hK K;(try simp only [Act.put,xgD,xgE,xgF]))
  (refine tkB [10,11] ?_;(iterate 2 (refine tk1 (oi:=?_) (v:=?_) (by kernel_rfl) (by first | exact hSn | exact hHeld) ?_ ?_ ?_ ?_ ?_;rotate_left 2;(simp only [xgA,xgB,xgC];rfl);rfl;(intro wS hSw;obtain ⟨⟨A1,A2,A3,A4⟩,⟨A5,A6,A7,A8⟩,A9,A10,A11,A12⟩:=hSw;go_simp;try with_reducible rfl);(exact fun _ _ _ h=>h);(try simp only [Act.put,xgD,xgE,xgF])));refine tkE ?_)
  (refine tkB [12,13,14,15] ?_;(iterate 4 (refine ts1R (oi:=?_) (by kernel_rfl) (by first | exact hSn | exact hHeld) ?_ ?_ ?_ ?_;rotate_left 1;(simp only [xgA,xgB,xgC];rfl);rfl;(exact fun _ _ _ h=>h);(try simp only [Act.put,xgD,xgE,xgF])));refine tkE ?_)
  (refine tkB [16,17,18] ?_;(iterate 3 (refine tk1 (oi:=?_) (v:=?_) (by kernel_rfl) (by first | exact hSn | exact hHeld) ?_ ?_ ?_ ?_ ?_;rotate_left 2;(simp only [xgA,xgB,xgC];rfl);rfl;(intro wS hSw;obtain ⟨⟨A1,A2,A3,A4⟩,⟨A5,A6,A7,A8⟩,A9,A10,A11,A12⟩:=hSw;go_simp;try with_reducible rfl);(exact fun _ _ _ h=>h);(try simp only [Act.put,xgD,xgE,xgF])));refine tkE ?_)
  refine qac (by kernel_rfl) ?_ _
  have HF:=Lib.hid (HED.out.trans (((d1.trans d2).trans d3).trans d4))
  clear hHeld hSn d1 d2 d3 d4 hr CZ
  go_wp2
  go_ret
  exact ⟨rfl,HF.out⟩
 | false=>
 have HN2:Hid (¬ Sim g []):=fun hh=>by have:=HB2.out.2 hh;cases this
 clear HB2
 obtain ⟨⟨x0,x1,x2,x3⟩,⟨y0,y1,y2,y3⟩,z0,z1,z2,z3⟩:=HSB.out.ext HE2.out
 go_wp2_with (fail)
 refine (qaQ M0 z h v2 (mb0 _) (HX3.out.ext HE2.out).pi).mono ?_
 rintro e v3 ⟨b3,rfl,hb3,e3⟩
 have HE3:=Lib.hid (HE2.out.trans e3)
 have HB3:=Lib.hid hb3
 clear x0 x1 x2 x3 y0 y1 y2 y3 z0 z1 z2 z3 e3 hb3 HE2
 cases b3 with
 | true=>
  clear HB3
  go_upto_region 8 with (fail)
  have hEd:Ext W v3.drew:=HE3.out.trans (Ext.refl v3).drew
  have HSd:Hid (SB3 g0 x y z v3.drew):=HSB.out.ext hEd
  have HXd:=Lib.hid (HX1.out.ext hEd)
  have HYd:=Lib.hid (HX2.out.ext hEd)
  have HED:=Lib.hid (HE.out.trans hEd)
  obtain ⟨m,n,hG⟩:=gn_of HS1.out HS2.out HN1.out HN2.out (J:=1) (by decide) (by decide)
  obtain ⟨b,hb,hsh⟩:=hG.shared
  have HG:=Lib.hid hG
  have HB:=Lib.hid hb
  have HSH:=Lib.hid hsh
  clear HX1 HX2 HX3 HSB HE HE3 hEd hG hb hsh
  refine qae (SB3 g0 x y z) 19 (by kernel_rfl) HSd.out (fun hHeld=>?_)
  generalize v3.drew=wd at *
  (refine tkB [0,1,2,5] ?_;(iterate 4 (refine tk1 (oi:=?_) (v:=?_) (by kernel_rfl) (by first | exact hSn | exact hHeld) ?_ ?_ ?_ ?_ ?_;rotate_left 2;(simp only [xgA,xgB,xgC];rfl);rfl;(intro wS hSw;obtain ⟨⟨A1,A2,A3,A4⟩,⟨A5,A6,A7,A8⟩,A9,A10,A11,A12⟩:=hSw;go_simp;try with_reducible rfl);(exact fun _ _ _ h=>h);(try simp only [Act.put,xgD,xgE,xgF])));refine tkE ?_)
  ((refine qaa 3 (o:=?_) (by kernel_rfl) ?_ ?_;rotate_left 1;(simp only [xgA,xgB,xgC];rfl);intro K hK);go_simp;(refine (HG.out.resL x y wd HXd.out HYd.out).mono ?_);rintro e_ t1 ⟨r,rfl,hr,d1⟩;go_wp2_with (fail);(try clear hSn);(have hSn:=hHeld.ext d1);(refine hK.out _ _ (fun _=>hSn) ?_);clear hK K;(try simp only [Act.put,xgD,xgE,xgF]))
  have CZ:=Lib.hid (z_iff r _ b t1 hr HB.out)
  ((refine qaa 4 (o:=?_) (by kernel_rfl) ?_ ?_;rotate_left 1;(simp only [xgA,xgB,xgC];rfl);intro K hK);go_simp;(refine (CZ.out).mono ?_);rintro e_ t2 ⟨rfl,d2⟩;go_wp2_with (fail);(try clear hSn);(have hSn:=hHeld.ext (d1.trans d2));(refine hK.out _ _ (fun _=>hSn) ?_);clear hK K;(try simp only [Act.put,xgD,xgE,xgF]))
  ((refine qaa 6 (o:=?_) (by kernel_rfl) ?_ ?_;rotate_left 1;(simp only [xgA,xgB,xgC];rfl);intro K hK);go_simp;(refine (z_false x f t2 (HXd.out.ext (d1.trans d2)) HN1.out).mono ?_);rintro e_ t3 ⟨rfl,d3⟩;go_wp2_with (fail);(try clear hSn);(have hSn:=hHeld.ext ((d1.trans d2).trans d3));(refine hK.out _ _ (fun _=>hSn) ?_);clear hK K;(try simp only [Act.put,xgD,xgE,xgF]))
  (refine tkB [7,8] ?_;(iterate 2 (refine tk1 (oi:=?_) (v:=?_) (by kernel_rfl) (by first | exact hSn | exact hHeld) ?_ ?_ ?_ ?_ ?_;rotate_left 2;(simp only [xgA,xgB,xgC];rfl);rfl;(intro wS hSw;obtain ⟨⟨A1,A2,A3,A4⟩,⟨A5,A6,A7,A8⟩,A9,A10,A11,A12⟩:=hSw;go_simp;try with_reducible rfl);(exact fun _ _ _ h=>h);(try simp only [Act.put,xgD,xgE,xgF])));refine tkE ?_)
  ((refine qaa 9 (o:=?_) (by kernel_rfl) ?_ ?_;rotate_left 1;(simp only [xgA,xgB,xgC];rfl);intro K hK);go_simp;(refine (z_false y g t3 (HYd.out.ext ((d1.trans d2).trans d3)) HN2.out).mono ?_);rintro e_ t4 ⟨rfl,d4⟩;go_wp2_with (fail);(try clear hSn);(have hSn:=hHeld.ext (((d1.trans d2).trans d3).trans d4));(refine hK.out _ _ (fun _=>hSn) ?_);clear hK K;(try simp only [Act.put,xgD,xgE,xgF]))
  (refine tkB [10,11,12,13,14] ?_;(iterate 5 (refine tk1 (oi:=?_) (v:=?_) (by kernel_rfl) (by first | exact hSn | exact hHeld) ?_ ?_ ?_ ?_ ?_;rotate_left 2;(simp only [xgA,xgB,xgC];rfl);rfl;(intro wS hSw;obtain ⟨⟨A1,A2,A3,A4⟩,⟨A5,A6,A7,A8⟩,A9,A10,A11,A12⟩:=hSw;go_simp;try with_reducible rfl);(exact fun _ _ _ h=>h);(try simp only [Act.put,xgD,xgE,xgF])));refine tkE ?_)
  have k4:=((d1.trans d2).trans d3).trans d4
  ((refine qaa 15 (o:=?_) (by kernel_rfl) ?_ ?_;rotate_left 1;(simp only [xgA,xgB,xgC];rfl);intro K hK);go_simp;(refine (HSH.out x y t4 (HXd.out.ext k4) (HYd.out.ext k4)).mono ?_);rintro e_ t5 ⟨rfl,d5⟩;go_wp2_with (fail);(try clear hSn);(have hSn:=hHeld.ext (k4.trans d5));(refine hK.out _ _ (fun _=>hSn) ?_);clear hK K;(try simp only [Act.put,xgD,xgE,xgF]))
  have HF:=Lib.hid (HED.out.trans (k4.trans d5))
  clear d1 d2 d3 d4 d5 k4 hr CZ HB HSH HG HXd HYd HSd HED
  cases b with
  | true=>
   (refine tkB [16,17,18] ?_;(iterate 3 (refine tk1 (oi:=?_) (v:=?_) (by kernel_rfl) (by first | exact hSn | exact hHeld) ?_ ?_ ?_ ?_ ?_;rotate_left 2;(simp only [xgA,xgB,xgC];rfl);rfl;(intro wS hSw;obtain ⟨⟨A1,A2,A3,A4⟩,⟨A5,A6,A7,A8⟩,A9,A10,A11,A12⟩:=hSw;go_simp;try with_reducible rfl);(exact fun _ _ _ h=>h);(try simp only [Act.put,xgD,xgE,xgF])));refine tkE ?_)
   refine qac (by kernel_rfl) ?_ _
   clear hHeld hSn
   go_wp2
   go_ret
   exact ⟨rfl,HF.out⟩
  | false=>
   (refine tkB [16,17,18] ?_;(iterate 3 (refine tk1 (oi:=?_) (v:=?_) (by kernel_rfl) (by first | exact hSn | exact hHeld) ?_ ?_ ?_ ?_ ?_;rotate_left 2;(simp only [xgA,xgB,xgC];rfl);rfl;(intro wS hSw;obtain ⟨⟨A1,A2,A3,A4⟩,⟨A5,A6,A7,A8⟩,A9,A10,A11,A12⟩:=hSw;go_simp;try with_reducible rfl);(exact fun _ _ _ h=>h);(try simp only [Act.put,xgD,xgE,xgF])));refine tkE ?_)
   refine qac (by kernel_rfl) ?_ _
   clear hHeld hSn
   go_wp2
   go_ret
   exact ⟨rfl,HF.out⟩
 | false=>
 have HN3:Hid (¬ Sim h []):=fun hh=>by have:=HB3.out.2 hh;cases this
 clear HB3
 have hP:=prK_of HS1.out HS2.out HS3.out HN1.out HN2.out HN3.out x y z W HX1.out HX2.out HX3.out
 obtain ⟨dm,dn,q,a,b,c,d,e',c',p',hPK⟩:=hP
 have HP:=Lib.hid hPK
 clear hPK HN1 HN2 HN3 HS1 HS2 HS3 HX1 HX2 HX3
 go_upto_region 9 with (fail)
 have hEd:Ext W v3.drew:=HE3.out.trans (Ext.refl v3).drew
 have HSd:Hid (SB3 g0 x y z v3.drew):=HSB.out.ext hEd
 have HKd:Hid (Ext W v3.drew):=hEd
 clear HE3 hEd
 refine qae (SB3 g0 x y z) 8 (by kernel_rfl) HSd.out (fun hHeld=>?_)
 generalize v3.drew=wd at *
 (refine tkB [0,1,3,4] ?_;(iterate 4 (refine tk1 (oi:=?_) (v:=?_) (by kernel_rfl) (by first | exact hSn | exact hHeld) ?_ ?_ ?_ ?_ ?_;rotate_left 2;(simp only [xgA,xgB,xgC];rfl);rfl;(intro wS hSw;obtain ⟨⟨A1,A2,A3,A4⟩,⟨A5,A6,A7,A8⟩,A9,A10,A11,A12⟩:=hSw;go_simp;try with_reducible rfl);(exact fun _ _ _ h=>h);(try simp only [Act.put,xgD,xgE,xgF])));refine tkE ?_)
 ((refine qaa 2 (o:=?_) (by kernel_rfl) ?_ ?_;rotate_left 1;(simp only [xgA,xgB,xgC];rfl);intro K hK);go_simp;(refine (HP.out.d1 wd HKd.out).mono ?_);rintro e_ t1 ⟨rfl,d1⟩;go_wp2_with (fail);(try clear hSn);(have hSn:=hHeld.ext d1);(refine hK.out _ _ (fun _=>hSn) ?_);clear hK K;(try simp only [Act.put,xgD,xgE,xgF]))
 ((refine qaa 5 (o:=?_) (by kernel_rfl) ?_ ?_;rotate_left 1;(simp only [xgA,xgB,xgC];rfl);intro K hK);go_simp;(refine (HP.out.d2 t1 (HKd.out.trans d1)).mono ?_);rintro e_ t2 ⟨rfl,d2⟩;go_wp2_with (fail);(try clear hSn);(have hSn:=hHeld.ext (d1.trans d2));(refine hK.out _ _ (fun _=>hSn) ?_);clear hK K;(try simp only [Act.put,xgD,xgE,xgF]))
 (refine tkB [6,7] ?_;(iterate 2 (refine tk1 (oi:=?_) (v:=?_) (by kernel_rfl) (by first | exact hSn | exact hHeld) ?_ ?_ ?_ ?_ ?_;rotate_left 2;(simp only [xgA,xgB,xgC];rfl);rfl;(intro wS hSw;obtain ⟨⟨A1,A2,A3,A4⟩,⟨A5,A6,A7,A8⟩,A9,A10,A11,A12⟩:=hSw;go_simp;try with_reducible rfl);(exact fun _ _ _ h=>h);(try simp only [Act.put,xgD,xgE,xgF])));refine tkE ?_)
 refine qac (by kernel_rfl) ?_ _
 have HK2:=Lib.hid (HKd.out.trans (d1.trans d2))
 clear hHeld hSn d1 d2 HSd HKd
 go_upto_region 10 with (fail)
 have hEd:Ext W t2.drew:=HK2.out.trans (Ext.refl t2).drew
 have HSd:Hid (SB3 g0 x y z t2.drew):=HSB.out.ext hEd
 have HKd:Hid (Ext W t2.drew):=hEd
 have hw:=HP.out.w
 clear HK2 hEd HSB
 refine qae (SB3 g0 x y z) 32 (by kernel_rfl) HSd.out (fun hHeld=>?_)
 generalize t2.drew=wd at *
 (refine tkB [0,1,3,4,6,7,8,10,11,12] ?_;(iterate 10 (refine tk1 (oi:=?_) (v:=?_) (by kernel_rfl) (by first | exact hSn | exact hHeld) ?_ ?_ ?_ ?_ ?_;rotate_left 2;(simp only [xgA,xgB,xgC];rfl);rfl;(intro wS hSw;obtain ⟨⟨A1,A2,A3,A4⟩,⟨A5,A6,A7,A8⟩,A9,A10,A11,A12⟩:=hSw;go_simp;try with_reducible rfl);(exact fun _ _ _ h=>h);(try simp only [Act.put,xgD,xgE,xgF])));refine tkE ?_)
 ((refine qaa 2 (o:=?_) (by kernel_rfl) ?_ ?_;rotate_left 1;(simp only [xgA,xgB,xgC];rfl);intro K hK);go_simp;(refine (HP.out.m1 wd HKd.out).mono ?_);rintro e_ s1 ⟨u1,rfl,hu1,d1⟩;go_wp2_with (fail);(try clear hSn);(have hSn:=hHeld.ext d1);(refine hK.out _ _ (fun _=>hSn) ?_);clear hK K;(try simp only [Act.put,xgD,xgE,xgF]))
 ((refine qaa 5 (o:=?_) (by kernel_rfl) ?_ ?_;rotate_left 1;(simp only [xgA,xgB,xgC];rfl);intro K hK);go_simp;(refine (HP.out.r1 s1 u1 (HKd.out.trans d1) hu1).mono ?_);rintro e_ s2 ⟨u2,rfl,hu2,d2⟩;go_wp2_with (fail);(try clear hSn);(have hSn:=hHeld.ext (d1.trans d2));(refine hK.out _ _ (fun _=>hSn) ?_);clear hK K;(try simp only [Act.put,xgD,xgE,xgF]))
 have k2:=d1.trans d2
 ((refine qaa 9 (o:=?_) (by kernel_rfl) ?_ ?_;rotate_left 1;(simp only [xgA,xgB,xgC];rfl);intro K hK);go_simp;(refine (HP.out.r2 s2 (HKd.out.trans k2)).mono ?_);rintro e_ s3 ⟨u3,rfl,hu3,d3⟩;go_wp2_with (fail);(try clear hSn);(have hSn:=hHeld.ext (k2.trans d3));(refine hK.out _ _ (fun _=>hSn) ?_);clear hK K;(try simp only [Act.put,xgD,xgE,xgF]))
 ((refine qaa 13 (o:=?_) (by kernel_rfl) ?_ ?_;rotate_left 1;(simp only [xgA,xgB,xgC];rfl);intro K hK);go_simp;(refine (HP.out.r3 s3 (HKd.out.trans (k2.trans d3))).mono ?_);rintro e_ s4 ⟨u4,rfl,hu4,d4⟩;go_wp2_with (fail);(try clear hSn);(have hSn:=hHeld.ext ((k2.trans d3).trans d4));(refine hK.out _ _ (fun _=>hSn) ?_);clear hK K;(try simp only [Act.put,xgD,xgE,xgF]))
 ((refine qaa 14 (o:=?_) (by kernel_rfl) ?_ ?_;rotate_left 1;(simp only [xgA,xgB,xgC];rfl);intro K hK);go_simp;(refine (HP.out.m2 s4 u3 u4 (hu3.ext d4) hu4).mono ?_);rintro e_ s5 ⟨u5,rfl,hu5,d5⟩;go_wp2_with (fail);(try clear hSn);(have hSn:=hHeld.ext (((k2.trans d3).trans d4).trans d5));(refine hK.out _ _ (fun _=>hSn) ?_);clear hK K;(try simp only [Act.put,xgD,xgE,xgF]))
 have k5:=((k2.trans d3).trans d4).trans d5
 ((refine qaa 15 (o:=?_) (by kernel_rfl) ?_ ?_;rotate_left 1;(simp only [xgA,xgB,xgC];rfl);intro K hK);go_simp;(refine (qoi u2 u5 _ _ s5 true (hu2.ext ((d3.trans d4).trans d5)).pi hu5.pi (by simp only [true_iff];exact HP.out.s1)).mono ?_);rintro e_ s6 ⟨rfl,d6⟩;go_wp2_with (fail);(try clear hSn);(have hSn:=hHeld.ext (k5.trans d6));(refine hK.out _ _ (fun _=>hSn) ?_);clear hK K;(try simp only [Act.put,xgD,xgE,xgF]))
 (refine tkB [16,17,18,19,21,22,23,25,26,27] ?_;(iterate 10 (refine tk1 (oi:=?_) (v:=?_) (by kernel_rfl) (by first | exact hSn | exact hHeld) ?_ ?_ ?_ ?_ ?_;rotate_left 2;(simp only [xgA,xgB,xgC];rfl);rfl;(intro wS hSw;obtain ⟨⟨A1,A2,A3,A4⟩,⟨A5,A6,A7,A8⟩,A9,A10,A11,A12⟩:=hSw;go_simp;try with_reducible rfl);(exact fun _ _ _ h=>h);(try simp only [Act.put,xgD,xgE,xgF])));refine tkE ?_)
 have k6:=k5.trans d6
 ((refine qaa 20 (o:=?_) (by kernel_rfl) ?_ ?_;rotate_left 1;(simp only [xgA,xgB,xgC];rfl);intro K hK);go_simp;(refine (HP.out.r4 s6 (HKd.out.trans k6)).mono ?_);rintro e_ s7 ⟨u6,rfl,hu6,d7⟩;go_wp2_with (fail);(try clear hSn);(have hSn:=hHeld.ext (k6.trans d7));(refine hK.out _ _ (fun _=>hSn) ?_);clear hK K;(try simp only [Act.put,xgD,xgE,xgF]))
 ((refine qaa 24 (o:=?_) (by kernel_rfl) ?_ ?_;rotate_left 1;(simp only [xgA,xgB,xgC];rfl);intro K hK);go_simp;(refine (HP.out.r2 s7 (HKd.out.trans (k6.trans d7))).mono ?_);rintro e_ s8 ⟨u7,rfl,hu7,d8⟩;go_wp2_with (fail);(try clear hSn);(have hSn:=hHeld.ext ((k6.trans d7).trans d8));(refine hK.out _ _ (fun _=>hSn) ?_);clear hK K;(try simp only [Act.put,xgD,xgE,xgF]))
 ((refine qaa 28 (o:=?_) (by kernel_rfl) ?_ ?_;rotate_left 1;(simp only [xgA,xgB,xgC];rfl);intro K hK);go_simp;(refine (HP.out.p s8 u7 hu7).mono ?_);rintro e_ s9 ⟨u8,rfl,hu8,d9⟩;go_wp2_with (fail);(try clear hSn);(have hSn:=hHeld.ext (((k6.trans d7).trans d8).trans d9));(refine hK.out _ _ (fun _=>hSn) ?_);clear hK K;(try simp only [Act.put,xgD,xgE,xgF]))
 have k9:=((k6.trans d7).trans d8).trans d9
 ((refine qaa 29 (o:=?_) (by kernel_rfl) ?_ ?_;rotate_left 1;(simp only [xgA,xgB,xgC];rfl);intro K hK);go_simp;(refine (qoi u6 u8 _ _ s9 true (hu6.ext (d8.trans d9)).pi hu8.pi (by simp only [true_iff];exact HP.out.s2)).mono ?_);rintro e_ s10 ⟨rfl,d10⟩;go_wp2_with (fail);(try clear hSn);(have hSn:=hHeld.ext (k9.trans d10));(refine hK.out _ _ (fun _=>hSn) ?_);clear hK K;(try simp only [Act.put,xgD,xgE,xgF]))
 (refine tkB [30,31] ?_;(iterate 2 (refine tk1 (oi:=?_) (v:=?_) (by kernel_rfl) (by first | exact hSn | exact hHeld) ?_ ?_ ?_ ?_ ?_;rotate_left 2;(simp only [xgA,xgB,xgC];rfl);rfl;(intro wS hSw;obtain ⟨⟨A1,A2,A3,A4⟩,⟨A5,A6,A7,A8⟩,A9,A10,A11,A12⟩:=hSw;go_simp;try with_reducible rfl);(exact fun _ _ _ h=>h);(try simp only [Act.put,xgD,xgE,xgF])));refine tkE ?_)
 refine qac (by kernel_rfl) ?_ _
 have HF:=Lib.hid (HE.out.trans (HKd.out.trans (k9.trans d10)))
 clear hHeld hSn d1 d2 d3 d4 d5 d6 d7 d8 d9 d10 k2 k5 k6 k9 hu1 hu2 hu3 hu4 hu5 hu6 hu7 hu8 HP hw HE HSd HKd
 go_wp2
 go_ret
 exact ⟨rfl,HF.out⟩
end Go.Proofs.YtlmipmebdelgbaaGreat

namespace Go.Proofs.YtlmipmebdelgbaaGreat
open Go.ChangeShapes Go.WideShapes Go.ChangeAt Go.RowKit Go.Deep

namespace resultantProduct
theorem own:ownKnob Tryz.prog.godebug=none:=by kernel_rfl
set_option maxRecDepth 100000 in
theorem contract (H : Type) (enc : TypeId × Value -> H) (W : World) (base : Nat) (args : Array Value) (ds gs : List (DataW H)) (before : List MemPlace)
  (hval : ∀ (j:Nat) t v,Tryz.f5.params[j]? = some t->args[j]? = some v->Value.okWide Tryz.prog W .any base t v)
  (hW:DataW.Whole enc Tryz.prog Tryz.f5.params.toList Rows.resultantProductSpec.vars false W args.toList ds gs before) :
  Calls Tryz.prog 5 args W fun e W'=>∃ v,e = .returned v/\Rows.resultantProductSpec.post enc Tryz.prog Tryz.f5 false true false false W args v W':=by
 have hW':=hW
 obtain ⟨p,q,hA0,hV,rfl,hfz,hnd⟩:=hW
 have hA:DataW.TrodAll enc Tryz.prog W 0 (fun _=>true) true Tryz.f5.params.toList args.toList ds p:=hA0
 rw [Tryz.params5] at hA hval
 obtain ⟨v0,vs0,d0,ds0,p0,q0,hargs,rfl,rfl,h0,r0⟩:=trodAll_cons hA
 obtain ⟨v1,vs1,d1,ds1,p1,q1,rfl,rfl,rfl,h1,r1⟩:=trodAll_cons r0
 obtain ⟨v2,vs2,d2,ds2,p2,q2,rfl,rfl,rfl,h2,r2⟩:=trodAll_cons r1
 obtain ⟨rfl,rfl,rfl⟩:=trodAll_nil r2
 obtain rfl:args = #[v0,v1,v2]:=by cases args;simp_all
 obtain ⟨rfl,rfl⟩:=trodVars_none hV
 obtain ⟨a0,n0,c0,X0,rfl,g0⟩:=qg7 (hval 0 23 v0 rfl rfl) h0
 obtain ⟨a1,n1,c1,X1,rfl,g1⟩:=qg7 (hval 1 23 v1 rfl rfl) h1
 obtain ⟨a2,n2,c2,X2,rfl,g2⟩:=qg7 (hval 2 23 v2 rfl rfl) h2
 refine (law_prod26 a0 n0 c0 X0 a1 n1 c1 X1 a2 n2 c2 X2 W g0 g1 g2).mono fun e W' ⟨he,hg⟩=>?_
 subst he
 refine ⟨_,rfl,qli (tb:=4) (by kernel_rfl) ?_ rfl rfl (by kernel_rfl) Tryz.underlying4 hW' hg⟩
 rw [Tryz.params5]
 intro t ht
 simp only [List.mem_cons,List.not_mem_nil,or_false,or_self,or_self_left] at ht
 subst ht
 exact ⟨by kernel_rfl,of_decide_eq_true (by kernel_rfl)⟩
set_option maxRecDepth 100000 in
theorem lifted (os : Os) (started : os.Started) (H : Type) (enc : TypeId × Value -> H) :
  ReturnsInHanded {} Tryz.checked os 5 .any (Rows.resultantProductSpec.pre6 enc Tryz.prog Tryz.f5 Rows.resultantProductRow.domain false) (Rows.resultantProductSpec.post enc Tryz.prog Tryz.f5 false true false false):=by
 refine returnsInHanded_of_change (C:=Tryz.checked) own started (by kernel_rfl) Tryz.func5
  (ChangeSpec.witness6 (enc:=enc) (C:=Tryz.checked) false ⟨#[],#[.slice none 0 0,.slice none 0 0,.slice none 0 0],[]⟩ 8 (by kernel_rfl) (by kernel_rfl) (by kernel_rfl) (by kernel_rfl)) ?_
 intro W base args ds gs before hval hW _ _
 exact contract H enc W base args ds gs before hval hW
theorem kInp:(Rows.resultantProductRow.inPlace == Tryz.pinned.checked.prog.inPlace 5)=true:=by kernel_rfl
theorem kUnf:(Rows.resultantProductRow.unfollowed == Tryz.pinned.checked.prog.unfollowed 5)=true:=by kernel_rfl
theorem kRec:(Rows.resultantProductRow.recurses == Tryz.pinned.checked.prog.recurses 5)=true:=by kernel_rfl
theorem kNam:(Rows.resultantProductRow.named == Tryz.pinned.checked.prog.varsNamed 5)=true:=by kernel_rfl
theorem kLaid:laidOutB Tryz.pinned.checked.prog=true:=by kernel_rfl
theorem closed:joinedFacts Tryz.pinned.checked.prog 5 Tryz.f5 Rows.resultantProductSpec Rows.resultantProductRow=true:=by
 unfold joinedFacts
 rw [kInp,kUnf,kRec,kNam,kLaid]
 kernel_rfl
theorem proved:Rows.ResultantProductSaid:=
 OpenClaim.holds_of_wide (p:=Tryz.pinned) (s:=Rows.resultantProductSpec) (c:=Rows.resultantProductRow) 5 Tryz.f5 rfl rfl rfl rfl rfl rfl rfl ⟨rfl,rfl,rfl,rfl,rfl⟩ rfl rfl rfl rfl rfl (by kernel_rfl) Tryz.func5 closed
  (of_decide_eq_true (by kernel_rfl)) (by unfold Func.isWrapper;first | (rw [if_pos (by decide +kernel)];kernel_rfl) | (rw [if_neg (by decide +kernel)];exact ⟨rfl,rfl⟩))
  (fun os started H enc _=>lifted os started H enc)
end resultantProduct
end Go.Proofs.YtlmipmebdelgbaaGreat
