/- PseudoDivide: the walk. -/
import Derived.Test.YtjcceddloogiiaaGreatEe
set_option linter.unusedVariables false
set_option linter.unusedSimpArgs false

namespace Go.Proofs.YtjcceddloogiiaaGreat
open Go.RowKit

def SL4 (a b c d : Nat) (x y q r : PE) (w : World) : Prop := P4 w a x ∧ P4 w b y ∧ P4 w c q ∧ P4 w d r
theorem SL4.ext {a b c d : Nat} {x y q r : PE} {w w' : World} (h : SL4 a b c d x y q r w) (he : Ext w w') : SL4 a b c d x y q r w' := ⟨h.1.ext he, h.2.1.ext he, h.2.2.1.ext he, h.2.2.2.ext he⟩
def PdCut (l : List Tm) (wd : World) (s15 : Value) (wx : World) : Prop := ∃ (a : Nat) (v : PE), s15 = .pointer (some ⟨a, 0, none⟩) ∧ Put1 wd wx a v l
def SL5 (a b c d e : Nat) (x y q r v : PE) (w : World) : Prop := P4 w a x ∧ P4 w b y ∧ P4 w c q ∧ P4 w d r ∧ P4 w e v
theorem SL5.ext {a b c d e : Nat} {x y q r v : PE} {w w' : World} (h : SL5 a b c d e x y q r v w) (he : Ext w w') : SL5 a b c d e x y q r v w' := ⟨h.1.ext he, h.2.1.ext he, h.2.2.1.ext he, h.2.2.2.1.ext he, h.2.2.2.2.ext he⟩
set_option maxRecDepth 100000 in
set_option maxHeartbeats 16000000 in
theorem law_divide (a1 a2 : Option Addr) (n1 p1 n2 p2 : Nat) (X1 X2 : Nat → TE) (L : Int) (w : World) (h1 : PRaw w a1 n1 p1 X1) (h2 : PRaw w a2 n2 p2 X2) :
  Calls Tryz.prog 10 #[.slice a1 n1 p1, .slice a2 n2 p2, .int .i64 L] w fun e w' => e = .returned (.bool true) ∧ Ext w w' := by
 have HR1 := Lib.hid h1
 have HR2 := Lib.hid h2
 clear h1 h2
 go_enter Tryz.func10, Tryz.ntmps10
 go_wp2_with (fail)
 refine (law_fit24 _).mono ?_
 rintro e w1 ⟨rfl, he1⟩
 have HE1 := Lib.hid he1
 have CF1 := Lib.hid (law_few24 a1 n1 p1 X1 6 4 w1 (HR1.out.1.ext he1) HR1.out.2.1)
 have CF2 := Lib.hid (law_few24 a2 n2 p2 X2 5 3 w1 (HR2.out.1.ext he1) HR2.out.2.1)
 rw [show ((6 : Nat) : Int) = 6 from rfl, show ((4 : Nat) : Int) = 4 from rfl] at CF1
 rw [show ((5 : Nat) : Int) = 5 from rfl, show ((3 : Nat) : Int) = 3 from rfl] at CF2
 clear he1
 go_wp2_with (fail)
 refine CF1.out.mono ?_
 rintro e w2 ⟨b, rfl, hb1, rfl⟩
 cases b with
 | false =>
  clear hb1 CF1 CF2
  go_wp2
  go_ret
  exact ⟨rfl, HE1.out⟩
 | true =>
 have HF1 := Lib.hid (hb1.1 rfl)
 clear hb1 CF1
 go_wp2_with (fail)
 refine CF2.out.mono ?_
 rintro e w2 ⟨b, rfl, hb2, rfl⟩
 cases b with
 | false =>
  clear hb2 CF2
  go_wp2
  go_ret
  exact ⟨rfl, HE1.out⟩
 | true =>
 have HF2 := Lib.hid (hb2.1 rfl)
 clear hb2 CF2
 obtain ⟨l1, hl1, HS1, hd1, hx1⟩ := HR1.out.smD (B := 4) HF1.out (by omega) (by omega)
 obtain ⟨l2, hl2, HS2, hd2, hx2⟩ := HR2.out.smD (B := 3) HF2.out (by omega) (by omega)
 have CO1 := Lib.hid (fun W he => rp_Of M0 _ l1 W (mb0 _) (hl1.ext he) hd1 hx1)
 have CO2 := Lib.hid (fun W he => rp_Of M0 _ l2 W (mb0 _) (hl2.ext he) hd2 hx2)
 have HS1 := Lib.hid HS1
 have HS2 := Lib.hid HS2
 clear hl1 hd1 hx1 hl2 hd2 hx2 HF1 HF2 HR1 HR2
 generalize norm l1 = f at *
 generalize norm l2 = g at *
 go_wp2_with (fail)
 refine (CO1.out _ HE1.out).mono ?_
 rintro e w2 ⟨x, rfl, hx, he2⟩
 have HE2 := Lib.hid (HE1.out.trans he2)
 go_wp2_with (fail)
 refine (CO2.out _ HE2.out).mono ?_
 rintro e w3 ⟨y, rfl, hy, he3⟩
 have hb1 := Blk.of_arr w3 (peA x) 33 4 rfl
 have hb2 := Blk.of_arr (w3.alloc (.cells (peA x) 33)) (peA y) 33 4 rfl
 simp only [World.size_alloc] at hb2
 have hEa : Ext w3 ((w3.alloc (.cells (peA x) 33)).alloc (.cells (peA y) 33)) := ((Ext.refl w3).alloc _).alloc _
 have HP0 : Hid (SP2 w3.heap.size x y ((w3.alloc (.cells (peA x) 33)).alloc (.cells (peA y) 33))) := ⟨(hb1.alloc _).p4, hb2.p4⟩
 have HX := Lib.hid ((hx.ext he3).ext hEa)
 have HY := Lib.hid (hy.ext hEa)
 have HE := Lib.hid ((HE2.out.trans he3).trans hEa)
 clear hb1 hb2 hEa hx hy he2 he3 CO1 CO2 HE1 HE2
 go_upto_region 6 with (fail)
 generalize (w3.alloc (.cells (peA x) 33)).alloc (.cells (peA y) 33) = W at *
 have CD := Lib.hid (ps_Divide M0 x y f g L 4 3 5 5 W (mb0 _) HX.out.pi HY.out.pi HS1.out.nn HS2.out.nn HS1.out.deg HS2.out.deg HS1.out.dl HS2.out.dl dvn_small)
 obtain ⟨⟨x0, x1, x2, x3⟩, y0, y1, y2, y3⟩ := HP0.out
 go_wp2_with (fail)
 refine CD.out.mono ?_
 rintro e w5 ⟨q, r, er, rfl, ho, he5⟩
 have hb3 := Blk.of_arr w5 (peA q) 33 4 rfl
 have hb4 := Blk.of_arr (w5.alloc (.cells (peA q) 33)) (peA r) 33 4 rfl
 simp only [World.size_alloc] at hb4
 have hEb : Ext w5 ((w5.alloc (.cells (peA q) 33)).alloc (.cells (peA r) 33)) := ((Ext.refl w5).alloc _).alloc _
 have HO := Lib.hid ho
 have HEO := Lib.hid hEb
 have HX5 := Lib.hid ((HX.out.ext he5).ext hEb)
 have HY5 := Lib.hid ((HY.out.ext he5).ext hEb)
 have HE5 := Lib.hid ((HE.out.trans he5).trans hEb)
 have HP5 : Hid (SL4 w3.heap.size (w3.heap.size + 1) w5.heap.size (w5.heap.size + 1) x y q r ((w5.alloc (.cells (peA q) 33)).alloc (.cells (peA r) 33))) := ⟨(HP0.out.1.ext he5).ext hEb, (HP0.out.2.ext he5).ext hEb, (hb3.alloc _).p4, hb4.p4⟩
 clear ho he5 hb3 hb4 hEb CD HX HY HE HP0 x0 x1 x2 x3 y0 y1 y2 y3
 go_upto_region 7 with (fail)
 generalize hgq : w5.heap.size = bq at *
 generalize (w5.alloc (.cells (peA q) 33)).alloc (.cells (peA r) 33) = W5 at *
 clear hgq
 have CR := Lib.hid (ps_Rem M0 x y f g L 4 3 5 5 W5 (mb0 _) HX5.out.pi HY5.out.pi HS1.out.nn HS2.out.nn HS1.out.deg HS2.out.deg HS1.out.dl HS2.out.dl dvn_small)
 obtain ⟨⟨x0, x1, x2, x3⟩, ⟨y0, y1, y2, y3⟩, ⟨q0, q1, q2, q3⟩, r0, r1, r2, r3⟩ := HP5.out
 go_wp2_with (fail)
 refine CR.out.mono ?_
 rintro e w6 ⟨s, xr, rfl, hm, he6⟩
 have hb5 := Blk.of_arr w6 (peA s) 33 4 rfl
 have hEc := (Ext.refl w6).alloc (.cells (peA s) 33)
 have hj := (dj_of HS1.out.nn HS2.out.nn HO.out (HEO.out.trans he6) hm).ext hEc
 have HJ := Lib.hid hj
 have HX6 := Lib.hid ((HX5.out.ext he6).ext hEc)
 have HY6 := Lib.hid ((HY5.out.ext he6).ext hEc)
 have HE6 := Lib.hid ((HE5.out.trans he6).trans hEc)
 have HP6 := Lib.hid ((HP5.out.ext he6).ext hEc)
 have HPS : Hid (P4 (w6.alloc (.cells (peA s) 33)) w6.heap.size s) := hb5.p4
 clear hj hb5 hEc hm he6 CR HO HEO HX5 HY5 HE5 HP5 x0 x1 x2 x3 y0 y1 y2 y3 q0 q1 q2 q3 r0 r1 r2 r3
 go_upto_region 8 with (fail)
 generalize hgs : w6.heap.size = bs at *
 generalize w6.alloc (.cells (peA s) 33) = W6 at *
 clear hgs
 obtain ⟨rfl, ql, rl, hq, hr, hs, hcase⟩ := HJ.out
 have HQ := Lib.hid hq
 have HR := Lib.hid hr
 have HS := Lib.hid hs
 have HCA := Lib.hid hcase
 clear hq hr hs hcase HJ
 obtain ⟨⟨x0, x1, x2, x3⟩, ⟨y0, y1, y2, y3⟩, ⟨q0, q1, q2, q3⟩, r0, r1, r2, r3⟩ := HP6.out
 obtain ⟨s0, s1, s2, s3⟩ := HPS.out
 have HPS6 := HPS
 have HQ6 := HQ
 have HR6 := HR
 have HS6 := HS
 clear HPS HQ HR HS
 go_wp2_with (fail)
 refine (rp_Same M0 s r _ _ W6 (mb0 _) HS6.out.pi HR6.out.pi).mono ?_
 rintro e w7 ⟨b, rfl, hb, he7⟩
 obtain rfl : b = true := hb.2 (Sim.refl _)
 clear hb
 have HX7 := Lib.hid (HX6.out.ext he7)
 have HY7 := Lib.hid (HY6.out.ext he7)
 have HE7 := Lib.hid (HE6.out.trans he7)
 have HP7 := Lib.hid (HP6.out.ext he7)
 have HPS7 := Lib.hid (HPS6.out.ext he7)
 have HQ7 := Lib.hid (HQ6.out.ext he7)
 have HR7 := Lib.hid (HR6.out.ext he7)
 have HS7 := Lib.hid (HS6.out.ext he7)
 clear he7 HX6 HY6 HE6 HP6 HPS6 HQ6 HR6 HS6 x0 x1 x2 x3 y0 y1 y2 y3 q0 q1 q2 q3 r0 r1 r2 r3 s0 s1 s2 s3
 obtain ⟨⟨x0, x1, x2, x3⟩, ⟨y0, y1, y2, y3⟩, ⟨q0, q1, q2, q3⟩, r0, r1, r2, r3⟩ := HP7.out
 obtain ⟨s0, s1, s2, s3⟩ := HPS7.out
 go_wp2_with (fail)
 refine (law_canonical24 M0 ql q w7 HQ7.out).mono ?_
 rintro e w8 ⟨rfl, he8⟩
 have HX8 := Lib.hid (HX7.out.ext he8)
 have HY8 := Lib.hid (HY7.out.ext he8)
 have HE8 := Lib.hid (HE7.out.trans he8)
 have HP8 := Lib.hid (HP7.out.ext he8)
 have HPS8 := Lib.hid (HPS7.out.ext he8)
 have HQ8 := Lib.hid (HQ7.out.ext he8)
 have HR8 := Lib.hid (HR7.out.ext he8)
 have HS8 := Lib.hid (HS7.out.ext he8)
 clear he8 HX7 HY7 HE7 HP7 HPS7 HQ7 HR7 HS7 x0 x1 x2 x3 y0 y1 y2 y3 q0 q1 q2 q3 r0 r1 r2 r3 s0 s1 s2 s3
 obtain ⟨⟨x0, x1, x2, x3⟩, ⟨y0, y1, y2, y3⟩, ⟨q0, q1, q2, q3⟩, r0, r1, r2, r3⟩ := HP8.out
 obtain ⟨s0, s1, s2, s3⟩ := HPS8.out
 go_wp2_with (fail)
 refine (law_canonical24 M0 rl r w8 HR8.out).mono ?_
 rintro e w9 ⟨rfl, he9⟩
 have HX9 := Lib.hid (HX8.out.ext he9)
 have HY9 := Lib.hid (HY8.out.ext he9)
 have HE9 := Lib.hid (HE8.out.trans he9)
 have HP9 := Lib.hid (HP8.out.ext he9)
 have HPS9 := Lib.hid (HPS8.out.ext he9)
 have HQ9 := Lib.hid (HQ8.out.ext he9)
 have HR9 := Lib.hid (HR8.out.ext he9)
 have HS9 := Lib.hid (HS8.out.ext he9)
 clear he9 HX8 HY8 HE8 HP8 HPS8 HQ8 HR8 HS8 x0 x1 x2 x3 y0 y1 y2 y3 q0 q1 q2 q3 r0 r1 r2 r3 s0 s1 s2 s3
 obtain ⟨⟨x0, x1, x2, x3⟩, ⟨y0, y1, y2, y3⟩, ⟨q0, q1, q2, q3⟩, r0, r1, r2, r3⟩ := HP9.out
 obtain ⟨s0, s1, s2, s3⟩ := HPS9.out
 go_wp2_with (fail)
 refine (law_canonical24 M0 rl s w9 HS9.out).mono ?_
 rintro e w10 ⟨rfl, he10⟩
 have HX10 := Lib.hid (HX9.out.ext he10)
 have HY10 := Lib.hid (HY9.out.ext he10)
 have HE10 := Lib.hid (HE9.out.trans he10)
 have HP10 := Lib.hid (HP9.out.ext he10)
 have HPS10 := Lib.hid (HPS9.out.ext he10)
 have HQ10 := Lib.hid (HQ9.out.ext he10)
 have HR10 := Lib.hid (HR9.out.ext he10)
 have HS10 := Lib.hid (HS9.out.ext he10)
 clear he10 HX9 HY9 HE9 HP9 HPS9 HQ9 HR9 HS9 x0 x1 x2 x3 y0 y1 y2 y3 q0 q1 q2 q3 r0 r1 r2 r3 s0 s1 s2 s3
 obtain ⟨⟨x0, x1, x2, x3⟩, ⟨y0, y1, y2, y3⟩, ⟨q0, q1, q2, q3⟩, r0, r1, r2, r3⟩ := HP10.out
 obtain ⟨s0, s1, s2, s3⟩ := HPS10.out
 have CI := Lib.hid (fun W => law_inner24 L W)
 go_wp2_with (fail)
 refine (CI.out _).mono ?_
 rintro e w11 ⟨rfl, rfl⟩
 rcases HCA.out with ⟨hl, rfl, rfl, rfl⟩ | ⟨hl, hz, rfl, rfl, rfl⟩ | ⟨J, n, V, hLJ, h1, h4, hgz, hd, hst, rfl, rfl, rfl⟩
 ·have hlb : isLevB L = false := by unfold isLevB; simp only [decide_eq_false_iff_not]; exact hl
  rw [hlb]
  clear HCA hl hlb CI
  go_wp2_with (fail)
  refine (rp_IsZero M0 q [] w10 (mb0 _) HQ10.out.pi).mono ?_
  rintro e w12 ⟨b, rfl, hb, he12⟩
  obtain rfl : b = true := hb.2 (Sim.refl _)
  clear hb
  have HX12 := Lib.hid (HX10.out.ext he12)
  have HY12 := Lib.hid (HY10.out.ext he12)
  have HE12 := Lib.hid (HE10.out.trans he12)
  have HP12 := Lib.hid (HP10.out.ext he12)
  have HPS12 := Lib.hid (HPS10.out.ext he12)
  have HQ12 := Lib.hid (HQ10.out.ext he12)
  have HR12 := Lib.hid (HR10.out.ext he12)
  have HS12 := Lib.hid (HS10.out.ext he12)
  clear he12 HX10 HY10 HE10 HP10 HPS10 HQ10 HR10 HS10 x0 x1 x2 x3 y0 y1 y2 y3 q0 q1 q2 q3 r0 r1 r2 r3 s0 s1 s2 s3
  obtain ⟨⟨x0, x1, x2, x3⟩, ⟨y0, y1, y2, y3⟩, ⟨q0, q1, q2, q3⟩, r0, r1, r2, r3⟩ := HP12.out
  obtain ⟨s0, s1, s2, s3⟩ := HPS12.out
  go_wp2_with (fail)
  refine (rp_IsZero M0 r [] w12 (mb0 _) HR12.out.pi).mono ?_
  rintro e w13 ⟨b, rfl, hb, he13⟩
  obtain rfl : b = true := hb.2 (Sim.refl _)
  clear hb
  have HX13 := Lib.hid (HX12.out.ext he13)
  have HY13 := Lib.hid (HY12.out.ext he13)
  have HE13 := Lib.hid (HE12.out.trans he13)
  have HP13 := Lib.hid (HP12.out.ext he13)
  have HPS13 := Lib.hid (HPS12.out.ext he13)
  have HQ13 := Lib.hid (HQ12.out.ext he13)
  have HR13 := Lib.hid (HR12.out.ext he13)
  have HS13 := Lib.hid (HS12.out.ext he13)
  clear he13 HX12 HY12 HE12 HP12 HPS12 HQ12 HR12 HS12 x0 x1 x2 x3 y0 y1 y2 y3 q0 q1 q2 q3 r0 r1 r2 r3 s0 s1 s2 s3
  obtain ⟨⟨x0, x1, x2, x3⟩, ⟨y0, y1, y2, y3⟩, ⟨q0, q1, q2, q3⟩, r0, r1, r2, r3⟩ := HP13.out
  obtain ⟨s0, s1, s2, s3⟩ := HPS13.out
  clear HX13 HY13 HP13 HPS13 HQ13 HR13 HS13
  go_wp2
  go_ret
  exact ⟨rfl, HE13.out⟩
 ·have hlb : isLevB L = true := by unfold isLevB; simp only [decide_eq_true_eq]; exact hl
  rw [hlb]
  clear HCA hl hlb CI
  have HGZ := Lib.hid hz
  clear hz
  go_wp2_with (fail)
  refine (rp_IsZero M0 y g w10 (mb0 _) HY10.out.pi).mono ?_
  rintro e w12 ⟨b, rfl, hb, he12⟩
  obtain rfl : b = true := hb.2 HGZ.out
  clear hb
  have HX12 := Lib.hid (HX10.out.ext he12)
  have HY12 := Lib.hid (HY10.out.ext he12)
  have HE12 := Lib.hid (HE10.out.trans he12)
  have HP12 := Lib.hid (HP10.out.ext he12)
  have HPS12 := Lib.hid (HPS10.out.ext he12)
  have HQ12 := Lib.hid (HQ10.out.ext he12)
  have HR12 := Lib.hid (HR10.out.ext he12)
  have HS12 := Lib.hid (HS10.out.ext he12)
  clear he12 HX10 HY10 HE10 HP10 HPS10 HQ10 HR10 HS10 x0 x1 x2 x3 y0 y1 y2 y3 q0 q1 q2 q3 r0 r1 r2 r3 s0 s1 s2 s3
  obtain ⟨⟨x0, x1, x2, x3⟩, ⟨y0, y1, y2, y3⟩, ⟨q0, q1, q2, q3⟩, r0, r1, r2, r3⟩ := HP12.out
  obtain ⟨s0, s1, s2, s3⟩ := HPS12.out
  go_wp2_with (fail)
  refine (rp_IsZero M0 q [] w12 (mb0 _) HQ12.out.pi).mono ?_
  rintro e w13 ⟨b, rfl, hb, he13⟩
  obtain rfl : b = true := hb.2 (Sim.refl _)
  clear hb
  have HX13 := Lib.hid (HX12.out.ext he13)
  have HY13 := Lib.hid (HY12.out.ext he13)
  have HE13 := Lib.hid (HE12.out.trans he13)
  have HP13 := Lib.hid (HP12.out.ext he13)
  have HPS13 := Lib.hid (HPS12.out.ext he13)
  have HQ13 := Lib.hid (HQ12.out.ext he13)
  have HR13 := Lib.hid (HR12.out.ext he13)
  have HS13 := Lib.hid (HS12.out.ext he13)
  clear he13 HX12 HY12 HE12 HP12 HPS12 HQ12 HR12 HS12 x0 x1 x2 x3 y0 y1 y2 y3 q0 q1 q2 q3 r0 r1 r2 r3 s0 s1 s2 s3
  obtain ⟨⟨x0, x1, x2, x3⟩, ⟨y0, y1, y2, y3⟩, ⟨q0, q1, q2, q3⟩, r0, r1, r2, r3⟩ := HP13.out
  obtain ⟨s0, s1, s2, s3⟩ := HPS13.out
  go_wp2_with (fail)
  refine (rp_IsZero M0 r [] w13 (mb0 _) HR13.out.pi).mono ?_
  rintro e w14 ⟨b, rfl, hb, he14⟩
  obtain rfl : b = true := hb.2 (Sim.refl _)
  clear hb
  have HX14 := Lib.hid (HX13.out.ext he14)
  have HY14 := Lib.hid (HY13.out.ext he14)
  have HE14 := Lib.hid (HE13.out.trans he14)
  have HP14 := Lib.hid (HP13.out.ext he14)
  have HPS14 := Lib.hid (HPS13.out.ext he14)
  have HQ14 := Lib.hid (HQ13.out.ext he14)
  have HR14 := Lib.hid (HR13.out.ext he14)
  have HS14 := Lib.hid (HS13.out.ext he14)
  clear he14 HX13 HY13 HE13 HP13 HPS13 HQ13 HR13 HS13 x0 x1 x2 x3 y0 y1 y2 y3 q0 q1 q2 q3 r0 r1 r2 r3 s0 s1 s2 s3
  obtain ⟨⟨x0, x1, x2, x3⟩, ⟨y0, y1, y2, y3⟩, ⟨q0, q1, q2, q3⟩, r0, r1, r2, r3⟩ := HP14.out
  obtain ⟨s0, s1, s2, s3⟩ := HPS14.out
  clear HX14 HY14 HP14 HPS14 HQ14 HR14 HS14
  go_wp2
  go_ret
  exact ⟨rfl, HE14.out⟩
 subst hLJ
 have hlb : isLevB (J : Int) = true := by unfold isLevB; simp only [decide_eq_true_eq]; omega
 rw [hlb]
 have HK := Lib.hid (And.intro h1 h4)
 have HGZ := Lib.hid hgz
 have HDG := Lib.hid hd
 have HST := Lib.hid hst
 clear HCA CI hlb h1 h4 hgz hd hst
 go_wp2_with (fail)
 refine (rp_IsZero M0 y g w10 (mb0 _) HY10.out.pi).mono ?_
 rintro e w12 ⟨b, rfl, hb, he12⟩
 obtain rfl : b = false := by
  cases b with
  | false => rfl
  | true => exact absurd (hb.1 rfl) HGZ.out
 clear hb
 have HX12 := Lib.hid (HX10.out.ext he12)
 have HY12 := Lib.hid (HY10.out.ext he12)
 have HE12 := Lib.hid (HE10.out.trans he12)
 have HP12 := Lib.hid (HP10.out.ext he12)
 have HPS12 := Lib.hid (HPS10.out.ext he12)
 have HQ12 := Lib.hid (HQ10.out.ext he12)
 have HR12 := Lib.hid (HR10.out.ext he12)
 have HS12 := Lib.hid (HS10.out.ext he12)
 clear he12 HX10 HY10 HE10 HP10 HPS10 HQ10 HR10 HS10 x0 x1 x2 x3 y0 y1 y2 y3 q0 q1 q2 q3 r0 r1 r2 r3 s0 s1 s2 s3
 obtain ⟨⟨x0, x1, x2, x3⟩, ⟨y0, y1, y2, y3⟩, ⟨q0, q1, q2, q3⟩, r0, r1, r2, r3⟩ := HP12.out
 obtain ⟨s0, s1, s2, s3⟩ := HPS12.out
 have hPH := smD_pdh HK.out.1 HK.out.2 HS1.out HS2.out HDG.out HST.out
 have HPH := Lib.hid hPH
 have hn3 : n ≤ 3 := dg_le HDG.out HS2.out.deg
 have hV5 : V ≤ 5 := HST.out.le HS1.out.deg
 obtain ⟨zf, hzf, hzV, hz1, hz2⟩ := HST.out.dg HS1.out.deg
 obtain ⟨zr, hzr, hzr1, hzr2⟩ := hPH.degR
 have HZF := Lib.hid hzf
 have HZV := Lib.hid hzV
 have HZR := Lib.hid hzr
 have HZ12 : Hid (-1 ≤ zf ∧ zf ≤ 4 ∧ zr < (n : Int) ∧ -1 ≤ zr) := ⟨hz1, hz2, hzr1, hzr2⟩
 have HNV : Hid (n ≤ 3 ∧ V ≤ 5) := ⟨hn3, hV5⟩
 have HDGV : Hid (DgV J g (n : Int)) := .inr ⟨HGZ.out, n, HDG.out, rfl⟩
 have hPd := HP12.out.ext (Ext.refl w12).drew
 have HX13 := Lib.hid (HX12.out.ext (Ext.refl w12).drew)
 have HY13 := Lib.hid (HY12.out.ext (Ext.refl w12).drew)
 have HQ13 := Lib.hid (HQ12.out.ext (Ext.refl w12).drew)
 have HR13 := Lib.hid (HR12.out.ext (Ext.refl w12).drew)
 have HE13 := Lib.hid (HE12.out.trans (Ext.refl w12).drew)
 clear hPH hn3 hV5 hzf hzV hz1 hz2 hzr hzr1 hzr2 HX12 HY12 HQ12 HR12 HE12 HP12 HPS12 HS12 x0 x1 x2 x3 y0 y1 y2 y3 q0 q1 q2 q3 r0 r1 r2 r3 s0 s1 s2 s3
 go_upto_region 14 with (fail)
 refine wp_region_u (SL4 w3.heap.size (w3.heap.size + 1) bq (bq + 1) x y q r) 8 (by kernel_rfl) hPd (fun hHeld => ?_)
 clear hPd
 generalize w12.drew = wd at *
 (refine tkB [0, 1, 3, 4] ?_; (iterate 4 (refine tk1 (oi := ?_) (v := ?_) (by kernel_rfl) (by first | exact hSn | exact hHeld) ?_ ?_ ?_ ?_ ?_; rotate_left 2; (simp only [xgA, xgB, xgC]; rfl); rfl; (intro wS hSw; obtain ⟨⟨S1, S2, S3, S4⟩, ⟨S5, S6, S7, S8⟩, ⟨S9, S10, S11, S12⟩, S13, S14, S15, S16⟩ := hSw; go_simp; try with_reducible rfl); (exact fun _ _ _ h => h); (try simp only [Act.put, xgD, xgE, xgF]))); refine tkE ?_)
 ((refine wpAnyU_one 2 (o := ?_) (by kernel_rfl) ?_ ?_; rotate_left 1; (simp only [xgA, xgB, xgC]; rfl); intro K hK); go_simp; (refine (mv_DegreeV M0 x f J zf _ HK.out.1 HK.out.2 HS1.out.nn HZF.out (mb0 _) HX13.out.pi).mono ?_); rintro e_ u1 ⟨rfl, e1⟩; go_wp2_with (fail); (try clear hSn); (have hSn := hHeld.ext e1); (refine hK.out _ _ (fun _ => hSn) ?_); clear hK K; (try simp only [Act.put, xgD, xgE, xgF]))
 ((refine wpAnyU_one 5 (o := ?_) (by kernel_rfl) ?_ ?_; rotate_left 1; (simp only [xgA, xgB, xgC]; rfl); intro K hK); go_simp; (refine (mv_DegreeV M0 y g J (n : Int) _ HK.out.1 HK.out.2 HS2.out.nn HDGV.out (mb0 _) (HY13.out.ext e1).pi).mono ?_); rintro e_ u2 ⟨rfl, e2⟩; go_wp2_with (fail); (try clear hSn); (have hSn := hHeld.ext (e1.trans e2)); (refine hK.out _ _ (fun _ => hSn) ?_); clear hK K; (try simp only [Act.put, xgD, xgE, xgF]))
 have CP : Hid (∀ W, Calls Tryz.prog 61 #[.int .i64 zf, .int .i64 (n : Int)] W fun e w' => e = .returned (.int .i64 (V : Int)) ∧ Ext W w') := fun W => (rf_power24 zf (n : Int) W HZ12.out.1 (by have := HZ12.out; omega) (by omega) (by have := HNV.out; omega)).mono fun e w' h => ⟨by rw [h.1, HZV.out], h.2 ▸ Ext.refl W⟩
 ((refine wpAnyU_one 6 (o := ?_) (by kernel_rfl) ?_ ?_; rotate_left 1; (simp only [xgA, xgB, xgC]; rfl); intro K hK); go_simp; (refine (CP.out _).mono ?_); rintro e_ u3 ⟨rfl, e3⟩; go_wp2_with (fail); (try clear hSn); (have hSn := hHeld.ext ((e1.trans e2).trans e3)); (refine hK.out _ _ (fun _ => hSn) ?_); clear hK K; (try simp only [Act.put, xgD, xgE, xgF]))
 (refine tkB [7] ?_; (iterate 1 (refine tk1 (oi := ?_) (v := ?_) (by kernel_rfl) (by first | exact hSn | exact hHeld) ?_ ?_ ?_ ?_ ?_; rotate_left 2; (simp only [xgA, xgB, xgC]; rfl); rfl; (intro wS hSw; obtain ⟨⟨S1, S2, S3, S4⟩, ⟨S5, S6, S7, S8⟩, ⟨S9, S10, S11, S12⟩, S13, S14, S15, S16⟩ := hSw; go_simp; try with_reducible rfl); (exact fun _ _ _ h => h); (try simp only [Act.put, xgD, xgE, xgF]))); refine tkE ?_)
 refine wpAnyU_done (by kernel_rfl) ?_ _
 have he13 := (e1.trans e2).trans e3
 have HX14 := Lib.hid (HX13.out.ext he13)
 have HY14 := Lib.hid (HY13.out.ext he13)
 have HQ14 := Lib.hid (HQ13.out.ext he13)
 have HR14 := Lib.hid (HR13.out.ext he13)
 have HE14 := Lib.hid (HE13.out.trans he13)
 have HP14 : Hid (SL4 w3.heap.size (w3.heap.size + 1) bq (bq + 1) x y q r u3) := SL4.ext hHeld he13
 clear e1 e2 e3 he13 hSn hHeld CP HX13 HY13 HQ13 HR13 HE13
 go_upto_region 15 with (fail)
 go_cut [15] (PdCut (pmul f (ppow (ck J (n : Int) g) V)) u3.drew)
 case first =>
  have HX15 : Hid (CRx M0 u3.drew 4 x f) := HX14.out.ext (Ext.refl u3).drew
  have HY15 : Hid (CRx M0 u3.drew 4 y g) := HY14.out.ext (Ext.refl u3).drew
  have hP15 : SL4 w3.heap.size (w3.heap.size + 1) bq (bq + 1) x y q r u3.drew := HP14.out.ext (Ext.refl u3).drew
  have HCL : Hid (Cof J 3 5 (ck J (n : Int) g)) := HPH.out.cg n
  have C3 : Hid (∀ A B W, S7 u3.drew W A B → Calls Tryz.prog 63 #[.agg (peA y), .int .i64 (J : Int)] W (RetX (M7 A B) W 4 (ck J (n : Int) g))) := fun A B W h => mv_LeadV _ y g J n 3 W HK.out.1 HK.out.2 HS2.out.nn HGZ.out HDG.out h.mb (h.old HY15.out).pi HS2.out.deg (by decide) (by decide) (by have := HS2.out.dl; omega)
  have C5 : Hid (∀ A B W, S7 u3.drew W A B → ∀ p, CRx (M7 A B) W 4 p (ck J (n : Int) g) → Calls Tryz.prog 62 #[.agg (peA x), .agg (peA p), .int .i64 (V : Int)] W (RetX (M7 A B) W 4 (pmul f (ppow (ck J (n : Int) g) V)))) := fun A B W h p hp => by
   have h1 := HCL.out.2.2.2
   have h2 := HS1.out.dl
   have h3 := HNV.out
   have h4 : V * dlen (nrm (ck J (n : Int) g)) ≤ 5 * 5 := Nat.mul_le_mul h3.2 h1
   have h5 : V * 3 + 1 ≤ 16 := by omega
   exact law_times _ x p f _ 4 3 V W h.mb (h.old HX15.out).pi hp.pi (by omega) HS1.out.deg HCL.out.2.2.1 HCL.out.1 (by omega) (by omega) (Nat.le_trans (Nat.mul_le_mul h5 h5) (by decide)) (Nat.le_trans (Nat.mul_le_mul (Nat.le_refl 5) h5) (by decide))
  have S0 := S7.start u3.drew
  refine wp_region_u (SL4 w3.heap.size (w3.heap.size + 1) bq (bq + 1) x y q r) 8 (by kernel_rfl) hP15 (fun hHeld => ?_)
  clear hP15 HX14 HY14 HQ14 HR14 HE14 HP14 HX15 HY15 HCL HPH HZF HZV HZR HZ12 HNV HDGV HST HDG HGZ HK
  generalize u3.drew = wd at *
  (refine tkB [0, 1, 2, 4] ?_; (iterate 4 (refine tk1 (oi := ?_) (v := ?_) (by kernel_rfl) (by first | exact hSn | exact hHeld) ?_ ?_ ?_ ?_ ?_; rotate_left 2; (simp only [xgA, xgB, xgC]; rfl); rfl; (intro wS hSw; obtain ⟨⟨S1, S2, S3, S4⟩, ⟨S5, S6, S7, S8⟩, ⟨S9, S10, S11, S12⟩, S13, S14, S15, S16⟩ := hSw; go_simp; try with_reducible rfl); (exact fun _ _ _ h => h); (try simp only [Act.put, xgD, xgE, xgF]))); refine tkE ?_)
  (refine wpAnyU_two 3 6 (oi := ?_) (oj := ?_) (by kernel_rfl) ?_ ?_ ?_ ?_; rotate_left 2; (simp only [xgA, xgB, xgC]; rfl); (simp only [xgA, xgB, xgC]; rfl); all_goals intro K hK)
  ·go_simp
   refine (C3.out _ _ wd S0).mono ?_
   rintro e v1 ⟨pd, rfl, hd, D⟩
   go_wp2_with (fail)
   have S1 := S0.call D
   clear D
   try clear hSn
   have hSn := hHeld.ext S1.e
   refine hK.out _ _ (fun _ => hSn) ?_
   clear hK K
   (try simp only [Act.put, xgD, xgE, xgF])
   (refine wpAnyU_two 5 6 (oi := ?_) (oj := ?_) (by kernel_rfl) ?_ ?_ ?_ ?_; rotate_left 2; (simp only [xgA, xgB, xgC]; rfl); (simp only [xgA, xgB, xgC]; rfl); all_goals intro K hK)
   ·go_simp
    refine (C5.out _ _ v1 S1 _ hd).mono ?_
    rintro e v2 ⟨v, rfl, hv, D⟩
    go_wp2_with (fail)
    have S2 := S1.call D
    replace hd := hd.ext D
    clear D
    try clear hSn
    have hSn := hHeld.ext S2.e
    refine hK.out _ _ (fun _ => hSn) ?_
    clear hK K
    (try simp only [Act.put, xgD, xgE, xgF])
    (refine wpAnyU_one 6 (o := ?_) (by kernel_rfl) ?_ ?_; rotate_left 1; (simp only [xgA, xgB, xgC]; rfl); intro K hK)
    go_simp
    have S3 := S2.allA
    replace hd := S2.keepA hd
    replace hv := S2.keepA hv
    try clear hSn
    have hSn := hHeld.ext S3.e
    refine hK.out _ _ (fun _ => hSn) ?_
    clear hK K
    (try simp only [Act.put, xgD, xgE, xgF])
    generalize v2.alloc (.cells zA 33) = v3 at *
    generalize v2.heap.size = g3 at *
    obtain ⟨W1, hW1, ⟨q0, q1, q2, q3⟩, ⟨f0, f1, f2, f3⟩, HP2⟩ := S3.put1 hv
    unfold set4 at hW1
    have hSn1 := hHeld.ext HP2.e
    clear hSn
    (refine wpAnyU_one 7 (o := ?_) (by kernel_rfl) ?_ ?_; rotate_left 1; (simp only [xgA, xgB, xgC]; rfl); intro K hK)
    go_simp
    rw [← hW1]
    clear hW1
    refine hK.out _ _ (fun _ => hSn1) ?_
    clear hK K q0 q1 q2 q3 f0 f1 f2 f3
    (try simp only [Act.put, xgD, xgE, xgF])
    refine wpAnyU_done (by kernel_rfl) ?_ _
    go_wp2_with (fail)
    go_meet
    exact ⟨_, v, rfl, HP2⟩
   ·go_simp
    have S4 := S1.allA
    replace hd := S1.keepA hd
    try clear hSn
    have hSn := hHeld.ext S4.e
    refine hK.out _ _ (fun _ => hSn) ?_
    clear hK K
    (try simp only [Act.put, xgD, xgE, xgF])
    generalize v1.alloc (.cells zA 33) = v4 at *
    generalize v1.heap.size = g4 at *
    (refine wpAnyU_one 5 (o := ?_) (by kernel_rfl) ?_ ?_; rotate_left 1; (simp only [xgA, xgB, xgC]; rfl); intro K hK)
    go_simp
    refine (C5.out _ _ v4 S4 _ hd).mono ?_
    rintro e v5 ⟨v, rfl, hv, D⟩
    go_wp2_with (fail)
    have S5 := S4.call D
    replace hd := hd.ext D
    clear D
    try clear hSn
    have hSn := hHeld.ext S5.e
    refine hK.out _ _ (fun _ => hSn) ?_
    clear hK K
    (try simp only [Act.put, xgD, xgE, xgF])
    obtain ⟨W1, hW1, ⟨q0, q1, q2, q3⟩, ⟨f0, f1, f2, f3⟩, HP2⟩ := S5.put1 hv
    unfold set4 at hW1
    have hSn1 := hHeld.ext HP2.e
    clear hSn
    (refine wpAnyU_one 7 (o := ?_) (by kernel_rfl) ?_ ?_; rotate_left 1; (simp only [xgA, xgB, xgC]; rfl); intro K hK)
    go_simp
    rw [← hW1]
    clear hW1
    refine hK.out _ _ (fun _ => hSn1) ?_
    clear hK K q0 q1 q2 q3 f0 f1 f2 f3
    (try simp only [Act.put, xgD, xgE, xgF])
    refine wpAnyU_done (by kernel_rfl) ?_ _
    go_wp2_with (fail)
    go_meet
    exact ⟨_, v, rfl, HP2⟩
  ·go_simp
   have S6 := S0.allA
   try clear hSn
   have hSn := hHeld.ext S6.e
   refine hK.out _ _ (fun _ => hSn) ?_
   clear hK K
   (try simp only [Act.put, xgD, xgE, xgF])
   generalize wd.alloc (.cells zA 33) = v6 at *
   generalize wd.heap.size = g6 at *
   (refine wpAnyU_one 3 (o := ?_) (by kernel_rfl) ?_ ?_; rotate_left 1; (simp only [xgA, xgB, xgC]; rfl); intro K hK)
   go_simp
   refine (C3.out _ _ v6 S6).mono ?_
   rintro e v7 ⟨pd, rfl, hd, D⟩
   go_wp2_with (fail)
   have S7 := S6.call D
   clear D
   try clear hSn
   have hSn := hHeld.ext S7.e
   refine hK.out _ _ (fun _ => hSn) ?_
   clear hK K
   (try simp only [Act.put, xgD, xgE, xgF])
   (refine wpAnyU_one 5 (o := ?_) (by kernel_rfl) ?_ ?_; rotate_left 1; (simp only [xgA, xgB, xgC]; rfl); intro K hK)
   go_simp
   refine (C5.out _ _ v7 S7 _ hd).mono ?_
   rintro e v8 ⟨v, rfl, hv, D⟩
   go_wp2_with (fail)
   have S8 := S7.call D
   replace hd := hd.ext D
   clear D
   try clear hSn
   have hSn := hHeld.ext S8.e
   refine hK.out _ _ (fun _ => hSn) ?_
   clear hK K
   (try simp only [Act.put, xgD, xgE, xgF])
   obtain ⟨W1, hW1, ⟨q0, q1, q2, q3⟩, ⟨f0, f1, f2, f3⟩, HP2⟩ := S8.put1 hv
   unfold set4 at hW1
   have hSn1 := hHeld.ext HP2.e
   clear hSn
   (refine wpAnyU_one 7 (o := ?_) (by kernel_rfl) ?_ ?_; rotate_left 1; (simp only [xgA, xgB, xgC]; rfl); intro K hK)
   go_simp
   rw [← hW1]
   clear hW1
   refine hK.out _ _ (fun _ => hSn1) ?_
   clear hK K q0 q1 q2 q3 f0 f1 f2 f3
   (try simp only [Act.put, xgD, xgE, xgF])
   refine wpAnyU_done (by kernel_rfl) ?_ _
   go_wp2_with (fail)
   go_meet
   exact ⟨_, v, rfl, HP2⟩
 case rest =>
  obtain ⟨bl, lv, rfl, hput⟩ := hcut
  have hEw : Ext u3 wc := (Ext.refl u3).drew.trans hput.e
  have hEd := (Ext.refl wc).drew
  have hS5 : SL5 w3.heap.size (w3.heap.size + 1) bq (bq + 1) bl x y q r lv wc.drew := ⟨(HP14.out.1.ext hEw).ext hEd, (HP14.out.2.1.ext hEw).ext hEd, (HP14.out.2.2.1.ext hEw).ext hEd, (HP14.out.2.2.2.ext hEw).ext hEd, hput.p.ext hEd⟩
  have HY16 : Hid (CRx M0 wc.drew 4 y g) := (HY14.out.ext hEw).ext hEd
  have HQ16 : Hid (CRx M0 wc.drew 4 q (pdQuo J n V f g)) := (HQ14.out.ext hEw).ext hEd
  have HR16 : Hid (CRx M0 wc.drew 4 r (pdRem J n V f g)) := (HR14.out.ext hEw).ext hEd
  have HLV : Hid (CRx M0 wc.drew 4 lv (pmul f (ppow (ck J (n : Int) g) V))) := hput.x.ext hEd
  have HE16 := Lib.hid ((HE14.out.trans hEw).trans hEd)
  have hnv := HNV.out
  have hqd := HPH.out.quo_dl (by omega)
  have hrd := HPH.out.rem_dl (by omega)
  have hVV : V * (5 + 1) ≤ 5 * 6 := Nat.mul_le_mul hnv.2 (Nat.le_refl _)
  have hVW : V * 5 ≤ 5 * 5 := Nat.mul_le_mul hnv.2 (Nat.le_refl _)
  have hVX : V * 3 ≤ 5 * 3 := Nat.mul_le_mul hnv.2 (Nat.le_refl _)
  have hgd := HS2.out.dl
  have HM1 : Hid (dlen (nrm (pdQuo J n V f g)) + dlen (nrm g) ≤ 1099511627776) := by show _ ≤ _; omega
  have HM2 : Hid (Deg 40 (pdQuo J n V f g)) := HPH.out.quo_deg.mono (by omega)
  have HM3 : Hid (dlen (nrm (pmul (pdQuo J n V f g) g ++ pdRem J n V f g)) ≤ 1099511627776) := by
   have h6 := dlen_add (nrm (pmul (pdQuo J n V f g) g)) (nrm (pdRem J n V f g))
   have h7 := dlen_mul (nrm (pdQuo J n V f g)) (nrm g)
   show _ ≤ _
   rw [nrm_append]
   rw [← nrm_pmul] at h7
   omega
  have HSAME : Hid (Sim (pmul f (ppow (ck J (n : Int) g) V)) (pmul (pdQuo J n V f g) g ++ pdRem J n V f g)) := (Sim.pmul_comm _ _).trans HPH.out.law
  have HRN : Hid (NN (pdRem J n V f g)) := HPH.out.rem_nn
  have hlt := HZ12.out.2.2.1
  clear hEw hEd hput hnv hqd hrd hVV hVW hVX hgd HX14 HY14 HQ14 HR14 HE14 HP14
  go_upto_region 16 with (fail)
  refine wp_region_u (SL5 w3.heap.size (w3.heap.size + 1) bq (bq + 1) bl x y q r lv) 21 (by kernel_rfl) hS5 (fun hHeld => ?_)
  clear hS5
  generalize wc.drew = wd at *
  (refine tkB [0, 1, 2, 3, 4, 6, 7] ?_; (iterate 7 (refine tk1 (oi := ?_) (v := ?_) (by kernel_rfl) (by first | exact hSn | exact hHeld) ?_ ?_ ?_ ?_ ?_; rotate_left 2; (simp only [xgA, xgB, xgC]; rfl); rfl; (intro wS hSw; obtain ⟨⟨S1, S2, S3, S4⟩, ⟨S5, S6, S7, S8⟩, ⟨S9, S10, S11, S12⟩, ⟨S13, S14, S15, S16⟩, S17, S18, S19, S20⟩ := hSw; go_simp; try with_reducible rfl); (exact fun _ _ _ h => h); (try simp only [Act.put, xgD, xgE, xgF]))); refine tkE ?_)
  ((refine wpAnyU_one 5 (o := ?_) (by kernel_rfl) ?_ ?_; rotate_left 1; (simp only [xgA, xgB, xgC]; rfl); intro K hK); go_simp; (refine (mv_DegreeV M0 r _ J zr _ HK.out.1 HK.out.2 HRN.out HZR.out (mb0 _) HR16.out.pi).mono ?_); rintro e_ u4 ⟨rfl, e1⟩; go_wp2_with (fail); (try clear hSn); (have hSn := hHeld.ext e1); (refine hK.out _ _ (fun _ => hSn) ?_); clear hK K; (try simp only [Act.put, xgD, xgE, xgF]))
  ((refine wpAnyU_one 8 (o := ?_) (by kernel_rfl) ?_ ?_; rotate_left 1; (simp only [xgA, xgB, xgC]; rfl); intro K hK); go_simp; (refine (mv_DegreeV M0 y g J (n : Int) _ HK.out.1 HK.out.2 HS2.out.nn HDGV.out (mb0 _) (HY16.out.ext e1).pi).mono ?_); rintro e_ u5 ⟨rfl, e2⟩; go_wp2_with (fail); (try clear hSn); (have hSn := hHeld.ext (e1.trans e2)); (refine hK.out _ _ (fun _ => hSn) ?_); clear hK K; (try simp only [Act.put, xgD, xgE, xgF]))
  (refine tkB [9, 10, 11, 12, 13, 14, 16] ?_; (iterate 7 (refine tk1 (oi := ?_) (v := ?_) (by kernel_rfl) (by first | exact hSn | exact hHeld) ?_ ?_ ?_ ?_ ?_; rotate_left 2; (simp only [xgA, xgB, xgC]; rfl); rfl; (intro wS hSw; obtain ⟨⟨S1, S2, S3, S4⟩, ⟨S5, S6, S7, S8⟩, ⟨S9, S10, S11, S12⟩, ⟨S13, S14, S15, S16⟩, S17, S18, S19, S20⟩ := hSw; go_simp; try with_reducible rfl); (exact fun _ _ _ h => h); (try simp only [Act.put, xgD, xgE, xgF]))); refine tkE ?_)
  have E2 := Lib.hid (e1.trans e2)
  clear e1 e2
  ((refine wpAnyU_one 15 (o := ?_) (by kernel_rfl) ?_ ?_; rotate_left 1; (simp only [xgA, xgB, xgC]; rfl); intro K hK); go_simp; (refine (rp_Mul M0 q y _ _ 40 3 _ (mb0 _) (HQ16.out.ext E2.out).pi (HY16.out.ext E2.out).pi HM1.out HM2.out HS2.out.deg (by decide)).mono ?_); rintro e_ u6 ⟨pm, rfl, hpm, e3⟩; go_wp2_with (fail); (try clear hSn); (have hSn := hHeld.ext (E2.out.trans e3)); (refine hK.out _ _ (fun _ => hSn) ?_); clear hK K; (try simp only [Act.put, xgD, xgE, xgF]))
  ((refine wpAnyU_one 17 (o := ?_) (by kernel_rfl) ?_ ?_; rotate_left 1; (simp only [xgA, xgB, xgC]; rfl); intro K hK); go_simp; (refine (rp_Add M0 pm r _ _ _ (mb0 _) hpm.pi (HR16.out.ext (E2.out.trans e3)).pi HM3.out).mono ?_); rintro e_ u7 ⟨pa, rfl, hpa, e4⟩; go_wp2_with (fail); (try clear hSn); (have hSn := hHeld.ext ((E2.out.trans e3).trans e4)); (refine hK.out _ _ (fun _ => hSn) ?_); clear hK K; (try simp only [Act.put, xgD, xgE, xgF]))
  ((refine wpAnyU_one 18 (o := ?_) (by kernel_rfl) ?_ ?_; rotate_left 1; (simp only [xgA, xgB, xgC]; rfl); intro K hK); go_simp; (refine (rp_Same M0 lv pa _ _ _ (mb0 _) (HLV.out.ext ((E2.out.trans e3).trans e4)).pi hpa.pi).mono ?_); rintro e_ u8 ⟨b2, rfl, hb2, e5⟩; go_wp2_with (fail); (try clear hSn); (have hSn := hHeld.ext (((E2.out.trans e3).trans e4).trans e5)); (refine hK.out _ _ (fun _ => hSn) ?_); clear hK K; (try simp only [Act.put, xgD, xgE, xgF]))
  obtain rfl : b2 = true := hb2.2 HSAME.out
  have HF := Lib.hid (HE16.out.trans (((E2.out.trans e3).trans e4).trans e5))
  clear hb2 hpm hpa e3 e4 e5 E2
  (refine tkB [19, 20] ?_; (iterate 2 (refine tk1 (oi := ?_) (v := ?_) (by kernel_rfl) (by first | exact hSn | exact hHeld) ?_ ?_ ?_ ?_ ?_; rotate_left 2; (simp only [xgA, xgB, xgC]; rfl); rfl; (intro wS hSw; obtain ⟨⟨S1, S2, S3, S4⟩, ⟨S5, S6, S7, S8⟩, ⟨S9, S10, S11, S12⟩, ⟨S13, S14, S15, S16⟩, S17, S18, S19, S20⟩ := hSw; go_simp; try with_reducible rfl); (exact fun _ _ _ h => h); (try simp only [Act.put, xgD, xgE, xgF]))); refine tkE ?_)
  refine wpAnyU_done (by kernel_rfl) ?_ _
  clear hHeld hSn HY16 HQ16 HR16 HLV HE16
  go_wp2
  go_ret
  exact ⟨rfl, HF.out⟩
end Go.Proofs.YtjcceddloogiiaaGreat
