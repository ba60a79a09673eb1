/- SimplifyTruth: the walk. -/
import Derived.Test.YtodiphjjdheoaaaGreatJa
import Derived.Test.YtodiphjjdheoaaaGreatJb
import Derived.Test.YtodiphjjdheoaaaGreatNj
set_option linter.unusedVariables false
set_option linter.unusedSimpArgs false

namespace Go.Proofs.YtodiphjjdheoaaaGreat
open Go.RowKit

set_option maxRecDepth 100000 in
set_option maxHeartbeats 16000000 in
theorem law_truth (m : MT 12) (z : Nat → Int) (w : World) (hP : PMs w 12 m) (hz : ∀ i, i < 4 → (-32768 ≤ z i ∧ z i ≤ 32767)) : Calls Tryz.prog 3 #[.agg (MT.me 12 m).A, .agg #[.int .i16 (z 0), .int .i16 (z 1), .int .i16 (z 2), .int .i16 (z 3)]] w fun e w' => e = .returned (.bool true) ∧ Ext w w' := by
 have CSM : Hid (∀ W', Ext w W' → Calls Tryz.prog 12 #[.agg (MT.me 12 m).A] W' fun e w' => e = .returned (.bool (decide (0 ≤ roomM 12 m 80))) ∧ Ext W' w') := fun W' he => law_small39 m W' (PMs.ext he hP)
 have HM : Hid (0 ≤ roomM 12 m 80 → TMc false 12 M0 w (MT.me 12 m).X (tmM w 12 m) ∧ (tmM w 12 m).sz ≤ 80 ∧ (tmM w 12 m).Good) := fun h => by
  have hok := okM 12 m 80 (by omega) (by omega) h
  have hsz := tmM_sz w 12 m 80 (by omega) h
  exact ⟨tmM_c w 12 m hP hok, by omega, tmM_good w 12 m hP hok⟩
 have HZ : Hid (∀ i, i < 4 → dlen (z i).natAbs + 1 ≤ 2) := fun i hi => by
  have h1 := hz i hi
  have h2 := (dlen_le_iff (z i).natAbs 1).2 (by rw [Nat.pow_one]; omega)
  omega
 have HI : Hid (∀ W', Calls Tryz.prog 13 #[.agg #[.int .i16 (z 0), .int .i16 (z 1), .int .i16 (z 2), .int .i16 (z 3)]] W' fun e w' => ∃ a cap X, e = .returned (.slice a 4 cap) ∧ IRow M0 w' a cap X z ∧ Ext W' w') := fun W' => rf_integers M0 z W' (mb0 _) hz
 have hyx : (MT.me 12 m).A = ((MT.me 12 m).X).A := rfl
 rw [hyx] at CSM ⊢
 clear hP hyx hz
 generalize roomM 12 m 80 = r at *
 generalize (MT.me 12 m).X = y at *
 generalize tmM w 12 m = t at *
 have HX := Lib.hid (((Ext.refl w).alloc (.cells y.A 32)).alloc (.cells #[.int .i16 (z 0), .int .i16 (z 1), .int .i16 (z 2), .int .i16 (z 3)] 34))
 have HB : Hid (MxC ((w.alloc (.cells y.A 32)).alloc (.cells #[.int .i16 (z 0), .int .i16 (z 1), .int .i16 (z 2), .int .i16 (z 3)] 34)) w.heap.size 0 y) := (new_mx w y).ext ((Ext.refl _).alloc _)
 have HQ : Hid (CQ (w.heap.size + 1) z ((w.alloc (.cells y.A 32)).alloc (.cells #[.int .i16 (z 0), .int .i16 (z 1), .int .i16 (z 2), .int .i16 (z 3)] 34))) := by
  have h2 := Blk.of_arr (w.alloc (.cells y.A 32)) #[.int .i16 (z 0), .int .i16 (z 1), .int .i16 (z 2), .int .i16 (z 3)] 34 4 rfl
  simp only [World.size_alloc] at h2
  exact ⟨h2.cell (i := 0) (by omega), h2.cell (i := 1) (by omega), h2.cell (i := 2) (by omega), h2.cell (i := 3) (by omega)⟩
 generalize hW1 : (w.alloc (.cells y.A 32)).alloc (.cells #[.int .i16 (z 0), .int .i16 (z 1), .int .i16 (z 2), .int .i16 (z 3)] 34) = W1 at *
 have HW1 := Lib.hid hW1
 clear hW1
 go_enter Tryz.func3, Tryz.ntmps3
 go_upto_region 1 with (fail)
 rw [HW1.out]
 generalize w.heap.size = g at *
 go_wp2_with (fail)
 refine (law_awake39 _).mono ?_
 rintro e w2 ⟨rfl, he2⟩
 have HX2 := Lib.hid (HX.out.trans he2)
 have HB2 := Lib.hid (HB.out.ext he2)
 have HQ2 := Lib.hid (HQ.out.ext he2)
 obtain ⟨x0, x1, x2, x3, x4, x5, x6⟩ := HB2.out
 have CS := Lib.hid (CSM.out w2 HX2.out)
 clear he2 HX HB HQ
 go_wp2_with (fail)
 refine CS.out.mono ?_
 rintro e w3 ⟨rfl, he3⟩
 have HX3 := Lib.hid (HX2.out.trans he3)
 have HB3 := Lib.hid (HB2.out.ext he3)
 have HQ3 := Lib.hid (HQ2.out.ext he3)
 clear he3 HX2 HB2 HQ2 CS x0 x1 x2 x3 x4 x5 x6
 by_cases hr : 0 ≤ r
 rotate_left 1
 ·have hD : decide (0 ≤ r) = false := decide_eq_false hr
  rw [hD]
  clear HM CSM HB3 HQ3 HI HZ hr hD
  go_wp2_with (fail)
  refine (law_awake39 _).mono ?_
  rintro e w4 ⟨rfl, he4⟩
  have HF := Lib.hid (HX3.out.trans he4)
  go_wp2
  go_ret
  exact ⟨rfl, HF.out⟩
 have hD : decide (0 ≤ r) = true := decide_eq_true hr
 rw [hD]
 obtain ⟨ht1, ht2, ht3⟩ := HM.out hr
 have HT := Lib.hid ht1
 obtain ⟨bv, hbv⟩ : ∃ b, b = trT z t := ⟨_, rfl⟩
 have E1 : Hid (trT z (ofT t) = bv) := by rw [hbv]; exact ofT_tr z t ht3
 have E2 : Hid (trT z (normT t) = bv) := by rw [hbv]; exact normT_tr z t ht3
 have HSZ : Hid (t.sz ≤ 1000) := by show _ ≤ _; omega
 clear HM CSM hr hD ht1 ht2 ht3 hbv
 obtain ⟨q0, q1, q2, q3⟩ := HQ3.out
 go_wp2_with (fail)
 refine (HI.out _).mono ?_
 rintro e w4 ⟨a, cap, X, rfl, hI, he4⟩
 have hEd := (HX3.out.trans he4).trans (Ext.refl w4).drew
 have hS : MxC w4.drew g 0 y := (HB3.out.ext he4).ext (Ext.refl w4).drew
 have HID := Lib.hid (hI.ext (Ext.refl w4).drew)
 have HED := Lib.hid hEd
 clear hI he4 hEd HB3 HQ3 HX3 HI q0 q1 q2 q3
 go_upto_region 4 with (fail)
 refine wp_region_u (fun w' => MxC w' g 0 y) 9 (by kernel_rfl) hS (fun hHeld => ?_)
 clear hS
 generalize w4.drew = wd at *
 (refine tkB [0, 2, 4, 6] ?_; (iterate 4 (refine tk1 (oi := ?_) (v := ?_) (by kernel_rfl) (by first | exact hSn | exact hHeld) ?_ ?_ ?_ ?_ ?_; rotate_left 2; (simp only [xgA, xgB, xgC]; rfl); rfl; (intro wS hSw; obtain ⟨S1, S2, S3, S4, S5, S6, S7⟩ := hSw; go_simp; try with_reducible rfl); (exact fun _ _ _ h => h); (try simp only [Act.put, xgD, xgE, xgF]))); refine tkE ?_)
 ((refine wpAnyU_one 1 (o := ?_) (by kernel_rfl) ?_ ?_; rotate_left 1; (simp only [xgA, xgB, xgC]; rfl); intro K hK); go_simp; (refine (si_Of 12 M0 y t _ (mb0 _) (HT.out.ext HED.out) HSZ.out).mono ?_); rintro e_ v1 ⟨u, rfl, hu, d1⟩; go_wp2_with (fail); (try clear hSn); (have hSn := hHeld.ext d1); (refine hK.out _ _ (fun _ => hSn) ?_); clear hK K; (try simp only [Act.put, xgD, xgE, xgF]))
 ((refine wpAnyU_one 3 (o := ?_) (by kernel_rfl) ?_ ?_; rotate_left 1; (simp only [xgA, xgB, xgC]; rfl); intro K hK); go_simp; (refine (rf_truth 12 u (ofT t) a cap X z _ hu (HID.out.ext d1) HZ.out).mono ?_); rintro e_ v3 ⟨rfl, d3⟩; go_wp2_with (fail); (try clear hSn); (have hSn := hHeld.ext (d1.trans d3)); (refine hK.out _ _ (fun _ => hSn) ?_); clear hK K; (try simp only [Act.put, xgD, xgE, xgF]))
 ((refine wpAnyU_one 5 (o := ?_) (by kernel_rfl) ?_ ?_; rotate_left 1; (simp only [xgA, xgB, xgC]; rfl); intro K hK); go_simp; (refine (rf_normal 12 M0 y t _ (mb0 _) (HT.out.ext (HED.out.trans (d1.trans d3))) HSZ.out).mono ?_); rintro e_ v5 ⟨n, rfl, hn, d5⟩; go_wp2_with (fail); (try clear hSn); (have hSn := hHeld.ext ((d1.trans d3).trans d5)); (refine hK.out _ _ (fun _ => hSn) ?_); clear hK K; (try simp only [Act.put, xgD, xgE, xgF]))
 ((refine wpAnyU_one 7 (o := ?_) (by kernel_rfl) ?_ ?_; rotate_left 1; (simp only [xgA, xgB, xgC]; rfl); intro K hK); go_simp; (refine (rf_truth 12 n (normT t) a cap X z _ hn (HID.out.ext ((d1.trans d3).trans d5)) HZ.out).mono ?_); rintro e_ v7 ⟨rfl, d7⟩; go_wp2_with (fail); (try clear hSn); (have hSn := hHeld.ext (((d1.trans d3).trans d5).trans d7)); (refine hK.out _ _ (fun _ => hSn) ?_); clear hK K; (try simp only [Act.put, xgD, xgE, xgF]))
 rw [E1.out, E2.out]
 (refine tkB [8] ?_; (iterate 1 (refine tk1 (oi := ?_) (v := ?_) (by kernel_rfl) (by first | exact hSn | exact hHeld) ?_ ?_ ?_ ?_ ?_; rotate_left 2; (simp only [xgA, xgB, xgC]; rfl); rfl; (intro wS hSw; obtain ⟨S1, S2, S3, S4, S5, S6, S7⟩ := hSw; go_simp; try with_reducible rfl); (exact fun _ _ _ h => h); (try simp only [Act.put, xgD, xgE, xgF]))); refine tkE ?_)
 have HF := Lib.hid (HED.out.trans (((d1.trans d3).trans d5).trans d7))
 clear d1 d3 d5 d7 hu hn hSn hHeld HT HID
 ((refine wpAnyU_one 9 (o := ?_) (by kernel_rfl) ?_ ?_; rotate_left 1; (simp only [xgA, xgB, xgC]; rfl); intro K hK); go_simp; (refine hK.out _ _ (fun h => absurd rfl h) ?_); clear hK K; refine wpAnyU_done (by kernel_rfl) ?_ _)
 go_wp2
 go_ret
 exact ⟨rfl, HF.out⟩
end Go.Proofs.YtodiphjjdheoaaaGreat
