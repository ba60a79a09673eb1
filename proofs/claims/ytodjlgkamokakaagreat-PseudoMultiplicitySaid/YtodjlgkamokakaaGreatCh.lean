/- PseudoMultiplicity: the walk. -/
import Derived.Test.YtodjlgkamokakaaGreatCg
set_option linter.unusedVariables false
set_option linter.unusedSimpArgs false

namespace Go.Proofs.YtodjlgkamokakaaGreat
open Go.RowKit

theorem NC.not_const {g : List Tm} {z : Int} (h : NC g) (hs : Sim g [(z, Mo.zero)]) : False := by
  obtain ⟨m, k, h1, h2, h3, h4⟩ := h
  rw [hs m] at h1
  by_cases e : Mo.zero = m
  · subst e; rw [get_zero] at h4; omega
  · exact h1 (by simp [coefAt, e])
theorem FewP.le2 {n T T' D : Nat} {E E' : Int} {X : Nat → TE} (h : FewP n X T D E) (hT : T ≤ T') (hE : E ≤ E') : FewP n X T' D E' :=
  ⟨Nat.le_trans h.1 hT, fun i hi => ⟨(h.2 i hi).1, fun j hj => ⟨((h.2 i hi).2 j hj).1, Int.le_trans ((h.2 i hi).2 j hj).2 hE⟩⟩⟩
abbrev A6 : Nat := 5 + (6 + 1) * (qX 3 4 6 * (5 + 2))
def MuWi (W : World) (l g : List Tm) (k : Nat) (er xr : Int) (v : PE) : Prop :=
  (er = 2 ∧ xr = 2 ∧ Sim l [] ∧ k = 0 ∧ v = PE.z) ∨ (er = 12 ∧ xr = 12 ∧ ¬ Sim l [] ∧ (∃ z, Sim g [(z, Mo.zero)]) ∧ k = 0 ∧ v = PE.z) ∨ (er = 0 ∧ xr = 0 ∧ ¬ Sim l [] ∧ NC g ∧ ∃ r, NN r ∧ Sim (pmul r (ppow (snorm g) k)) l ∧ ¬ Dv (snorm g) r ∧ dlen (nrm r) ≤ A6 ∧ CRx M0 W 4 v (snorm r))
theorem MuWi.ext {W W' : World} {l g : List Tm} {k : Nat} {er xr : Int} {v : PE} (h : MuWi W l g k er xr v) (he : Ext W W') : MuWi W' l g k er xr v :=
  h.imp id (Or.imp id fun ⟨a1, a2, a3, a4, r, a5, a6, a7, a8, a9⟩ => ⟨a1, a2, a3, a4, r, a5, a6, a7, a8, a9.ext he⟩)
theorem muwi {w w5 w6 : World} {l g : List Tm} {k : Nat} {er xr : Int} {v0 v : PE} {e : Ending} (hg : NN g) (h1 : OutO M0 w5 l g (snorm g) A6 v0 k er) (h2 : RetWi M0 w l g (snorm g) A6 e w6) (he : e = .returned (.tuple #[.agg (peA v), .int .i64 xr])) : MuWi w6 l g k er xr v ∧ Ext w w6 := by
  obtain ⟨v', xr', e1, h2, h3⟩ := h2
  rw [he] at e1
  simp only [Ending.returned.injEq, Value.tuple.injEq, Array.mk.injEq, List.cons.injEq, Value.agg.injEq, Value.int.injEq, Value.bool.injEq, Value.slice.injEq, and_true, true_and] at e1
  obtain ⟨⟨e2, e3, ⟨e4, e5, e6⟩, e7, e8, e9⟩, rfl⟩ := e1
  obtain rfl : v = v' := by
    cases v; cases v'; simp_all
  refine ⟨?_, h3⟩
  rcases h1 with ⟨rfl, a1, rfl, _⟩ | ⟨rfl, a1, ⟨z, a2⟩, rfl, _⟩ | ⟨rfl, a1, a2, r, a3, a4, a5, a6⟩
  · rcases h2 with ⟨rfl, _, b1⟩ | ⟨_, b1, _⟩ | ⟨_, b1, _⟩
    · exact .inl ⟨rfl, rfl, a1, rfl, b1⟩
    · exact absurd a1 b1
    · exact absurd a1 b1
  · rcases h2 with ⟨_, b1, _⟩ | ⟨rfl, b1, b2, b3⟩ | ⟨_, _, b2, _⟩
    · exact absurd b1 a1
    · exact .inr (.inl ⟨rfl, rfl, b1, b2, rfl, b3⟩)
    · exact absurd a2 (fun h => b2.not_const h)
  · rcases h2 with ⟨_, b1, _⟩ | ⟨_, _, ⟨z, b2⟩, _⟩ | ⟨rfl, _, _, k', r', b3, b4, b5, b6, b7⟩
    · exact absurd b1 a1
    · exact absurd b2 (fun h => a2.not_const h)
    · obtain ⟨rfl, _⟩ := mult_eq a3.nn b4 (snorm_nn g) (a2.snorm hg).ne a4 b5 a5 b6
      exact .inr (.inr ⟨rfl, rfl, a1, a2, r', b4, b5, b6, b7, b3⟩)
def PCut2 (l : List Tm) (W : World) (s11 : Value) (wx : World) : Prop := ∃ (g : Nat) (v : PE), s11 = .pointer (some ⟨g, 0, none⟩) ∧ P4 wx g v ∧ CRx M0 wx 4 v l ∧ Ext W wx
set_option maxRecDepth 100000 in
set_option maxHeartbeats 16000000 in
theorem law_multiplicity (a1 a2 : Option Addr) (n1 p1 n2 p2 : Nat) (X1 X2 : Nat → TE) (n : Int) (w : World) (h1 : PRaw w a1 n1 p1 X1) (h2 : PRaw w a2 n2 p2 X2) (hn : 0 ≤ n ∧ n ≤ 255) :
    Calls Tryz.prog 11 #[.slice a1 n1 p1, .slice a2 n2 p2, .int .u8 n] w fun e w' => e = .returned (.bool true) ∧ Ext w w' := by
  have HR1 := Lib.hid h1
  have HR2 := Lib.hid h2
  clear h1 h2
  go_enter Tryz.func11, Tryz.ntmps11
  go_wp2_with (fail)
  refine (law_fit24 _).mono ?_
  rintro e w1 ⟨rfl, he1⟩
  have HE1 := Lib.hid he1
  have CF1 := Lib.hid (law_few24 a1 n1 p1 X1 5 3 w1 (HR1.out.1.ext he1) HR1.out.2.1)
  have CF2 := Lib.hid (law_few24 a2 n2 p2 X2 4 2 w1 (HR2.out.1.ext he1) HR2.out.2.1)
  rw [show ((5 : Nat) : Int) = 5 from rfl, show ((3 : Nat) : Int) = 3 from rfl] at CF1
  rw [show ((4 : Nat) : Int) = 4 from rfl, show ((2 : Nat) : Int) = 2 from rfl] at CF2
  clear he1
  go_wp2_with (fail)
  refine CF1.out.mono ?_
  rintro e w2 ⟨b, rfl, hb1, rfl⟩
  cases b with
  | false =>
    clear hb1 CF1 CF2
    go_wp2
    go_ret
    exact ⟨rfl, HE1.out⟩
  | true =>
  have HF1 := Lib.hid (hb1.1 rfl)
  clear hb1 CF1
  go_wp2_with (fail)
  refine CF2.out.mono ?_
  rintro e w2 ⟨b, rfl, hb2, rfl⟩
  cases b with
  | false =>
    clear hb2 CF2
    go_wp2
    go_ret
    exact ⟨rfl, HE1.out⟩
  | true =>
  have HF2 := Lib.hid (hb2.1 rfl)
  clear hb2 CF2
  obtain ⟨l1, hl1, HS1, hd1, hx1⟩ := HR1.out.sm (HF1.out.le2 (by omega) (by omega))
  obtain ⟨l2, hl2, HS2, hd2, hx2⟩ := HR2.out.sm (HF2.out.le2 (by omega) (by omega))
  have CO1 := Lib.hid (fun W he => rp_Of M0 _ l1 W (mb0 _) (hl1.ext he) hd1 hx1)
  have CO2 := Lib.hid (fun W he => rp_Of M0 _ l2 W (mb0 _) (hl2.ext he) hd2 hx2)
  have HS1 := Lib.hid HS1
  have HS2 := Lib.hid HS2
  clear hl1 hd1 hx1 hl2 hd2 hx2 HF1 HF2 HR1 HR2
  go_wp2_with (fail)
  refine (CO1.out _ HE1.out).mono ?_
  rintro e w2 ⟨x, rfl, hx, he2⟩
  have HE2 := Lib.hid (HE1.out.trans he2)
  go_wp2_with (fail)
  refine (CO2.out _ HE2.out).mono ?_
  rintro e w3 ⟨y, rfl, hy, he3⟩
  have hb1 := Blk.of_arr w3 (peA x) 32 4 rfl
  have hb2 := Blk.of_arr (w3.alloc (.cells (peA x) 32)) (peA y) 32 4 rfl
  simp only [World.size_alloc] at hb2
  have hEa : Ext w3 ((w3.alloc (.cells (peA x) 32)).alloc (.cells (peA y) 32)) := ((Ext.refl w3).alloc _).alloc _
  have HP0 : Hid (SP2 w3.heap.size x y ((w3.alloc (.cells (peA x) 32)).alloc (.cells (peA y) 32))) := ⟨(hb1.alloc _).p4, hb2.p4⟩
  have HX := Lib.hid ((hx.ext he3).ext hEa)
  have HY := Lib.hid (hy.ext hEa)
  have HE := Lib.hid ((HE2.out.trans he3).trans hEa)
  clear hb1 hb2 hEa hx hy he2 he3 CO1 CO2 HE1 HE2
  go_upto_region 6 with (fail)
  generalize (w3.alloc (.cells (peA x) 32)).alloc (.cells (peA y) 32) = W at *
  have CM := Lib.hid (ps_Multiplicity 3 5 M0 (norm l1) (norm l2) (snorm (norm l2)) x y 6 5 W (doA_small (mb0 _) HX.out HY.out HS1.out.deg HS1.out.dl HS2.out.nn HS2.out.deg HS2.out.dl))
  obtain ⟨⟨x0, x1, x2, x3⟩, y0, y1, y2, y3⟩ := HP0.out
  go_wp2_with (fail)
  refine CM.out.mono ?_
  rintro e w5 ⟨v0, k, er, rfl, ho, he5⟩
  have HO := Lib.hid ho
  have HX5 := Lib.hid (HX.out.ext he5)
  have HY5 := Lib.hid (HY.out.ext he5)
  have HE5 := Lib.hid (HE.out.trans he5)
  have HP5 := Lib.hid (HP0.out.ext he5)
  have CW := Lib.hid (ps_Without 3 5 M0 (norm l1) (norm l2) (snorm (norm l2)) x y 6 5 w5 (doA_small (mb0 _) HX5.out HY5.out HS1.out.deg HS1.out.dl HS2.out.nn HS2.out.deg HS2.out.dl))
  clear ho he5 CM HX HY HE HP0 x0 x1 x2 x3 y0 y1 y2 y3
  obtain ⟨⟨x0, x1, x2, x3⟩, y0, y1, y2, y3⟩ := HP5.out
  go_wp2_with (fail)
  refine CW.out.mono ?_
  intro e w6 hw
  obtain ⟨v, xr, he, _⟩ := id hw
  obtain ⟨hm, he6⟩ := muwi HS2.out.nn HO.out hw he
  subst he
  have hEb := he6.trans ((Ext.refl w6).alloc (.cells (peA v) 32))
  have HX6 := Lib.hid (HX5.out.ext hEb)
  have HY6 := Lib.hid (HY5.out.ext hEb)
  have HE6 := Lib.hid (HE5.out.trans hEb)
  have HM6 := Lib.hid (hm.ext ((Ext.refl w6).alloc (.cells (peA v) 32)))
  have HP6 : Hid (SP2 w3.heap.size x y (w6.alloc (.cells (peA v) 32)) ∧ P4 (w6.alloc (.cells (peA v) 32)) w6.heap.size v) := ⟨HP5.out.ext hEb, (Blk.of_arr w6 (peA v) 32 4 rfl).p4⟩
  clear hw hm he6 hEb CW HX5 HY5 HE5 HP5 HO x0 x1 x2 x3 y0 y1 y2 y3
  go_upto_region 8 with (fail)
  generalize hs12 : w6.heap.size = g11 at *
  generalize w6.alloc (.cells (peA v) 32) = W6 at *
  clear hs12
  have CZ := Lib.hid (rp_IsZero M0 x (norm l1) W6 (mb0 _) HX6.out.pi)
  obtain ⟨⟨⟨x0, x1, x2, x3⟩, _⟩, _⟩ := HP6.out
  have CZ0 := Lib.hid (fun W => rp_IsZero M0 PE.z [] W (mb0 _) (CRx.pi (L := 4) (CR.zero M0 W 4)))
  rcases HM6.out with ⟨rfl, rfl, hz, rfl, rfl⟩ | ⟨rfl, rfl, hz, hc, rfl, rfl⟩ | ⟨rfl, rfl, hz, hg, r, hr1, hr2, hr3, hr4, hr5⟩
  · go_wp2_with (fail)
    refine CZ.out.mono ?_
    rintro e w7 ⟨b7, rfl, hb7, he7⟩
    obtain rfl : b7 = true := hb7.2 hz
    obtain ⟨_, v0, v1, v2, v3⟩ := HP6.out
    obtain ⟨_, v0, v1, v2, v3⟩ := (⟨HP6.out.1.ext he7, HP6.out.2.ext he7⟩ : SP2 w3.heap.size x y w7 ∧ P4 w7 g11 PE.z)
    simp only [PE.z] at v0 v1 v2 v3
    have HE7 := Lib.hid (HE6.out.trans he7)
    clear hb7 he7 hz x0 x1 x2 x3 CZ HM6 HP6
    go_wp2_with (fail)
    refine (CZ0.out _).mono ?_
    rintro e w8 ⟨b8, rfl, hb8, he8⟩
    obtain rfl : b8 = true := hb8.2 (Sim.refl _)
    have HE8 := Lib.hid (HE7.out.trans he8)
    clear hb8 he8 v0 v1 v2 v3 CZ0
    go_wp2
    go_ret
    exact ⟨rfl, HE8.out⟩
  · go_wp2_with (fail)
    refine CZ.out.mono ?_
    rintro e w7 ⟨b7, rfl, hb7, he7⟩
    obtain rfl : b7 = false := by
      cases b7 with
      | false => rfl
      | true => exact absurd (hb7.1 rfl) hz
    have HE7 := Lib.hid (HE6.out.trans he7)
    have HP7 : Hid (SP2 w3.heap.size x y w7 ∧ P4 w7 g11 PE.z) := ⟨HP6.out.1.ext he7, HP6.out.2.ext he7⟩
    have CL := Lib.hid (mv_Level M0 y (norm l2) w7 (mb0 _) (HY6.out.ext he7).pi)
    have HCC := Lib.hid hc
    clear hb7 he7 hz hc x0 x1 x2 x3 CZ HM6 HP6
    obtain ⟨⟨_, y0, y1, y2, y3⟩, _⟩ := HP7.out
    go_wp2_with (fail)
    refine CL.out.mono ?_
    rintro e w8 ⟨lv, rfl, hlv, he8⟩
    obtain rfl : lv = 0 := by
      obtain ⟨z, hz⟩ := HCC.out
      exact const_lv hz hlv
    have HE8 := Lib.hid (HE7.out.trans he8)
    obtain ⟨v0, v1, v2, v3⟩ := HP7.out.2.ext he8
    simp only [PE.z] at v0 v1 v2 v3
    clear hlv he8 y0 y1 y2 y3 CL HP7
    go_wp2_with (fail)
    refine (CZ0.out _).mono ?_
    rintro e w9 ⟨b9, rfl, hb9, he9⟩
    obtain rfl : b9 = true := hb9.2 (Sim.refl _)
    have HE9 := Lib.hid (HE8.out.trans he9)
    clear hb9 he9 v0 v1 v2 v3 CZ0
    go_wp2
    go_ret
    exact ⟨rfl, HE9.out⟩
  · have HZ := Lib.hid hz
    have HG := Lib.hid hg
    have HRN := Lib.hid hr1
    have HRS := Lib.hid hr2
    have HRD := Lib.hid hr3
    have HRL := Lib.hid hr4
    have HRC := Lib.hid hr5
    clear hz hg hr1 hr2 hr3 hr4 hr5 HM6 CZ0
    go_wp2_with (fail)
    refine CZ.out.mono ?_
    rintro e w7 ⟨b7, rfl, hb7, he7⟩
    obtain rfl : b7 = false := by
      cases b7 with
      | false => rfl
      | true => exact absurd (hb7.1 rfl) HZ.out
    have CL := Lib.hid (mv_Level M0 y (norm l2) w7 (mb0 _) (HY6.out.ext he7).pi)
    have HE7 := Lib.hid he7
    clear hb7 he7 x0 x1 x2 x3 CZ
    obtain ⟨_, y0, y1, y2, y3⟩ := HP6.out.1.ext HE7.out
    go_wp2_with (fail)
    refine CL.out.mono ?_
    rintro e w8 ⟨lv, rfl, hlv, he8⟩
    have hlv0 : ((lv : Int) == 0) = false := by
      have := HG.out.lv hlv
      simp [this]
    have he68 := HE7.out.trans he8
    have HX8 := Lib.hid (HX6.out.ext he68)
    have HY8 := Lib.hid (HY6.out.ext he68)
    have HE8 := Lib.hid (HE6.out.trans he68)
    have HC8 := Lib.hid (HRC.out.ext he68)
    have HP8 : Hid (SP2 w3.heap.size x y w8) := HP6.out.1.ext he68
    have HQ8 : Hid (P4 w8 g11 v) := HP6.out.2.ext he68
    clear hlv he8 he68 y0 y1 y2 y3 CL HX6 HY6 HE6 HP6 HRC HE7
    go_upto_region 15 with (fail)
    obtain ⟨i, hi, hi3⟩ : ∃ i : Nat, n % 4 = (i : Int) ∧ i ≤ 3 := ⟨(n % 4).toNat, by omega, by omega⟩
    rw [hi]
    clear hi hlv0 hn
    have hkB : k ≤ 3 := by
      obtain ⟨m, K, g1, g2, g3, g4⟩ := HG.out.snorm HS2.out.nn
      exact pow_le g2 g3 HRN.out (snorm_nn _) (rest_ne HZ.out HRS.out) (HG.out.snorm HS2.out.nn).ne g1 g4 HRS.out HS1.out.deg
    have hc0 : sgnN (norm (norm l2)) ^ i ≠ 0 := Int.pow_ne_zero (sgnN_ne (norm_canon _))
    have HT : Hid (Deg 12 (pmul (norm l1) (ppow (norm l2) i)) ∧ dlen (nrm (pmul (norm l1) (ppow (norm l2) i))) ≤ 21 ∧ ¬ Sim (pmul (norm l1) (ppow (norm l2) i)) []) := ⟨(Deg.pmul HS1.out.deg (deg_ppow HS2.out.deg HS2.out.nn i) HS1.out.nn).mono (by omega), by
      rw [nrm_pmul]
      have e1 := dlen_mul (nrm (norm l1)) (nrm (ppow (norm l2) i))
      have e2 := dlen_ppow (norm l2) i
      have e3 : i * dlen (nrm (norm l2)) ≤ 3 * 5 := Nat.mul_le_mul hi3 HS2.out.dl
      have := HS1.out.dl
      omega, pmul_ne HS1.out.nn (nn_ppow HS2.out.nn i) HZ.out (ppow_ne HS2.out.nn HG.out.ne i)⟩
    have HQ : Hid (∀ (r2 : List Tm) (j : Nat), NN r2 → Sim (pmul r2 (ppow (snorm (norm l2)) j)) (pmul (norm l1) (ppow (norm l2) i)) → ¬ Dv (snorm (norm l2)) r2 → j = k + i ∧ snorm r2 = snorm r) := fun r2 j b1 b2 b3 => by
      have b4 := times_mult (i := i) HS2.out.nn HRS.out
      have b5 : ¬ Dv (snorm (norm l2)) (smul (sgnN (norm (norm l2)) ^ i) r) := fun hd => HRD.out (dv_smul (snorm_nn _) (snorm_prim HS2.out.nn HG.out.ne) HRN.out hc0 hd)
      obtain ⟨rfl, b6⟩ := mult_eq b1 (smul_nn HRN.out) (snorm_nn _) (HG.out.snorm HS2.out.nn).ne b2 b4 b3 b5
      exact ⟨rfl, by rw [b6.snorm, snorm_smul hc0]⟩
    have HD := Lib.hid (fun (M' : Nat → Prop) (W' : World) (t : PE) (h1 : Mb M' W') (h2 : CRx M' W' 4 t (pmul (norm l1) (ppow (norm l2) i))) (h3 : CRx M' W' 4 y (norm l2)) => doA_great h1 h2 h3 HT.out.1 (Nat.le_trans HT.out.2.1 (by omega)) HS2.out.nn HS2.out.deg HS2.out.dl)
    have CT : Hid (∀ (M' : Nat → Prop) (W' : World), Mb M' W' → PI M' W' x (norm l1) → PI M' W' y (norm l2) → Calls Tryz.prog 55 #[.agg (peA x), .agg (peA y), .int .i64 (i : Int)] W' (RetX M' W' 4 (pmul (norm l1) (ppow (norm l2) i)))) := fun M' W' h1 h2 h3 => by
      have e3 : i * dlen (nrm (norm l2)) ≤ 3 * 5 := Nat.mul_le_mul hi3 HS2.out.dl
      have e4 : i * 3 ≤ 9 := by omega
      exact law_times M' x y _ _ 3 3 i W' h1 h2 h3 (by omega) HS1.out.deg HS2.out.deg HS2.out.nn (by have := HS1.out.dl; omega) (by omega) (Nat.le_trans (Nat.mul_le_mul (show i * 3 + 1 ≤ 10 by omega) (show i * 3 + 1 ≤ 10 by omega)) (by decide)) (Nat.le_trans (Nat.mul_le_mul_left _ (show i * 3 + 1 ≤ 10 by omega)) (by decide))
    clear hc0
    have HX9 := Lib.hid (HX8.out.ext (Ext.refl w8).drew)
    have HY9 := Lib.hid (HY8.out.ext (Ext.refl w8).drew)
    have HE9 := Lib.hid (HE8.out.trans (Ext.refl w8).drew)
    have HC9 := Lib.hid (HC8.out.ext (Ext.refl w8).drew)
    have HP9 : Hid (SP2 w3.heap.size x y w8.drew) := HP8.out.ext (Ext.refl w8).drew
    have HQ9 : Hid (P4 w8.drew g11 v) := HQ8.out.ext (Ext.refl w8).drew
    clear HX8 HY8 HE8 HC8 HP8 HQ8
    go_cut [14] (fun s14 wx => s14 = .int .i64 ((k + i : Nat) : Int) ∧ Ext w8.drew wx)
    case first =>
      refine wp_region_u (SP2 w3.heap.size x y) 11 (by kernel_rfl) HP9.out (fun hHeld => ?_)
      generalize w8.drew = wd at *
      (refine tkB [0, 1, 2, 3] ?_; (iterate 4 (refine tk1 (oi := ?_) (v := ?_) (by kernel_rfl) (by first | exact hSn | exact hHeld) ?_ ?_ ?_ ?_ ?_; rotate_left 2; (simp only [List.getElem?_toArray, List.getElem?_cons_succ, List.getElem?_cons_zero]; rfl); rfl; (intro wS hSw; obtain ⟨⟨S1, S2, S3, S4⟩, S5, S6, S7, S8⟩ := hSw; go_simp; try with_reducible rfl); (exact fun _ _ _ h => h); (try simp only [Act.put, List.setIfInBounds_toArray, List.set_cons_zero, List.set_cons_succ]))); refine tkE ?_)
      ((refine wpAnyU_one 4 (o := ?_) (by kernel_rfl) ?_ ?_; rotate_left 1; (simp only [List.getElem?_toArray, List.getElem?_cons_succ, List.getElem?_cons_zero]; rfl); intro K hK); go_simp; (refine (CT.out M0 wd (mb0 _) HX9.out.pi HY9.out.pi).mono ?_); rintro e_ w9 ⟨p, rfl, hp, e1⟩; go_wp2_with (fail); (try clear hSn); (have hSn := hHeld.ext e1); (refine hK.out _ _ (fun _ => hSn) ?_); clear hK K; (try simp only [Act.put, List.setIfInBounds_toArray, List.set_cons_zero, List.set_cons_succ]))
      ((refine wpAnyU_one 5 (o := ?_) (by kernel_rfl) ?_ ?_; rotate_left 1; (simp only [List.getElem?_toArray, List.getElem?_cons_succ, List.getElem?_cons_zero]; rfl); intro K hK); go_simp; (refine (ps_Multiplicity 3 5 M0 _ (norm l2) (snorm (norm l2)) p y 12 100 _ (HD.out M0 _ p (mb0 _) hp (HY9.out.ext e1))).mono ?_); rintro e_ w10 ⟨v5, j, er5, rfl, ho5, e2⟩; go_wp2_with (fail); (try clear hSn); (have hSn := hHeld.ext (e1.trans e2)); (refine hK.out _ _ (fun _ => hSn) ?_); clear hK K; (try simp only [Act.put, List.setIfInBounds_toArray, List.set_cons_zero, List.set_cons_succ]))
      obtain ⟨rfl, hj⟩ : er5 = 0 ∧ j = k + i := by
        rcases ho5 with ⟨_, b1, _⟩ | ⟨_, _, ⟨z, b2⟩, _⟩ | ⟨rfl, _, _, r2, b3, b4, b5, _⟩
        · exact absurd b1 HT.out.2.2
        · exact absurd b2 (fun h => HG.out.not_const h)
        · exact ⟨rfl, (HQ.out r2 j b3.nn b4 b5).1⟩
      subst hj
      (refine tkB [6, 7, 8, 9, 10] ?_; (iterate 5 (refine tk1 (oi := ?_) (v := ?_) (by kernel_rfl) (by first | exact hSn | exact hHeld) ?_ ?_ ?_ ?_ ?_; rotate_left 2; (simp only [List.getElem?_toArray, List.getElem?_cons_succ, List.getElem?_cons_zero]; rfl); rfl; (intro wS hSw; obtain ⟨⟨S1, S2, S3, S4⟩, S5, S6, S7, S8⟩ := hSw; go_simp; try with_reducible rfl); (exact fun _ _ _ h => h); (try simp only [Act.put, List.setIfInBounds_toArray, List.set_cons_zero, List.set_cons_succ]))); refine tkE ?_)
      refine wpAnyU_done (by kernel_rfl) ?_ _
      go_wp2_with (fail)
      go_meet
      exact ⟨rfl, e1.trans e2⟩
    case rest =>
      obtain ⟨rfl, heC⟩ := hcut
      obtain ⟨W9, hW9⟩ : ∃ W9, W9 = wc := ⟨_, rfl⟩
      subst hW9
      have heD := heC.trans (Ext.refl W9).drew
      have HX10 := Lib.hid (HX9.out.ext heD)
      have HY10 := Lib.hid (HY9.out.ext heD)
      have HE10 := Lib.hid (HE9.out.trans heD)
      have HC10 := Lib.hid (HC9.out.ext heD)
      have HP10 : Hid (SP2 w3.heap.size x y W9.drew) := HP9.out.ext heD
      have HQ10 : Hid (P4 W9.drew g11 v) := HQ9.out.ext heD
      clear HX9 HY9 HE9 HC9 HP9 HQ9 heC heD
      go_upto_region 16 with (fail)
      go_cut [16] (PCut2 (snorm r) W9.drew)
      case first =>
        have hMd : Mb M0 W9.drew := mb0 _
        have C3 : Hid (∀ (M' : Nat → Prop) (W' : World), Mb M' W' → (∀ g, M' g → M0 g ∨ W9.drew.heap.size ≤ g) → Ext W9.drew W' → Calls Tryz.prog 55 #[.agg (peA x), .agg (peA y), .int .i64 (i : Int)] W' (RetX M' W' 4 (pmul (norm l1) (ppow (norm l2) i)))) := fun M' W' h1 h2 h3 => CT.out M' W' h1 ((HX10.out.more h2).ext h3).pi ((HY10.out.more h2).ext h3).pi
        have C5 : Hid (∀ (M' : Nat → Prop) (W' : World) (p : PE), Mb M' W' → (∀ g, M' g → M0 g ∨ W9.drew.heap.size ≤ g) → Ext W9.drew W' → CRx M' W' 4 p (pmul (norm l1) (ppow (norm l2) i)) → Calls Tryz.prog 54 #[.agg (peA p), .agg (peA y)] W' (fun e w' => ∃ v : PE, e = .returned (.tuple #[.agg (peA v), .int .i64 0]) ∧ CRx M' w' 4 v (snorm r) ∧ Ext W' w')) := fun M' W' p h1 h2 h3 h4 => (ps_Without 3 5 M' _ (norm l2) (snorm (norm l2)) p y 12 100 W' (HD.out M' W' p h1 h4 ((HY10.out.more h2).ext h3))).mono fun e w' ⟨v5, er5, a1, a2, a3⟩ => by
          rcases a2 with ⟨_, b1, _⟩ | ⟨_, _, ⟨z, b2⟩, _⟩ | ⟨rfl, _, _, k2, r2, b3, b4, b5, b6, _⟩
          · exact absurd b1 HT.out.2.2
          · exact absurd b2 (fun h => HG.out.not_const h)
          · have := (HQ.out r2 k2 b4 b5 b6).2
            rw [this] at b3
            exact ⟨v5, a1, b3, a3⟩
        refine wp_region_u (SP2 w3.heap.size x y) 11 (by kernel_rfl) HP10.out (fun hHeld => ?_)
        clear HX10 HY10 HE10 HC10 HQ10 HP10 HS1 HS2 HZ HG HRN HRS HRD HRL HT HQ HD CT
        generalize W9.drew = wd at *
        (refine tkB [0, 1, 2, 4] ?_; (iterate 4 (refine tk1 (oi := ?_) (v := ?_) (by kernel_rfl) (by first | exact hSn | exact hHeld) ?_ ?_ ?_ ?_ ?_; rotate_left 2; (simp only [List.getElem?_toArray, List.getElem?_cons_succ, List.getElem?_cons_zero]; rfl); rfl; (intro wS hSw; obtain ⟨⟨S1, S2, S3, S4⟩, S5, S6, S7, S8⟩ := hSw; go_simp; try with_reducible rfl); (exact fun _ _ _ h => h); (try simp only [Act.put, List.setIfInBounds_toArray, List.set_cons_zero, List.set_cons_succ]))); refine tkE ?_)
        (refine wpAnyU_two 3 9 (oi := ?_) (oj := ?_) (by kernel_rfl) ?_ ?_ ?_ ?_; rotate_left 2; (simp only [List.getElem?_toArray, List.getElem?_cons_succ, List.getElem?_cons_zero]; rfl); (simp only [List.getElem?_toArray, List.getElem?_cons_succ, List.getElem?_cons_zero]; rfl); all_goals intro K hK)
        · go_simp
          refine (C3.out M0 wd  (hMd.ext (Ext.refl wd)) (fun g hg => .inl hg) (Ext.refl wd) ).mono ?_
          rintro e v1 ⟨p1, rfl, hp1, d1⟩
          go_wp2_with (fail)
          have e1 : Ext wd v1 := ((Ext.refl wd)).trans d1
          try clear hSn
          have hSn := hHeld.ext e1
          refine hK.out _ _ (fun _ => hSn) ?_
          clear hK K
          (try simp only [Act.put, List.setIfInBounds_toArray, List.set_cons_zero, List.set_cons_succ])
          (refine wpAnyU_two 5 9 (oi := ?_) (oj := ?_) (by kernel_rfl) ?_ ?_ ?_ ?_; rotate_left 2; (simp only [List.getElem?_toArray, List.getElem?_cons_succ, List.getElem?_cons_zero]; rfl); (simp only [List.getElem?_toArray, List.getElem?_cons_succ, List.getElem?_cons_zero]; rfl); all_goals intro K hK)
          · go_simp
            refine (C5.out M0 v1 p1 (hMd.ext e1) (fun g hg => .inl hg) e1 (hp1)).mono ?_
            rintro e v2 ⟨v, rfl, hv, d2⟩
            go_wp2_with (fail)
            have e2 : Ext wd v2 := (e1).trans d2
            try clear hSn
            have hSn := hHeld.ext e2
            refine hK.out _ _ (fun _ => hSn) ?_
            clear hK K
            (try simp only [Act.put, List.setIfInBounds_toArray, List.set_cons_zero, List.set_cons_succ])
            (refine tkB [6, 7, 8] ?_; (iterate 3 (refine tk1 (oi := ?_) (v := ?_) (by kernel_rfl) (by first | exact hSn | exact hHeld) ?_ ?_ ?_ ?_ ?_; rotate_left 2; (simp only [List.getElem?_toArray, List.getElem?_cons_succ, List.getElem?_cons_zero]; rfl); rfl; (intro wS hSw; obtain ⟨⟨S1, S2, S3, S4⟩, S5, S6, S7, S8⟩ := hSw; go_simp; try with_reducible rfl); (exact fun _ _ _ h => h); (try simp only [Act.put, List.setIfInBounds_toArray, List.set_cons_zero, List.set_cons_succ]))); refine tkE ?_)
            (refine wpAnyU_one 9 (o := ?_) (by kernel_rfl) ?_ ?_; rotate_left 1; (simp only [List.getElem?_toArray, List.getElem?_cons_succ, List.getElem?_cons_zero]; rfl); intro K hK)
            go_simp
            have hSn2 := hSn.ext ((Ext.refl v2).alloc (.cells zA 32))
            have hSn3 := hSn.ext ((Ext.refl v2).alloc (.cells (peA v) 32))
            clear hSn
            refine hK.out _ _ (fun _ => hSn2) ?_
            clear hK K
            (try simp only [Act.put, List.setIfInBounds_toArray, List.set_cons_zero, List.set_cons_succ])
            (refine wpAnyU_one 10 (o := ?_) (by kernel_rfl) ?_ ?_; rotate_left 1; (simp only [List.getElem?_toArray, List.getElem?_cons_succ, List.getElem?_cons_zero]; rfl); intro K hK)
            go_simp
            refine hK.out _ _ (fun _ => hSn3) ?_
            clear hK K
            (try simp only [Act.put, List.setIfInBounds_toArray, List.set_cons_zero, List.set_cons_succ])
            ((refine wpAnyU_one 11 (o := ?_) (by kernel_rfl) ?_ ?_; rotate_left 1; (simp only [List.getElem?_toArray, List.getElem?_cons_succ, List.getElem?_cons_zero]; rfl); intro K hK); go_simp; (refine hK.out _ _ (fun h => absurd rfl h) ?_); clear hK K; refine wpAnyU_done (by kernel_rfl) ?_ _)
            go_wp2_with (fail)
            go_meet
            exact ⟨v2.heap.size, v, rfl, (Blk.of_arr v2 (peA v) 32 4 rfl).p4, hv.ext ((Ext.refl v2).alloc _), (e2).alloc _⟩
          · go_simp
            have ea2 : Ext v1 (v1.alloc (.cells zA 32)) := (Ext.refl _).alloc _
            have hb2 := Blk.of_arr v1 zA 32 4 rfl
            have e2 : Ext wd (v1.alloc (.cells zA 32)) := (e1).trans ea2
            try clear hSn
            have hSn := hHeld.ext e2
            refine hK.out _ _ (fun _ => hSn) ?_
            clear hK K
            (try simp only [Act.put, List.setIfInBounds_toArray, List.set_cons_zero, List.set_cons_succ])
            (refine wpAnyU_one 5 (o := ?_) (by kernel_rfl) ?_ ?_; rotate_left 1; (simp only [List.getElem?_toArray, List.getElem?_cons_succ, List.getElem?_cons_zero]; rfl); intro K hK)
            go_simp
            refine (C5.out (fun g => M0 g ∨ g = v1.heap.size) (v1.alloc (.cells zA 32)) p1 ((mb_or (hMd.ext e1) (.cells zA 32)).ext (Ext.refl (v1.alloc (.cells zA 32)))) (fun g hg => hg.imp id fun h => by rw [h]; exact e1.size) e2 (((hp1).more (M' := fun g => M0 g ∨ g = v1.heap.size) (fun g hg => hg.imp id fun (h : g = v1.heap.size) => Nat.le_of_eq h.symm)).ext ea2)).mono ?_
            rintro e v3 ⟨v, rfl, hv, d3⟩
            go_wp2_with (fail)
            have e3 : Ext wd v3 := (e2).trans d3
            have hb3 := (hb2).ext d3
            try clear hSn
            have hSn := hHeld.ext e3
            refine hK.out _ _ (fun _ => hSn) ?_
            clear hK K
            (try simp only [Act.put, List.setIfInBounds_toArray, List.set_cons_zero, List.set_cons_succ])
            (refine tkB [6, 7, 8] ?_; (iterate 3 (refine tk1 (oi := ?_) (v := ?_) (by kernel_rfl) (by first | exact hSn | exact hHeld) ?_ ?_ ?_ ?_ ?_; rotate_left 2; (simp only [List.getElem?_toArray, List.getElem?_cons_succ, List.getElem?_cons_zero]; rfl); rfl; (intro wS hSw; obtain ⟨⟨S1, S2, S3, S4⟩, S5, S6, S7, S8⟩ := hSw; go_simp; try with_reducible rfl); (exact fun _ _ _ h => h); (try simp only [Act.put, List.setIfInBounds_toArray, List.set_cons_zero, List.set_cons_succ]))); refine tkE ?_)
            obtain ⟨⟨q0, q1, q2, q3⟩, ⟨f0, f1, f2, f3⟩, hrr, hkp, hext⟩ := fin4 (M' := fun g => M0 g ∨ g = v1.heap.size) (w := wd) (.int .i64 v.lv) (.bool v.b) (.slice v.a v.n v.p) (.slice v.ka v.kn v.kp) (hb3) (.inr rfl) (e1).size (e3)
            simp only [arr] at q0 q1 q2 q3
            (refine wpAnyU_one 10 (o := ?_) (by kernel_rfl) ?_ ?_; rotate_left 1; (simp only [List.getElem?_toArray, List.getElem?_cons_succ, List.getElem?_cons_zero]; rfl); intro K hK)
            have hSn3 := hHeld.ext hext
            clear hSn
            go_simp
            refine hK.out _ _ (fun _ => hSn3) ?_
            clear hK K
            (try simp only [Act.put, List.setIfInBounds_toArray, List.set_cons_zero, List.set_cons_succ])
            ((refine wpAnyU_one 11 (o := ?_) (by kernel_rfl) ?_ ?_; rotate_left 1; (simp only [List.getElem?_toArray, List.getElem?_cons_succ, List.getElem?_cons_zero]; rfl); intro K hK); go_simp; (refine hK.out _ _ (fun h => absurd rfl h) ?_); clear hK K; refine wpAnyU_done (by kernel_rfl) ?_ _)
            go_wp2_with (fail)
            go_meet
            exact ⟨v1.heap.size, v, rfl, hrr, (hv.kp hkp).more (fun g hg => .inl (.inl hg)), hext⟩
        · go_simp
          have ea1 : Ext wd (wd.alloc (.cells zA 32)) := (Ext.refl _).alloc _
          have hb1 := Blk.of_arr wd zA 32 4 rfl
          have e1 : Ext wd (wd.alloc (.cells zA 32)) := ((Ext.refl wd)).trans ea1
          try clear hSn
          have hSn := hHeld.ext e1
          refine hK.out _ _ (fun _ => hSn) ?_
          clear hK K
          (try simp only [Act.put, List.setIfInBounds_toArray, List.set_cons_zero, List.set_cons_succ])
          (refine wpAnyU_one 3 (o := ?_) (by kernel_rfl) ?_ ?_; rotate_left 1; (simp only [List.getElem?_toArray, List.getElem?_cons_succ, List.getElem?_cons_zero]; rfl); intro K hK)
          go_simp
          refine (C3.out (fun g => M0 g ∨ g = wd.heap.size) (wd.alloc (.cells zA 32))  ((mb_or (hMd.ext (Ext.refl wd)) (.cells zA 32)).ext (Ext.refl (wd.alloc (.cells zA 32)))) (fun g hg => hg.imp id fun h => by rw [h]; exact (Ext.refl wd).size) e1 ).mono ?_
          rintro e v2 ⟨p1, rfl, hp1, d2⟩
          go_wp2_with (fail)
          have e2 : Ext wd v2 := (e1).trans d2
          have hb2 := (hb1).ext d2
          try clear hSn
          have hSn := hHeld.ext e2
          refine hK.out _ _ (fun _ => hSn) ?_
          clear hK K
          (try simp only [Act.put, List.setIfInBounds_toArray, List.set_cons_zero, List.set_cons_succ])
          (refine wpAnyU_one 5 (o := ?_) (by kernel_rfl) ?_ ?_; rotate_left 1; (simp only [List.getElem?_toArray, List.getElem?_cons_succ, List.getElem?_cons_zero]; rfl); intro K hK)
          go_simp
          refine (C5.out (fun g => M0 g ∨ g = wd.heap.size) v2 p1 ((mb_or (hMd.ext (Ext.refl wd)) (.cells zA 32)).ext (((Ext.refl (wd.alloc (.cells zA 32)))).trans d2)) (fun g hg => hg.imp id fun h => by rw [h]; exact (Ext.refl wd).size) e2 (hp1)).mono ?_
          rintro e v3 ⟨v, rfl, hv, d3⟩
          go_wp2_with (fail)
          have e3 : Ext wd v3 := (e2).trans d3
          have hb3 := (hb2).ext d3
          try clear hSn
          have hSn := hHeld.ext e3
          refine hK.out _ _ (fun _ => hSn) ?_
          clear hK K
          (try simp only [Act.put, List.setIfInBounds_toArray, List.set_cons_zero, List.set_cons_succ])
          (refine tkB [6, 7, 8] ?_; (iterate 3 (refine tk1 (oi := ?_) (v := ?_) (by kernel_rfl) (by first | exact hSn | exact hHeld) ?_ ?_ ?_ ?_ ?_; rotate_left 2; (simp only [List.getElem?_toArray, List.getElem?_cons_succ, List.getElem?_cons_zero]; rfl); rfl; (intro wS hSw; obtain ⟨⟨S1, S2, S3, S4⟩, S5, S6, S7, S8⟩ := hSw; go_simp; try with_reducible rfl); (exact fun _ _ _ h => h); (try simp only [Act.put, List.setIfInBounds_toArray, List.set_cons_zero, List.set_cons_succ]))); refine tkE ?_)
          obtain ⟨⟨q0, q1, q2, q3⟩, ⟨f0, f1, f2, f3⟩, hrr, hkp, hext⟩ := fin4 (M' := fun g => M0 g ∨ g = wd.heap.size) (w := wd) (.int .i64 v.lv) (.bool v.b) (.slice v.a v.n v.p) (.slice v.ka v.kn v.kp) (hb3) (.inr rfl) ((Ext.refl wd)).size (e3)
          simp only [arr] at q0 q1 q2 q3
          (refine wpAnyU_one 10 (o := ?_) (by kernel_rfl) ?_ ?_; rotate_left 1; (simp only [List.getElem?_toArray, List.getElem?_cons_succ, List.getElem?_cons_zero]; rfl); intro K hK)
          have hSn3 := hHeld.ext hext
          clear hSn
          go_simp
          refine hK.out _ _ (fun _ => hSn3) ?_
          clear hK K
          (try simp only [Act.put, List.setIfInBounds_toArray, List.set_cons_zero, List.set_cons_succ])
          ((refine wpAnyU_one 11 (o := ?_) (by kernel_rfl) ?_ ?_; rotate_left 1; (simp only [List.getElem?_toArray, List.getElem?_cons_succ, List.getElem?_cons_zero]; rfl); intro K hK); go_simp; (refine hK.out _ _ (fun h => absurd rfl h) ?_); clear hK K; refine wpAnyU_done (by kernel_rfl) ?_ _)
          go_wp2_with (fail)
          go_meet
          exact ⟨wd.heap.size, v, rfl, hrr, (hv.kp hkp).more (fun g hg => .inl (.inl hg)), hext⟩
      case rest =>
        obtain ⟨g16, u, rfl, hu, hs, heC⟩ := hcut
        have HX11 := Lib.hid (HX10.out.ext heC)
        have HY11 := Lib.hid (HY10.out.ext heC)
        have HE11 := Lib.hid (HE10.out.trans heC)
        have HC11 := Lib.hid (HC10.out.ext heC)
        have HP11 : Hid (SP2 w3.heap.size x y wc) := HP10.out.ext heC
        have HQ11 : Hid (P4 wc g11 v) := HQ10.out.ext heC
        have HU11 := Lib.hid hu
        have HI11 := Lib.hid hs
        have CS := Lib.hid (rp_Same M0 u v (snorm r) (snorm r) wc (mb0 _) hs.pi HC11.out.pi)
        clear hu hs heC HX10 HY10 HE10 HC10 HP10 HQ10 HT HQ HD CT
        obtain ⟨u0, u1, u2, u3⟩ := HU11.out
        obtain ⟨v0, v1, v2, v3⟩ := HQ11.out
        go_wp2_with (fail)
        refine CS.out.mono ?_
        rintro e w12 ⟨b12, rfl, hb12, he12⟩
        obtain rfl : b12 = true := hb12.2 (Sim.refl _)
        clear hb12 u0 u1 u2 u3 v0 v1 v2 v3 CS
        obtain ⟨v0, v1, v2, v3⟩ := HQ11.out.ext he12
        have CC := Lib.hid (law_canonical24 M0 (snorm r) v w12 (HC11.out.ext he12))
        go_wp2_with (fail)
        refine CC.out.mono ?_
        rintro e w13 ⟨rfl, he13⟩
        have he14 := he12.trans he13
        have hrz := rest_ne HZ.out HRS.out
        have hrd : Deg 3 r := deg_rest HRN.out (snorm_nn _) (HG.out.snorm HS2.out.nn).ne HRS.out HS1.out.deg
        have CD := Lib.hid (ps_Divides 3 5 M0 (snorm r) (norm l2) (snorm (norm l2)) y v 6 A6 w13 (mb0 _) (HY11.out.ext he14).pi (HC11.out.ext he14).pi (sn_ctr (HY11.out.ext he14) HS2.out.deg HS2.out.dl) (fun _ => (HG.out.snorm HS2.out.nn).ne) ((snorm_deg HRN.out hrz hrd).mono (by omega)) (snorm_deg HS2.out.nn HG.out.ne HS2.out.deg) (Nat.le_trans (dlen_mono (snorm_nrm r)) HRL.out) (Nat.le_trans (dlen_mono (snorm_nrm _)) HS2.out.dl) law_ok (Nat.le_trans (Nat.add_le_add (Nat.add_le_add_right (show 5 ≤ 100 by omega) _) (Nat.mul_le_mul_left _ (show 5 + 2 ≤ 50 + 2 by omega))) law_num6))
        have HND := Lib.hid (not_dv_snorm HRN.out HRD.out)
        have HE14 := Lib.hid (HE11.out.trans he14)
        clear v0 v1 v2 v3 CC hrz hrd
        obtain ⟨v0, v1, v2, v3⟩ := HQ11.out.ext he14
        obtain ⟨_, y0, y1, y2, y3⟩ := HP11.out.ext he14
        clear he12 he13 he14
        go_wp2_with (fail)
        refine CD.out.mono ?_
        rintro e w15 ⟨b15, rfl, _, hb15, he15⟩
        obtain rfl : b15 = false := by
          cases b15 with
          | false => rfl
          | true => exact absurd ((hb15 HG.out.ne).1 rfl) HND.out
        have HF := Lib.hid (HE14.out.trans he15)
        clear hb15 he15 CD v0 v1 v2 v3 y0 y1 y2 y3
        go_wp2
        go_ret
        exact ⟨rfl, HF.out⟩
end Go.Proofs.YtodjlgkamokakaaGreat
