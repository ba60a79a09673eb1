/- PseudoWithout: the walk. -/
import Derived.Test.YtgppogaoilijcaaGreatCh
import Derived.Test.YtgppogaoilijcaaGreatCj
set_option linter.unusedVariables false
set_option linter.unusedSimpArgs false

namespace Go.Proofs.YtgppogaoilijcaaGreat
open Go.RowKit

theorem nc_of_lv {l : List Tm} (h : lvM ((norm l).map (·.2)) ≠ 0) : NC (norm l) := Classical.byContradiction fun hc => h (by
  have := lvM_le_of (j := 0) ((norm l).map (·.2)) fun m hm => hiU_le_of (fun k h1 h4 => Classical.byContradiction fun hk => hc (by
    obtain ⟨s, hs, rfl⟩ := List.mem_map.1 hm
    exact ⟨s.2, k, canon_coef_ne (norm_canon l) hs, by omega, h4, by omega⟩)) (Nat.le_refl _)
  omega)
def SW3 (b : Nat) (x y : PE) (g : Nat) (v : PE) (w : World) : Prop := SP2 b x y w ∧ P4 w g v
theorem SW3.ext {b : Nat} {x y : PE} {g : Nat} {v : PE} {w w' : World} (h : SW3 b x y g v w) (he : Ext w w') : SW3 b x y g v w' := ⟨h.1.ext he, h.2.ext he⟩
theorem without_back {f g r : List Tm} {k : Nat} (hg : NN g) (hr : NN r) (h : Sim (pmul r (ppow (snorm g) k)) f) : snorm (pmul (snorm r) (ppow g k)) = snorm f := by
  refine snorm_eq (a := sgnN (norm r)) (b := sgnN (norm g) ^ k) (sgnN_ne (norm_canon r)) (Int.pow_ne_zero (sgnN_ne (norm_canon g))) ?_
  refine (pmul_smul_left _ _ _).symm.trans (((sim_smul_snorm hr).pmul (pow_scale (sim_smul_snorm hg) k).symm).trans ?_)
  exact (pmul_smul_right _ _ _).trans (h.smul _)
theorem dv_pow {s r f : List Tm} {k : Nat} (hs : NN s) (hr : NN r) (h : Sim (pmul r (ppow s k)) f) (hd : ¬ Dv s r) : Dv s f ↔ k ≠ 0 := by
  constructor
  · intro hv hk
    subst hk
    refine hd (hv.sim (Sim.refl _) (h.symm.trans ?_))
    exact (pmul_const 1 r).trans (by rw [smul_one]; exact Sim.refl _)
  · intro hk
    obtain ⟨j, rfl⟩ : ∃ j, k = j + 1 := ⟨k - 1, by omega⟩
    exact ⟨pmul r (ppow s j), nn_pmul hr (nn_ppow hs j), (Sim.pmul_assoc r (ppow s j) s).trans h⟩
set_option maxRecDepth 100000 in
set_option maxHeartbeats 16000000 in
theorem law_without (a1 a2 : Option Addr) (n1 p1 n2 p2 : Nat) (X1 X2 : Nat → TE) (w : World) (h1 : PRaw w a1 n1 p1 X1) (h2 : PRaw w a2 n2 p2 X2) :
    Calls Tryz.prog 3 #[.slice a1 n1 p1, .slice a2 n2 p2] w fun e w' => e = .returned (.bool true) ∧ Ext w w' := by
  have HR1 := Lib.hid h1
  have HR2 := Lib.hid h2
  clear h1 h2
  go_enter Tryz.func3, Tryz.ntmps3
  go_wp2_with (fail)
  refine (law_fit24 _).mono ?_
  rintro e w1 ⟨rfl, he1⟩
  have HE1 := Lib.hid he1
  have CF1 := Lib.hid (law_few24 a1 n1 p1 X1 5 3 w1 (HR1.out.1.ext he1) HR1.out.2.1)
  have CF2 := Lib.hid (law_few24 a2 n2 p2 X2 4 2 w1 (HR2.out.1.ext he1) HR2.out.2.1)
  rw [show ((5 : Nat) : Int) = 5 from rfl, show ((3 : Nat) : Int) = 3 from rfl] at CF1
  rw [show ((4 : Nat) : Int) = 4 from rfl, show ((2 : Nat) : Int) = 2 from rfl] at CF2
  clear he1
  go_wp2_with (fail)
  refine CF1.out.mono ?_
  rintro e w2 ⟨b, rfl, hb1, rfl⟩
  cases b with
  | false =>
    clear hb1 CF1 CF2
    go_wp2
    go_ret
    exact ⟨rfl, HE1.out⟩
  | true =>
  have HF1 := Lib.hid (hb1.1 rfl)
  clear hb1 CF1
  go_wp2_with (fail)
  refine CF2.out.mono ?_
  rintro e w2 ⟨b, rfl, hb2, rfl⟩
  cases b with
  | false =>
    clear hb2 CF2
    go_wp2
    go_ret
    exact ⟨rfl, HE1.out⟩
  | true =>
  have HF2 := Lib.hid (hb2.1 rfl)
  clear hb2 CF2
  obtain ⟨l1, hl1, HS1, hd1, hx1⟩ := HR1.out.sm (HF1.out.le2 (by omega) (by omega))
  obtain ⟨l2, hl2, HS2, hd2, hx2⟩ := HR2.out.sm (HF2.out.le2 (by omega) (by omega))
  have CI := Lib.hid (sp_isZeroD M0 _ l1 w1 (mb0 _) (hl1.ext HE1.out) hd1)
  have CV := Lib.hid (fun W he => sp_levelD M0 _ l2 W (mb0 _) (hl2.ext he) hd2)
  have CO1 := Lib.hid (fun W he => rp_Of M0 _ l1 W (mb0 _) (hl1.ext he) hd1 hx1)
  have CO2 := Lib.hid (fun W he => rp_Of M0 _ l2 W (mb0 _) (hl2.ext he) hd2 hx2)
  have HS1 := Lib.hid HS1
  have HS2 := Lib.hid HS2
  clear hl1 hd1 hx1 hl2 hd2 hx2 HF1 HF2 HR1 HR2
  go_wp2_with (fail)
  refine CI.out.mono ?_
  rintro e w1b ⟨rfl, he1b⟩
  have HE1 := Lib.hid (HE1.out.trans he1b)
  clear he1b CI
  by_cases hz1 : norm l1 = []
  · have hd1 : decide (norm l1 = []) = true := decide_eq_true hz1
    clear CV CO1 CO2
    go_wp2
    go_ret
    exact ⟨rfl, HE1.out⟩
  have hdz1 : decide (norm l1 = []) = false := decide_eq_false hz1
  have HZ : Hid (¬ Sim (norm l1) []) := fun hs => hz1 (by have := hs.norm; rw [norm_norm] at this; exact this)
  clear hz1
  go_wp2_with (fail)
  refine (CV.out _ HE1.out).mono ?_
  rintro e w1c ⟨rfl, he1c⟩
  have HE1 := Lib.hid (HE1.out.trans he1c)
  clear he1c CV hdz1
  by_cases hl0 : lvM ((norm l2).map (·.2)) = 0
  · rw [hl0]
    clear CO1 CO2
    go_wp2
    go_ret
    exact ⟨rfl, HE1.out⟩
  have hlb : (((lvM ((norm l2).map (·.2)) : Nat) : Int) == 0) = false := by simp [hl0]
  have HG : Hid (NC (norm l2)) := nc_of_lv hl0
  clear hl0
  go_wp2_with (fail)
  refine (CO1.out _ HE1.out).mono ?_
  rintro e w2 ⟨x, rfl, hx, he2⟩
  clear hlb
  have HE2 := Lib.hid (HE1.out.trans he2)
  go_wp2_with (fail)
  refine (CO2.out _ HE2.out).mono ?_
  rintro e w3 ⟨y, rfl, hy, he3⟩
  have hb1 := Blk.of_arr w3 (peA x) 34 4 rfl
  have hb2 := Blk.of_arr (w3.alloc (.cells (peA x) 34)) (peA y) 34 4 rfl
  simp only [World.size_alloc] at hb2
  have hEa : Ext w3 ((w3.alloc (.cells (peA x) 34)).alloc (.cells (peA y) 34)) := ((Ext.refl w3).alloc _).alloc _
  have HP0 : Hid (SP2 w3.heap.size x y ((w3.alloc (.cells (peA x) 34)).alloc (.cells (peA y) 34))) := ⟨(hb1.alloc _).p4, hb2.p4⟩
  have HX := Lib.hid ((hx.ext he3).ext hEa)
  have HY := Lib.hid (hy.ext hEa)
  have HE := Lib.hid ((HE2.out.trans he3).trans hEa)
  clear hb1 hb2 hEa hx hy he2 he3 CO1 CO2 HE1 HE2
  go_upto_region 6 with (fail)
  generalize (w3.alloc (.cells (peA x) 34)).alloc (.cells (peA y) 34) = W at *
  have CM := Lib.hid (ps_Multiplicity 3 5 M0 (norm l1) (norm l2) (snorm (norm l2)) x y 6 5 W (doA_small (mb0 _) HX.out HY.out HS1.out.deg HS1.out.dl HS2.out.nn HS2.out.deg HS2.out.dl))
  obtain ⟨⟨x0, x1, x2, x3⟩, y0, y1, y2, y3⟩ := HP0.out
  go_wp2_with (fail)
  refine CM.out.mono ?_
  rintro e w5 ⟨v0, k, er, rfl, ho, he5⟩
  have HO := Lib.hid ho
  have HX5 := Lib.hid (HX.out.ext he5)
  have HY5 := Lib.hid (HY.out.ext he5)
  have HE5 := Lib.hid (HE.out.trans he5)
  have HP5 := Lib.hid (HP0.out.ext he5)
  have CW := Lib.hid (ps_Without 3 5 M0 (norm l1) (norm l2) (snorm (norm l2)) x y 6 5 w5 (doA_small (mb0 _) HX5.out HY5.out HS1.out.deg HS1.out.dl HS2.out.nn HS2.out.deg HS2.out.dl))
  clear ho he5 CM HX HY HE HP0 x0 x1 x2 x3 y0 y1 y2 y3
  obtain ⟨⟨x0, x1, x2, x3⟩, y0, y1, y2, y3⟩ := HP5.out
  go_wp2_with (fail)
  refine CW.out.mono ?_
  intro e w6 hw
  obtain ⟨v, xr, he, _⟩ := id hw
  obtain ⟨hm, he6⟩ := muwi HS2.out.nn HO.out hw he
  subst he
  have hEb := he6.trans ((Ext.refl w6).alloc (.cells (peA v) 34))
  have HX6 := Lib.hid (HX5.out.ext hEb)
  have HY6 := Lib.hid (HY5.out.ext hEb)
  have HE6 := Lib.hid (HE5.out.trans hEb)
  have HM6 := Lib.hid (hm.ext ((Ext.refl w6).alloc (.cells (peA v) 34)))
  have HP6 : Hid (SP2 w3.heap.size x y (w6.alloc (.cells (peA v) 34)) ∧ P4 (w6.alloc (.cells (peA v) 34)) w6.heap.size v) := ⟨HP5.out.ext hEb, (Blk.of_arr w6 (peA v) 34 4 rfl).p4⟩
  clear hw hm he6 hEb CW HX5 HY5 HE5 HP5 HO x0 x1 x2 x3 y0 y1 y2 y3
  go_upto_region 8 with (fail)
  generalize hs12 : w6.heap.size = g9 at *
  generalize w6.alloc (.cells (peA v) 34) = W6 at *
  clear hs12
  obtain ⟨rfl, rfl, r, HRN0, HRS0, HRD0, HRL0, HRC0⟩ : er = 0 ∧ xr = 0 ∧ ∃ r, NN r ∧ Sim (pmul r (ppow (snorm (norm l2)) k)) (norm l1) ∧ ¬ Dv (snorm (norm l2)) r ∧ dlen (nrm r) ≤ A6 ∧ CRx M0 W6 4 v (snorm r) := by
    rcases HM6.out with ⟨_, _, hz, _⟩ | ⟨_, _, _, ⟨z, hc⟩, _⟩ | ⟨e1, e2, _, _, r, hr⟩
    · exact absurd hz HZ.out
    · exact absurd hc (fun h => HG.out.not_const h)
    · exact ⟨e1, e2, r, hr⟩
  have HRN := Lib.hid HRN0
  have HRS := Lib.hid HRS0
  have HRD := Lib.hid HRD0
  have HRL := Lib.hid HRL0
  have HRC := Lib.hid (HRC0.ext (Ext.refl W6).drew)
  have HX7 := Lib.hid (HX6.out.ext (Ext.refl W6).drew)
  have HY7 := Lib.hid (HY6.out.ext (Ext.refl W6).drew)
  have HE7 := Lib.hid (HE6.out.trans (Ext.refl W6).drew)
  have HP7 : Hid (SW3 w3.heap.size x y g9 v W6.drew) := ⟨HP6.out.1.ext (Ext.refl W6).drew, HP6.out.2.ext (Ext.refl W6).drew⟩
  have hkB : k ≤ 3 := by
    obtain ⟨m, K, g1, g2, g3, g4⟩ := HG.out.snorm HS2.out.nn
    exact pow_le g2 g3 HRN.out (snorm_nn _) (rest_ne HZ.out HRS.out) (HG.out.snorm HS2.out.nn).ne g1 g4 HRS.out HS1.out.deg
  have HRB : Hid (Deg 3 (snorm r)) := snorm_deg HRN.out (rest_ne HZ.out HRS.out) (deg_rest HRN.out (snorm_nn _) (HG.out.snorm HS2.out.nn).ne HRS.out HS1.out.deg)
  have hA6 : A6 ≤ 549755813888 := Nat.le_trans (Nat.add_le_add_right (show 5 ≤ 100 by omega) _) (Nat.le_trans (Nat.le_add_right _ _) law_num6)
  have HRA : Hid (dlen (nrm (snorm r)) ≤ 549755813888) := Nat.le_trans (dlen_mono (snorm_nrm r)) (Nat.le_trans HRL.out hA6)
  have HTB : Hid (Deg 12 (pmul (snorm r) (ppow (norm l2) k)) ∧ dlen (nrm (pmul (snorm r) (ppow (norm l2) k))) ≤ 549755813888 + 16) := ⟨(Deg.pmul HRB.out (deg_ppow HS2.out.deg HS2.out.nn k) (snorm_nn r)).mono (by omega), by
    rw [nrm_pmul]
    have e1 := dlen_mul (nrm (snorm r)) (nrm (ppow (norm l2) k))
    have e2 := dlen_ppow (norm l2) k
    have e3 : k * dlen (nrm (norm l2)) ≤ 3 * 5 := Nat.mul_le_mul hkB HS2.out.dl
    have := HRA.out
    omega⟩
  have HBK := Lib.hid (without_back HS2.out.nn HRN.out HRS.out)
  have HDK := Lib.hid (dv_pow (snorm_nn _) HRN.out HRS.out HRD.out)
  have h3k : k * dlen (nrm (norm l2)) ≤ 3 * 5 := Nat.mul_le_mul hkB HS2.out.dl
  have HCT : Hid (∀ (W' : World) (u : PE), CRx M0 W' 4 u (snorm r) → PI M0 W' y (norm l2) → Calls Tryz.prog 24 #[.agg (peA u), .agg (peA y), .int .i64 (k : Int)] W' (RetX M0 W' 4 (pmul (snorm r) (ppow (norm l2) k)))) := fun W' u h2 h3 =>
    law_times M0 u y _ _ 3 3 k W' (mb0 _) h2.pi h3 (by omega) HRB.out HS2.out.deg HS2.out.nn (by have := HRA.out; omega) (by omega) (Nat.le_trans (Nat.mul_le_mul (show k * 3 + 1 ≤ 10 by omega) (show k * 3 + 1 ≤ 10 by omega)) (by decide)) (Nat.le_trans (Nat.mul_le_mul_left _ (show k * 3 + 1 ≤ 10 by omega)) (by decide))
  clear HRN0 HRS0 HRD0 HRL0 HRC0 HX6 HY6 HE6 HP6 HM6 hA6 h3k
  refine wp_region_u (SW3 w3.heap.size x y g9 v) 35 (by kernel_rfl) HP7.out (fun hHeld => ?_)
  generalize W6.drew = wd at *
  have hk20 : (k : Int) < 20 := by omega
  have hk0 : (0 : Int) ≤ (k : Int) := by omega
  (refine tkB [0, 1, 2, 3, 4, 5, 6, 7, 8, 9, 10, 11, 13] ?_; (iterate 13 (refine tk1 (oi := ?_) (v := ?_) (by kernel_rfl) (by first | exact hSn | exact hHeld) ?_ ?_ ?_ ?_ ?_; rotate_left 2; (simp only [List.getElem?_toArray, List.getElem?_cons_succ, List.getElem?_cons_zero]; rfl); rfl; (intro wS hSw; obtain ⟨⟨⟨S1, S2, S3, S4⟩, S5, S6, S7, S8⟩, T1, T2, T3, T4⟩ := hSw; go_simp; try with_reducible rfl); (exact fun _ _ _ h => h); (try simp only [Act.put, List.setIfInBounds_toArray, List.set_cons_zero, List.set_cons_succ]))); refine tkE ?_)
  ((refine wpAnyU_one 12 (o := ?_) (by kernel_rfl) ?_ ?_; rotate_left 1; (simp only [List.getElem?_toArray, List.getElem?_cons_succ, List.getElem?_cons_zero]; rfl); intro K hK); go_simp; (refine (snG_ctr HRC.out HRB.out (by have := HRA.out; omega) (by decide) M0 wd (mb0 _) (fun g hg => .inl hg) (Ext.refl _)).mono ?_); rintro e_ w12 ⟨u12, rfl, hu12, e1⟩; go_wp2_with (fail); (try clear hSn); (have hSn := hHeld.ext e1); (refine hK.out _ _ (fun _ => hSn) ?_); clear hK K; (try simp only [Act.put, List.setIfInBounds_toArray, List.set_cons_zero, List.set_cons_succ]))
  rw [snorm_snorm r HRN.out] at hu12
  ((refine wpAnyU_one 14 (o := ?_) (by kernel_rfl) ?_ ?_; rotate_left 1; (simp only [List.getElem?_toArray, List.getElem?_cons_succ, List.getElem?_cons_zero]; rfl); intro K hK); go_simp; (refine (rp_Same M0 u12 v (snorm r) (snorm r) _ (mb0 _) hu12.pi (HRC.out.ext e1).pi).mono ?_); rintro e_ w14 ⟨b14, rfl, hb14, e2⟩; go_wp2_with (fail); (try clear hSn); (have hSn := hHeld.ext (e1.trans e2)); (refine hK.out _ _ (fun _ => hSn) ?_); clear hK K; (try simp only [Act.put, List.setIfInBounds_toArray, List.set_cons_zero, List.set_cons_succ]))
  obtain rfl : b14 = true := hb14.2 (Sim.refl _)
  clear hb14 hu12
  (refine tkB [15, 16, 17, 18, 19, 22] ?_; (iterate 6 (refine tk1 (oi := ?_) (v := ?_) (by kernel_rfl) (by first | exact hSn | exact hHeld) ?_ ?_ ?_ ?_ ?_; rotate_left 2; (simp only [List.getElem?_toArray, List.getElem?_cons_succ, List.getElem?_cons_zero]; rfl); rfl; (intro wS hSw; obtain ⟨⟨⟨S1, S2, S3, S4⟩, S5, S6, S7, S8⟩, T1, T2, T3, T4⟩ := hSw; go_simp; try with_reducible rfl); (exact fun _ _ _ h => h); (try simp only [Act.put, List.setIfInBounds_toArray, List.set_cons_zero, List.set_cons_succ]))); refine tkE ?_)
  ((refine wpAnyU_one 20 (o := ?_) (by kernel_rfl) ?_ ?_; rotate_left 1; (simp only [List.getElem?_toArray, List.getElem?_cons_succ, List.getElem?_cons_zero]; rfl); intro K hK); go_simp; (refine (HCT.out _ v (HRC.out.ext (e1.trans e2)) (HY7.out.ext (e1.trans e2)).pi).mono ?_); rintro e_ w20 ⟨u20, rfl, hu20, e3⟩; go_wp2_with (fail); (try clear hSn); (have hSn := hHeld.ext ((e1.trans e2).trans e3)); (refine hK.out _ _ (fun _ => hSn) ?_); clear hK K; (try simp only [Act.put, List.setIfInBounds_toArray, List.set_cons_zero, List.set_cons_succ]))
  ((refine wpAnyU_one 21 (o := ?_) (by kernel_rfl) ?_ ?_; rotate_left 1; (simp only [List.getElem?_toArray, List.getElem?_cons_succ, List.getElem?_cons_zero]; rfl); intro K hK); go_simp; (refine (snG_ctr hu20 HTB.out.1 (by have := HTB.out.2; omega) (by decide) M0 _ (mb0 _) (fun g hg => .inl hg) (Ext.refl _)).mono ?_); rintro e_ w21 ⟨u21, rfl, hu21, e4⟩; go_wp2_with (fail); (try clear hSn); (have hSn := hHeld.ext (((e1.trans e2).trans e3).trans e4)); (refine hK.out _ _ (fun _ => hSn) ?_); clear hK K; (try simp only [Act.put, List.setIfInBounds_toArray, List.set_cons_zero, List.set_cons_succ]))
  ((refine wpAnyU_one 23 (o := ?_) (by kernel_rfl) ?_ ?_; rotate_left 1; (simp only [List.getElem?_toArray, List.getElem?_cons_succ, List.getElem?_cons_zero]; rfl); intro K hK); go_simp; (refine (snG_ctr (HX7.out.ext (((e1.trans e2).trans e3).trans e4)) HS1.out.deg (by have := HS1.out.dl; omega) (by decide) M0 _ (mb0 _) (fun g hg => .inl hg) (Ext.refl _)).mono ?_); rintro e_ w23 ⟨u23, rfl, hu23, e5⟩; go_wp2_with (fail); (try clear hSn); (have hSn := hHeld.ext ((((e1.trans e2).trans e3).trans e4).trans e5)); (refine hK.out _ _ (fun _ => hSn) ?_); clear hK K; (try simp only [Act.put, List.setIfInBounds_toArray, List.set_cons_zero, List.set_cons_succ]))
  ((refine wpAnyU_one 24 (o := ?_) (by kernel_rfl) ?_ ?_; rotate_left 1; (simp only [List.getElem?_toArray, List.getElem?_cons_succ, List.getElem?_cons_zero]; rfl); intro K hK); go_simp; (refine (rp_Same M0 u21 u23 _ (snorm (norm l1)) _ (mb0 _) (hu21.ext e5).pi hu23.pi).mono ?_); rintro e_ w24 ⟨b24, rfl, hb24, e6⟩; go_wp2_with (fail); (try clear hSn); (have hSn := hHeld.ext (((((e1.trans e2).trans e3).trans e4).trans e5).trans e6)); (refine hK.out _ _ (fun _ => hSn) ?_); clear hK K; (try simp only [Act.put, List.setIfInBounds_toArray, List.set_cons_zero, List.set_cons_succ]))
  obtain rfl : b24 = true := hb24.2 (by rw [HBK.out]; exact Sim.refl _)
  clear hb24 hu20 hu21 hu23
  (refine tkB [25, 26, 27, 28, 29, 30] ?_; (iterate 6 (refine tk1 (oi := ?_) (v := ?_) (by kernel_rfl) (by first | exact hSn | exact hHeld) ?_ ?_ ?_ ?_ ?_; rotate_left 2; (simp only [List.getElem?_toArray, List.getElem?_cons_succ, List.getElem?_cons_zero]; rfl); rfl; (intro wS hSw; obtain ⟨⟨⟨S1, S2, S3, S4⟩, S5, S6, S7, S8⟩, T1, T2, T3, T4⟩ := hSw; go_simp; try with_reducible rfl); (exact fun _ _ _ h => h); (try simp only [Act.put, List.setIfInBounds_toArray, List.set_cons_zero, List.set_cons_succ]))); refine tkE ?_)
  have HEE := Lib.hid (((((e1.trans e2).trans e3).trans e4).trans e5).trans e6)
  ((refine wpAnyU_one 31 (o := ?_) (by kernel_rfl) ?_ ?_; rotate_left 1; (simp only [List.getElem?_toArray, List.getElem?_cons_succ, List.getElem?_cons_zero]; rfl); intro K hK); go_simp; (refine (ps_Divides 3 5 M0 (norm l1) (norm l2) (snorm (norm l2)) y x 6 5 _ (mb0 _) (HY7.out.ext HEE.out).pi (HX7.out.ext HEE.out).pi (sn_ctr (HY7.out.ext HEE.out) HS2.out.deg HS2.out.dl) (fun _ => (HG.out.snorm HS2.out.nn).ne) (HS1.out.deg.mono (by omega)) (snorm_deg HS2.out.nn HG.out.ne HS2.out.deg) HS1.out.dl (Nat.le_trans (dlen_mono (snorm_nrm _)) HS2.out.dl) law_ok (Nat.le_trans (Nat.add_le_add (show 5 ≤ 100 by omega) (Nat.mul_le_mul_left _ (show 5 + 2 ≤ 50 + 2 by omega))) law_num)).mono ?_); rintro e_ w31 ⟨b31, rfl, _, hb31, e7⟩; go_wp2_with (fail); (try clear hSn); (have hSn := hHeld.ext (HEE.out.trans e7)); (refine hK.out _ _ (fun _ => hSn) ?_); clear hK K; (try simp only [Act.put, List.setIfInBounds_toArray, List.set_cons_zero, List.set_cons_succ]))
  have HF := Lib.hid (HE7.out.trans (HEE.out.trans e7))
  have HB31 : Hid (b31 = true ↔ k ≠ 0) := (hb31 HG.out.ne).trans HDK.out
  clear e1 e2 e3 e4 e5 e6 e7 hb31 HEE HX7 HY7 HE7
  by_cases hkz : k = 0
  · obtain rfl : b31 = false := by
      cases b31 with
      | false => rfl
      | true => exact absurd hkz (HB31.out.1 rfl)
    subst hkz
    (refine tkB [32, 33, 34] ?_; (iterate 3 (refine tk1 (oi := ?_) (v := ?_) (by kernel_rfl) (by first | exact hSn | exact hHeld) ?_ ?_ ?_ ?_ ?_; rotate_left 2; (simp only [List.getElem?_toArray, List.getElem?_cons_succ, List.getElem?_cons_zero]; rfl); rfl; (intro wS hSw; obtain ⟨⟨⟨S1, S2, S3, S4⟩, S5, S6, S7, S8⟩, T1, T2, T3, T4⟩ := hSw; go_simp; try with_reducible rfl); (exact fun _ _ _ h => h); (try simp only [Act.put, List.setIfInBounds_toArray, List.set_cons_zero, List.set_cons_succ]))); refine tkE ?_)
    refine wpAnyU_done (by kernel_rfl) ?_ _
    clear hHeld hSn
    go_wp2
    go_ret
    exact ⟨rfl, HF.out⟩
  · obtain rfl : b31 = true := HB31.out.2 hkz
    have hkn : decide (0 < k) = true := decide_eq_true (by omega)
    (refine tkB [32, 33, 34] ?_; (iterate 3 (refine tk1 (oi := ?_) (v := ?_) (by kernel_rfl) (by first | exact hSn | exact hHeld) ?_ ?_ ?_ ?_ ?_; rotate_left 2; (simp only [List.getElem?_toArray, List.getElem?_cons_succ, List.getElem?_cons_zero]; rfl); rfl; (intro wS hSw; obtain ⟨⟨⟨S1, S2, S3, S4⟩, S5, S6, S7, S8⟩, T1, T2, T3, T4⟩ := hSw; go_simp; try with_reducible rfl); (exact fun _ _ _ h => h); (try simp only [Act.put, List.setIfInBounds_toArray, List.set_cons_zero, List.set_cons_succ]))); refine tkE ?_)
    refine wpAnyU_done (by kernel_rfl) ?_ _
    clear hHeld hSn
    go_wp2
    go_ret
    exact ⟨rfl, HF.out⟩
end Go.Proofs.YtgppogaoilijcaaGreat
