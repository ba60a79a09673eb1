/- SimplifySimple: the calls. SimplifySimple: the walk. -/
import Derived.Test.YtodiphjjdheoaaaGreatLi
import Derived.Test.YtodiphjjdheoaaaGreatIe
set_option linter.unusedVariables false
set_option linter.unusedSimpArgs false

namespace Go.Proofs.YtodiphjjdheoaaaGreat
open Go.RowKit

theorem TMc.raw {M : Nat → Prop} {w : World} : ∀ {f : Nat} {y : MX} {t : TM}, TMc true f M w y t → TMc false f M w y t
 | 0, _, _, h => h
 | _ + 1, y, t, h => by
  obtain ⟨⟨h1, h2, h3, h4⟩, h5⟩ := h
  have h4 : CRx M w 4 y.x t.l ∧ NodeOk t := h4
  exact ⟨⟨h1, h2, h3, (show RawP M w y.x t.l from CRx.rawP h4.1 h3)⟩, h5.imp (fun _ _ _ hb hk => ⟨hb, hk⟩) fun _ _ _ hq => TMc.raw hq⟩
structure SiI (y : MX) (s : TM) (IX : Prop) (w : World) : Prop where
 sO : ∀ W', Ext w W' → Calls Tryz.prog 15 #[.agg y.A] W' (RetT 12 M0 W' s)
 i1 : ∀ W', Ext w W' → Calls Tryz.prog 25 #[.agg y.A] W' (RetY IX W')
 i2 : ∀ W', Ext w W' → Calls Tryz.prog 24 #[.agg y.A] W' (RetY IX W')
 s1 : ∀ u W', TMc true 12 M0 W' u s → Calls Tryz.prog 25 #[.agg u.A] W' fun e w' => e = .returned (.bool true) ∧ Ext W' w'
 s2 : ∀ u W', TMc true 12 M0 W' u s → Calls Tryz.prog 24 #[.agg u.A] W' fun e w' => e = .returned (.bool true) ∧ Ext W' w'
 sP : ∀ u W', TMc true 12 M0 W' u s → Calls Tryz.prog 15 #[.agg u.A] W' (RetT 12 M0 W' s)
 eq : ∀ u v W', TMc true 12 M0 W' u s → TMc true 12 M0 W' v s → Calls Tryz.prog 26 #[.agg u.A, .agg v.A] W' fun e w' => e = .returned (.bool true) ∧ Ext W' w'
theorem RetY.tt {P : Prop} (hp : P) {w : World} {e : Ending} {w' : World} (h : RetY P w e w') : e = .returned (.bool true) ∧ Ext w w' := by
 obtain ⟨b, rfl, h2, h3⟩ := h
 rw [h2.2 hp]; exact ⟨rfl, h3⟩
theorem siI (m : MT 12) (w : World) (hP : PMs w 12 m) (h : 0 ≤ roomM 12 m 80) : ∃ s IX, SiI (MT.me 12 m).X s IX w := by
 have hok := okM 12 m 80 (by omega) (by omega) h
 have htc := tmM_c w 12 m hP hok
 have hsz := tmM_sz w 12 m 80 (by omega) h
 have hsm : SmpS (ofT (tmM w 12 m)) := ofT_smp _ (tmM_good w 12 m hP hok)
 have hs2 := ofT_sz (tmM w 12 m)
 obtain ⟨T, hT⟩ := xt_of w 12 m hP hok
 refine ⟨ofT (tmM w 12 m), IsX 12 T, fun W' he => ?_, fun W' he => ?_, fun W' he => ?_, fun u W' hu => ?_, fun u W' hu => ?_, fun u W' hu => ?_, fun u v W' hu hv => ?_⟩
 ·exact si_Of 12 M0 (MT.me 12 m).X (tmM w 12 m) W' (mb0 _) (htc.ext he) (by omega)
 ·exact si_IsSimple 11 _ T W' (XMc.ext he hT)
 ·exact rf_IsSimple39 11 _ T W' (XMc.ext he hT)
 ·obtain ⟨U, h1, h2⟩ := xt_smS W' 11 u _ hu hsm
  exact (si_IsSimple 11 u U W' h1).mono fun e w' hr => hr.tt h2
 ·obtain ⟨U, h1, h2⟩ := xt_smS W' 11 u _ hu hsm
  exact (rf_IsSimple39 11 u U W' h1).mono fun e w' hr => hr.tt h2
 ·have := si_Of 12 M0 u (ofT (tmM w 12 m)) W' (mb0 _) hu.raw (by omega)
  rwa [ofT_fix hsm] at this
 ·refine (rf_equalM 12 u v _ _ W' hu hv).mono ?_
  rintro e w' ⟨rfl, h⟩
  exact ⟨by rw [eqT_true.2 rfl], h⟩
end Go.Proofs.YtodiphjjdheoaaaGreat

namespace Go.Proofs.YtodiphjjdheoaaaGreat
open Go.RowKit

set_option maxRecDepth 100000 in
set_option maxHeartbeats 32000000 in
theorem law_simple (m : MT 12) (w : World) (hP : PMs w 12 m) : Calls Tryz.prog 6 #[.agg (MT.me 12 m).A] w fun e w' => e = .returned (.bool true) ∧ Ext w w' := by
 have CSM : Hid (∀ W', Ext w W' → Calls Tryz.prog 12 #[.agg (MT.me 12 m).A] W' fun e w' => e = .returned (.bool (decide (0 ≤ roomM 12 m 80))) ∧ Ext W' w') := fun W' he => law_small39 m W' (PMs.ext he hP)
 have HALL : Hid (0 ≤ roomM 12 m 80 → ∃ s IX, SiI (MT.me 12 m).X s IX w) := siI m w hP
 have hyx : (MT.me 12 m).A = ((MT.me 12 m).X).A := rfl
 rw [hyx] at CSM ⊢
 clear hP hyx
 generalize roomM 12 m 80 = r at *
 generalize (MT.me 12 m).X = y at *
 have HX := Lib.hid ((Ext.refl w).alloc (.cells y.A 32))
 have HB := Lib.hid (new_mx w y)
 generalize hW1 : w.alloc (.cells y.A 32) = W1 at *
 have HW1 := Lib.hid hW1
 clear hW1
 go_enter Tryz.func6, Tryz.ntmps6
 go_upto_region 1 with (fail)
 rw [HW1.out]
 generalize w.heap.size = g at *
 go_wp2_with (fail)
 refine (law_awake39 _).mono ?_
 rintro e w2 ⟨rfl, he2⟩
 have HX2 := Lib.hid (HX.out.trans he2)
 have HB2 := Lib.hid (HB.out.ext he2)
 obtain ⟨x0, x1, x2, x3, x4, x5, x6⟩ := HB2.out
 have CS := Lib.hid (CSM.out w2 HX2.out)
 clear he2 HX HB
 go_wp2_with (fail)
 refine CS.out.mono ?_
 rintro e w3 ⟨rfl, he3⟩
 have HX3 := Lib.hid (HX2.out.trans he3)
 have HB3 := Lib.hid (HB2.out.ext he3)
 clear he3 HX2 HB2 CS x0 x1 x2 x3 x4 x5 x6
 by_cases hr : 0 ≤ r
 rotate_left 1
 ·have hD : decide (0 ≤ r) = false := decide_eq_false hr
  rw [hD]
  clear HALL CSM HB3 hr hD
  go_wp2_with (fail)
  refine (law_awake39 _).mono ?_
  rintro e w4 ⟨rfl, he4⟩
  have HF := Lib.hid (HX3.out.trans he4)
  go_wp2
  go_ret
  exact ⟨rfl, HF.out⟩
 have hD : decide (0 ≤ r) = true := decide_eq_true hr
 rw [hD]
 obtain ⟨s, IX, hI⟩ := HALL.out hr
 have HI := Lib.hid hI
 clear HALL CSM hr hD hI
 obtain ⟨x0, x1, x2, x3, x4, x5, x6⟩ := HB3.out
 go_wp2_with (fail)
 refine (HI.out.sO _ HX3.out).mono ?_
 rintro e w4 ⟨u, rfl, hu, he4⟩
 have hE5 := he4.trans ((Ext.refl w4).alloc (.cells u.A 32))
 have hG := new_mx w4 u
 have hU5 := hu.ext ((Ext.refl w4).alloc (.cells u.A 32))
 generalize hW5 : w4.alloc (.cells u.A 32) = W5 at *
 have HW5 := Lib.hid hW5
 have HX5 := Lib.hid ((HX3.out.trans hE5).trans (Ext.refl W5).drew)
 have hS : SMM g w4.heap.size y u W5.drew := SMM.ext ⟨HB3.out.ext hE5, hG⟩ (Ext.refl W5).drew
 have HU5 := Lib.hid (hU5.ext (Ext.refl W5).drew)
 clear hW5 hE5 hG hU5 hu he4 HX3 HB3 x0 x1 x2 x3 x4 x5 x6
 go_upto_region 4 with (fail)
 rw [HW5.out]
 generalize w4.heap.size = g3 at *
 clear HW5
 refine wp_region_u (SMM g g3 y u) 19 (by kernel_rfl) hS (fun hHeld => ?_)
 clear hS
 generalize W5.drew = wd at *
 (refine tkB [0] ?_; (iterate 1 (refine tk1 (oi := ?_) (v := ?_) (by kernel_rfl) (by first | exact hSn | exact hHeld) ?_ ?_ ?_ ?_ ?_; rotate_left 2; (simp only [xgA, xgB, xgC]; rfl); rfl; (intro wS hSw; obtain ⟨⟨A0, A1, A2, A3, A4, A5, A6⟩, B0, B1, B2, B3, B4, B5, B6⟩ := hSw; go_simp; try with_reducible rfl); (exact fun _ _ _ h => h); (try simp only [Act.put, xgD, xgE, xgF]))); refine tkE ?_)
 ((refine wpAnyU_one 1 (o := ?_) (by kernel_rfl) ?_ ?_; rotate_left 1; (simp only [xgA, xgB, xgC]; rfl); intro K hK); go_simp; (refine (HI.out.s2 u _ HU5.out).mono ?_); rintro e_ v1 ⟨rfl, d1⟩; go_wp2_with (fail); (try clear hSn); (have hSn := hHeld.ext d1); (refine hK.out _ _ (fun _ => hSn) ?_); clear hK K; (try simp only [Act.put, xgD, xgE, xgF]))
 (refine tkB [2, 3] ?_; (iterate 2 (refine tk1 (oi := ?_) (v := ?_) (by kernel_rfl) (by first | exact hSn | exact hHeld) ?_ ?_ ?_ ?_ ?_; rotate_left 2; (simp only [xgA, xgB, xgC]; rfl); rfl; (intro wS hSw; obtain ⟨⟨A0, A1, A2, A3, A4, A5, A6⟩, B0, B1, B2, B3, B4, B5, B6⟩ := hSw; go_simp; try with_reducible rfl); (exact fun _ _ _ h => h); (try simp only [Act.put, xgD, xgE, xgF]))); refine tkE ?_)
 ((refine wpAnyU_one 4 (o := ?_) (by kernel_rfl) ?_ ?_; rotate_left 1; (simp only [xgA, xgB, xgC]; rfl); intro K hK); go_simp; (refine (HI.out.s1 u _ (HU5.out.ext d1)).mono ?_); rintro e_ v2 ⟨rfl, d2⟩; go_wp2_with (fail); (try clear hSn); (have hSn := hHeld.ext (d1.trans d2)); (refine hK.out _ _ (fun _ => hSn) ?_); clear hK K; (try simp only [Act.put, xgD, xgE, xgF]))
 have d12 := d1.trans d2
 clear d1 d2
 (refine tkB [5, 6, 7, 9] ?_; (iterate 4 (refine tk1 (oi := ?_) (v := ?_) (by kernel_rfl) (by first | exact hSn | exact hHeld) ?_ ?_ ?_ ?_ ?_; rotate_left 2; (simp only [xgA, xgB, xgC]; rfl); rfl; (intro wS hSw; obtain ⟨⟨A0, A1, A2, A3, A4, A5, A6⟩, B0, B1, B2, B3, B4, B5, B6⟩ := hSw; go_simp; try with_reducible rfl); (exact fun _ _ _ h => h); (try simp only [Act.put, xgD, xgE, xgF]))); refine tkE ?_)
 ((refine wpAnyU_one 8 (o := ?_) (by kernel_rfl) ?_ ?_; rotate_left 1; (simp only [xgA, xgB, xgC]; rfl); intro K hK); go_simp; (refine (HI.out.sP u _ (HU5.out.ext d12)).mono ?_); rintro e_ v3 ⟨u2, rfl, hu2, d3⟩; go_wp2_with (fail); (try clear hSn); (have hSn := hHeld.ext (d12.trans d3)); (refine hK.out _ _ (fun _ => hSn) ?_); clear hK K; (try simp only [Act.put, xgD, xgE, xgF]))
 have d13 := d12.trans d3
 clear d12 d3
 ((refine wpAnyU_one 10 (o := ?_) (by kernel_rfl) ?_ ?_; rotate_left 1; (simp only [xgA, xgB, xgC]; rfl); intro K hK); go_simp; (refine (HI.out.eq u2 u _ hu2 (HU5.out.ext d13)).mono ?_); rintro e_ v4 ⟨rfl, d4⟩; go_wp2_with (fail); (try clear hSn); (have hSn := hHeld.ext (d13.trans d4)); (refine hK.out _ _ (fun _ => hSn) ?_); clear hK K; (try simp only [Act.put, xgD, xgE, xgF]))
 have d14 := d13.trans d4
 clear d13 d4 hu2
 (refine tkB [11, 12, 13, 15] ?_; (iterate 4 (refine tk1 (oi := ?_) (v := ?_) (by kernel_rfl) (by first | exact hSn | exact hHeld) ?_ ?_ ?_ ?_ ?_; rotate_left 2; (simp only [xgA, xgB, xgC]; rfl); rfl; (intro wS hSw; obtain ⟨⟨A0, A1, A2, A3, A4, A5, A6⟩, B0, B1, B2, B3, B4, B5, B6⟩ := hSw; go_simp; try with_reducible rfl); (exact fun _ _ _ h => h); (try simp only [Act.put, xgD, xgE, xgF]))); refine tkE ?_)
 ((refine wpAnyU_one 14 (o := ?_) (by kernel_rfl) ?_ ?_; rotate_left 1; (simp only [xgA, xgB, xgC]; rfl); intro K hK); go_simp; (refine (HI.out.i1 _ (HX5.out.trans d14)).mono ?_); rintro e_ v5 ⟨b1, rfl, hb1, d5⟩; go_wp2_with (fail); (try clear hSn); (have hSn := hHeld.ext (d14.trans d5)); (refine hK.out _ _ (fun _ => hSn) ?_); clear hK K; (try simp only [Act.put, xgD, xgE, xgF]))
 have d15 := d14.trans d5
 clear d14 d5
 ((refine wpAnyU_one 16 (o := ?_) (by kernel_rfl) ?_ ?_; rotate_left 1; (simp only [xgA, xgB, xgC]; rfl); intro K hK); go_simp; (refine (HI.out.i2 _ (HX5.out.trans d15)).mono ?_); rintro e_ v6 ⟨b2, rfl, hb2, d6⟩; go_wp2_with (fail); (try clear hSn); (have hSn := hHeld.ext (d15.trans d6)); (refine hK.out _ _ (fun _ => hSn) ?_); clear hK K; (try simp only [Act.put, xgD, xgE, xgF]))
 have HF := Lib.hid (HX5.out.trans (d15.trans d6))
 have hbb : b1 = b2 := by
  have := hb1.trans hb2.symm
  cases b1 <;> cases b2 <;> simp at this ⊢
 subst hbb
 have hbe : (b1 == b1) = true := by simp
 clear d15 d6 hb1 hb2
 (refine tkB [17, 18] ?_; (iterate 2 (refine tk1 (oi := ?_) (v := ?_) (by kernel_rfl) (by first | exact hSn | exact hHeld) ?_ ?_ ?_ ?_ ?_; rotate_left 2; (simp only [xgA, xgB, xgC]; rfl); rfl; (intro wS hSw; obtain ⟨⟨A0, A1, A2, A3, A4, A5, A6⟩, B0, B1, B2, B3, B4, B5, B6⟩ := hSw; go_simp; (try simp only [List.getElem?_cons_zero, List.getElem?_cons_succ, Option.getD_some, Sem.run_pure, Result.andThen_ok, if_true]); try with_reducible rfl); (exact fun _ _ _ h => h); (try simp only [Act.put, xgD, xgE, xgF]))); refine tkE ?_)
 ((refine wpAnyU_one 19 (o := ?_) (by kernel_rfl) ?_ ?_; rotate_left 1; (simp only [xgA, xgB, xgC]; rfl); intro K hK); go_simp; (refine hK.out _ _ (fun h => absurd rfl h) ?_); clear hK K; refine wpAnyU_done (by kernel_rfl) ?_ _)
 go_wp2
 go_ret
 exact ⟨rfl, HF.out⟩
end Go.Proofs.YtodiphjjdheoaaaGreat
