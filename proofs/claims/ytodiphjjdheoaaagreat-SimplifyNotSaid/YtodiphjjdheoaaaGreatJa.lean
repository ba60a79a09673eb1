/- cylinderref39.Truth of simple matrices: the walk. -/
import Derived.Test.YtodiphjjdheoaaaGreatIc
import Derived.Test.YtodiphjjdheoaaaGreatNj
set_option linter.unusedVariables false
set_option linter.unusedSimpArgs false

namespace Go.Proofs.YtodiphjjdheoaaaGreat
open Go.RowKit

theorem jnT_all (o : Bool) (z : Nat → Int) : ∀ ks : List TM, (∀ i, i < ks.length → trT z (kat ks i) = !o) → jnT o z ks = !o
 | [], _ => jnT_nil o z
 | t :: ts, h => by
  have h0 := h 0 (by simp)
  rw [kat_zero] at h0
  have h1 := jnT_all o z ts fun i hi => by
   have := h (i + 1) (by simp; omega)
   rwa [kat_cons] at this
  rw [jnT_cons, h0, h1]
  cases o <;> rfl
theorem jnT_some (o : Bool) (z : Nat → Int) : ∀ (ks : List TM) (i : Nat), i < ks.length → trT z (kat ks i) = o → jnT o z ks = o
 | [], i, hi, _ => absurd hi (Nat.not_lt_zero _)
 | t :: ts, 0, _, h => by
  rw [kat_zero] at h
  rw [jnT_cons, h, (opB_o o _).2]
 | t :: ts, i + 1, hi, h => by
  rw [kat_cons] at h
  rw [jnT_cons, jnT_some o z ts i (by simpa using hi) h, (opB_o o _).1]
def STk (g : Nat) (kd : Int) (v : Value) (b o : Nat) (z : MX) (w : World) : Prop := w.cell? ⟨g, 0, none⟩ = some (.int .i64 kd) ∧ w.cell? ⟨g, 6, none⟩ = some v ∧ MxC w b o z
theorem STk.ext {g : Nat} {kd : Int} {v : Value} {b o : Nat} {z : MX} {w w' : World} (h : STk g kd v b o z w) (he : Ext w w') : STk g kd v b o z w' := by
 have hb := World.block_lt_of_cell? _ _ h.1
 exact ⟨by rw [he.cell hb]; exact h.1, by rw [he.cell hb]; exact h.2.1, h.2.2.ext he⟩
def TrCtr (f : Nat) : Prop := ∀ (y : MX) (t : TM) (a : Option Addr) (cap : Nat) (X : Nat → I4) (z : Nat → Int) (w : World), TMc true f M0 w y t → IRow M0 w a cap X z → (∀ i, i < 4 → dlen (z i).natAbs + 1 ≤ 2) →
 Calls Tryz.prog 14 #[.agg y.A, .slice a 4 cap] w fun e w' => e = .returned (.bool (trT z t)) ∧ Ext w w'
theorem SmF.szE {w : World} {x : PE} {l : List Tm} (h : CRx M0 w 4 x l) (hl : SmF l) : ∃ t : RT 5, RR M0 w 5 t (.int .i64 x.lv) (.bool x.b) (.slice x.a x.n x.p) (.slice x.ka x.kn x.kp) ∧ Sim (terms 5 t) l ∧ 2 * Go.Proofs.YtodiphjjdheoaaaGreat.szE 2 5 t + 2 + 4 ≤ 1099511627776 := h.small (r := l) (Nat.le_refl _) hl.2.2 hl.2.1
set_option maxRecDepth 100000 in
set_option maxHeartbeats 16000000 in
theorem truth_walk (f : Nat) (ih : TrCtr f) : TrCtr (f + 1) := by
 intro y t a cap X z w hP hI hz
 obtain ⟨⟨a1, a2, a3, a4⟩, a5⟩ := hP
 have a4 : CRx M0 w 4 y.x t.l ∧ NodeOk t := a4
 obtain ⟨hk1, hk2, hk3, kk, hkk⟩ := a5
 have hE := (Ext.refl w).alloc (.cells y.A 32)
 have hx := new_mx w y
 have hkd := a4.2.kd.2
 have HVL : Hid (t.kd = 2 → ∀ W', Ext w W' → Calls Tryz.prog 53 #[.agg (peA y.x), .slice a 4 cap] W' (RetZ M0 W' (evT (zq z) t.l))) := fun h2 W' he => by
  obtain ⟨tt, h1, h3, h4⟩ := SmF.szE a4.1 a3
  have h5 := vl_all 2 (by omega) 5 M0 tt y.x a cap X z W' (mb0 _) (RR.ext h1 he) (hI.ext he) hz h4
  have h6 : ∀ s ∈ t.l, s.2.nn = true := fun s hs => by rw [← a4.2.1] at hs; exact all_nn_norm _ s hs
  rwa [evT_sim _ h3 (terms_nn 5 tt) h6] at h5
 have HKD : Hid (∀ j, j < t.ks.length → (∃ b off, y.a = some ⟨b, off, none⟩ ∧ MxC w b (off + j * 7) (kk j)) ∧ ∀ W', Ext w W' → Calls Tryz.prog 14 #[.agg (kk j).A, .slice a 4 cap] W' fun e w' => e = .returned (.bool (trT z (kat t.ks j))) ∧ Ext W' w') := fun j hj => by
  obtain ⟨⟨b, off, e, _, h⟩, h2⟩ := hkk j (by rw [hk1]; exact hj)
  exact ⟨⟨b, off, e, h⟩, fun W' he => ih (kk j) (kat t.ks j) a cap X z W' (h2.ext he) (hI.ext he) hz⟩
 have HT0 : Hid (t.kd = 0 → trT z t = false) := fun h => trT_b z t false h
 have HT1 : Hid (t.kd = 1 → trT z t = true) := fun h => trT_b z t true h
 have HT2 : Hid (t.kd = 2 → ∀ v : Int, (v : Rat) = evT (zq z) t.l → trT z t = perm y.rl v.sign) := fun h v hv => by rw [trT_two z t h, ivT_of hv, a2]
 have HTJ : Hid (∀ o : Bool, t.kd = (if o then 4 else 3) → trT z t = jnT o z t.ks) := fun o h => trT_join o z t h
 have HYD : Hid (y.kd = t.kd) := a1
 have HN := Lib.hid hk1
 obtain ⟨ks, hks⟩ : ∃ q, q = t.ks := ⟨_, rfl⟩
 rw [← hks] at HKD HTJ HN
 obtain ⟨yn, hyn⟩ : ∃ g, g = y.n := ⟨_, rfl⟩
 obtain ⟨ya, hya⟩ : ∃ g, g = y.a := ⟨_, rfl⟩
 rw [← hyn] at HN hk2
 rw [← hya] at HKD
 have hn1 : yn ≤ 9223372036854775807 := by unfold maxLen at hk3; omega
 unfold maxLen at hk3
 generalize hW : w.alloc (.cells y.A 32) = W at *
 have HW := Lib.hid hW
 have HE := Lib.hid hE
 have HX := Lib.hid hx
 clear hW hE hx hkk hk1 a1 a2 a3 a4 hI hz hks ih
 generalize trT z t = tv at *
 have x0 := HX.out.1
 have x6 := HX.out.2.2.2.2.2.2
 rw [← hyn, ← hya] at x6
 clear hyn hya
 go_enter Tryz.func14, Tryz.ntmps14
 go_upto_region 1 with (fail)
 rw [HW.out]
 clear HW
 generalize w.heap.size = g at *
 rcases hkd with hk | hk | hk | hk | hk
 ·have HF := Lib.hid (HT0.out hk)
  have h1 : (y.kd == 1) = false := by rw [HYD.out, hk]; decide
  have h2 : (y.kd == 2) = false := by rw [HYD.out, hk]; decide
  have h3 : (y.kd == 3) = false := by rw [HYD.out, hk]; decide
  have h4 : (y.kd == 4) = false := by rw [HYD.out, hk]; decide
  clear hk
  go_wp2
  go_ret
  exact ⟨by rw [HF.out]; rfl, HE.out⟩
 ·have HF := Lib.hid (HT1.out hk)
  have h1 : (y.kd == 1) = true := by rw [HYD.out, hk]; decide
  clear hk
  go_wp2
  go_ret
  exact ⟨by rw [HF.out]; rfl, HE.out⟩
 ·have h1 : (y.kd == 1) = false := by rw [HYD.out, hk]; decide
  have h2 : (y.kd == 2) = true := by rw [HYD.out, hk]; decide
  have CV := Lib.hid (HVL.out hk)
  have HF2 := Lib.hid (HT2.out hk)
  clear hk
  go_upto_region 5 with (fail)
  have hS : Mx7 g y.rl y.x W.drew := ⟨HX.out.2.1, HX.out.2.2.1, HX.out.2.2.2.1, HX.out.2.2.2.2.1, HX.out.2.2.2.2.2.1⟩
  have HEd := Lib.hid (HE.out.trans (Ext.refl W).drew)
  refine wp_region_u (Mx7 g y.rl y.x) 8 (by kernel_rfl) hS (fun hHeld => ?_)
  generalize W.drew = WD at *
  (refine tkB [0, 1, 2, 3, 4] ?_; (iterate 5 (refine tk1 (oi := ?_) (v := ?_) (by kernel_rfl) (by first | exact hSn | exact hHeld) ?_ ?_ ?_ ?_ ?_; rotate_left 2; (simp only [xgA, xgB, xgC]; rfl); rfl; (intro wS hSw; obtain ⟨S1, S2, S3, S4, S5⟩ := hSw; go_simp; try with_reducible rfl); (exact fun _ _ _ h => h); (try simp only [Act.put, xgD, xgE, xgF]))); refine tkE ?_)
  ((refine wpAnyU_one 5 (o := ?_) (by kernel_rfl) ?_ ?_; rotate_left 1; (simp only [xgA, xgB, xgC]; rfl); intro K hK); go_simp; (refine (CV.out _ HEd.out).mono ?_); rintro e_ wz ⟨u, v, rfl, hv, hv2, he1⟩; go_wp2_with (fail); (try clear hSn); (have hSn := hHeld.ext he1); (refine hK.out _ _ (fun _ => hSn) ?_); clear hK K; (try simp only [Act.put, xgD, xgE, xgF]))
  ((refine wpAnyU_one 6 (o := ?_) (by kernel_rfl) ?_ ?_; rotate_left 1; (simp only [xgA, xgB, xgC]; rfl); intro K hK); go_simp; (refine (int_sign _ _ v _ hv).mono ?_); rintro e_ wz ⟨rfl, he2⟩; go_wp2_with (fail); (try clear hSn); (have hSn := hHeld.ext (he1.trans he2)); (refine hK.out _ _ (fun _ => hSn) ?_); clear hK K; (try simp only [Act.put, xgD, xgE, xgF]))
  ((refine wpAnyU_one 7 (o := ?_) (by kernel_rfl) ?_ ?_; rotate_left 1; (simp only [xgA, xgB, xgC]; rfl); intro K hK); go_simp; (refine (rf_permitsE y.rl v.sign _).mono ?_); rintro e_ wz ⟨rfl, he3⟩; go_wp2_with (fail); (try clear hSn); (have hSn := hHeld.ext ((he1.trans he2).trans he3)); (refine hK.out _ _ (fun _ => hSn) ?_); clear hK K; (try simp only [Act.put, xgD, xgE, xgF]))
  have HF := Lib.hid (HEd.out.trans ((he1.trans he2).trans he3))
  have HV := Lib.hid (HF2.out v hv2)
  generalize perm y.rl v.sign = bp at *
  clear hHeld hSn he1 he2 he3 hv hv2
  ((refine wpAnyU_one 8 (o := ?_) (by kernel_rfl) ?_ ?_; rotate_left 1; (simp only [xgA, xgB, xgC]; rfl); intro K hK); go_simp; (refine hK.out _ _ (fun h => absurd rfl h) ?_); clear hK K; refine wpAnyU_done (by kernel_rfl) ?_ _)
  go_wp2
  exact bodyPost_ret (v := .bool bp) (by simp [results, Tryz.results14, go_sem]) rfl ⟨by rw [HV.out], HF.out⟩
 ·have h1 : (y.kd == 1) = false := by rw [HYD.out, hk]; decide
  have h2 : (y.kd == 2) = false := by rw [HYD.out, hk]; decide
  have h3 : (y.kd == 3) = true := by rw [HYD.out, hk]; decide
  have h4 : (y.kd == 4) = false := by rw [HYD.out, hk]; decide
  have HJ := Lib.hid (HTJ.out false hk)
  clear hk HT0 HT1 HT2 HVL HTJ
  go_wp2
  go_loopw [26] (fun iv wr => ∃ (j : Nat), j ≤ yn ∧ iv = .int .i64 (j : Int) ∧ Hid (∀ i, i < j → trT z (kat ks i) = !false) ∧ Hid (Ext W wr)) (fun iv _ => yn - (intOf iv).toNat)
  case atStart => exact ⟨0, Nat.zero_le _, rfl, fun i hi => absurd hi (Nat.not_lt_zero _), Ext.refl _⟩
  case round =>
   obtain ⟨j, hj, rfl, HQ, HR⟩ := hrel
   by_cases hlt : j < yn
   ·have HLJ : Hid (j < ks.length) := by show j < ks.length; rw [← HN.out]; exact hlt
    obtain ⟨⟨b, off, rfl, hc⟩, hC⟩ := HKD.out j HLJ.out
    have hXd := HR.out.trans (Ext.refl wr).drew
    have hS : STk g y.kd (.slice (some ⟨b, off, none⟩) yn y.p) b (off + j * 7) (kk j) wr.drew := ⟨by rw [hXd.cell HX.out.lt]; exact x0, by rw [hXd.cell HX.out.lt]; exact x6, hc.ext (HE.out.trans hXd)⟩
    have CT := Lib.hid (hC wr.drew (HE.out.trans hXd))
    have HXD := Lib.hid hXd
    have HLT := Lib.hid hlt
    have hltI : (j : Int) < (yn : Int) := by omega
    clear hc hC hXd hlt HR x0 x6
    generalize kk j = zk at *
    go_upto_region 11 with (fail)
    refine wp_region_u (STk g y.kd (.slice (some ⟨b, off, none⟩) yn y.p) b (off + j * 7) zk) 11 (by kernel_rfl) hS (fun hHeld => ?_)
    generalize wr.drew = wd at *
    (refine tkB [0, 1, 2, 3, 4, 5, 7, 8, 9] ?_; (iterate 9 (refine tk1 (oi := ?_) (v := ?_) (by kernel_rfl) (by first | exact hSn | exact hHeld) ?_ ?_ ?_ ?_ ?_; rotate_left 2; (simp only [xgA, xgB, xgC]; rfl); rfl; (intro wS hSw; obtain ⟨A0, A6, B0, B1, B2, B3, B4, B5, B6⟩ := hSw; go_simp; try with_reducible rfl); (exact fun _ _ _ h => h); (try simp only [Act.put, xgD, xgE, xgF]))); refine tkE ?_)
    ((refine wpAnyU_one 6 (o := ?_) (by kernel_rfl) ?_ ?_; rotate_left 1; (simp only [xgA, xgB, xgC]; rfl); intro K hK); go_simp; (refine (CT.out).mono ?_); rintro e_ u6 ⟨rfl, d6⟩; go_wp2_with (fail); (try clear hSn); (have hSn := hHeld.ext d6); (refine hK.out _ _ (fun _ => hSn) ?_); clear hK K; (try simp only [Act.put, xgD, xgE, xgF]))
    have HX6 := Lib.hid (HXD.out.trans d6)
    obtain ⟨bk, hbk⟩ : ∃ bk, bk = trT z (kat ks j) := ⟨_, rfl⟩
    rw [← hbk]
    have HBK := Lib.hid hbk
    clear hbk
    cases bk
    ·(refine tkB [10] ?_; (iterate 1 (refine tk1 (oi := ?_) (v := ?_) (by kernel_rfl) (by first | exact hSn | exact hHeld) ?_ ?_ ?_ ?_ ?_; rotate_left 2; (simp only [xgA, xgB, xgC]; rfl); rfl; (intro wS hSw; obtain ⟨A0, A6, B0, B1, B2, B3, B4, B5, B6⟩ := hSw; go_simp; try with_reducible rfl); (exact fun _ _ _ h => h); (try simp only [Act.put, xgD, xgE, xgF]))); refine tkE ?_)
     refine wpAnyU_done (by kernel_rfl) ?_ _
     clear d6 hSn hHeld hS CT HXD
     have HF : Hid (tv = false) := HJ.out.trans (jnT_some false z ks j HLJ.out HBK.out.symm)
     have HG := Lib.hid (HE.out.trans HX6.out)
     have x0 := (HX.out.ext HX6.out).1
     go_wp2
     go_ret
     exact ⟨by rw [HF.out]; rfl, HG.out⟩
    ·(refine tkB [10] ?_; (iterate 1 (refine tk1 (oi := ?_) (v := ?_) (by kernel_rfl) (by first | exact hSn | exact hHeld) ?_ ?_ ?_ ?_ ?_; rotate_left 2; (simp only [xgA, xgB, xgC]; rfl); rfl; (intro wS hSw; obtain ⟨A0, A6, B0, B1, B2, B3, B4, B5, B6⟩ := hSw; go_simp; try with_reducible rfl); (exact fun _ _ _ h => h); (try simp only [Act.put, xgD, xgE, xgF]))); refine tkE ?_)
     refine wpAnyU_done (by kernel_rfl) ?_ _
     clear d6 hSn hHeld hS CT HXD
     have HQ2 : Hid (∀ i, i < j + 1 → trT z (kat ks i) = !false) := fun i hi => by
      by_cases hij : i = j
      ·rw [hij]; exact HBK.out.symm
      ·exact HQ.out i (by omega)
     clear HQ
     go_wp2
     go_roundw
     case rel => exact ⟨j + 1, HLT.out, by go_num, HQ2.out, HX6.out⟩
     case measure => have := HLT.out; simp [intOf]; omega
   ·obtain rfl : j = yn := by omega
    have hge : ¬ (j : Int) < (j : Int) := by omega
    have HF : Hid (tv = !false) := HJ.out.trans (jnT_all false z ks fun i hi => HQ.out i (by rw [HN.out]; exact hi))
    have HG := Lib.hid (HE.out.trans HR.out)
    have x0 := (HX.out.ext HR.out).1
    clear HQ
    go_wp2
    go_ret
    exact ⟨by rw [HF.out]; rfl, HG.out⟩
 ·have h1 : (y.kd == 1) = false := by rw [HYD.out, hk]; decide
  have h2 : (y.kd == 2) = false := by rw [HYD.out, hk]; decide
  have h3 : (y.kd == 3) = false := by rw [HYD.out, hk]; decide
  have h4 : (y.kd == 4) = true := by rw [HYD.out, hk]; decide
  have HJ := Lib.hid (HTJ.out true hk)
  clear hk HT0 HT1 HT2 HVL HTJ
  go_wp2
  go_loopw [26] (fun iv wr => ∃ (j : Nat), j ≤ yn ∧ iv = .int .i64 (j : Int) ∧ Hid (∀ i, i < j → trT z (kat ks i) = !true) ∧ Hid (Ext W wr)) (fun iv _ => yn - (intOf iv).toNat)
  case atStart => exact ⟨0, Nat.zero_le _, rfl, fun i hi => absurd hi (Nat.not_lt_zero _), Ext.refl _⟩
  case round =>
   obtain ⟨j, hj, rfl, HQ, HR⟩ := hrel
   by_cases hlt : j < yn
   ·have HLJ : Hid (j < ks.length) := by show j < ks.length; rw [← HN.out]; exact hlt
    obtain ⟨⟨b, off, rfl, hc⟩, hC⟩ := HKD.out j HLJ.out
    have hXd := HR.out.trans (Ext.refl wr).drew
    have hS : STk g y.kd (.slice (some ⟨b, off, none⟩) yn y.p) b (off + j * 7) (kk j) wr.drew := ⟨by rw [hXd.cell HX.out.lt]; exact x0, by rw [hXd.cell HX.out.lt]; exact x6, hc.ext (HE.out.trans hXd)⟩
    have CT := Lib.hid (hC wr.drew (HE.out.trans hXd))
    have HXD := Lib.hid hXd
    have HLT := Lib.hid hlt
    have hltI : (j : Int) < (yn : Int) := by omega
    clear hc hC hXd hlt HR x0 x6
    generalize kk j = zk at *
    go_upto_region 11 with (fail)
    refine wp_region_u (STk g y.kd (.slice (some ⟨b, off, none⟩) yn y.p) b (off + j * 7) zk) 11 (by kernel_rfl) hS (fun hHeld => ?_)
    generalize wr.drew = wd at *
    (refine tkB [0, 1, 2, 3, 4, 5, 7, 8, 9] ?_; (iterate 9 (refine tk1 (oi := ?_) (v := ?_) (by kernel_rfl) (by first | exact hSn | exact hHeld) ?_ ?_ ?_ ?_ ?_; rotate_left 2; (simp only [xgA, xgB, xgC]; rfl); rfl; (intro wS hSw; obtain ⟨A0, A6, B0, B1, B2, B3, B4, B5, B6⟩ := hSw; go_simp; try with_reducible rfl); (exact fun _ _ _ h => h); (try simp only [Act.put, xgD, xgE, xgF]))); refine tkE ?_)
    ((refine wpAnyU_one 6 (o := ?_) (by kernel_rfl) ?_ ?_; rotate_left 1; (simp only [xgA, xgB, xgC]; rfl); intro K hK); go_simp; (refine (CT.out).mono ?_); rintro e_ u6 ⟨rfl, d6⟩; go_wp2_with (fail); (try clear hSn); (have hSn := hHeld.ext d6); (refine hK.out _ _ (fun _ => hSn) ?_); clear hK K; (try simp only [Act.put, xgD, xgE, xgF]))
    have HX6 := Lib.hid (HXD.out.trans d6)
    obtain ⟨bk, hbk⟩ : ∃ bk, bk = trT z (kat ks j) := ⟨_, rfl⟩
    rw [← hbk]
    have HBK := Lib.hid hbk
    clear hbk
    cases bk
    ·(refine tkB [10] ?_; (iterate 1 (refine tk1 (oi := ?_) (v := ?_) (by kernel_rfl) (by first | exact hSn | exact hHeld) ?_ ?_ ?_ ?_ ?_; rotate_left 2; (simp only [xgA, xgB, xgC]; rfl); rfl; (intro wS hSw; obtain ⟨A0, A6, B0, B1, B2, B3, B4, B5, B6⟩ := hSw; go_simp; try with_reducible rfl); (exact fun _ _ _ h => h); (try simp only [Act.put, xgD, xgE, xgF]))); refine tkE ?_)
     refine wpAnyU_done (by kernel_rfl) ?_ _
     clear d6 hSn hHeld hS CT HXD
     have HQ2 : Hid (∀ i, i < j + 1 → trT z (kat ks i) = !true) := fun i hi => by
      by_cases hij : i = j
      ·rw [hij]; exact HBK.out.symm
      ·exact HQ.out i (by omega)
     clear HQ
     go_wp2
     go_roundw
     case rel => exact ⟨j + 1, HLT.out, by go_num, HQ2.out, HX6.out⟩
     case measure => have := HLT.out; simp [intOf]; omega
    ·(refine tkB [10] ?_; (iterate 1 (refine tk1 (oi := ?_) (v := ?_) (by kernel_rfl) (by first | exact hSn | exact hHeld) ?_ ?_ ?_ ?_ ?_; rotate_left 2; (simp only [xgA, xgB, xgC]; rfl); rfl; (intro wS hSw; obtain ⟨A0, A6, B0, B1, B2, B3, B4, B5, B6⟩ := hSw; go_simp; try with_reducible rfl); (exact fun _ _ _ h => h); (try simp only [Act.put, xgD, xgE, xgF]))); refine tkE ?_)
     refine wpAnyU_done (by kernel_rfl) ?_ _
     clear d6 hSn hHeld hS CT HXD
     have HF : Hid (tv = true) := HJ.out.trans (jnT_some true z ks j HLJ.out HBK.out.symm)
     have HG := Lib.hid (HE.out.trans HX6.out)
     have x0 := (HX.out.ext HX6.out).1
     go_wp2
     go_ret
     exact ⟨by rw [HF.out]; rfl, HG.out⟩
   ·obtain rfl : j = yn := by omega
    have hge : ¬ (j : Int) < (j : Int) := by omega
    have HF : Hid (tv = !true) := HJ.out.trans (jnT_all true z ks fun i hi => HQ.out i (by rw [HN.out]; exact hi))
    have HG := Lib.hid (HE.out.trans HR.out)
    have x0 := (HX.out.ext HR.out).1
    clear HQ
    go_wp2
    go_ret
    exact ⟨by rw [HF.out]; rfl, HG.out⟩
theorem rf_truth : ∀ f, TrCtr f
 | 0 => fun _ _ _ _ _ _ _ h => h.elim
 | f + 1 => truth_walk f (rf_truth f)
end Go.Proofs.YtodiphjjdheoaaaGreat
