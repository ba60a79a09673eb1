/- cylinderlaw23.is; mainvar.Compare. MainvarOrder: the walk. -/
import Derived.Test.YtgppogaoilijcaaGreatDe
import Derived.Test.YtgppogaoilijcaaGreatMj
set_option linter.unusedVariables false
set_option linter.unusedSimpArgs false

namespace Go.Proofs.YtgppogaoilijcaaGreat
open Go.RowKit

theorem sn_deg {l : List Tm} {B : Nat} (hn : ∀ m : Mo, m.nn = false → coefAt l m = 0) (h : Deg B l) : Deg B (snorm l) := fun m hm k => by
  obtain ⟨s, hs, rfl⟩ := mem_coef hm
  unfold snorm at hs
  obtain ⟨t, ht, rfl⟩ := List.mem_map.1 hs
  have h1 := canon_coef_ne (norm_canon l) ht
  rw [nn_norm_sim hn t.2] at h1
  exact h t.2 h1 k
set_option maxRecDepth 100000 in
set_option maxHeartbeats 4000000 in
theorem law_is (M : Nat → Prop) (x : PE) (l r : List Tm) (v : Value) (B : Nat) (w : World) (hM : Mb M w) (h : CRx M w 4 x l) (hP : PolyV M w v r) (hr : norm r = norm l) (hL : dlen (nrm l) ≤ 1099511627776) (hL' : dlen (nrm r) ≤ 1099511627776) (hB : Deg B l) (hB4 : (B + 1) ^ 4 ≤ 1099511627776) :
    Calls Tryz.prog 32 #[.agg (peA x), v] w fun e w' => e = .returned (.bool true) ∧ Ext w w' := by
  obtain ⟨t, hR, hT, hS⟩ := h.tb (Nat.le_refl _) hL hB hB4
  have hE : Ext w (w.alloc (.cells (peA x) 34)) := (Ext.refl w).alloc _
  have hlv := h.lev
  have ctr := rf_canonical 4 M l x 5 _ (h.ext hE) (by omega)
  have CTR := Lib.hid ctr
  have HR := Lib.hid (RR.ext hR hE)
  have HT := Lib.hid hT
  have HS := Lib.hid hS
  have HM := Lib.hid (hM.ext hE)
  have hb := (Blk.of_arr w (peA x) 34 4 rfl).p4
  have HB := Lib.hid hb
  have HE := Lib.hid hE
  have HPV := Lib.hid hP
  clear ctr hR hT hS hb hE h hP
  go_enter Tryz.func32, Tryz.ntmps32
  go_wp2_with (fail)
  refine (CTR.out).mono ?_
  rintro e w1 ⟨rfl, he1⟩
  obtain ⟨x0, x1, x2, x3⟩ := HB.out.ext he1
  have hwl := World.block_lt_of_cell? _ _ x0
  have HTC := Lib.hid (rf_terms 5 M w1.heap.size t _ _ _ _ w1 (Nat.le_refl _) (RR.more (fun g hg => hg) (RR.ext HR.out he1)) HT.out.2.1 (by omega))
  have HE1 := Lib.hid (HE.out.trans he1)
  have HM1 := Lib.hid (HM.out.ext he1)
  clear he1
  go_wp2_with (fail)
  refine (HTC.out).mono ?_
  rintro e w2 ⟨u, n, z, xx, rfl, hRV, _, hxl, he2⟩
  have hn : n ≤ 1099511627776 := by have h1 := congrArg List.length hxl; rw [xls_len] at h1; exact Nat.le_trans (Nat.le_of_eq h1) HT.out.2.1
  have hPV := hRV.toV (fun g hg => HM1.out.new hg) hn
  rw [hxl] at hPV
  have HPU := Lib.hid hPV
  have HE2 := Lib.hid (HE1.out.trans he2)
  have HNB : Hid (dlen (nrm (terms 5 t)) ≤ 1099511627776) := HT.out.2.2.1
  clear hRV hxl hPV hn
  have HDE : Hid (decide (norm (terms 5 t) = norm r) = true) := decide_eq_true (by rw [hr]; exact HS.out.norm)
  have HM2 := Lib.hid (HM1.out.ext he2)
  clear he2
  go_wp2_with (fail)
  refine (sp_same M u v (terms 5 t) r w2 HM2.out HPU.out (HPV.out.ext HE2.out) HNB.out hL').mono ?_
  rintro e w3 ⟨rfl, he3⟩
  rw [HDE.out]
  go_wp2
  go_ret
  exact ⟨rfl, HE2.out.trans he3⟩

set_option maxRecDepth 100000 in
set_option maxHeartbeats 4000000 in
theorem mv_Compare (M : Nat → Prop) (d d' : Nat) (t : RT d) (u : RT d') (x y : PE) (w : World) (hM : Mb M w) (h : RR M w d t (.int .i64 x.lv) (.bool x.b) (.slice x.a x.n x.p) (.slice x.ka x.kn x.kp)) (hT : TB d t) (h' : RR M w d' u (.int .i64 y.lv) (.bool y.b) (.slice y.a y.n y.p) (.slice y.ka y.kn y.kp)) (hT' : TB d' u) :
    Calls Tryz.prog 30 #[.agg (peA x), .agg (peA y)] w fun e w' => e = .returned (.int .i64 (cmpP (norm (terms d t)) (norm (terms d' u)))) ∧ Ext w w' := by
  have hE : Ext w ((w.alloc (.cells (peA x) 34)).alloc (.cells (peA y) 34)) := ((Ext.refl w).alloc _).alloc _
  have b1 := Blk.of_arr (w.alloc (.cells (peA x) 34)) (peA y) 34 4 rfl
  simp only [World.size_alloc] at b1
  have hP : SP2 w.heap.size x y ((w.alloc (.cells (peA x) 34)).alloc (.cells (peA y) 34)) := ⟨((Blk.of_arr w (peA x) 34 4 rfl).alloc _).p4, b1.p4⟩
  have HR := Lib.hid h
  have HR' := Lib.hid h'
  have HM := Lib.hid hM
  have HT := Lib.hid hT
  have HT' := Lib.hid hT'
  have HE := Lib.hid hE
  have HP := Lib.hid hP
  clear h h' hM hT hT' hE hP b1
  go_enter Tryz.func30, Tryz.ntmps30
  go_upto_region 1 with (fail)
  generalize (w.alloc (.cells (peA x) 34)).alloc (.cells (peA y) 34) = W at *
  have HE2 := Lib.hid (HE.out.trans (Ext.refl W).drew)
  have hS := HP.out.ext (Ext.refl W).drew
  clear HE HP
  refine wp_region_u (SP2 w.heap.size x y) 6 (by kernel_rfl) hS (fun hHeld => ?_)
  clear hS
  generalize W.drew = wd at *
  (refine tkB [0, 2] ?_; (iterate 2 (refine tk1 (oi := ?_) (v := ?_) (by kernel_rfl) (by first | exact hSn | exact hHeld) ?_ ?_ ?_ ?_ ?_; rotate_left 2; (simp only [List.getElem?_toArray, List.getElem?_cons_succ, List.getElem?_cons_zero]; rfl); rfl; (intro wS hSw; obtain ⟨⟨S1, S2, S3, S4⟩, S5, S6, S7, S8⟩ := hSw; go_simp; try with_reducible rfl); (exact fun _ _ _ h => h); (try simp only [Act.put, List.setIfInBounds_toArray, List.set_cons_zero, List.set_cons_succ]))); refine tkE ?_)
  ((refine wpAnyU_one 1 (o := ?_) (by kernel_rfl) ?_ ?_; rotate_left 1; (simp only [List.getElem?_toArray, List.getElem?_cons_succ, List.getElem?_cons_zero]; rfl); intro K hK); go_simp; (refine (rp_To M d t x _ (HM.out.ext HE2.out) (RR.ext HR.out HE2.out) HT.out).mono ?_); rintro e_ w1 ⟨v1, rfl, hv1, e1⟩; go_wp2_with (fail); (try clear hSn); (have hSn := hHeld.ext e1); (refine hK.out _ _ (fun _ => hSn) ?_); clear hK K; (try simp only [Act.put, List.setIfInBounds_toArray, List.set_cons_zero, List.set_cons_succ]))
  ((refine wpAnyU_one 3 (o := ?_) (by kernel_rfl) ?_ ?_; rotate_left 1; (simp only [List.getElem?_toArray, List.getElem?_cons_succ, List.getElem?_cons_zero]; rfl); intro K hK); go_simp; (refine (rp_To M d' u y _ (HM.out.ext (HE2.out.trans e1)) (RR.ext HR'.out (HE2.out.trans e1)) HT'.out).mono ?_); rintro e_ w3 ⟨v3, rfl, hv3, e3⟩; go_wp2_with (fail); (try clear hSn); (have hSn := hHeld.ext (e1.trans e3)); (refine hK.out _ _ (fun _ => hSn) ?_); clear hK K; (try simp only [Act.put, List.setIfInBounds_toArray, List.set_cons_zero, List.set_cons_succ]))
  ((refine wpAnyU_one 4 (o := ?_) (by kernel_rfl) ?_ ?_; rotate_left 1; (simp only [List.getElem?_toArray, List.getElem?_cons_succ, List.getElem?_cons_zero]; rfl); intro K hK); go_simp; (refine (sp_compare M v1 v3 (norm (terms d t)) (norm (terms d' u)) _ (HM.out.ext ((HE2.out.trans e1).trans e3)) (hv1.toV.ext e3) hv3.toV (Nat.le_trans (dlen_mono (norm_nrm _)) HT.out.2.2.1) (Nat.le_trans (dlen_mono (norm_nrm _)) HT'.out.2.2.1)).mono ?_); rintro e_ w4 ⟨rfl, e4⟩; go_wp2_with (fail); (try clear hSn); (have hSn := hHeld.ext ((e1.trans e3).trans e4)); (refine hK.out _ _ (fun _ => hSn) ?_); clear hK K; (try simp only [Act.put, List.setIfInBounds_toArray, List.set_cons_zero, List.set_cons_succ]))
  (refine tkB [5] ?_; (iterate 1 (refine tk1 (oi := ?_) (v := ?_) (by kernel_rfl) (by first | exact hSn | exact hHeld) ?_ ?_ ?_ ?_ ?_; rotate_left 2; (simp only [List.getElem?_toArray, List.getElem?_cons_succ, List.getElem?_cons_zero]; rfl); rfl; (intro wS hSw; obtain ⟨⟨S1, S2, S3, S4⟩, S5, S6, S7, S8⟩ := hSw; go_simp; try with_reducible rfl); (exact fun _ _ _ h => h); (try simp only [Act.put, List.setIfInBounds_toArray, List.set_cons_zero, List.set_cons_succ]))); refine tkE ?_)
  refine wpAnyU_done (by kernel_rfl) ?_ _
  rw [norm_norm, norm_norm]
  have HF := Lib.hid (HE2.out.trans ((e1.trans e3).trans e4))
  clear hHeld hSn hv1 hv3 e1 e3 e4
  go_wp2
  go_ret
  exact ⟨rfl, HF.out⟩
end Go.Proofs.YtgppogaoilijcaaGreat

namespace Go.Proofs.YtgppogaoilijcaaGreat
open Go.RowKit

theorem cmp_same {l m : List Tm} (hl : ∀ s ∈ l, s.2.nn = true) (hm : ∀ s ∈ m, s.2.nn = true) {b : Bool} (hb : b = true ↔ Sim l m) : b = (cmpP (norm l) (norm m) == 0) := by
  by_cases h : norm l = norm m
  · rw [hb.2 (sim_of_norm hl hm h), (cmpP_zero _ _).2 h]; rfl
  · have h1 : ¬ cmpP (norm l) (norm m) = 0 := fun e => h ((cmpP_zero _ _).1 e)
    cases b with
    | false => simp [h1]
    | true => exact absurd (hb.1 rfl).norm h
set_option maxRecDepth 100000 in
set_option maxHeartbeats 16000000 in
theorem law_order (a1 a2 : Option Addr) (n1 p1 n2 p2 : Nat) (w : World) (h1 : n1 ≤ 24 → ∃ L C K, NodesR M0 w (.slice a1 n1 p1) n1 L C K) (h2 : n2 ≤ 24 → ∃ L C K, NodesR M0 w (.slice a2 n2 p2) n2 L C K) : Calls Tryz.prog 4 #[.slice a1 n1 p1, .slice a2 n2 p2] w fun e w' => e = .returned (.bool true) ∧ Ext w w' := by
  have cf1 := fun W => rf_few a1 n1 p1 W
  have cf2 := fun W => rf_few a2 n2 p2 W
  by_cases hn1 : ¬ n1 ≤ 24
  · rw [decide_eq_false hn1] at cf1
    have CF1 := Lib.hid cf1
    clear cf1 cf2 h1 h2
    go_enter Tryz.func4, Tryz.ntmps4
    go_wp2_with (fail)
    refine (law_fit23 _).mono ?_
    rintro e w1 ⟨rfl, he1⟩
    go_wp2_with (fail)
    refine (CF1.out _).mono ?_
    rintro e w2 ⟨rfl, rfl⟩
    go_wp2
    go_ret
    exact ⟨rfl, he1⟩
  have hn1' : n1 ≤ 24 := Decidable.not_not.1 hn1
  rw [decide_eq_true hn1'] at cf1
  by_cases hn2 : ¬ n2 ≤ 24
  · rw [decide_eq_false hn2] at cf2
    have CF1 := Lib.hid cf1
    have CF2 := Lib.hid cf2
    clear cf1 cf2 h1 h2
    go_enter Tryz.func4, Tryz.ntmps4
    go_wp2_with (fail)
    refine (law_fit23 _).mono ?_
    rintro e w1 ⟨rfl, he1⟩
    go_wp2_with (fail)
    refine (CF1.out _).mono ?_
    rintro e w2 ⟨rfl, rfl⟩
    go_wp2_with (fail)
    refine (CF2.out _).mono ?_
    rintro e w2 ⟨rfl, rfl⟩
    go_wp2
    go_ret
    exact ⟨rfl, he1⟩
  have hn2' : n2 ≤ 24 := Decidable.not_not.1 hn2
  rw [decide_eq_true hn2'] at cf2
  have CF1 := Lib.hid cf1
  have CF2 := Lib.hid cf2
  clear cf1 cf2 hn1 hn2
  obtain ⟨L1, C1, K1, h1'⟩ := h1 hn1'
  obtain ⟨L2, C2, K2, h2'⟩ := h2 hn2'
  have HN1 := Lib.hid h1'
  have HN2 := Lib.hid h2'
  clear h1 h2 h1' h2'
  go_enter Tryz.func4, Tryz.ntmps4
  go_wp2_with (fail)
  refine (law_fit23 _).mono ?_
  rintro e w1 ⟨rfl, he1⟩
  go_wp2_with (fail)
  refine (CF1.out _).mono ?_
  rintro e w2 ⟨rfl, rfl⟩
  go_wp2_with (fail)
  refine (CF2.out _).mono ?_
  rintro e w2 ⟨rfl, rfl⟩
  go_wp2_with (fail)
  refine (rf_build M0 _ n1 L1 C1 K1 w1 (mb0 _) (HN1.out.ext he1)).mono ?_
  rintro e w2 ⟨x, l, rfl, hx, he2⟩
  go_wp2_with (fail)
  refine (rf_build M0 _ n2 L2 C2 K2 w2 (mb0 _) (HN2.out.ext (he1.trans he2))).mono ?_
  rintro e w3 ⟨y, m, rfl, hy, he3⟩
  have hEa : Ext w3 ((w3.alloc (.cells (peA x) 34)).alloc (.cells (peA y) 34)) := ((Ext.refl w3).alloc _).alloc _
  have b6 := Blk.of_arr (w3.alloc (.cells (peA x) 34)) (peA y) 34 4 rfl
  simp only [World.size_alloc] at b6
  have HP0 : Hid (SP2 w3.heap.size x y ((w3.alloc (.cells (peA x) 34)).alloc (.cells (peA y) 34))) := ⟨((Blk.of_arr w3 (peA x) 34 4 rfl).alloc _).p4, b6.p4⟩
  have HX0 := Lib.hid ((hx.ext he3).ext hEa)
  have HY0 := Lib.hid (hy.ext hEa)
  have HE0 := Lib.hid (((he1.trans he2).trans he3).trans hEa)
  clear hx hy he1 he2 he3 hEa b6
  go_upto_region 6 with (fail)
  generalize (w3.alloc (.cells (peA x) 34)).alloc (.cells (peA y) 34) = W at *
  have hS := HP0.out.ext (Ext.refl W).drew
  have HX := Lib.hid (HX0.out.ext (Ext.refl W).drew)
  have HY := Lib.hid (HY0.out.ext (Ext.refl W).drew)
  have HE := Lib.hid (HE0.out.trans (Ext.refl W).drew)
  clear HP0 HX0 HY0 HE0
  refine wp_region_u (SP2 w3.heap.size x y) 6 (by kernel_rfl) hS (fun hHeld => ?_)
  clear hS
  generalize W.drew = wd at *
  (refine tkB [0, 2] ?_; (iterate 2 (refine tk1 (oi := ?_) (v := ?_) (by kernel_rfl) (by first | exact hSn | exact hHeld) ?_ ?_ ?_ ?_ ?_; rotate_left 2; (simp only [List.getElem?_toArray, List.getElem?_cons_succ, List.getElem?_cons_zero]; rfl); rfl; (intro wS hSw; obtain ⟨⟨S1, S2, S3, S4⟩, S5, S6, S7, S8⟩ := hSw; go_simp; try with_reducible rfl); (exact fun _ _ _ h => h); (try simp only [Act.put, List.setIfInBounds_toArray, List.set_cons_zero, List.set_cons_succ]))); refine tkE ?_)
  ((refine wpAnyU_one 1 (o := ?_) (by kernel_rfl) ?_ ?_; rotate_left 1; (simp only [List.getElem?_toArray, List.getElem?_cons_succ, List.getElem?_cons_zero]; rfl); intro K hK); go_simp; (refine (bt_terms x l _ HX.out).mono ?_); rintro e_ u1 ⟨v1, rfl, hv1, e1⟩; go_wp2_with (fail); (try clear hSn); (have hSn := hHeld.ext e1); (refine hK.out _ _ (fun _ => hSn) ?_); clear hK K; (try simp only [Act.put, List.setIfInBounds_toArray, List.set_cons_zero, List.set_cons_succ]))
  ((refine wpAnyU_one 3 (o := ?_) (by kernel_rfl) ?_ ?_; rotate_left 1; (simp only [List.getElem?_toArray, List.getElem?_cons_succ, List.getElem?_cons_zero]; rfl); intro K hK); go_simp; (refine (bt_terms y m _ (HY.out.ext e1)).mono ?_); rintro e_ u2 ⟨v2, rfl, hv2, e2⟩; go_wp2_with (fail); (try clear hSn); (have hSn := hHeld.ext (e1.trans e2)); (refine hK.out _ _ (fun _ => hSn) ?_); clear hK K; (try simp only [Act.put, List.setIfInBounds_toArray, List.set_cons_zero, List.set_cons_succ]))
  obtain ⟨v1a, v1c, rfl⟩ := hv1.form
  obtain ⟨v2a, v2c, rfl⟩ := hv2.form
  (refine tkB [4, 5] ?_; (iterate 2 (refine tk1 (oi := ?_) (v := ?_) (by kernel_rfl) (by first | exact hSn | exact hHeld) ?_ ?_ ?_ ?_ ?_; rotate_left 2; (simp only [List.getElem?_toArray, List.getElem?_cons_succ, List.getElem?_cons_zero]; rfl); rfl; (intro wS hSw; obtain ⟨⟨S1, S2, S3, S4⟩, S5, S6, S7, S8⟩ := hSw; go_simp; try with_reducible rfl); (exact fun _ _ _ h => h); (try simp only [Act.put, List.setIfInBounds_toArray, List.set_cons_zero, List.set_cons_succ]))); refine tkE ?_)
  refine wpAnyU_done (by kernel_rfl) ?_ _
  have e12 := e1.trans e2
  have HV1 := Lib.hid (hv1.ext e2)
  have HV2 := Lib.hid hv2
  have HX2 := Lib.hid (HX.out.ext e12)
  have HY2 := Lib.hid (HY.out.ext e12)
  have HE2 := Lib.hid (HE.out.trans e12)
  have HS2 := Lib.hid (hHeld.ext e12)
  clear hHeld hSn hv1 hv2 e1 e2 e12 HX HY HE
  go_upto_region 7 with (fail)
  have hS := HS2.out.ext (Ext.refl u2).drew
  have HV1 := Lib.hid (HV1.out.ext (Ext.refl u2).drew)
  have HV2 := Lib.hid (HV2.out.ext (Ext.refl u2).drew)
  have HX := Lib.hid (HX2.out.ext (Ext.refl u2).drew)
  have HY := Lib.hid (HY2.out.ext (Ext.refl u2).drew)
  have HE := Lib.hid (HE2.out.trans (Ext.refl u2).drew)
  clear HS2 HX2 HY2 HE2
  have HNX := Lib.hid HX.out.nnT
  have HNY := Lib.hid HY.out.nnT
  have hdx : dlen (nrm l) ≤ 1099511627776 := Nat.le_trans HX.out.nrm (by omega)
  have hdy : dlen (nrm m) ≤ 1099511627776 := Nat.le_trans HY.out.nrm (by omega)
  have hdx1 : dlen (nrm l) + 1 ≤ 1099511627776 := Nat.le_trans (Nat.add_le_add_right HX.out.nrm 1) (by omega)
  have HDX := Lib.hid hdx
  have HDY := Lib.hid hdy
  have HDX1 := Lib.hid hdx1
  have HSD : Hid (Deg 21 (snorm l)) := sn_deg HX.out.nn HX.out.deg
  have HSL : Hid (dlen (nrm (snorm l)) ≤ 1099511627776) := Nat.le_trans (dlen_mono (snorm_nrm l)) hdx
  have HCMP : Hid (∀ W, Ext u2.drew W → Calls Tryz.prog 30 #[.agg (peA x), .agg (peA y)] W fun e w' => e = .returned (.int .i64 (cmpP (norm l) (norm m))) ∧ Ext W w') := fun W hW => by
    obtain ⟨t, h1, h2, h3⟩ := HX.out
    obtain ⟨t', k1, k2, k3⟩ := HY.out
    rw [← h3, ← k3]
    exact mv_Compare M0 7 7 t t' x y W (mb0 _) (RR.ext h1 hW) (h2.tb (Nat.le_refl _)) (RR.ext k1 hW) (k2.tb (Nat.le_refl _))
  have HSNM : Hid (∀ W, Ext u2.drew W → Calls Tryz.prog 23 #[.agg (peA x)] W (RetX M0 W 4 (snorm l))) := fun W hW => by
    obtain ⟨t, h1, h2, h3⟩ := HX.out
    rw [← h3]
    exact mv_snorm M0 7 t x W (mb0 _) (RR.ext h1 hW) (h2.tb (Nat.le_refl _)) (by rw [h3]; exact HDX1.out)
  clear hdx hdy hdx1
  refine wp_region_u (SP2 w3.heap.size x y) 25 (by kernel_rfl) hS (fun hHeld => ?_)
  clear hS
  generalize u2.drew = wd at *
  (refine tkB [0, 1, 3, 4] ?_; (iterate 4 (refine tk1 (oi := ?_) (v := ?_) (by kernel_rfl) (by first | exact hSn | exact hHeld) ?_ ?_ ?_ ?_ ?_; rotate_left 2; (simp only [List.getElem?_toArray, List.getElem?_cons_succ, List.getElem?_cons_zero]; rfl); rfl; (intro wS hSw; obtain ⟨⟨S1, S2, S3, S4⟩, S5, S6, S7, S8⟩ := hSw; go_simp; try with_reducible rfl); (exact fun _ _ _ h => h); (try simp only [Act.put, List.setIfInBounds_toArray, List.set_cons_zero, List.set_cons_succ]))); refine tkE ?_)
  ((refine wpAnyU_one 2 (o := ?_) (by kernel_rfl) ?_ ?_; rotate_left 1; (simp only [List.getElem?_toArray, List.getElem?_cons_succ, List.getElem?_cons_zero]; rfl); intro K hK); go_simp; (refine (HCMP.out _ (Ext.refl wd)).mono ?_); rintro e_ q1 ⟨rfl, e1⟩; go_wp2_with (fail); (try clear hSn); (have hSn := hHeld.ext e1); (refine hK.out _ _ (fun _ => hSn) ?_); clear hK K; (try simp only [Act.put, List.setIfInBounds_toArray, List.set_cons_zero, List.set_cons_succ]))
  ((refine wpAnyU_one 5 (o := ?_) (by kernel_rfl) ?_ ?_; rotate_left 1; (simp only [List.getElem?_toArray, List.getElem?_cons_succ, List.getElem?_cons_zero]; rfl); intro K hK); go_simp; (refine (sp_compare M0 _ _ l m _ (mb0 _) (HV1.out.ext e1) (HV2.out.ext e1) HDX.out HDY.out).mono ?_); rintro e_ q2 ⟨rfl, e2⟩; go_wp2_with (fail); (try clear hSn); (have hSn := hHeld.ext (e1.trans e2)); (refine hK.out _ _ (fun _ => hSn) ?_); clear hK K; (try simp only [Act.put, List.setIfInBounds_toArray, List.set_cons_zero, List.set_cons_succ]))
  have E2 := Lib.hid (e1.trans e2)
  clear e1 e2
  (refine tkB [6, 7, 8, 10] ?_; (iterate 4 (refine tk1 (oi := ?_) (v := ?_) (by kernel_rfl) (by first | exact hSn | exact hHeld) ?_ ?_ ?_ ?_ ?_; rotate_left 2; (simp only [List.getElem?_toArray, List.getElem?_cons_succ, List.getElem?_cons_zero]; rfl); rfl; (intro wS hSw; obtain ⟨⟨S1, S2, S3, S4⟩, S5, S6, S7, S8⟩ := hSw; go_simp; try with_reducible rfl); (exact fun _ _ _ h => h); (try simp only [Act.put, List.setIfInBounds_toArray, List.set_cons_zero, List.set_cons_succ]))); refine tkE ?_)
  ((refine wpAnyU_one 9 (o := ?_) (by kernel_rfl) ?_ ?_; rotate_left 1; (simp only [List.getElem?_toArray, List.getElem?_cons_succ, List.getElem?_cons_zero]; rfl); intro K hK); go_simp; (refine (HSNM.out _ E2.out).mono ?_); rintro e_ q3 ⟨z, rfl, hz, e3⟩; go_wp2_with (fail); (try clear hSn); (have hSn := hHeld.ext (E2.out.trans e3)); (refine hK.out _ _ (fun _ => hSn) ?_); clear hK K; (try simp only [Act.put, List.setIfInBounds_toArray, List.set_cons_zero, List.set_cons_succ]))
  ((refine wpAnyU_one 11 (o := ?_) (by kernel_rfl) ?_ ?_; rotate_left 1; (simp only [List.getElem?_toArray, List.getElem?_cons_succ, List.getElem?_cons_zero]; rfl); intro K hK); go_simp; (refine (sp_snorm M0 _ l _ (mb0 _) (HV1.out.ext (E2.out.trans e3)) HDX1.out).mono ?_); rintro e_ q4 ⟨sv1, rfl, hs1, e4⟩; go_wp2_with (fail); (try clear hSn); (have hSn := hHeld.ext ((E2.out.trans e3).trans e4)); (refine hK.out _ _ (fun _ => hSn) ?_); clear hK K; (try simp only [Act.put, List.setIfInBounds_toArray, List.set_cons_zero, List.set_cons_succ]))
  ((refine wpAnyU_one 12 (o := ?_) (by kernel_rfl) ?_ ?_; rotate_left 1; (simp only [List.getElem?_toArray, List.getElem?_cons_succ, List.getElem?_cons_zero]; rfl); intro K hK); go_simp; (refine (law_is M0 z (snorm l) (snorm l) sv1 21 _ (mb0 _) (hz.ext e4) hs1.toV rfl HSL.out HSL.out HSD.out (by decide)).mono ?_); rintro e_ q5 ⟨rfl, e5⟩; go_wp2_with (fail); (try clear hSn); (have hSn := hHeld.ext (((E2.out.trans e3).trans e4).trans e5)); (refine hK.out _ _ (fun _ => hSn) ?_); clear hK K; (try simp only [Act.put, List.setIfInBounds_toArray, List.set_cons_zero, List.set_cons_succ]))
  have E5 := Lib.hid (((E2.out.trans e3).trans e4).trans e5)
  clear e3 e4 e5 E2 hz hs1
  (refine tkB [13, 14, 15, 16, 19, 20] ?_; (iterate 6 (refine tk1 (oi := ?_) (v := ?_) (by kernel_rfl) (by first | exact hSn | exact hHeld) ?_ ?_ ?_ ?_ ?_; rotate_left 2; (simp only [List.getElem?_toArray, List.getElem?_cons_succ, List.getElem?_cons_zero]; rfl); rfl; (intro wS hSw; obtain ⟨⟨S1, S2, S3, S4⟩, S5, S6, S7, S8⟩ := hSw; go_simp; try with_reducible rfl); (exact fun _ _ _ h => h); (try simp only [Act.put, List.setIfInBounds_toArray, List.set_cons_zero, List.set_cons_succ]))); refine tkE ?_)
  ((refine wpAnyU_one 17 (o := ?_) (by kernel_rfl) ?_ ?_; rotate_left 1; (simp only [List.getElem?_toArray, List.getElem?_cons_succ, List.getElem?_cons_zero]; rfl); intro K hK); go_simp; (refine (HCMP.out _ E5.out).mono ?_); rintro e_ q6 ⟨rfl, e6⟩; go_wp2_with (fail); (try clear hSn); (have hSn := hHeld.ext (E5.out.trans e6)); (refine hK.out _ _ (fun _ => hSn) ?_); clear hK K; (try simp only [Act.put, List.setIfInBounds_toArray, List.set_cons_zero, List.set_cons_succ]))
  (refine tkB [18] ?_; (iterate 1 (refine tk1 (oi := ?_) (v := ?_) (by kernel_rfl) (by first | exact hSn | exact hHeld) ?_ ?_ ?_ ?_ ?_; rotate_left 2; (simp only [List.getElem?_toArray, List.getElem?_cons_succ, List.getElem?_cons_zero]; rfl); rfl; (intro wS hSw; obtain ⟨⟨S1, S2, S3, S4⟩, S5, S6, S7, S8⟩ := hSw; go_simp; try with_reducible rfl); (exact fun _ _ _ h => h); (try simp only [Act.put, List.setIfInBounds_toArray, List.set_cons_zero, List.set_cons_succ]))); refine tkE ?_)
  ((refine wpAnyU_one 21 (o := ?_) (by kernel_rfl) ?_ ?_; rotate_left 1; (simp only [List.getElem?_toArray, List.getElem?_cons_succ, List.getElem?_cons_zero]; rfl); intro K hK); go_simp; (refine (rp_Same M0 x y l m _ (mb0 _) (HX.out.ext (E5.out.trans e6)).pi (HY.out.ext (E5.out.trans e6)).pi).mono ?_); rintro e_ q7 ⟨b21, rfl, hb21, e7⟩; go_wp2_with (fail); (try clear hSn); (have hSn := hHeld.ext ((E5.out.trans e6).trans e7)); (refine hK.out _ _ (fun _ => hSn) ?_); clear hK K; (try simp only [Act.put, List.setIfInBounds_toArray, List.set_cons_zero, List.set_cons_succ]))
  have hbb := cmp_same HNX.out HNY.out hb21
  have HF := Lib.hid (HE.out.trans ((E5.out.trans e6).trans e7))
  clear hb21 e6 e7 E5
  generalize cmpP (norm l) (norm m) = cz at *
  subst hbb
  (refine tkB [22, 23, 24] ?_; (iterate 3 (refine tk1 (oi := ?_) (v := ?_) (by kernel_rfl) (by first | exact hSn | exact hHeld) ?_ ?_ ?_ ?_ ?_; rotate_left 2; (simp only [List.getElem?_toArray, List.getElem?_cons_succ, List.getElem?_cons_zero]; rfl); rfl; (intro wS hSw; obtain ⟨⟨S1, S2, S3, S4⟩, S5, S6, S7, S8⟩ := hSw; go_simp; try with_reducible rfl); (exact fun _ _ _ h => h); (try simp only [Act.put, List.setIfInBounds_toArray, List.set_cons_zero, List.set_cons_succ]))); refine tkE ?_)
  refine wpAnyU_done (by kernel_rfl) ?_ _
  clear hHeld hSn HX HY HE HV1 HV2
  go_wp2
  go_ret
  exact ⟨rfl, HF.out⟩
end Go.Proofs.YtgppogaoilijcaaGreat
