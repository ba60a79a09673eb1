/- RecpolyArithmetic: the walk. The law RecpolyArithmetic returns true at every input, without a panic, and leaves its arguments as they were; no conditions. -/
import Derived.Test.YthhffpimcgmciaaMj
import Derived.Test.YthhffpimcgmciaaMm
import Derived.Test.YthhffpimcgmciaaMq
set_option linter.unusedVariables false
set_option linter.unusedSimpArgs false

namespace Go.Proofs.Ythhffpimcgmciaa
open Go.RowKit

theorem sim_neg (l : List Tm) : Sim (pmul l [(-1, Mo.zero)]) (smul (-1) l) := by
  have h := pmul_single l (-1, Mo.zero)
  rw [shift_zero] at h
  exact h
theorem nrm_neg (l : List Tm) : nrm (pmul l [(-1, Mo.zero)]) = nrm l := by
  rw [nrm_pmul, nrm_one]; simp
theorem sub_norm (l m : List Tm) : norm (norm (l ++ smul (-1) m)) = norm (l ++ pmul m [(-1, Mo.zero)]) := by
  rw [norm_norm]
  exact ((Sim.refl l).append (sim_neg m).symm).norm
theorem neg_norm (l : List Tm) : norm (norm (smul (-1) l)) = norm (pmul l [(-1, Mo.zero)]) := by
  rw [norm_norm]; exact (sim_neg l).symm.norm
theorem mul_norm {l m : List Tm} (hl : ∀ s ∈ l, s.2.nn = true) (hm : ∀ s ∈ m, s.2.nn = true) : norm (norm (pmul (norm l) (norm m))) = norm (pmul l m) := by
  rw [norm_norm]; exact ((sim_norm hl).pmul (sim_norm hm)).norm
theorem deg_neg {B : Nat} {l : List Tm} (h : Deg B l) : Deg B (pmul l [(-1, Mo.zero)]) := by
  refine Deg.sim (l := smul (-1) l) (fun m hm k => h m (fun e => hm ?_) k) (sim_neg l).symm
  rw [coefAt_smul, e]; rfl
/-- the law's own canonical at a canonical form from the sparse package -/
theorem can_at (x : PE) (l r : List Tm) (v : Value) (base B N : Nat) (w w0 : World) (h : CRx M0 w0 4 x l) (he : Ext w0 w) (hP : PolyO M0 base w v (norm r)) (hr : norm (norm r) = norm l) (hN : nrm l ≤ N) (hN' : nrm r ≤ N) (hd : dlen N ≤ 1099511627776) (hB : Deg B l) (hB4 : (B + 1) ^ 4 ≤ 1099511627776) :
    Calls Try.prog 13 #[.agg (peA x), v] w fun e w' => e = .returned (.bool true) ∧ Ext w w' :=
  law_canonical M0 x l (norm r) v B w (mb0 w) (h.ext he) hP.toV hr (Nat.le_trans (dlen_mono hN) hd) (Nat.le_trans (dlen_mono (Nat.le_trans (norm_nrm r) hN')) hd) hB hB4
set_option maxRecDepth 100000 in
set_option maxHeartbeats 16000000 in
theorem law_arith (a1 a2 : Option Addr) (n1 p1 n2 p2 : Nat) (w : World) (h1 : n1 ≤ 24 → ∃ L C K, NodesR M0 w (.slice a1 n1 p1) n1 L C K) (h2 : n2 ≤ 24 → ∃ L C K, NodesR M0 w (.slice a2 n2 p2) n2 L C K) : Calls Try.prog 6 #[.slice a1 n1 p1, .slice a2 n2 p2] w fun e w' => e = .returned (.bool true) ∧ Ext w w' := by
  have cf1 := fun W => rf_few a1 n1 p1 W
  have cf2 := fun W => rf_few a2 n2 p2 W
  by_cases hn1 : ¬ n1 ≤ 24
  · rw [decide_eq_false hn1] at cf1
    have CF1 := Lib.hid cf1
    clear cf1 cf2 h1 h2
    go_enter Try.func6, Try.ntmps6
    go_wp2_with (fail)
    refine (law_fit _).mono ?_
    rintro e w1 ⟨rfl, he1⟩
    go_wp2_with (fail)
    refine (CF1.out _).mono ?_
    rintro e w2 ⟨rfl, rfl⟩
    go_wp2
    go_ret
    exact ⟨rfl, he1⟩
  have hn1' : n1 ≤ 24 := Decidable.not_not.1 hn1
  rw [decide_eq_true hn1'] at cf1
  by_cases hn2 : ¬ n2 ≤ 24
  · rw [decide_eq_false hn2] at cf2
    have CF1 := Lib.hid cf1
    have CF2 := Lib.hid cf2
    clear cf1 cf2 h1 h2
    go_enter Try.func6, Try.ntmps6
    go_wp2_with (fail)
    refine (law_fit _).mono ?_
    rintro e w1 ⟨rfl, he1⟩
    go_wp2_with (fail)
    refine (CF1.out _).mono ?_
    rintro e w2 ⟨rfl, rfl⟩
    go_wp2_with (fail)
    refine (CF2.out _).mono ?_
    rintro e w2 ⟨rfl, rfl⟩
    go_wp2
    go_ret
    exact ⟨rfl, he1⟩
  have hn2' : n2 ≤ 24 := Decidable.not_not.1 hn2
  rw [decide_eq_true hn2'] at cf2
  have CF1 := Lib.hid cf1
  have CF2 := Lib.hid cf2
  clear cf1 cf2 hn1 hn2
  obtain ⟨L1, C1, K1, h1'⟩ := h1 hn1'
  obtain ⟨L2, C2, K2, h2'⟩ := h2 hn2'
  have HN1 := Lib.hid h1'
  have HN2 := Lib.hid h2'
  clear h1 h2 h1' h2'
  go_enter Try.func6, Try.ntmps6
  go_wp2_with (fail)
  refine (law_fit _).mono ?_
  rintro e w1 ⟨rfl, he1⟩
  go_wp2_with (fail)
  refine (CF1.out _).mono ?_
  rintro e w2 ⟨rfl, rfl⟩
  go_wp2_with (fail)
  refine (CF2.out _).mono ?_
  rintro e w2 ⟨rfl, rfl⟩
  go_wp2_with (fail)
  refine (rf_build M0 _ n1 L1 C1 K1 w1 (mb0 _) (HN1.out.ext he1)).mono ?_
  rintro e w2 ⟨x, l, rfl, hx, he2⟩
  go_wp2_with (fail)
  refine (rf_build M0 _ n2 L2 C2 K2 w2 (mb0 _) (HN2.out.ext (he1.trans he2))).mono ?_
  rintro e w3 ⟨y, m, rfl, hy, he3⟩
  have he4 : Ext w3 ((w3.alloc (.cells #[.int .i64 x.lv, .bool x.b, .slice x.a x.n x.p, .slice x.ka x.kn x.kp] 31)).alloc (.cells #[.int .i64 y.lv, .bool y.b, .slice y.a y.n y.p, .slice y.ka y.kn y.kp] 31)) := ((Ext.refl w3).alloc _).alloc _
  have b5 := ((Blk.of_arr w3 (peA x) 31 4 rfl).alloc (.cells #[.int .i64 y.lv, .bool y.b, .slice y.a y.n y.p, .slice y.ka y.kn y.kp] 31)).p4
  have b6 := Blk.of_arr (w3.alloc (.cells #[.int .i64 x.lv, .bool x.b, .slice x.a x.n x.p, .slice x.ka x.kn x.kp] 31)) (peA y) 31 4 rfl
  simp only [World.size_alloc] at b6
  have b6' := b6.p4
  have hX4 := (hx.ext he3).ext he4
  have hY4 := hy.ext he4
  have hE4 := ((he1.trans he2).trans he3).trans he4
  have hsz4 : ((w3.alloc (.cells #[.int .i64 x.lv, .bool x.b, .slice x.a x.n x.p, .slice x.ka x.kn x.kp] 31)).alloc (.cells #[.int .i64 y.lv, .bool y.b, .slice y.a y.n y.p, .slice y.ka y.kn y.kp] 31)).heap.size = w3.heap.size + 2 := by simp
  generalize hW0 : (w3.alloc (.cells #[.int .i64 x.lv, .bool x.b, .slice x.a x.n x.p, .slice x.ka x.kn x.kp] 31)).alloc (.cells #[.int .i64 y.lv, .bool y.b, .slice y.a y.n y.p, .slice y.ka y.kn y.kp] 31) = W0 at b5 b6' hX4 hY4 hE4 hsz4
  have HW0 := Lib.hid hW0
  have HX0 := Lib.hid hX4
  have HY0 := Lib.hid hY4
  have HS0 : Hid (SP2 w3.heap.size x y W0) := ⟨b5, b6'⟩
  have HBX := Lib.hid (hX4.ext (Ext.refl W0).drew)
  have HBY := Lib.hid (hY4.ext (Ext.refl W0).drew)
  have HE4 := Lib.hid hE4
  have HS2 : Hid (SP2 w3.heap.size x y W0.drew) := SP2.ext ⟨b5, b6'⟩ (Ext.refl W0).drew
  have hsz4' : w3.heap.size + 2 ≤ W0.heap.size := by omega
  clear hx hy he1 he2 he3 he4 b5 b6 b6' hX4 hY4 hE4 hW0 hsz4
  go_upto_region 6 with (fail)
  rw [HW0.out]
  refine wp_region_u (SP2 w3.heap.size x y) 6 (by kernel_rfl) HS2.out (fun hHeld => ?_)
  ((refine wpAnyU_take 0 (oi := ?_) (v := ?_) (by kernel_rfl) (by kernel_rfl) (by kernel_rfl) (by kernel_rfl) (by first | exact hSn | exact hHeld) ?_ ?_ ?_ ?_ ?_; rotate_left 2; (simp only [List.getElem?_toArray, List.getElem?_cons_succ, List.getElem?_cons_zero]; rfl); rfl; (intro wS hSw; obtain ⟨⟨S1, S2, S3, S4⟩, S5, S6, S7, S8⟩ := hSw; go_simp; try with_reducible rfl); (exact fun _ _ _ h => h); (try simp only [Act.put, List.setIfInBounds_toArray, List.set_cons_zero, List.set_cons_succ])); (refine wpAnyU_take 2 (oi := ?_) (v := ?_) (by kernel_rfl) (by kernel_rfl) (by kernel_rfl) (by kernel_rfl) (by first | exact hSn | exact hHeld) ?_ ?_ ?_ ?_ ?_; rotate_left 2; (simp only [List.getElem?_toArray, List.getElem?_cons_succ, List.getElem?_cons_zero]; rfl); rfl; (intro wS hSw; obtain ⟨⟨S1, S2, S3, S4⟩, S5, S6, S7, S8⟩ := hSw; go_simp; try with_reducible rfl); (exact fun _ _ _ h => h); (try simp only [Act.put, List.setIfInBounds_toArray, List.set_cons_zero, List.set_cons_succ])))
  ((refine wpAnyU_one 1 (o := ?_) (by kernel_rfl) ?_ ?_; rotate_left 1; (simp only [List.getElem?_toArray, List.getElem?_cons_succ, List.getElem?_cons_zero]; rfl); intro K hK); go_simp; (refine (bt_terms x l _ HBX.out).mono ?_); rintro e_ wz ⟨v1, rfl, hv1, he1⟩; go_wp2_with (fail); (try clear hSn); (have hSn := hHeld.ext he1); (refine hK.out _ _ (fun _ => hSn) ?_); clear hK K; (try simp only [Act.put, List.setIfInBounds_toArray, List.set_cons_zero, List.set_cons_succ]))
  ((refine wpAnyU_one 3 (o := ?_) (by kernel_rfl) ?_ ?_; rotate_left 1; (simp only [List.getElem?_toArray, List.getElem?_cons_succ, List.getElem?_cons_zero]; rfl); intro K hK); go_simp; (refine (bt_terms y m _ (HBY.out.ext he1)).mono ?_); rintro e_ wz ⟨v2, rfl, hv2, he2⟩; go_wp2_with (fail); (try clear hSn); (have hSn := hHeld.ext (he1.trans he2)); (refine hK.out _ _ (fun _ => hSn) ?_); clear hK K; (try simp only [Act.put, List.setIfInBounds_toArray, List.set_cons_zero, List.set_cons_succ]))
  obtain ⟨v1a, v1c, rfl⟩ := hv1.form
  obtain ⟨v2a, v2c, rfl⟩ := hv2.form
  (refine wpAnyU_one 4 (o := ?_) (by kernel_rfl) ?_ ?_; rotate_left 1; (simp only [List.getElem?_toArray, List.getElem?_cons_succ, List.getElem?_cons_zero]; rfl); intro K hK)
  go_simp
  refine hK.out _ _ (fun _ => hSn) ?_
  clear hK K
  (try simp only [Act.put, List.setIfInBounds_toArray, List.set_cons_zero, List.set_cons_succ])
  (refine wpAnyU_one 5 (o := ?_) (by kernel_rfl) ?_ ?_; rotate_left 1; (simp only [List.getElem?_toArray, List.getElem?_cons_succ, List.getElem?_cons_zero]; rfl); intro K hK)
  go_simp
  refine hK.out _ _ (fun _ => hSn) ?_
  clear hK K
  (try simp only [Act.put, List.setIfInBounds_toArray, List.set_cons_zero, List.set_cons_succ])
  refine wpAnyU_done (by kernel_rfl) ?_ _
  rename_i wz
  have hEz := (Ext.refl W0).drew.trans (he1.trans he2)
  have HV1 := Lib.hid (hv1.ext he2)
  have HV2 := Lib.hid hv2
  obtain ⟨⟨A1, A2, A3, A4⟩, B1, B2, B3, B4⟩ := hSn
  have HXz := Lib.hid (HX0.out.ext hEz)
  have HYz := Lib.hid (HY0.out.ext hEz)
  have HEz := Lib.hid (HE4.out.trans hEz)
  have HSz : Hid (SP2 w3.heap.size x y wz) := ⟨⟨A1, A2, A3, A4⟩, B1, B2, B3, B4⟩
  have hszz : w3.heap.size + 2 ≤ wz.heap.size := Nat.le_trans hsz4' hEz.size
  have hnl : nrm l < 4294967296 := by have := (dlen_le_iff _ _).1 HXz.out.nrm; omega
  have hnm : nrm m < 4294967296 := by have := (dlen_le_iff _ _).1 HYz.out.nrm; omega
  have HD3 : Hid (dlen 18446744073709551616 ≤ 1099511627776) := Nat.le_trans ((dlen_le_iff _ 3).2 (by decide)) (by omega)
  have hmul : nrm l * nrm m ≤ 18446744073709551616 := Nat.le_trans (Nat.mul_le_mul (Nat.le_of_lt hnl) (Nat.le_of_lt hnm)) (by omega)
  have hll := HXz.out.len
  have hlm := HYz.out.len
  have HLEN : Hid ((l ++ m).length ≤ 1099511627776) := by show _ ≤ _; rw [List.length_append]; omega
  have HLM : Hid (l.length * m.length ≤ 1099511627776) := Nat.le_trans (Nat.mul_le_mul hll hlm) (by omega)
  have HNA : Hid (nrm (l ++ m) ≤ 18446744073709551616) := by show _ ≤ _; rw [nrm_append]; omega
  have HNS : Hid (nrm (l ++ pmul m [(-1, Mo.zero)]) ≤ 18446744073709551616) := by show _ ≤ _; rw [nrm_append, nrm_neg]; omega
  have HNS' : Hid (nrm (l ++ smul (-1) m) ≤ 18446744073709551616) := by show _ ≤ _; rw [nrm_append, nrm_smul]; simp; omega
  have HNM : Hid (nrm (pmul l m) ≤ 18446744073709551616) := by show _ ≤ _; rw [nrm_pmul]; exact hmul
  have HNM' : Hid (nrm (pmul (norm l) (norm m)) ≤ 18446744073709551616) := by show _ ≤ _; rw [nrm_pmul]; exact Nat.le_trans (Nat.mul_le_mul (norm_nrm l) (norm_nrm m)) hmul
  have HNN : Hid (nrm (pmul l [(-1, Mo.zero)]) ≤ 18446744073709551616) := by show _ ≤ _; rw [nrm_neg]; omega
  have HNN' : Hid (nrm (smul (-1) l) ≤ 18446744073709551616) := by show _ ≤ _; rw [nrm_smul]; simp; omega
  have HDS : Hid (dlen (nrm l) + dlen (nrm m) ≤ 95) := Nat.le_trans (Nat.add_le_add HXz.out.nrm HYz.out.nrm) (by omega)
  have HDL : Hid (dlen (nrm l) + 1 ≤ 95) := Nat.le_trans (Nat.add_le_add_right HXz.out.nrm _) (by omega)
  have HDM : Hid (dlen (nrm m) + 1 ≤ 95) := Nat.le_trans (Nat.add_le_add_right HYz.out.nrm _) (by omega)
  clear hHeld he1 he2 hv1 hv2 hEz HX0 HY0 HS0 HBX HBY HS2 HE4 hsz4' hnl hnm hmul hll hlm
  go_wp2_with (fail)
  refine (rp_Add M0 x y l m _ (mb0 _) (HXz.out.ext (Ext.refl wz)).pi (HYz.out.ext (Ext.refl wz)).pi (Nat.le_trans (dlen_mono HNA.out) HD3.out)).mono ?_
  rintro e_ wy1 ⟨z0, rfl, hz0, hw1⟩
  have hq1 := ((Ext.refl wz)).trans hw1
  have HZ0 := Lib.hid hz0
  clear hz0
  go_wp2_with (fail)
  refine (sp_add M0 _ _ l m _ (mb0 _) (HV1.out.ext hq1) (HV2.out.ext hq1) HLEN.out (Nat.le_trans (dlen_mono HNA.out) HD3.out)).mono ?_
  rintro e_ wy2 ⟨u0, rfl, hu0, hw2⟩
  have hq2 := (hq1).trans hw2
  have HU0 := Lib.hid hu0
  obtain ⟨ua0, uc0, rfl⟩ := hu0.toV.form
  clear hu0
  go_wp2_with (fail)
  refine (can_at z0 _ _ _ _ 21 18446744073709551616 _ _ HZ0.out hw2 HU0.out (norm_norm _) HNA.out HNA.out HD3.out (HXz.out.deg.append HYz.out.deg) (by decide)).mono ?_
  rintro e_ wy3 ⟨rfl, hw3⟩
  have hq3 := (hq2).trans hw3
  clear A1 A2 A3 A4 B1 B2 B3 B4
  obtain ⟨⟨A1, A2, A3, A4⟩, B1, B2, B3, B4⟩ := HSz.out.ext hq3
  have hsz3 := Nat.le_trans hszz hq3.size
  clear hw1 hw2 hw3 hq1 hq2
  go_wp2_with (fail)
  refine (rp_Sub M0 x y l m 21 _ (mb0 _) (HXz.out.ext hq3).pi (HYz.out.ext hq3).pi (Nat.le_trans (dlen_mono HNS.out) HD3.out) HDM.out HYz.out.deg (by omega)).mono ?_
  rintro e_ wy4 ⟨z1, rfl, hz1, hw4⟩
  have hq4 := (hq3).trans hw4
  have HZ1 := Lib.hid hz1
  clear hz1
  go_wp2_with (fail)
  refine (sp_sub M0 _ _ l m _ (mb0 _) (HV1.out.ext hq4) (HV2.out.ext hq4) HLEN.out (Nat.le_trans (dlen_mono HNA.out) HD3.out) HDM.out).mono ?_
  rintro e_ wy5 ⟨u1, rfl, hu1, hw5⟩
  have hq5 := (hq4).trans hw5
  have HU1 := Lib.hid hu1
  obtain ⟨ua1, uc1, rfl⟩ := hu1.toV.form
  clear hu1
  go_wp2_with (fail)
  refine (can_at z1 _ _ _ _ 21 18446744073709551616 _ _ HZ1.out hw5 HU1.out (sub_norm l m) HNS.out HNS'.out HD3.out (HXz.out.deg.append (deg_neg HYz.out.deg)) (by decide)).mono ?_
  rintro e_ wy6 ⟨rfl, hw6⟩
  have hq6 := (hq5).trans hw6
  clear A1 A2 A3 A4 B1 B2 B3 B4
  obtain ⟨⟨A1, A2, A3, A4⟩, B1, B2, B3, B4⟩ := HSz.out.ext hq6
  have hsz6 := Nat.le_trans hszz hq6.size
  clear hw4 hw5 hw6 hq3 hq4 hq5
  go_wp2_with (fail)
  refine (rp_Mul M0 x y l m 21 21 _ (mb0 _) (HXz.out.ext hq6).pi (HYz.out.ext hq6).pi HDS.out HXz.out.deg HYz.out.deg (by omega)).mono ?_
  rintro e_ wy7 ⟨z2, rfl, hz2, hw7⟩
  have hq7 := (hq6).trans hw7
  have HZ2 := Lib.hid hz2
  clear hz2
  go_wp2_with (fail)
  refine (sp_mul M0 _ _ l m _ (mb0 _) (HV1.out.ext hq7) (HV2.out.ext hq7) HLM.out HDS.out HXz.out.exp HYz.out.exp).mono ?_
  rintro e_ wy8 ⟨u2, rfl, hu2, hw8⟩
  have hq8 := (hq7).trans hw8
  have HU2 := Lib.hid hu2
  obtain ⟨ua2, uc2, rfl⟩ := hu2.toV.form
  clear hu2
  go_wp2_with (fail)
  refine (can_at z2 _ _ _ _ 42 18446744073709551616 _ _ HZ2.out hw8 HU2.out (mul_norm HXz.out.nnT HYz.out.nnT) HNM.out HNM'.out HD3.out (HXz.out.deg.pmul HYz.out.deg HXz.out.nn) (by decide)).mono ?_
  rintro e_ wy9 ⟨rfl, hw9⟩
  have hq9 := (hq8).trans hw9
  clear A1 A2 A3 A4 B1 B2 B3 B4
  obtain ⟨⟨A1, A2, A3, A4⟩, B1, B2, B3, B4⟩ := HSz.out.ext hq9
  have hsz9 := Nat.le_trans hszz hq9.size
  clear hw7 hw8 hw9 hq6 hq7 hq8
  go_wp2_with (fail)
  refine (rp_Neg M0 x l 21 _ (mb0 _) (HXz.out.ext hq9).pi HDL.out HXz.out.deg (by omega)).mono ?_
  rintro e_ wy10 ⟨z3, rfl, hz3, hw10⟩
  have hq10 := (hq9).trans hw10
  have HZ3 := Lib.hid hz3
  clear hz3
  go_wp2_with (fail)
  refine (sp_neg M0 _ l _ (mb0 _) (HV1.out.ext hq10) HDL.out).mono ?_
  rintro e_ wy11 ⟨u3, rfl, hu3, hw11⟩
  have hq11 := (hq10).trans hw11
  have HU3 := Lib.hid hu3
  obtain ⟨ua3, uc3, rfl⟩ := hu3.toV.form
  clear hu3
  go_wp2_with (fail)
  refine (can_at z3 _ _ _ _ 21 18446744073709551616 _ _ HZ3.out hw11 HU3.out (neg_norm l) HNN.out HNN'.out HD3.out (deg_neg HXz.out.deg) (by decide)).mono ?_
  rintro e_ wy12 ⟨rfl, hw12⟩
  have hq12 := (hq11).trans hw12
  have HEF := Lib.hid (HEz.out.trans hq12)
  clear hw12 hq12
  go_wp2
  go_ret
  exact ⟨rfl, HEF.out⟩
end Go.Proofs.Ythhffpimcgmciaa

namespace Go.Proofs.Ythhffpimcgmciaa
open Go.ChangeShapes Go.WideShapes Go.ChangeAt Go.RowKit Go.Deep

namespace recpolyArithmetic
theorem own : ownKnob Try.prog.godebug = none := by kernel_rfl
set_option maxRecDepth 100000 in
theorem contract (H : Type) (enc : TypeId × Value → H) (W : World) (base : Nat) (args : Array Value) (ds gs : List (DataW H)) (before : List MemPlace)
    (hval : ∀ (j : Nat) t v, Try.f6.params[j]? = some t → args[j]? = some v → Value.okWide Try.prog W .any base t v)
    (hW : DataW.Whole enc Try.prog Try.f6.params.toList Rows.recpolyArithmeticSpec.vars false W args.toList ds gs before) :
    Calls Try.prog 6 args W fun e W' => ∃ v, e = .returned v ∧ Rows.recpolyArithmeticSpec.post enc Try.prog Try.f6 false true false false W args v W' := by
  have hW' := hW
  obtain ⟨p, q, hA0, hV, rfl, hfz, hnd⟩ := hW
  have hA : DataW.TrodAll enc Try.prog W 0 (fun _ => true) true Try.f6.params.toList args.toList ds p := hA0
  rw [Try.params6] at hA hval
  obtain ⟨v0, vs0, d0, ds0, p0, q0, hargs, rfl, rfl, h0, r0⟩ := trodAll_cons hA
  obtain ⟨v1, vs1, d1, ds1, p1, q1, rfl, rfl, rfl, h1, r1⟩ := trodAll_cons r0
  obtain ⟨rfl, rfl, rfl⟩ := trodAll_nil r1
  obtain rfl : args = #[v0, v1] := by cases args; simp_all
  obtain ⟨rfl, rfl⟩ := trodVars_none hV
  obtain ⟨a0, n0, c0, rfl, g0⟩ := open_nodes (hval 0 22 v0 rfl rfl) h0
  obtain ⟨a1, n1, c1, rfl, g1⟩ := open_nodes (hval 1 22 v1 rfl rfl) h1
  refine (law_arith a0 a1 n0 c0 n1 c1 W g0 g1).mono fun e W' ⟨he, hg⟩ => ?_
  subst he
  refine ⟨_, rfl, post_true (tb := 4) (by kernel_rfl) ?_ rfl rfl (by kernel_rfl) Try.underlying4 hW' hg⟩
  rw [Try.params6]
  intro t ht
  simp only [List.mem_cons, List.not_mem_nil, or_false, or_self] at ht
  subst ht
  exact ⟨by kernel_rfl, of_decide_eq_true (by kernel_rfl)⟩
set_option maxRecDepth 100000 in
theorem lifted (os : Os) (started : os.Started) (H : Type) (enc : TypeId × Value → H) :
    ReturnsInHanded {} Try.checked os 6 .any (Rows.recpolyArithmeticSpec.pre6 enc Try.prog Try.f6 Rows.recpolyArithmeticRow.domain false) (Rows.recpolyArithmeticSpec.post enc Try.prog Try.f6 false true false false) := by
  refine returnsInHanded_of_change (C := Try.checked) own started (by kernel_rfl) Try.func6
    (ChangeSpec.witness6 (enc := enc) (C := Try.checked) false ⟨#[], #[.slice none 0 0, .slice none 0 0], []⟩ 8 (by kernel_rfl) (by kernel_rfl) (by kernel_rfl) (by kernel_rfl)) ?_
  intro W base args ds gs before hval hW _ _
  exact contract H enc W base args ds gs before hval hW
theorem proved : Rows.RecpolyArithmeticSaid :=
  OpenClaim.holds_of_wide (p := Try.pinned) (s := Rows.recpolyArithmeticSpec) (c := Rows.recpolyArithmeticRow) 6 Try.f6 rfl rfl rfl rfl rfl rfl rfl ⟨rfl, rfl, rfl, rfl, rfl⟩ rfl rfl rfl rfl rfl (by kernel_rfl) Try.func6 (by kernel_rfl)
    (of_decide_eq_true (by kernel_rfl)) (by unfold Func.isWrapper; first | (rw [if_pos (by decide +kernel)]; kernel_rfl) | (rw [if_neg (by decide +kernel)]; exact ⟨rfl, rfl⟩))
    (fun os started H enc _ => lifted os started H enc)
end recpolyArithmetic
end Go.Proofs.Ythhffpimcgmciaa
