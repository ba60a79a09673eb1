/- PseudoInexact: the walk. -/
import Derived.Test.YtodjlgkamokakaaGreatCb
set_option linter.unusedVariables false
set_option linter.unusedSimpArgs false

namespace Go.Proofs.YtodjlgkamokakaaGreat
open Go.RowKit

section
variable {P : Program} {ops : Array Oper} {Q : Exit → Act → World → Prop} {md : Region.Mode} {S : World → Prop} {last : Nat}
theorem ts1 {i : Nat} {is : List Nat} {oi : Oper} {fuel : Nat} {listed : Array Bool} {a : Act} {w : World}
    (hc : (Region.noSelect ops && Region.free md ops listed i && (Region.ready md ops listed).contains i && waits md ops last i) = true) (hS : S w)
    (hi : ops[i]? = some oi) (hwd : Region.wanted oi (yielded ops a.tmps) = false) (hQ : ∀ c a w, Q (.panic c) (a.put oi.dst undef) w → Q (.panic c) a w)
    (h : TkG P md ops Q S last is fuel (listed.setIfInBounds i true) (a.put oi.dst undef) w) : TkG P md ops Q S last (i :: is) (fuel + 1) listed a w := by
  simp only [Bool.and_eq_true] at hc
  exact ⟨wpAnyU_first hi (Region.noSelect_spec hc.1.1.1) hQ hc.2 fuel listed a w (Region.free_spec hi hc.1.1.2) (by simpa using hc.1.2) (.inr ⟨hwd, rfl⟩) hS h.out⟩
end
theorem FewP.le {n T T' D : Nat} {E E' : Int} {X : Nat → TE} (h : FewP n X T D E) (hT : T ≤ T') (hE : E ≤ E') : FewP n X T' D E' :=
  ⟨Nat.le_trans h.1 hT, fun i hi => ⟨(h.2 i hi).1, fun j hj => ⟨((h.2 i hi).2 j hj).1, Int.le_trans ((h.2 i hi).2 j hj).2 hE⟩⟩⟩
def PCut (l : List Tm) (W : World) (s11 : Value) (wx : World) : Prop := ∃ (g : Nat) (v : PE), s11 = .pointer (some ⟨g, 0, none⟩) ∧ P4 wx g v ∧ CRx M0 wx 4 v l ∧ Ext W wx
set_option maxRecDepth 100000 in
set_option maxHeartbeats 16000000 in
theorem law_inexact (a1 a2 a3 : Option Addr) (n1 p1 n2 p2 n3 p3 : Nat) (X1 X2 X3 : Nat → TE) (w : World) (h1 : PRaw w a1 n1 p1 X1) (h2 : PRaw w a2 n2 p2 X2) (h3 : PRaw w a3 n3 p3 X3) :
    Calls Tryz.prog 10 #[.slice a1 n1 p1, .slice a2 n2 p2, .slice a3 n3 p3] w fun e w' => e = .returned (.bool true) ∧ Ext w w' := by
  have HR1 := Lib.hid h1
  have HR2 := Lib.hid h2
  have HR3 := Lib.hid h3
  clear h1 h2 h3
  go_enter Tryz.func10, Tryz.ntmps10
  go_wp2_with (fail)
  refine (law_fit24 _).mono ?_
  rintro e w1 ⟨rfl, he1⟩
  have HE1 := Lib.hid he1
  have CF1 := Lib.hid (law_few24 a1 n1 p1 X1 5 3 w1 (HR1.out.1.ext he1) HR1.out.2.1)
  have CF2 := Lib.hid (law_few24 a2 n2 p2 X2 5 3 w1 (HR2.out.1.ext he1) HR2.out.2.1)
  have CF3 := Lib.hid (law_few24 a3 n3 p3 X3 5 3 w1 (HR3.out.1.ext he1) HR3.out.2.1)
  rw [show ((5 : Nat) : Int) = 5 from rfl, show ((3 : Nat) : Int) = 3 from rfl] at CF1 CF2 CF3
  clear he1
  go_wp2_with (fail)
  refine CF1.out.mono ?_
  rintro e w2 ⟨b, rfl, hb1, rfl⟩
  cases b with
  | false =>
    clear hb1 CF1 CF2 CF3
    go_wp2
    go_ret
    exact ⟨rfl, HE1.out⟩
  | true =>
  have HF1 := Lib.hid (hb1.1 rfl)
  clear hb1 CF1
  go_wp2_with (fail)
  refine CF2.out.mono ?_
  rintro e w2 ⟨b, rfl, hb2, rfl⟩
  cases b with
  | false =>
    clear hb2 CF2 CF3
    go_wp2
    go_ret
    exact ⟨rfl, HE1.out⟩
  | true =>
  have HF2 := Lib.hid (hb2.1 rfl)
  clear hb2 CF2
  go_wp2_with (fail)
  refine CF3.out.mono ?_
  rintro e w2 ⟨b, rfl, hb3, rfl⟩
  cases b with
  | false =>
    clear hb3 CF3
    go_wp2
    go_ret
    exact ⟨rfl, HE1.out⟩
  | true =>
  have HF3 := Lib.hid (hb3.1 rfl)
  clear hb3 CF3
  obtain ⟨l1, hl1, HS1, hd1, hx1⟩ := HR1.out.sm (HF1.out.le (by omega) (by omega))
  obtain ⟨l2, hl2, HS2, hd2, hx2⟩ := HR2.out.sm (HF2.out.le (by omega) (by omega))
  obtain ⟨l3, hl3, HS3, hd3, hx3⟩ := HR3.out.sm (HF3.out.le (by omega) (by omega))
  have CO1 := Lib.hid (fun W he => rp_Of M0 _ l1 W (mb0 _) (hl1.ext he) hd1 hx1)
  have CO2 := Lib.hid (fun W he => rp_Of M0 _ l2 W (mb0 _) (hl2.ext he) hd2 hx2)
  have CO3 := Lib.hid (fun W he => rp_Of M0 _ l3 W (mb0 _) (hl3.ext he) hd3 hx3)
  have HS1 := Lib.hid HS1
  have HS2 := Lib.hid HS2
  have HS3 := Lib.hid HS3
  clear hl1 hd1 hx1 hl2 hd2 hx2 hl3 hd3 hx3 HF1 HF2 HF3 HR1 HR2 HR3
  go_wp2_with (fail)
  refine (CO1.out _ HE1.out).mono ?_
  rintro e w2 ⟨x, rfl, hx, he2⟩
  have HE2 := Lib.hid (HE1.out.trans he2)
  go_wp2_with (fail)
  refine (CO2.out _ HE2.out).mono ?_
  rintro e w3 ⟨y, rfl, hy, he3⟩
  have HE3 := Lib.hid (HE2.out.trans he3)
  go_wp2_with (fail)
  refine (CO3.out _ HE3.out).mono ?_
  rintro e w4 ⟨z, rfl, hz, he4⟩
  have hb1 := Blk.of_arr w4 (peA x) 32 4 rfl
  have hb2 := Blk.of_arr (w4.alloc (.cells (peA x) 32)) (peA y) 32 4 rfl
  have hb3 := Blk.of_arr ((w4.alloc (.cells (peA x) 32)).alloc (.cells (peA y) 32)) (peA z) 32 4 rfl
  simp only [World.size_alloc] at hb2 hb3
  have hEa : Ext w4 (((w4.alloc (.cells (peA x) 32)).alloc (.cells (peA y) 32)).alloc (.cells (peA z) 32)) := (((Ext.refl w4).alloc _).alloc _).alloc _
  have HS0 : Hid (SF3 w4.heap.size (w4.heap.size + 1) (w4.heap.size + 1 + 1) x y z (((w4.alloc (.cells (peA x) 32)).alloc (.cells (peA y) 32)).alloc (.cells (peA z) 32))) := ⟨((hb1.alloc _).alloc _).p4, (hb2.alloc _).p4, hb3.p4⟩
  have HX := Lib.hid (((hx.ext he3).ext he4).ext hEa)
  have HY := Lib.hid ((hy.ext he4).ext hEa)
  have HZ := Lib.hid (hz.ext hEa)
  have HE := Lib.hid ((HE3.out.trans he4).trans hEa)
  clear hb1 hb2 hb3 hEa hx hy hz he2 he3 he4 CO1 CO2 CO3 HE1 HE2 HE3
  go_upto_region 6 with (fail)
  generalize ((w4.alloc (.cells (peA x) 32)).alloc (.cells (peA y) 32)).alloc (.cells (peA z) 32) = W at *
  have CL := Lib.hid (mv_Level M0 y (norm l2) W (mb0 _) HY.out.pi)
  obtain ⟨⟨x0, x1, x2, x3⟩, ⟨y0, y1, y2, y3⟩, z0, z1, z2, z3⟩ := HS0.out
  go_wp2_with (fail)
  refine CL.out.mono ?_
  rintro e w5 ⟨k, rfl, hk, he5⟩
  have HK := Lib.hid hk
  have HX5 := Lib.hid (HX.out.ext he5)
  have HY5 := Lib.hid (HY.out.ext he5)
  have HZ5 := Lib.hid (HZ.out.ext he5)
  have HE5 := Lib.hid (HE.out.trans he5)
  have HP5 := Lib.hid (HS0.out.ext (he5.trans (Ext.refl w5).drew))
  have HE5d := Lib.hid (HE5.out.trans (Ext.refl w5).drew)
  have HX5d := Lib.hid (HX5.out.ext (Ext.refl w5).drew)
  have HY5d := Lib.hid (HY5.out.ext (Ext.refl w5).drew)
  have HZ5d := Lib.hid (HZ5.out.ext (Ext.refl w5).drew)
  clear hk he5 CL HX5 HY5 HZ5 HE5 HX HY HZ HE HS0 x0 x1 x2 x3 y0 y1 y2 y3 z0 z1 z2 z3
  go_upto_region 7 with (fail)
  by_cases hk0 : k = 0
  · subst hk0
    refine wp_region_u (SF3 w4.heap.size (w4.heap.size + 1) (w4.heap.size + 1 + 1) x y z) 15 (by kernel_rfl) HP5.out (fun hHeld => ?_)
    generalize w5.drew = wd at *
    (refine tkB [0, 1, 2] ?_; (iterate 3 (refine tk1 (oi := ?_) (v := ?_) (by kernel_rfl) (by first | exact hSn | exact hHeld) ?_ ?_ ?_ ?_ ?_; rotate_left 2; (simp only [List.getElem?_toArray, List.getElem?_cons_succ, List.getElem?_cons_zero]; rfl); rfl; (intro wS hSw; obtain ⟨⟨S1, S2, S3, S4⟩, ⟨S5, S6, S7, S8⟩, S9, S10, S11, S12⟩ := hSw; go_simp; try with_reducible rfl); (exact fun _ _ _ h => h); (try simp only [Act.put, List.setIfInBounds_toArray, List.set_cons_zero, List.set_cons_succ]))); refine tkE ?_)
    (refine tkB [3, 4] ?_; (iterate 2 (refine ts1 (oi := ?_) (by kernel_rfl) (by first | exact hSn | exact hHeld) ?_ ?_ ?_ ?_; rotate_left 1; (simp only [List.getElem?_toArray, List.getElem?_cons_succ, List.getElem?_cons_zero]; rfl); rfl; (exact fun _ _ _ h => h); (try simp only [Act.put, List.setIfInBounds_toArray, List.set_cons_zero, List.set_cons_succ]))); refine tkE ?_)
    (refine tkB [5, 6] ?_; (iterate 2 (refine tk1 (oi := ?_) (v := ?_) (by kernel_rfl) (by first | exact hSn | exact hHeld) ?_ ?_ ?_ ?_ ?_; rotate_left 2; (simp only [List.getElem?_toArray, List.getElem?_cons_succ, List.getElem?_cons_zero]; rfl); rfl; (intro wS hSw; obtain ⟨⟨S1, S2, S3, S4⟩, ⟨S5, S6, S7, S8⟩, S9, S10, S11, S12⟩ := hSw; go_simp; try with_reducible rfl); (exact fun _ _ _ h => h); (try simp only [Act.put, List.setIfInBounds_toArray, List.set_cons_zero, List.set_cons_succ]))); refine tkE ?_)
    (refine tkB [7, 8, 9, 10, 11, 12, 13] ?_; (iterate 7 (refine ts1 (oi := ?_) (by kernel_rfl) (by first | exact hSn | exact hHeld) ?_ ?_ ?_ ?_; rotate_left 1; (simp only [List.getElem?_toArray, List.getElem?_cons_succ, List.getElem?_cons_zero]; rfl); rfl; (exact fun _ _ _ h => h); (try simp only [Act.put, List.setIfInBounds_toArray, List.set_cons_zero, List.set_cons_succ]))); refine tkE ?_)
    (refine tkB [14] ?_; (iterate 1 (refine tk1 (oi := ?_) (v := ?_) (by kernel_rfl) (by first | exact hSn | exact hHeld) ?_ ?_ ?_ ?_ ?_; rotate_left 2; (simp only [List.getElem?_toArray, List.getElem?_cons_succ, List.getElem?_cons_zero]; rfl); rfl; (intro wS hSw; obtain ⟨⟨S1, S2, S3, S4⟩, ⟨S5, S6, S7, S8⟩, S9, S10, S11, S12⟩ := hSw; go_simp; try with_reducible rfl); (exact fun _ _ _ h => h); (try simp only [Act.put, List.setIfInBounds_toArray, List.set_cons_zero, List.set_cons_succ]))); refine tkE ?_)
    refine wpAnyU_done (by kernel_rfl) ?_ _
    go_wp2
    go_ret
    exact ⟨rfl, HE5d.out⟩
  have hkb : ((k : Int) == 0) = false := by simp [hk0]
  have HK0 := Lib.hid hk0
  clear hk0
  refine wp_region_u (SF3 w4.heap.size (w4.heap.size + 1) (w4.heap.size + 1 + 1) x y z) 15 (by kernel_rfl) HP5.out (fun hHeld => ?_)
  generalize w5.drew = wd at *
  (refine tkB [0, 1, 2, 3] ?_; (iterate 4 (refine tk1 (oi := ?_) (v := ?_) (by kernel_rfl) (by first | exact hSn | exact hHeld) ?_ ?_ ?_ ?_ ?_; rotate_left 2; (simp only [List.getElem?_toArray, List.getElem?_cons_succ, List.getElem?_cons_zero]; rfl); rfl; (intro wS hSw; obtain ⟨⟨S1, S2, S3, S4⟩, ⟨S5, S6, S7, S8⟩, S9, S10, S11, S12⟩ := hSw; go_simp; try with_reducible rfl); (exact fun _ _ _ h => h); (try simp only [Act.put, List.setIfInBounds_toArray, List.set_cons_zero, List.set_cons_succ]))); refine tkE ?_)
  ((refine wpAnyU_one 4 (o := ?_) (by kernel_rfl) ?_ ?_; rotate_left 1; (simp only [List.getElem?_toArray, List.getElem?_cons_succ, List.getElem?_cons_zero]; rfl); intro K hK); go_simp; (refine (rp_IsZero M0 z (norm l3) wd (mb0 _) HZ5d.out.pi).mono ?_); rintro e_ w6 ⟨bz, rfl, hbz, h4⟩; go_wp2_with (fail); (try clear hSn); (have hSn := hHeld.ext h4); (refine hK.out _ _ (fun _ => hSn) ?_); clear hK K; (try simp only [Act.put, List.setIfInBounds_toArray, List.set_cons_zero, List.set_cons_succ]))
  have HBZ := Lib.hid hbz
  clear hbz
  cases bz with
  | true =>
    (refine tkB [5, 6] ?_; (iterate 2 (refine tk1 (oi := ?_) (v := ?_) (by kernel_rfl) (by first | exact hSn | exact hHeld) ?_ ?_ ?_ ?_ ?_; rotate_left 2; (simp only [List.getElem?_toArray, List.getElem?_cons_succ, List.getElem?_cons_zero]; rfl); rfl; (intro wS hSw; obtain ⟨⟨S1, S2, S3, S4⟩, ⟨S5, S6, S7, S8⟩, S9, S10, S11, S12⟩ := hSw; go_simp; try with_reducible rfl); (exact fun _ _ _ h => h); (try simp only [Act.put, List.setIfInBounds_toArray, List.set_cons_zero, List.set_cons_succ]))); refine tkE ?_)
    (refine tkB [7, 8, 9, 10, 11, 12, 13] ?_; (iterate 7 (refine ts1 (oi := ?_) (by kernel_rfl) (by first | exact hSn | exact hHeld) ?_ ?_ ?_ ?_; rotate_left 1; (simp only [List.getElem?_toArray, List.getElem?_cons_succ, List.getElem?_cons_zero]; rfl); rfl; (exact fun _ _ _ h => h); (try simp only [Act.put, List.setIfInBounds_toArray, List.set_cons_zero, List.set_cons_succ]))); refine tkE ?_)
    (refine tkB [14] ?_; (iterate 1 (refine tk1 (oi := ?_) (v := ?_) (by kernel_rfl) (by first | exact hSn | exact hHeld) ?_ ?_ ?_ ?_ ?_; rotate_left 2; (simp only [List.getElem?_toArray, List.getElem?_cons_succ, List.getElem?_cons_zero]; rfl); rfl; (intro wS hSw; obtain ⟨⟨S1, S2, S3, S4⟩, ⟨S5, S6, S7, S8⟩, S9, S10, S11, S12⟩ := hSw; go_simp; try with_reducible rfl); (exact fun _ _ _ h => h); (try simp only [Act.put, List.setIfInBounds_toArray, List.set_cons_zero, List.set_cons_succ]))); refine tkE ?_)
    refine wpAnyU_done (by kernel_rfl) ?_ _
    have HF := Lib.hid (HE5d.out.trans h4)
    clear h4 hHeld hSn
    go_wp2
    go_ret
    exact ⟨rfl, HF.out⟩
  | false =>
    have HZ3 : Hid (¬ Sim (norm l3) []) := fun hh => by have := HBZ.out.2 hh; cases this
    clear HBZ
    (refine tkB [5, 6, 7, 8, 10, 11] ?_; (iterate 6 (refine tk1 (oi := ?_) (v := ?_) (by kernel_rfl) (by first | exact hSn | exact hHeld) ?_ ?_ ?_ ?_ ?_; rotate_left 2; (simp only [List.getElem?_toArray, List.getElem?_cons_succ, List.getElem?_cons_zero]; rfl); rfl; (intro wS hSw; obtain ⟨⟨S1, S2, S3, S4⟩, ⟨S5, S6, S7, S8⟩, S9, S10, S11, S12⟩ := hSw; go_simp; try with_reducible rfl); (exact fun _ _ _ h => h); (try simp only [Act.put, List.setIfInBounds_toArray, List.set_cons_zero, List.set_cons_succ]))); refine tkE ?_)
    ((refine wpAnyU_one 9 (o := ?_) (by kernel_rfl) ?_ ?_; rotate_left 1; (simp only [List.getElem?_toArray, List.getElem?_cons_succ, List.getElem?_cons_zero]; rfl); intro K hK); go_simp; (refine (mv_Degree M0 z (norm l3) k _ (mb0 _) (HZ5d.out.ext h4).pi).mono ?_); rintro e_ w7 ⟨m, rfl, hm, h9⟩; go_wp2_with (fail); (try clear hSn); (have hSn := hHeld.ext (h4.trans h9)); (refine hK.out _ _ (fun _ => hSn) ?_); clear hK K; (try simp only [Act.put, List.setIfInBounds_toArray, List.set_cons_zero, List.set_cons_succ]))
    ((refine wpAnyU_one 12 (o := ?_) (by kernel_rfl) ?_ ?_; rotate_left 1; (simp only [List.getElem?_toArray, List.getElem?_cons_succ, List.getElem?_cons_zero]; rfl); intro K hK); go_simp; (refine (mv_Degree M0 y (norm l2) k _ (mb0 _) (HY5d.out.ext (h4.trans h9)).pi).mono ?_); rintro e_ w8 ⟨n, rfl, hn, h12⟩; go_wp2_with (fail); (try clear hSn); (have hSn := hHeld.ext ((h4.trans h9).trans h12)); (refine hK.out _ _ (fun _ => hSn) ?_); clear hK K; (try simp only [Act.put, List.setIfInBounds_toArray, List.set_cons_zero, List.set_cons_succ]))
    have HM := Lib.hid hm
    have HN := Lib.hid hn
    have HV := Lib.hid ((h4.trans h9).trans h12)
    clear h4 h9 h12 hm hn
    by_cases hmn : n ≤ m
    · have hmb : decide (n ≤ m) = true := decide_eq_true hmn
      (refine tkB [13, 14] ?_; (iterate 2 (refine tk1 (oi := ?_) (v := ?_) (by kernel_rfl) (by first | exact hSn | exact hHeld) ?_ ?_ ?_ ?_ ?_; rotate_left 2; (simp only [List.getElem?_toArray, List.getElem?_cons_succ, List.getElem?_cons_zero]; rfl); rfl; (intro wS hSw; obtain ⟨⟨S1, S2, S3, S4⟩, ⟨S5, S6, S7, S8⟩, S9, S10, S11, S12⟩ := hSw; go_simp; try with_reducible rfl); (exact fun _ _ _ h => h); (try simp only [Act.put, List.setIfInBounds_toArray, List.set_cons_zero, List.set_cons_succ]))); refine tkE ?_)
      refine wpAnyU_done (by kernel_rfl) ?_ _
      have HF := Lib.hid (HE5d.out.trans HV.out)
      clear hHeld hSn
      go_wp2
      go_ret
      exact ⟨rfl, HF.out⟩
    have hmb : decide (n ≤ m) = false := decide_eq_false hmn
    have HD : Hid (1 ≤ k ∧ k ≤ 4 ∧ ∃ n' m' : Nat, DgR k (norm l2) n' ∧ DgR k (norm l3) m' ∧ m' < n') := by
      have hk0 := HK0.out
      have hk4 := HK.out.1
      have hz2 : ¬ Sim (norm l2) [] := fun hs => by
        obtain ⟨q, hq, _⟩ := HK.out.2.2.resolve_left hk0
        exact hq (hs q)
      rcases HM.out with ⟨h, _⟩ | ⟨_, h, _⟩ | ⟨_, K1, m', e1, _, _, rfl, d1, _⟩
      · exact absurd h HZ3.out
      · exact absurd ⟨by omega, by omega⟩ h
      rcases HN.out with ⟨h, _⟩ | ⟨_, h, _⟩ | ⟨_, K2, n', e2, _, _, rfl, d2, _⟩
      · exact absurd h hz2
      · exact absurd ⟨by omega, by omega⟩ h
      obtain rfl : K1 = k := by omega
      obtain rfl : K2 = K1 := by omega
      exact ⟨by omega, hk4, n', m', d2, d1, by omega⟩
    (refine tkB [13, 14] ?_; (iterate 2 (refine tk1 (oi := ?_) (v := ?_) (by kernel_rfl) (by first | exact hSn | exact hHeld) ?_ ?_ ?_ ?_ ?_; rotate_left 2; (simp only [List.getElem?_toArray, List.getElem?_cons_succ, List.getElem?_cons_zero]; rfl); rfl; (intro wS hSw; obtain ⟨⟨S1, S2, S3, S4⟩, ⟨S5, S6, S7, S8⟩, S9, S10, S11, S12⟩ := hSw; go_simp; try with_reducible rfl); (exact fun _ _ _ h => h); (try simp only [Act.put, List.setIfInBounds_toArray, List.set_cons_zero, List.set_cons_succ]))); refine tkE ?_)
    refine wpAnyU_done (by kernel_rfl) ?_ _
    have HX8 := Lib.hid (HX5d.out.ext HV.out)
    have HY8 := Lib.hid (HY5d.out.ext HV.out)
    have HZ8 := Lib.hid (HZ5d.out.ext HV.out)
    have HE8 := Lib.hid (HE5d.out.trans HV.out)
    have HS8 := Lib.hid hSn
    clear hHeld hSn HM HN hmb hmn HX5d HY5d HZ5d HE5d HV HP5
    go_upto_region 9 with (fail)
    generalize w8 = W8 at *
    have HNB : Hid (Deg 6 (pmul (norm l1) (norm l2) ++ norm l3) ∧ dlen (nrm (pmul (norm l1) (norm l2) ++ norm l3)) ≤ 11) := ⟨((Deg.pmul HS1.out.deg HS2.out.deg HS1.out.nn).mono (by omega)).append (HS3.out.deg.mono (by omega)), by
      rw [nrm_append, nrm_pmul]
      have g1 := dlen_add (nrm (norm l1) * nrm (norm l2)) (nrm (norm l3))
      have g2 := dlen_mul (nrm (norm l1)) (nrm (norm l2))
      have := HS1.out.dl
      have := HS2.out.dl
      have := HS3.out.dl
      omega⟩
    go_cut [11] (PCut (pmul (norm l1) (norm l2) ++ norm l3) W8.drew)
    case first =>
      have hEd : Ext W8 W8.drew := (Ext.refl W8).drew
      have HS8' := Lib.hid (HS8.out.ext hEd)
      have hMd : Mb M0 W8.drew := mb0 _
      have C2 : Hid (∀ (M' : Nat → Prop) (W' : World), Mb M' W' → (∀ g, M' g → M0 g ∨ W8.drew.heap.size ≤ g) → Ext W8.drew W' → Calls Tryz.prog 19 #[.agg (peA x), .agg (peA y)] W' (RetX M' W' 4 (pmul (norm l1) (norm l2)))) := fun M' W' h1 h2 h3 => rp_Mul M' x y _ _ 3 3 W' h1 (((HX8.out.ext hEd).more h2).ext h3).pi (((HY8.out.ext hEd).more h2).ext h3).pi (by have := HS1.out.dl; have := HS2.out.dl; omega) HS1.out.deg HS2.out.deg (by decide)
      have C4 : Hid (∀ (M' : Nat → Prop) (W' : World) (p : PE), Mb M' W' → (∀ g, M' g → M0 g ∨ W8.drew.heap.size ≤ g) → Ext W8.drew W' → CRx M' W' 4 p (pmul (norm l1) (norm l2)) → Calls Tryz.prog 52 #[.agg (peA p), .agg (peA z)] W' (RetX M' W' 4 (pmul (norm l1) (norm l2) ++ norm l3))) := fun M' W' p h1 h2 h3 h4 => rp_Add M' p z _ _ W' h1 h4.pi (((HZ8.out.ext hEd).more h2).ext h3).pi (by have := HNB.out.2; omega)
      refine wp_region_u (SF3 w4.heap.size (w4.heap.size + 1) (w4.heap.size + 1 + 1) x y z) 6 (by kernel_rfl) HS8'.out (fun hHeld => ?_)
      clear HX8 HY8 HZ8 HE8 HS8 HS8' hEd HNB HS1 HS2 HS3 HD HK HK0 HZ3
      generalize W8.drew = wd at *
      (refine tkB [0, 1, 3] ?_; (iterate 3 (refine tk1 (oi := ?_) (v := ?_) (by kernel_rfl) (by first | exact hSn | exact hHeld) ?_ ?_ ?_ ?_ ?_; rotate_left 2; (simp only [List.getElem?_toArray, List.getElem?_cons_succ, List.getElem?_cons_zero]; rfl); rfl; (intro wS hSw; obtain ⟨⟨S1, S2, S3, S4⟩, ⟨S5, S6, S7, S8⟩, S9, S10, S11, S12⟩ := hSw; go_simp; try with_reducible rfl); (exact fun _ _ _ h => h); (try simp only [Act.put, List.setIfInBounds_toArray, List.set_cons_zero, List.set_cons_succ]))); refine tkE ?_)
      (refine wpAnyU_two 2 5 (oi := ?_) (oj := ?_) (by kernel_rfl) ?_ ?_ ?_ ?_; rotate_left 2; (simp only [List.getElem?_toArray, List.getElem?_cons_succ, List.getElem?_cons_zero]; rfl); (simp only [List.getElem?_toArray, List.getElem?_cons_succ, List.getElem?_cons_zero]; rfl); all_goals intro K hK)
      · go_simp
        refine (C2.out M0 wd  (hMd.ext (Ext.refl wd)) (fun g hg => .inl hg) (Ext.refl wd) ).mono ?_
        rintro e v1 ⟨p1, rfl, hp1, d1⟩
        go_wp2_with (fail)
        have e1 : Ext wd v1 := ((Ext.refl wd)).trans d1
        try clear hSn
        have hSn := hHeld.ext e1
        refine hK.out _ _ (fun _ => hSn) ?_
        clear hK K
        (try simp only [Act.put, List.setIfInBounds_toArray, List.set_cons_zero, List.set_cons_succ])
        (refine wpAnyU_two 4 5 (oi := ?_) (oj := ?_) (by kernel_rfl) ?_ ?_ ?_ ?_; rotate_left 2; (simp only [List.getElem?_toArray, List.getElem?_cons_succ, List.getElem?_cons_zero]; rfl); (simp only [List.getElem?_toArray, List.getElem?_cons_succ, List.getElem?_cons_zero]; rfl); all_goals intro K hK)
        · go_simp
          refine (C4.out M0 v1 p1 (hMd.ext e1) (fun g hg => .inl hg) e1 (hp1)).mono ?_
          rintro e v2 ⟨v, rfl, hv, d2⟩
          go_wp2_with (fail)
          have e2 : Ext wd v2 := (e1).trans d2
          try clear hSn
          have hSn := hHeld.ext e2
          refine hK.out _ _ (fun _ => hSn) ?_
          clear hK K
          (try simp only [Act.put, List.setIfInBounds_toArray, List.set_cons_zero, List.set_cons_succ])
          (refine wpAnyU_one 5 (o := ?_) (by kernel_rfl) ?_ ?_; rotate_left 1; (simp only [List.getElem?_toArray, List.getElem?_cons_succ, List.getElem?_cons_zero]; rfl); intro K hK)
          go_simp
          have hSn2 := hSn.ext ((Ext.refl v2).alloc (.cells zA 32))
          have hSn3 := hSn.ext ((Ext.refl v2).alloc (.cells (peA v) 32))
          clear hSn
          refine hK.out _ _ (fun _ => hSn2) ?_
          clear hK K
          (try simp only [Act.put, List.setIfInBounds_toArray, List.set_cons_zero, List.set_cons_succ])
          (refine wpAnyU_one 6 (o := ?_) (by kernel_rfl) ?_ ?_; rotate_left 1; (simp only [List.getElem?_toArray, List.getElem?_cons_succ, List.getElem?_cons_zero]; rfl); intro K hK)
          go_simp
          refine hK.out _ _ (fun h => absurd rfl h) ?_
          clear hK K
          refine wpAnyU_done (by kernel_rfl) ?_ _
          go_wp2_with (fail)
          go_meet
          exact ⟨v2.heap.size, v, rfl, (Blk.of_arr v2 (peA v) 32 4 rfl).p4, hv.ext ((Ext.refl v2).alloc _), (e2).alloc _⟩
        · go_simp
          have ea2 : Ext v1 (v1.alloc (.cells zA 32)) := (Ext.refl _).alloc _
          have hb2 := Blk.of_arr v1 zA 32 4 rfl
          have e2 : Ext wd (v1.alloc (.cells zA 32)) := (e1).trans ea2
          try clear hSn
          have hSn := hHeld.ext e2
          refine hK.out _ _ (fun _ => hSn) ?_
          clear hK K
          (try simp only [Act.put, List.setIfInBounds_toArray, List.set_cons_zero, List.set_cons_succ])
          (refine wpAnyU_one 4 (o := ?_) (by kernel_rfl) ?_ ?_; rotate_left 1; (simp only [List.getElem?_toArray, List.getElem?_cons_succ, List.getElem?_cons_zero]; rfl); intro K hK)
          go_simp
          refine (C4.out (fun g => M0 g ∨ g = v1.heap.size) (v1.alloc (.cells zA 32)) p1 ((mb_or (hMd.ext e1) (.cells zA 32)).ext (Ext.refl (v1.alloc (.cells zA 32)))) (fun g hg => hg.imp id fun h => by rw [h]; exact e1.size) e2 (((hp1).more (M' := fun g => M0 g ∨ g = v1.heap.size) (fun g hg => hg.imp id fun (h : g = v1.heap.size) => Nat.le_of_eq h.symm)).ext ea2)).mono ?_
          rintro e v3 ⟨v, rfl, hv, d3⟩
          go_wp2_with (fail)
          have e3 : Ext wd v3 := (e2).trans d3
          have hb3 := (hb2).ext d3
          try clear hSn
          have hSn := hHeld.ext e3
          refine hK.out _ _ (fun _ => hSn) ?_
          clear hK K
          (try simp only [Act.put, List.setIfInBounds_toArray, List.set_cons_zero, List.set_cons_succ])
          obtain ⟨⟨q0, q1, q2, q3⟩, ⟨f0, f1, f2, f3⟩, hrr, hkp, hext⟩ := fin4 (M' := fun g => M0 g ∨ g = v1.heap.size) (w := wd) (.int .i64 v.lv) (.bool v.b) (.slice v.a v.n v.p) (.slice v.ka v.kn v.kp) (hb3) (.inr rfl) (e1).size (e3)
          simp only [arr] at q0 q1 q2 q3
          (refine wpAnyU_one 6 (o := ?_) (by kernel_rfl) ?_ ?_; rotate_left 1; (simp only [List.getElem?_toArray, List.getElem?_cons_succ, List.getElem?_cons_zero]; rfl); intro K hK)
          have hSn3 := hHeld.ext hext
          clear hSn
          go_simp
          refine hK.out _ _ (fun h => absurd rfl h) ?_
          clear hK K
          refine wpAnyU_done (by kernel_rfl) ?_ _
          go_wp2_with (fail)
          go_meet
          exact ⟨v1.heap.size, v, rfl, hrr, (hv.kp hkp).more (fun g hg => .inl (.inl hg)), hext⟩
      · go_simp
        have ea1 : Ext wd (wd.alloc (.cells zA 32)) := (Ext.refl _).alloc _
        have hb1 := Blk.of_arr wd zA 32 4 rfl
        have e1 : Ext wd (wd.alloc (.cells zA 32)) := ((Ext.refl wd)).trans ea1
        try clear hSn
        have hSn := hHeld.ext e1
        refine hK.out _ _ (fun _ => hSn) ?_
        clear hK K
        (try simp only [Act.put, List.setIfInBounds_toArray, List.set_cons_zero, List.set_cons_succ])
        (refine wpAnyU_one 2 (o := ?_) (by kernel_rfl) ?_ ?_; rotate_left 1; (simp only [List.getElem?_toArray, List.getElem?_cons_succ, List.getElem?_cons_zero]; rfl); intro K hK)
        go_simp
        refine (C2.out (fun g => M0 g ∨ g = wd.heap.size) (wd.alloc (.cells zA 32))  ((mb_or (hMd.ext (Ext.refl wd)) (.cells zA 32)).ext (Ext.refl (wd.alloc (.cells zA 32)))) (fun g hg => hg.imp id fun h => by rw [h]; exact (Ext.refl wd).size) e1 ).mono ?_
        rintro e v2 ⟨p1, rfl, hp1, d2⟩
        go_wp2_with (fail)
        have e2 : Ext wd v2 := (e1).trans d2
        have hb2 := (hb1).ext d2
        try clear hSn
        have hSn := hHeld.ext e2
        refine hK.out _ _ (fun _ => hSn) ?_
        clear hK K
        (try simp only [Act.put, List.setIfInBounds_toArray, List.set_cons_zero, List.set_cons_succ])
        (refine wpAnyU_one 4 (o := ?_) (by kernel_rfl) ?_ ?_; rotate_left 1; (simp only [List.getElem?_toArray, List.getElem?_cons_succ, List.getElem?_cons_zero]; rfl); intro K hK)
        go_simp
        refine (C4.out (fun g => M0 g ∨ g = wd.heap.size) v2 p1 ((mb_or (hMd.ext (Ext.refl wd)) (.cells zA 32)).ext (((Ext.refl (wd.alloc (.cells zA 32)))).trans d2)) (fun g hg => hg.imp id fun h => by rw [h]; exact (Ext.refl wd).size) e2 (hp1)).mono ?_
        rintro e v3 ⟨v, rfl, hv, d3⟩
        go_wp2_with (fail)
        have e3 : Ext wd v3 := (e2).trans d3
        have hb3 := (hb2).ext d3
        try clear hSn
        have hSn := hHeld.ext e3
        refine hK.out _ _ (fun _ => hSn) ?_
        clear hK K
        (try simp only [Act.put, List.setIfInBounds_toArray, List.set_cons_zero, List.set_cons_succ])
        obtain ⟨⟨q0, q1, q2, q3⟩, ⟨f0, f1, f2, f3⟩, hrr, hkp, hext⟩ := fin4 (M' := fun g => M0 g ∨ g = wd.heap.size) (w := wd) (.int .i64 v.lv) (.bool v.b) (.slice v.a v.n v.p) (.slice v.ka v.kn v.kp) (hb3) (.inr rfl) ((Ext.refl wd)).size (e3)
        simp only [arr] at q0 q1 q2 q3
        (refine wpAnyU_one 6 (o := ?_) (by kernel_rfl) ?_ ?_; rotate_left 1; (simp only [List.getElem?_toArray, List.getElem?_cons_succ, List.getElem?_cons_zero]; rfl); intro K hK)
        have hSn3 := hHeld.ext hext
        clear hSn
        go_simp
        refine hK.out _ _ (fun h => absurd rfl h) ?_
        clear hK K
        refine wpAnyU_done (by kernel_rfl) ?_ _
        go_wp2_with (fail)
        go_meet
        exact ⟨wd.heap.size, v, rfl, hrr, (hv.kp hkp).more (fun g hg => .inl (.inl hg)), hext⟩
    case rest =>
      obtain ⟨g11, v, rfl, hv, hs, heC⟩ := hcut
      have he5 : Ext W8 wc := (Ext.refl W8).drew.trans heC
      have HY9 := Lib.hid (HY8.out.ext he5)
      have HE9 := Lib.hid (HE8.out.trans he5)
      have HP9 := Lib.hid (HS8.out.ext he5)
      have HQ9 := Lib.hid hs
      have HV9 := Lib.hid hv
      have hnd1 : ¬ Dv (norm l2) (pmul (norm l1) (norm l2) ++ norm l3) := by
        obtain ⟨k1, k4, n', m', d2, d1, hlt⟩ := HD.out
        exact not_dv_rest k1 k4 HS1.out.nn HS2.out.nn HS3.out.nn HZ3.out d2 d1.1 hlt
      have hnd2 : ¬ Dv (snorm (norm l2)) (pmul (norm l1) (norm l2) ++ norm l3) := by
        obtain ⟨k1, k4, n', m', d2, d1, hlt⟩ := HD.out
        exact not_dv_rest_snorm k1 k4 HS1.out.nn HS2.out.nn HS3.out.nn HZ3.out d2 d1.1 hlt
      have hz2 : ¬ Sim (norm l2) [] := by
        obtain ⟨k1, k4, n', m', d2, d1, hlt⟩ := HD.out
        obtain ⟨q, hq, _⟩ := d2.2.resolve_left (by omega)
        exact fun hs => hq (hs q)
      have HN1 := Lib.hid hnd1
      have HN2 := Lib.hid hnd2
      have HZ2 := Lib.hid hz2
      have hnum : ∀ A G, A ≤ 100 → G ≤ 50 → A + qX 3 4 6 * (G + 2) ≤ 549755813888 := fun A G hA hG => Nat.le_trans (Nat.add_le_add hA (Nat.mul_le_mul_left _ (by omega))) law_num
      have HNU := Lib.hid hnum
      have CE := Lib.hid (ps_Exact 3 5 M0 _ (norm l2) v y 6 11 wc (mb0 _) HQ9.out.pi HY9.out.pi HNB.out.1 HS2.out.deg HNB.out.2 HS2.out.dl law_ok (HNU.out 11 5 (by omega) (by omega)))
      clear hv hs heC he5 hnum hnd1 hnd2 hz2 HX8 HY8 HZ8 HE8 HS8
      obtain ⟨_, ⟨y0, y1, y2, y3⟩, _⟩ := HP9.out
      obtain ⟨u0, u1, u2, u3⟩ := HV9.out
      go_wp2_with (fail)
      refine CE.out.mono ?_
      rintro e w10 ⟨q, er, rfl, hq, he10⟩
      obtain ⟨rfl, rfl⟩ : er = 3 ∧ q = PE.z := by
        rcases hq with ⟨_, h, _⟩ | ⟨_, _, q', h1, h2, _⟩ | ⟨h1, h2, _⟩
        · exact absurd h HZ2.out
        · exact absurd ⟨q', h1.nn, h2⟩ HN1.out
        · exact ⟨h1, h2⟩
      have hEb := (Ext.refl w10).alloc (.cells (peA PE.z) 32)
      have hE10 := he10.trans hEb
      have HY10 := Lib.hid (HY9.out.ext hE10)
      have HQ10 := Lib.hid (HQ9.out.ext hE10)
      have HE10 := Lib.hid (HE9.out.trans hE10)
      have HP10 := Lib.hid (HP9.out.ext hE10)
      have HV10 := Lib.hid (HV9.out.ext hE10)
      have HB10 : Hid (P4 (w10.alloc (.cells (peA PE.z) 32)) w10.heap.size PE.z) := (Blk.of_arr w10 (peA PE.z) 32 4 rfl).p4
      clear hq he10 hEb hE10 CE HY9 HQ9 HE9 HP9 HV9 y0 y1 y2 y3 u0 u1 u2 u3
      go_upto_region 11 with (fail)
      generalize hs12 : w10.heap.size = g12 at *
      generalize w10.alloc (.cells (peA PE.z) 32) = W10 at *
      clear hs12
      obtain ⟨u0, u1, u2, u3⟩ := HB10.out
      simp only [PE.z] at u0 u1 u2 u3
      have CZ := Lib.hid (rp_IsZero M0 PE.z [] W10 (mb0 _) (CRx.pi (L := 4) (CR.zero M0 W10 4)))
      go_wp2_with (fail)
      refine CZ.out.mono ?_
      rintro e w11 ⟨bz, rfl, hbz, he11⟩
      obtain rfl : bz = true := hbz.2 (Sim.refl _)
      have HE11 := Lib.hid (HE10.out.trans he11)
      have CD := Lib.hid (ps_Divides 3 5 M0 _ (norm l2) (snorm (norm l2)) y v 6 11 w11 (mb0 _) (HY10.out.ext he11).pi (HQ10.out.ext he11).pi (sn_ctr (HY10.out.ext he11) HS2.out.deg HS2.out.dl) (fun _ => snorm_ne HS2.out.nn HZ2.out) HNB.out.1 (snorm_deg HS2.out.nn HZ2.out HS2.out.deg) HNB.out.2 (Nat.le_trans (dlen_mono (snorm_nrm _)) HS2.out.dl) law_ok (HNU.out 11 5 (by omega) (by omega)))
      obtain ⟨_, ⟨y0, y1, y2, y3⟩, _⟩ := HP10.out.ext he11
      clear u0 u1 u2 u3
      obtain ⟨u0, u1, u2, u3⟩ := HV10.out.ext he11
      clear hbz he11 CZ HE10 HY10 HQ10 HP10 HV10 HB10
      go_wp2_with (fail)
      refine CD.out.mono ?_
      rintro e w12 ⟨bd, rfl, _, hbd, he12⟩
      obtain rfl : bd = false := by
        cases bd with
        | false => rfl
        | true => exact absurd ((hbd HZ2.out).1 rfl) HN2.out
      have HF := Lib.hid (HE11.out.trans he12)
      clear hbd he12 CD HE11 y0 y1 y2 y3 u0 u1 u2 u3
      go_wp2
      go_ret
      exact ⟨rfl, HF.out⟩
end Go.Proofs.YtodjlgkamokakaaGreat
