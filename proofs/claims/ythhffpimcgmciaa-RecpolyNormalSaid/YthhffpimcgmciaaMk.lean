/- RecpolyNormal: the walk. -/
import Derived.Test.YthhffpimcgmciaaMj
set_option linter.unusedVariables false
set_option linter.unusedSimpArgs false

namespace Go.Proofs.Ythhffpimcgmciaa
open Go.RowKit

/-- what region 6 leaves -/
def N6 (l m : List Tm) (W0 : World) (s7 s8 : Value) (wx : World) : Prop := ∃ g7 g8 a b, s7 = .pointer (some ⟨g7, 0, none⟩) ∧ s8 = .pointer (some ⟨g8, 0, none⟩) ∧ Ext W0 wx ∧ P4 wx g7 a ∧ P4 wx g8 b ∧ CRx M0 wx 4 a l ∧ CRx M0 wx 4 b m
theorem blk4 {w : World} {g : Nat} (h : Blk w g 31 4 (arr zA)) : w.cell? ⟨g, 0, none⟩ = some (.int .i64 0) ∧ w.cell? ⟨g, 1, none⟩ = some (.bool false) ∧ w.cell? ⟨g, 2, none⟩ = some (.slice none 0 0) ∧ w.cell? ⟨g, 3, none⟩ = some (.slice none 0 0) ∧ w.frozen? ⟨g, 0, none⟩ = false ∧ w.frozen? ⟨g, 1, none⟩ = false ∧ w.frozen? ⟨g, 2, none⟩ = false ∧ w.frozen? ⟨g, 3, none⟩ = false :=
  ⟨h.cell (i := 0) (by omega), h.cell (i := 1) (by omega), h.cell (i := 2) (by omega), h.cell (i := 3) (by omega), h.frozen 0, h.frozen 1, h.frozen 2, h.frozen 3⟩
set_option maxRecDepth 100000 in
set_option maxHeartbeats 16000000 in
theorem law_normal (a1 a2 : Option Addr) (n1 p1 n2 p2 : Nat) (w : World) (h1 : n1 ≤ 24 → ∃ L C K, NodesR M0 w (.slice a1 n1 p1) n1 L C K) (h2 : n2 ≤ 24 → ∃ L C K, NodesR M0 w (.slice a2 n2 p2) n2 L C K) : Calls Try.prog 3 #[.slice a1 n1 p1, .slice a2 n2 p2] w fun e w' => e = .returned (.bool true) ∧ Ext w w' := by
  have cf1 := fun W => rf_few a1 n1 p1 W
  have cf2 := fun W => rf_few a2 n2 p2 W
  by_cases hn1 : ¬ n1 ≤ 24
  · rw [decide_eq_false hn1] at cf1
    have CF1 := Lib.hid cf1
    clear cf1 cf2 h1 h2
    go_enter Try.func3, Try.ntmps3
    go_wp2_with (fail)
    refine (law_fit _).mono ?_
    rintro e w1 ⟨rfl, he1⟩
    go_wp2_with (fail)
    refine (CF1.out _).mono ?_
    rintro e w2 ⟨rfl, rfl⟩
    go_wp2
    go_ret
    exact ⟨rfl, he1⟩
  have hn1' : n1 ≤ 24 := Decidable.not_not.1 hn1
  rw [decide_eq_true hn1'] at cf1
  by_cases hn2 : ¬ n2 ≤ 24
  · rw [decide_eq_false hn2] at cf2
    have CF1 := Lib.hid cf1
    have CF2 := Lib.hid cf2
    clear cf1 cf2 h1 h2
    go_enter Try.func3, Try.ntmps3
    go_wp2_with (fail)
    refine (law_fit _).mono ?_
    rintro e w1 ⟨rfl, he1⟩
    go_wp2_with (fail)
    refine (CF1.out _).mono ?_
    rintro e w2 ⟨rfl, rfl⟩
    go_wp2_with (fail)
    refine (CF2.out _).mono ?_
    rintro e w2 ⟨rfl, rfl⟩
    go_wp2
    go_ret
    exact ⟨rfl, he1⟩
  have hn2' : n2 ≤ 24 := Decidable.not_not.1 hn2
  rw [decide_eq_true hn2'] at cf2
  have CF1 := Lib.hid cf1
  have CF2 := Lib.hid cf2
  clear cf1 cf2 hn1 hn2
  obtain ⟨L1, C1, K1, h1'⟩ := h1 hn1'
  obtain ⟨L2, C2, K2, h2'⟩ := h2 hn2'
  have HN1 := Lib.hid h1'
  have HN2 := Lib.hid h2'
  clear h1 h2 h1' h2'
  go_enter Try.func3, Try.ntmps3
  go_wp2_with (fail)
  refine (law_fit _).mono ?_
  rintro e w1 ⟨rfl, he1⟩
  go_wp2_with (fail)
  refine (CF1.out _).mono ?_
  rintro e w2 ⟨rfl, rfl⟩
  go_wp2_with (fail)
  refine (CF2.out _).mono ?_
  rintro e w2 ⟨rfl, rfl⟩
  go_wp2_with (fail)
  refine (rf_build M0 _ n1 L1 C1 K1 w1 (mb0 _) (HN1.out.ext he1)).mono ?_
  rintro e w2 ⟨x, l, rfl, hx, he2⟩
  go_wp2_with (fail)
  refine (rf_build M0 _ n2 L2 C2 K2 w2 (mb0 _) (HN2.out.ext (he1.trans he2))).mono ?_
  rintro e w3 ⟨y, m, rfl, hy, he3⟩
  have he4 : Ext w3 ((w3.alloc (.cells #[.int .i64 x.lv, .bool x.b, .slice x.a x.n x.p, .slice x.ka x.kn x.kp] 31)).alloc (.cells #[.int .i64 y.lv, .bool y.b, .slice y.a y.n y.p, .slice y.ka y.kn y.kp] 31)) := ((Ext.refl w3).alloc _).alloc _
  have b5 := ((Blk.of_arr w3 (peA x) 31 4 rfl).alloc (.cells #[.int .i64 y.lv, .bool y.b, .slice y.a y.n y.p, .slice y.ka y.kn y.kp] 31)).p4
  have b6 := Blk.of_arr (w3.alloc (.cells #[.int .i64 x.lv, .bool x.b, .slice x.a x.n x.p, .slice x.ka x.kn x.kp] 31)) (peA y) 31 4 rfl
  simp only [World.size_alloc] at b6
  have b6' := b6.p4
  have hX4 := (hx.ext he3).ext he4
  have hY4 := hy.ext he4
  have hE4 := ((he1.trans he2).trans he3).trans he4
  have hsz4 : ((w3.alloc (.cells #[.int .i64 x.lv, .bool x.b, .slice x.a x.n x.p, .slice x.ka x.kn x.kp] 31)).alloc (.cells #[.int .i64 y.lv, .bool y.b, .slice y.a y.n y.p, .slice y.ka y.kn y.kp] 31)).heap.size = w3.heap.size + 2 := by simp
  generalize hW0 : (w3.alloc (.cells #[.int .i64 x.lv, .bool x.b, .slice x.a x.n x.p, .slice x.ka x.kn x.kp] 31)).alloc (.cells #[.int .i64 y.lv, .bool y.b, .slice y.a y.n y.p, .slice y.ka y.kn y.kp] 31) = W0 at b5 b6' hX4 hY4 hE4 hsz4
  have HW0 := Lib.hid hW0
  have HX0 := Lib.hid hX4
  have HY0 := Lib.hid hY4
  have HS0 : Hid (SP2 w3.heap.size x y W0) := ⟨b5, b6'⟩
  have HBX := Lib.hid (hX4.ext (Ext.refl W0).drew)
  have HBY := Lib.hid (hY4.ext (Ext.refl W0).drew)
  have HE4 := Lib.hid hE4
  have HS2 : Hid (SP2 w3.heap.size x y W0.drew) := SP2.ext ⟨b5, b6'⟩ (Ext.refl W0).drew
  have hsz4' : w3.heap.size + 2 ≤ W0.heap.size := by omega
  clear hx hy he1 he2 he3 he4 b5 b6 b6' hX4 hY4 hE4 hW0 hsz4
  go_upto_region 6 with (fail)
  rw [HW0.out]
  go_cut [7, 8] (N6 l m W0)
  case first =>
    refine wp_region_u (SP2 w3.heap.size x y) 7 (by kernel_rfl) HS2.out (fun hHeld => ?_)
    have hszd : w3.heap.size + 2 ≤ W0.drew.heap.size := hsz4'
    have hEd : Ext W0 W0.drew := (Ext.refl W0).drew
    clear HS2 hsz4'
    generalize W0.drew = Wd at hHeld hszd hEd HBX HBY ⊢
    have hr0 : R6 l m Wd none none none none Wd := ⟨Ext.refl _, (fun g hg => by cases hg), (fun g hg => by cases hg), (fun g h hg => by cases hg), (fun a ha => by cases ha), (fun a ha => by cases ha)⟩
    ((refine wpAnyU_take 0 (oi := ?_) (v := ?_) (by kernel_rfl) (by kernel_rfl) (by kernel_rfl) (by kernel_rfl) (by first | exact hSn | exact hHeld) ?_ ?_ ?_ ?_ ?_; rotate_left 2; (simp only [List.getElem?_toArray, List.getElem?_cons_succ, List.getElem?_cons_zero]; rfl); rfl; (intro wS hSw; obtain ⟨⟨S1, S2, S3, S4⟩, S5, S6, S7, S8⟩ := hSw; go_simp; try with_reducible rfl); (exact fun _ _ _ h => h); (try simp only [Act.put, List.setIfInBounds_toArray, List.set_cons_zero, List.set_cons_succ])); (refine wpAnyU_take 2 (oi := ?_) (v := ?_) (by kernel_rfl) (by kernel_rfl) (by kernel_rfl) (by kernel_rfl) (by first | exact hSn | exact hHeld) ?_ ?_ ?_ ?_ ?_; rotate_left 2; (simp only [List.getElem?_toArray, List.getElem?_cons_succ, List.getElem?_cons_zero]; rfl); rfl; (intro wS hSw; obtain ⟨⟨S1, S2, S3, S4⟩, S5, S6, S7, S8⟩ := hSw; go_simp; try with_reducible rfl); (exact fun _ _ _ h => h); (try simp only [Act.put, List.setIfInBounds_toArray, List.set_cons_zero, List.set_cons_succ])))
    (refine wpAnyU_three 1 4 5 (oi := ?_) (oj := ?_) (ok := ?_) (by kernel_rfl) ?_ ?_ ?_ ?_ ?_ ?_; rotate_left 3; (simp only [List.getElem?_toArray, List.getElem?_cons_succ, List.getElem?_cons_zero]; rfl); (simp only [List.getElem?_toArray, List.getElem?_cons_succ, List.getElem?_cons_zero]; rfl); (simp only [List.getElem?_toArray, List.getElem?_cons_succ, List.getElem?_cons_zero]; rfl); all_goals intro K hK)
    · go_simp
      refine (hr0.call1 HBX.out).mono ?_
      rintro e w_1 ⟨a1, rfl, hr1⟩
      go_wp2_with (fail)
      refine hK.out _ _ (fun _ => hHeld.ext hr1.ext) ?_
      clear hK K
      (try simp only [Act.put, List.setIfInBounds_toArray, List.set_cons_zero, List.set_cons_succ])
      (refine wpAnyU_three 3 4 5 (oi := ?_) (oj := ?_) (ok := ?_) (by kernel_rfl) ?_ ?_ ?_ ?_ ?_ ?_; rotate_left 3; (simp only [List.getElem?_toArray, List.getElem?_cons_succ, List.getElem?_cons_zero]; rfl); (simp only [List.getElem?_toArray, List.getElem?_cons_succ, List.getElem?_cons_zero]; rfl); (simp only [List.getElem?_toArray, List.getElem?_cons_succ, List.getElem?_cons_zero]; rfl); all_goals intro K hK)
      · go_simp
        refine (hr1.call3 HBY.out).mono ?_
        rintro e w_2 ⟨b1, rfl, hr2⟩
        go_wp2_with (fail)
        refine hK.out _ _ (fun _ => hHeld.ext hr2.ext) ?_
        clear hK K
        (try simp only [Act.put, List.setIfInBounds_toArray, List.set_cons_zero, List.set_cons_succ])
        (refine wpAnyU_two 4 5 (oi := ?_) (oj := ?_) (by kernel_rfl) ?_ ?_ ?_ ?_; rotate_left 2; (simp only [List.getElem?_toArray, List.getElem?_cons_succ, List.getElem?_cons_zero]; rfl); (simp only [List.getElem?_toArray, List.getElem?_cons_succ, List.getElem?_cons_zero]; rfl); all_goals intro K hK)
        · go_simp
          have hr3 := hr2.alloc7 _ rfl
          try simp only [World.size_alloc] at hr3
          refine hK.out _ _ (fun _ => hHeld.ext hr3.ext) ?_
          clear hK K
          (try simp only [Act.put, List.setIfInBounds_toArray, List.set_cons_zero, List.set_cons_succ])
          (refine wpAnyU_one 5 (o := ?_) (by kernel_rfl) ?_ ?_; rotate_left 1; (simp only [List.getElem?_toArray, List.getElem?_cons_succ, List.getElem?_cons_zero]; rfl); intro K hK)
          go_simp
          have hr4 := hr3.alloc8 _ rfl
          try simp only [World.size_alloc] at hr4
          refine hK.out _ _ (fun _ => hHeld.ext hr4.ext) ?_
          clear hK K
          (try simp only [Act.put, List.setIfInBounds_toArray, List.set_cons_zero, List.set_cons_succ])
          generalize ((w_2.alloc (.cells #[.int .i64 0, .bool false, .slice none 0 0, .slice none 0 0] 31)).alloc (.cells #[.int .i64 0, .bool false, .slice none 0 0, .slice none 0 0] 31)) = Wl at hr4 ⊢
          obtain ⟨W1, hW1, hf1, hf2, hf3, hf4, hf5⟩ := hr4.fin
          obtain ⟨h7a, h7⟩ := hr4.b7 _ rfl
          obtain ⟨h8a, h8⟩ := hr4.b8 _ rfl
          have h78 := hr4.ne _ _ rfl rfl
          have he7 := hr4.ext.set4 h7a 0 (.int .i64 a1.lv) (.bool a1.b) (.slice a1.a a1.n a1.p) (.slice a1.ka a1.kn a1.kp)
          have h8s := h8.of_heap (heap_set4 Wl _ 0 (.int .i64 a1.lv) (.bool a1.b) (.slice a1.a a1.n a1.p) (.slice a1.ka a1.kn a1.kp) _ (Ne.symm h78))
          obtain ⟨q0, q1, q2, q3, f0, f1, f2, f3⟩ := blk4 h7
          obtain ⟨k0, k1, k2, k3, j0, j1, j2, j3⟩ := blk4 h8s
          unfold set4 at k0 k1 k2 k3 j0 j1 j2 j3
          have hS7 := hHeld.ext he7
          (refine wpAnyU_one 6 (o := ?_) (by kernel_rfl) ?_ ?_; rotate_left 1; (simp only [List.getElem?_toArray, List.getElem?_cons_succ, List.getElem?_cons_zero]; rfl); intro K hK)
          go_simp
          refine hK.out _ _ (fun _ => hS7) ?_
          clear hK K
          (try simp only [Act.put, List.setIfInBounds_toArray, List.set_cons_zero, List.set_cons_succ])
          ((refine wpAnyU_one 7 (o := ?_) (by kernel_rfl) ?_ ?_; rotate_left 1; (simp only [List.getElem?_toArray, List.getElem?_cons_succ, List.getElem?_cons_zero]; rfl); intro K hK); go_simp; (refine hK.out _ _ (fun h => absurd rfl h) ?_); clear hK K; refine wpAnyU_done (by kernel_rfl) ?_ _)
          go_wp2_with (fail)
          go_meet
          subst hW1
          exact ⟨_, _, a1, b1, rfl, rfl, hEd.trans hf1, hf2, hf3, hf4, hf5⟩
        · go_simp
          have hr3 := hr2.alloc8 _ rfl
          try simp only [World.size_alloc] at hr3
          refine hK.out _ _ (fun _ => hHeld.ext hr3.ext) ?_
          clear hK K
          (try simp only [Act.put, List.setIfInBounds_toArray, List.set_cons_zero, List.set_cons_succ])
          (refine wpAnyU_one 4 (o := ?_) (by kernel_rfl) ?_ ?_; rotate_left 1; (simp only [List.getElem?_toArray, List.getElem?_cons_succ, List.getElem?_cons_zero]; rfl); intro K hK)
          go_simp
          have hr4 := hr3.alloc7 _ rfl
          try simp only [World.size_alloc] at hr4
          refine hK.out _ _ (fun _ => hHeld.ext hr4.ext) ?_
          clear hK K
          (try simp only [Act.put, List.setIfInBounds_toArray, List.set_cons_zero, List.set_cons_succ])
          generalize ((w_2.alloc (.cells #[.int .i64 0, .bool false, .slice none 0 0, .slice none 0 0] 31)).alloc (.cells #[.int .i64 0, .bool false, .slice none 0 0, .slice none 0 0] 31)) = Wl at hr4 ⊢
          obtain ⟨W1, hW1, hf1, hf2, hf3, hf4, hf5⟩ := hr4.fin
          obtain ⟨h7a, h7⟩ := hr4.b7 _ rfl
          obtain ⟨h8a, h8⟩ := hr4.b8 _ rfl
          have h78 := hr4.ne _ _ rfl rfl
          have he7 := hr4.ext.set4 h7a 0 (.int .i64 a1.lv) (.bool a1.b) (.slice a1.a a1.n a1.p) (.slice a1.ka a1.kn a1.kp)
          have h8s := h8.of_heap (heap_set4 Wl _ 0 (.int .i64 a1.lv) (.bool a1.b) (.slice a1.a a1.n a1.p) (.slice a1.ka a1.kn a1.kp) _ (Ne.symm h78))
          obtain ⟨q0, q1, q2, q3, f0, f1, f2, f3⟩ := blk4 h7
          obtain ⟨k0, k1, k2, k3, j0, j1, j2, j3⟩ := blk4 h8s
          unfold set4 at k0 k1 k2 k3 j0 j1 j2 j3
          have hS7 := hHeld.ext he7
          (refine wpAnyU_one 6 (o := ?_) (by kernel_rfl) ?_ ?_; rotate_left 1; (simp only [List.getElem?_toArray, List.getElem?_cons_succ, List.getElem?_cons_zero]; rfl); intro K hK)
          go_simp
          refine hK.out _ _ (fun _ => hS7) ?_
          clear hK K
          (try simp only [Act.put, List.setIfInBounds_toArray, List.set_cons_zero, List.set_cons_succ])
          ((refine wpAnyU_one 7 (o := ?_) (by kernel_rfl) ?_ ?_; rotate_left 1; (simp only [List.getElem?_toArray, List.getElem?_cons_succ, List.getElem?_cons_zero]; rfl); intro K hK); go_simp; (refine hK.out _ _ (fun h => absurd rfl h) ?_); clear hK K; refine wpAnyU_done (by kernel_rfl) ?_ _)
          go_wp2_with (fail)
          go_meet
          subst hW1
          exact ⟨_, _, a1, b1, rfl, rfl, hEd.trans hf1, hf2, hf3, hf4, hf5⟩
      · go_simp
        have hr2 := hr1.alloc7 _ rfl
        try simp only [World.size_alloc] at hr2
        refine hK.out _ _ (fun _ => hHeld.ext hr2.ext) ?_
        clear hK K
        (try simp only [Act.put, List.setIfInBounds_toArray, List.set_cons_zero, List.set_cons_succ])
        (refine wpAnyU_two 3 5 (oi := ?_) (oj := ?_) (by kernel_rfl) ?_ ?_ ?_ ?_; rotate_left 2; (simp only [List.getElem?_toArray, List.getElem?_cons_succ, List.getElem?_cons_zero]; rfl); (simp only [List.getElem?_toArray, List.getElem?_cons_succ, List.getElem?_cons_zero]; rfl); all_goals intro K hK)
        · go_simp
          refine (hr2.call3 HBY.out).mono ?_
          rintro e w_3 ⟨b1, rfl, hr3⟩
          go_wp2_with (fail)
          refine hK.out _ _ (fun _ => hHeld.ext hr3.ext) ?_
          clear hK K
          (try simp only [Act.put, List.setIfInBounds_toArray, List.set_cons_zero, List.set_cons_succ])
          (refine wpAnyU_one 5 (o := ?_) (by kernel_rfl) ?_ ?_; rotate_left 1; (simp only [List.getElem?_toArray, List.getElem?_cons_succ, List.getElem?_cons_zero]; rfl); intro K hK)
          go_simp
          have hr4 := hr3.alloc8 _ rfl
          try simp only [World.size_alloc] at hr4
          refine hK.out _ _ (fun _ => hHeld.ext hr4.ext) ?_
          clear hK K
          (try simp only [Act.put, List.setIfInBounds_toArray, List.set_cons_zero, List.set_cons_succ])
          generalize (w_3.alloc (.cells #[.int .i64 0, .bool false, .slice none 0 0, .slice none 0 0] 31)) = Wl at hr4 ⊢
          obtain ⟨W1, hW1, hf1, hf2, hf3, hf4, hf5⟩ := hr4.fin
          obtain ⟨h7a, h7⟩ := hr4.b7 _ rfl
          obtain ⟨h8a, h8⟩ := hr4.b8 _ rfl
          have h78 := hr4.ne _ _ rfl rfl
          have he7 := hr4.ext.set4 h7a 0 (.int .i64 a1.lv) (.bool a1.b) (.slice a1.a a1.n a1.p) (.slice a1.ka a1.kn a1.kp)
          have h8s := h8.of_heap (heap_set4 Wl _ 0 (.int .i64 a1.lv) (.bool a1.b) (.slice a1.a a1.n a1.p) (.slice a1.ka a1.kn a1.kp) _ (Ne.symm h78))
          obtain ⟨q0, q1, q2, q3, f0, f1, f2, f3⟩ := blk4 h7
          obtain ⟨k0, k1, k2, k3, j0, j1, j2, j3⟩ := blk4 h8s
          unfold set4 at k0 k1 k2 k3 j0 j1 j2 j3
          have hS7 := hHeld.ext he7
          (refine wpAnyU_one 6 (o := ?_) (by kernel_rfl) ?_ ?_; rotate_left 1; (simp only [List.getElem?_toArray, List.getElem?_cons_succ, List.getElem?_cons_zero]; rfl); intro K hK)
          go_simp
          refine hK.out _ _ (fun _ => hS7) ?_
          clear hK K
          (try simp only [Act.put, List.setIfInBounds_toArray, List.set_cons_zero, List.set_cons_succ])
          ((refine wpAnyU_one 7 (o := ?_) (by kernel_rfl) ?_ ?_; rotate_left 1; (simp only [List.getElem?_toArray, List.getElem?_cons_succ, List.getElem?_cons_zero]; rfl); intro K hK); go_simp; (refine hK.out _ _ (fun h => absurd rfl h) ?_); clear hK K; refine wpAnyU_done (by kernel_rfl) ?_ _)
          go_wp2_with (fail)
          go_meet
          subst hW1
          exact ⟨_, _, a1, b1, rfl, rfl, hEd.trans hf1, hf2, hf3, hf4, hf5⟩
        · go_simp
          have hr3 := hr2.alloc8 _ rfl
          try simp only [World.size_alloc] at hr3
          refine hK.out _ _ (fun _ => hHeld.ext hr3.ext) ?_
          clear hK K
          (try simp only [Act.put, List.setIfInBounds_toArray, List.set_cons_zero, List.set_cons_succ])
          (refine wpAnyU_one 3 (o := ?_) (by kernel_rfl) ?_ ?_; rotate_left 1; (simp only [List.getElem?_toArray, List.getElem?_cons_succ, List.getElem?_cons_zero]; rfl); intro K hK)
          go_simp
          refine (hr3.call3 HBY.out).mono ?_
          rintro e w_4 ⟨b1, rfl, hr4⟩
          go_wp2_with (fail)
          refine hK.out _ _ (fun _ => hHeld.ext hr4.ext) ?_
          clear hK K
          (try simp only [Act.put, List.setIfInBounds_toArray, List.set_cons_zero, List.set_cons_succ])
          obtain ⟨W1, hW1, hf1, hf2, hf3, hf4, hf5⟩ := hr4.fin
          obtain ⟨h7a, h7⟩ := hr4.b7 _ rfl
          obtain ⟨h8a, h8⟩ := hr4.b8 _ rfl
          have h78 := hr4.ne _ _ rfl rfl
          have he7 := hr4.ext.set4 h7a 0 (.int .i64 a1.lv) (.bool a1.b) (.slice a1.a a1.n a1.p) (.slice a1.ka a1.kn a1.kp)
          have h8s := h8.of_heap (heap_set4 w_4 _ 0 (.int .i64 a1.lv) (.bool a1.b) (.slice a1.a a1.n a1.p) (.slice a1.ka a1.kn a1.kp) _ (Ne.symm h78))
          obtain ⟨q0, q1, q2, q3, f0, f1, f2, f3⟩ := blk4 h7
          obtain ⟨k0, k1, k2, k3, j0, j1, j2, j3⟩ := blk4 h8s
          unfold set4 at k0 k1 k2 k3 j0 j1 j2 j3
          have hS7 := hHeld.ext he7
          (refine wpAnyU_one 6 (o := ?_) (by kernel_rfl) ?_ ?_; rotate_left 1; (simp only [List.getElem?_toArray, List.getElem?_cons_succ, List.getElem?_cons_zero]; rfl); intro K hK)
          go_simp
          refine hK.out _ _ (fun _ => hS7) ?_
          clear hK K
          (try simp only [Act.put, List.setIfInBounds_toArray, List.set_cons_zero, List.set_cons_succ])
          ((refine wpAnyU_one 7 (o := ?_) (by kernel_rfl) ?_ ?_; rotate_left 1; (simp only [List.getElem?_toArray, List.getElem?_cons_succ, List.getElem?_cons_zero]; rfl); intro K hK); go_simp; (refine hK.out _ _ (fun h => absurd rfl h) ?_); clear hK K; refine wpAnyU_done (by kernel_rfl) ?_ _)
          go_wp2_with (fail)
          go_meet
          subst hW1
          exact ⟨_, _, a1, b1, rfl, rfl, hEd.trans hf1, hf2, hf3, hf4, hf5⟩
      · go_simp
        have hr2 := hr1.alloc8 _ rfl
        try simp only [World.size_alloc] at hr2
        refine hK.out _ _ (fun _ => hHeld.ext hr2.ext) ?_
        clear hK K
        (try simp only [Act.put, List.setIfInBounds_toArray, List.set_cons_zero, List.set_cons_succ])
        (refine wpAnyU_two 3 4 (oi := ?_) (oj := ?_) (by kernel_rfl) ?_ ?_ ?_ ?_; rotate_left 2; (simp only [List.getElem?_toArray, List.getElem?_cons_succ, List.getElem?_cons_zero]; rfl); (simp only [List.getElem?_toArray, List.getElem?_cons_succ, List.getElem?_cons_zero]; rfl); all_goals intro K hK)
        · go_simp
          refine (hr2.call3 HBY.out).mono ?_
          rintro e w_3 ⟨b1, rfl, hr3⟩
          go_wp2_with (fail)
          refine hK.out _ _ (fun _ => hHeld.ext hr3.ext) ?_
          clear hK K
          (try simp only [Act.put, List.setIfInBounds_toArray, List.set_cons_zero, List.set_cons_succ])
          (refine wpAnyU_one 4 (o := ?_) (by kernel_rfl) ?_ ?_; rotate_left 1; (simp only [List.getElem?_toArray, List.getElem?_cons_succ, List.getElem?_cons_zero]; rfl); intro K hK)
          go_simp
          have hr4 := hr3.alloc7 _ rfl
          try simp only [World.size_alloc] at hr4
          refine hK.out _ _ (fun _ => hHeld.ext hr4.ext) ?_
          clear hK K
          (try simp only [Act.put, List.setIfInBounds_toArray, List.set_cons_zero, List.set_cons_succ])
          generalize (w_3.alloc (.cells #[.int .i64 0, .bool false, .slice none 0 0, .slice none 0 0] 31)) = Wl at hr4 ⊢
          obtain ⟨W1, hW1, hf1, hf2, hf3, hf4, hf5⟩ := hr4.fin
          obtain ⟨h7a, h7⟩ := hr4.b7 _ rfl
          obtain ⟨h8a, h8⟩ := hr4.b8 _ rfl
          have h78 := hr4.ne _ _ rfl rfl
          have he7 := hr4.ext.set4 h7a 0 (.int .i64 a1.lv) (.bool a1.b) (.slice a1.a a1.n a1.p) (.slice a1.ka a1.kn a1.kp)
          have h8s := h8.of_heap (heap_set4 Wl _ 0 (.int .i64 a1.lv) (.bool a1.b) (.slice a1.a a1.n a1.p) (.slice a1.ka a1.kn a1.kp) _ (Ne.symm h78))
          obtain ⟨q0, q1, q2, q3, f0, f1, f2, f3⟩ := blk4 h7
          obtain ⟨k0, k1, k2, k3, j0, j1, j2, j3⟩ := blk4 h8s
          unfold set4 at k0 k1 k2 k3 j0 j1 j2 j3
          have hS7 := hHeld.ext he7
          (refine wpAnyU_one 6 (o := ?_) (by kernel_rfl) ?_ ?_; rotate_left 1; (simp only [List.getElem?_toArray, List.getElem?_cons_succ, List.getElem?_cons_zero]; rfl); intro K hK)
          go_simp
          refine hK.out _ _ (fun _ => hS7) ?_
          clear hK K
          (try simp only [Act.put, List.setIfInBounds_toArray, List.set_cons_zero, List.set_cons_succ])
          ((refine wpAnyU_one 7 (o := ?_) (by kernel_rfl) ?_ ?_; rotate_left 1; (simp only [List.getElem?_toArray, List.getElem?_cons_succ, List.getElem?_cons_zero]; rfl); intro K hK); go_simp; (refine hK.out _ _ (fun h => absurd rfl h) ?_); clear hK K; refine wpAnyU_done (by kernel_rfl) ?_ _)
          go_wp2_with (fail)
          go_meet
          subst hW1
          exact ⟨_, _, a1, b1, rfl, rfl, hEd.trans hf1, hf2, hf3, hf4, hf5⟩
        · go_simp
          have hr3 := hr2.alloc7 _ rfl
          try simp only [World.size_alloc] at hr3
          refine hK.out _ _ (fun _ => hHeld.ext hr3.ext) ?_
          clear hK K
          (try simp only [Act.put, List.setIfInBounds_toArray, List.set_cons_zero, List.set_cons_succ])
          (refine wpAnyU_one 3 (o := ?_) (by kernel_rfl) ?_ ?_; rotate_left 1; (simp only [List.getElem?_toArray, List.getElem?_cons_succ, List.getElem?_cons_zero]; rfl); intro K hK)
          go_simp
          refine (hr3.call3 HBY.out).mono ?_
          rintro e w_4 ⟨b1, rfl, hr4⟩
          go_wp2_with (fail)
          refine hK.out _ _ (fun _ => hHeld.ext hr4.ext) ?_
          clear hK K
          (try simp only [Act.put, List.setIfInBounds_toArray, List.set_cons_zero, List.set_cons_succ])
          obtain ⟨W1, hW1, hf1, hf2, hf3, hf4, hf5⟩ := hr4.fin
          obtain ⟨h7a, h7⟩ := hr4.b7 _ rfl
          obtain ⟨h8a, h8⟩ := hr4.b8 _ rfl
          have h78 := hr4.ne _ _ rfl rfl
          have he7 := hr4.ext.set4 h7a 0 (.int .i64 a1.lv) (.bool a1.b) (.slice a1.a a1.n a1.p) (.slice a1.ka a1.kn a1.kp)
          have h8s := h8.of_heap (heap_set4 w_4 _ 0 (.int .i64 a1.lv) (.bool a1.b) (.slice a1.a a1.n a1.p) (.slice a1.ka a1.kn a1.kp) _ (Ne.symm h78))
          obtain ⟨q0, q1, q2, q3, f0, f1, f2, f3⟩ := blk4 h7
          obtain ⟨k0, k1, k2, k3, j0, j1, j2, j3⟩ := blk4 h8s
          unfold set4 at k0 k1 k2 k3 j0 j1 j2 j3
          have hS7 := hHeld.ext he7
          (refine wpAnyU_one 6 (o := ?_) (by kernel_rfl) ?_ ?_; rotate_left 1; (simp only [List.getElem?_toArray, List.getElem?_cons_succ, List.getElem?_cons_zero]; rfl); intro K hK)
          go_simp
          refine hK.out _ _ (fun _ => hS7) ?_
          clear hK K
          (try simp only [Act.put, List.setIfInBounds_toArray, List.set_cons_zero, List.set_cons_succ])
          ((refine wpAnyU_one 7 (o := ?_) (by kernel_rfl) ?_ ?_; rotate_left 1; (simp only [List.getElem?_toArray, List.getElem?_cons_succ, List.getElem?_cons_zero]; rfl); intro K hK); go_simp; (refine hK.out _ _ (fun h => absurd rfl h) ?_); clear hK K; refine wpAnyU_done (by kernel_rfl) ?_ _)
          go_wp2_with (fail)
          go_meet
          subst hW1
          exact ⟨_, _, a1, b1, rfl, rfl, hEd.trans hf1, hf2, hf3, hf4, hf5⟩
    · go_simp
      have hr1 := hr0.alloc7 _ rfl
      try simp only [World.size_alloc] at hr1
      refine hK.out _ _ (fun _ => hHeld.ext hr1.ext) ?_
      clear hK K
      (try simp only [Act.put, List.setIfInBounds_toArray, List.set_cons_zero, List.set_cons_succ])
      (refine wpAnyU_two 1 5 (oi := ?_) (oj := ?_) (by kernel_rfl) ?_ ?_ ?_ ?_; rotate_left 2; (simp only [List.getElem?_toArray, List.getElem?_cons_succ, List.getElem?_cons_zero]; rfl); (simp only [List.getElem?_toArray, List.getElem?_cons_succ, List.getElem?_cons_zero]; rfl); all_goals intro K hK)
      · go_simp
        refine (hr1.call1 HBX.out).mono ?_
        rintro e w_2 ⟨a1, rfl, hr2⟩
        go_wp2_with (fail)
        refine hK.out _ _ (fun _ => hHeld.ext hr2.ext) ?_
        clear hK K
        (try simp only [Act.put, List.setIfInBounds_toArray, List.set_cons_zero, List.set_cons_succ])
        (refine wpAnyU_two 3 5 (oi := ?_) (oj := ?_) (by kernel_rfl) ?_ ?_ ?_ ?_; rotate_left 2; (simp only [List.getElem?_toArray, List.getElem?_cons_succ, List.getElem?_cons_zero]; rfl); (simp only [List.getElem?_toArray, List.getElem?_cons_succ, List.getElem?_cons_zero]; rfl); all_goals intro K hK)
        · go_simp
          refine (hr2.call3 HBY.out).mono ?_
          rintro e w_3 ⟨b1, rfl, hr3⟩
          go_wp2_with (fail)
          refine hK.out _ _ (fun _ => hHeld.ext hr3.ext) ?_
          clear hK K
          (try simp only [Act.put, List.setIfInBounds_toArray, List.set_cons_zero, List.set_cons_succ])
          (refine wpAnyU_one 5 (o := ?_) (by kernel_rfl) ?_ ?_; rotate_left 1; (simp only [List.getElem?_toArray, List.getElem?_cons_succ, List.getElem?_cons_zero]; rfl); intro K hK)
          go_simp
          have hr4 := hr3.alloc8 _ rfl
          try simp only [World.size_alloc] at hr4
          refine hK.out _ _ (fun _ => hHeld.ext hr4.ext) ?_
          clear hK K
          (try simp only [Act.put, List.setIfInBounds_toArray, List.set_cons_zero, List.set_cons_succ])
          generalize (w_3.alloc (.cells #[.int .i64 0, .bool false, .slice none 0 0, .slice none 0 0] 31)) = Wl at hr4 ⊢
          obtain ⟨W1, hW1, hf1, hf2, hf3, hf4, hf5⟩ := hr4.fin
          obtain ⟨h7a, h7⟩ := hr4.b7 _ rfl
          obtain ⟨h8a, h8⟩ := hr4.b8 _ rfl
          have h78 := hr4.ne _ _ rfl rfl
          have he7 := hr4.ext.set4 h7a 0 (.int .i64 a1.lv) (.bool a1.b) (.slice a1.a a1.n a1.p) (.slice a1.ka a1.kn a1.kp)
          have h8s := h8.of_heap (heap_set4 Wl _ 0 (.int .i64 a1.lv) (.bool a1.b) (.slice a1.a a1.n a1.p) (.slice a1.ka a1.kn a1.kp) _ (Ne.symm h78))
          obtain ⟨q0, q1, q2, q3, f0, f1, f2, f3⟩ := blk4 h7
          obtain ⟨k0, k1, k2, k3, j0, j1, j2, j3⟩ := blk4 h8s
          unfold set4 at k0 k1 k2 k3 j0 j1 j2 j3
          have hS7 := hHeld.ext he7
          (refine wpAnyU_one 6 (o := ?_) (by kernel_rfl) ?_ ?_; rotate_left 1; (simp only [List.getElem?_toArray, List.getElem?_cons_succ, List.getElem?_cons_zero]; rfl); intro K hK)
          go_simp
          refine hK.out _ _ (fun _ => hS7) ?_
          clear hK K
          (try simp only [Act.put, List.setIfInBounds_toArray, List.set_cons_zero, List.set_cons_succ])
          ((refine wpAnyU_one 7 (o := ?_) (by kernel_rfl) ?_ ?_; rotate_left 1; (simp only [List.getElem?_toArray, List.getElem?_cons_succ, List.getElem?_cons_zero]; rfl); intro K hK); go_simp; (refine hK.out _ _ (fun h => absurd rfl h) ?_); clear hK K; refine wpAnyU_done (by kernel_rfl) ?_ _)
          go_wp2_with (fail)
          go_meet
          subst hW1
          exact ⟨_, _, a1, b1, rfl, rfl, hEd.trans hf1, hf2, hf3, hf4, hf5⟩
        · go_simp
          have hr3 := hr2.alloc8 _ rfl
          try simp only [World.size_alloc] at hr3
          refine hK.out _ _ (fun _ => hHeld.ext hr3.ext) ?_
          clear hK K
          (try simp only [Act.put, List.setIfInBounds_toArray, List.set_cons_zero, List.set_cons_succ])
          (refine wpAnyU_one 3 (o := ?_) (by kernel_rfl) ?_ ?_; rotate_left 1; (simp only [List.getElem?_toArray, List.getElem?_cons_succ, List.getElem?_cons_zero]; rfl); intro K hK)
          go_simp
          refine (hr3.call3 HBY.out).mono ?_
          rintro e w_4 ⟨b1, rfl, hr4⟩
          go_wp2_with (fail)
          refine hK.out _ _ (fun _ => hHeld.ext hr4.ext) ?_
          clear hK K
          (try simp only [Act.put, List.setIfInBounds_toArray, List.set_cons_zero, List.set_cons_succ])
          obtain ⟨W1, hW1, hf1, hf2, hf3, hf4, hf5⟩ := hr4.fin
          obtain ⟨h7a, h7⟩ := hr4.b7 _ rfl
          obtain ⟨h8a, h8⟩ := hr4.b8 _ rfl
          have h78 := hr4.ne _ _ rfl rfl
          have he7 := hr4.ext.set4 h7a 0 (.int .i64 a1.lv) (.bool a1.b) (.slice a1.a a1.n a1.p) (.slice a1.ka a1.kn a1.kp)
          have h8s := h8.of_heap (heap_set4 w_4 _ 0 (.int .i64 a1.lv) (.bool a1.b) (.slice a1.a a1.n a1.p) (.slice a1.ka a1.kn a1.kp) _ (Ne.symm h78))
          obtain ⟨q0, q1, q2, q3, f0, f1, f2, f3⟩ := blk4 h7
          obtain ⟨k0, k1, k2, k3, j0, j1, j2, j3⟩ := blk4 h8s
          unfold set4 at k0 k1 k2 k3 j0 j1 j2 j3
          have hS7 := hHeld.ext he7
          (refine wpAnyU_one 6 (o := ?_) (by kernel_rfl) ?_ ?_; rotate_left 1; (simp only [List.getElem?_toArray, List.getElem?_cons_succ, List.getElem?_cons_zero]; rfl); intro K hK)
          go_simp
          refine hK.out _ _ (fun _ => hS7) ?_
          clear hK K
          (try simp only [Act.put, List.setIfInBounds_toArray, List.set_cons_zero, List.set_cons_succ])
          ((refine wpAnyU_one 7 (o := ?_) (by kernel_rfl) ?_ ?_; rotate_left 1; (simp only [List.getElem?_toArray, List.getElem?_cons_succ, List.getElem?_cons_zero]; rfl); intro K hK); go_simp; (refine hK.out _ _ (fun h => absurd rfl h) ?_); clear hK K; refine wpAnyU_done (by kernel_rfl) ?_ _)
          go_wp2_with (fail)
          go_meet
          subst hW1
          exact ⟨_, _, a1, b1, rfl, rfl, hEd.trans hf1, hf2, hf3, hf4, hf5⟩
      · go_simp
        have hr2 := hr1.alloc8 _ rfl
        try simp only [World.size_alloc] at hr2
        refine hK.out _ _ (fun _ => hHeld.ext hr2.ext) ?_
        clear hK K
        (try simp only [Act.put, List.setIfInBounds_toArray, List.set_cons_zero, List.set_cons_succ])
        (refine wpAnyU_one 1 (o := ?_) (by kernel_rfl) ?_ ?_; rotate_left 1; (simp only [List.getElem?_toArray, List.getElem?_cons_succ, List.getElem?_cons_zero]; rfl); intro K hK)
        go_simp
        refine (hr2.call1 HBX.out).mono ?_
        rintro e w_3 ⟨a1, rfl, hr3⟩
        go_wp2_with (fail)
        refine hK.out _ _ (fun _ => hHeld.ext hr3.ext) ?_
        clear hK K
        (try simp only [Act.put, List.setIfInBounds_toArray, List.set_cons_zero, List.set_cons_succ])
        (refine wpAnyU_one 3 (o := ?_) (by kernel_rfl) ?_ ?_; rotate_left 1; (simp only [List.getElem?_toArray, List.getElem?_cons_succ, List.getElem?_cons_zero]; rfl); intro K hK)
        go_simp
        refine (hr3.call3 HBY.out).mono ?_
        rintro e w_4 ⟨b1, rfl, hr4⟩
        go_wp2_with (fail)
        refine hK.out _ _ (fun _ => hHeld.ext hr4.ext) ?_
        clear hK K
        (try simp only [Act.put, List.setIfInBounds_toArray, List.set_cons_zero, List.set_cons_succ])
        obtain ⟨W1, hW1, hf1, hf2, hf3, hf4, hf5⟩ := hr4.fin
        obtain ⟨h7a, h7⟩ := hr4.b7 _ rfl
        obtain ⟨h8a, h8⟩ := hr4.b8 _ rfl
        have h78 := hr4.ne _ _ rfl rfl
        have he7 := hr4.ext.set4 h7a 0 (.int .i64 a1.lv) (.bool a1.b) (.slice a1.a a1.n a1.p) (.slice a1.ka a1.kn a1.kp)
        have h8s := h8.of_heap (heap_set4 w_4 _ 0 (.int .i64 a1.lv) (.bool a1.b) (.slice a1.a a1.n a1.p) (.slice a1.ka a1.kn a1.kp) _ (Ne.symm h78))
        obtain ⟨q0, q1, q2, q3, f0, f1, f2, f3⟩ := blk4 h7
        obtain ⟨k0, k1, k2, k3, j0, j1, j2, j3⟩ := blk4 h8s
        unfold set4 at k0 k1 k2 k3 j0 j1 j2 j3
        have hS7 := hHeld.ext he7
        (refine wpAnyU_one 6 (o := ?_) (by kernel_rfl) ?_ ?_; rotate_left 1; (simp only [List.getElem?_toArray, List.getElem?_cons_succ, List.getElem?_cons_zero]; rfl); intro K hK)
        go_simp
        refine hK.out _ _ (fun _ => hS7) ?_
        clear hK K
        (try simp only [Act.put, List.setIfInBounds_toArray, List.set_cons_zero, List.set_cons_succ])
        ((refine wpAnyU_one 7 (o := ?_) (by kernel_rfl) ?_ ?_; rotate_left 1; (simp only [List.getElem?_toArray, List.getElem?_cons_succ, List.getElem?_cons_zero]; rfl); intro K hK); go_simp; (refine hK.out _ _ (fun h => absurd rfl h) ?_); clear hK K; refine wpAnyU_done (by kernel_rfl) ?_ _)
        go_wp2_with (fail)
        go_meet
        subst hW1
        exact ⟨_, _, a1, b1, rfl, rfl, hEd.trans hf1, hf2, hf3, hf4, hf5⟩
    · go_simp
      have hr1 := hr0.alloc8 _ rfl
      try simp only [World.size_alloc] at hr1
      refine hK.out _ _ (fun _ => hHeld.ext hr1.ext) ?_
      clear hK K
      (try simp only [Act.put, List.setIfInBounds_toArray, List.set_cons_zero, List.set_cons_succ])
      (refine wpAnyU_two 1 4 (oi := ?_) (oj := ?_) (by kernel_rfl) ?_ ?_ ?_ ?_; rotate_left 2; (simp only [List.getElem?_toArray, List.getElem?_cons_succ, List.getElem?_cons_zero]; rfl); (simp only [List.getElem?_toArray, List.getElem?_cons_succ, List.getElem?_cons_zero]; rfl); all_goals intro K hK)
      · go_simp
        refine (hr1.call1 HBX.out).mono ?_
        rintro e w_2 ⟨a1, rfl, hr2⟩
        go_wp2_with (fail)
        refine hK.out _ _ (fun _ => hHeld.ext hr2.ext) ?_
        clear hK K
        (try simp only [Act.put, List.setIfInBounds_toArray, List.set_cons_zero, List.set_cons_succ])
        (refine wpAnyU_two 3 4 (oi := ?_) (oj := ?_) (by kernel_rfl) ?_ ?_ ?_ ?_; rotate_left 2; (simp only [List.getElem?_toArray, List.getElem?_cons_succ, List.getElem?_cons_zero]; rfl); (simp only [List.getElem?_toArray, List.getElem?_cons_succ, List.getElem?_cons_zero]; rfl); all_goals intro K hK)
        · go_simp
          refine (hr2.call3 HBY.out).mono ?_
          rintro e w_3 ⟨b1, rfl, hr3⟩
          go_wp2_with (fail)
          refine hK.out _ _ (fun _ => hHeld.ext hr3.ext) ?_
          clear hK K
          (try simp only [Act.put, List.setIfInBounds_toArray, List.set_cons_zero, List.set_cons_succ])
          (refine wpAnyU_one 4 (o := ?_) (by kernel_rfl) ?_ ?_; rotate_left 1; (simp only [List.getElem?_toArray, List.getElem?_cons_succ, List.getElem?_cons_zero]; rfl); intro K hK)
          go_simp
          have hr4 := hr3.alloc7 _ rfl
          try simp only [World.size_alloc] at hr4
          refine hK.out _ _ (fun _ => hHeld.ext hr4.ext) ?_
          clear hK K
          (try simp only [Act.put, List.setIfInBounds_toArray, List.set_cons_zero, List.set_cons_succ])
          generalize (w_3.alloc (.cells #[.int .i64 0, .bool false, .slice none 0 0, .slice none 0 0] 31)) = Wl at hr4 ⊢
          obtain ⟨W1, hW1, hf1, hf2, hf3, hf4, hf5⟩ := hr4.fin
          obtain ⟨h7a, h7⟩ := hr4.b7 _ rfl
          obtain ⟨h8a, h8⟩ := hr4.b8 _ rfl
          have h78 := hr4.ne _ _ rfl rfl
          have he7 := hr4.ext.set4 h7a 0 (.int .i64 a1.lv) (.bool a1.b) (.slice a1.a a1.n a1.p) (.slice a1.ka a1.kn a1.kp)
          have h8s := h8.of_heap (heap_set4 Wl _ 0 (.int .i64 a1.lv) (.bool a1.b) (.slice a1.a a1.n a1.p) (.slice a1.ka a1.kn a1.kp) _ (Ne.symm h78))
          obtain ⟨q0, q1, q2, q3, f0, f1, f2, f3⟩ := blk4 h7
          obtain ⟨k0, k1, k2, k3, j0, j1, j2, j3⟩ := blk4 h8s
          unfold set4 at k0 k1 k2 k3 j0 j1 j2 j3
          have hS7 := hHeld.ext he7
          (refine wpAnyU_one 6 (o := ?_) (by kernel_rfl) ?_ ?_; rotate_left 1; (simp only [List.getElem?_toArray, List.getElem?_cons_succ, List.getElem?_cons_zero]; rfl); intro K hK)
          go_simp
          refine hK.out _ _ (fun _ => hS7) ?_
          clear hK K
          (try simp only [Act.put, List.setIfInBounds_toArray, List.set_cons_zero, List.set_cons_succ])
          ((refine wpAnyU_one 7 (o := ?_) (by kernel_rfl) ?_ ?_; rotate_left 1; (simp only [List.getElem?_toArray, List.getElem?_cons_succ, List.getElem?_cons_zero]; rfl); intro K hK); go_simp; (refine hK.out _ _ (fun h => absurd rfl h) ?_); clear hK K; refine wpAnyU_done (by kernel_rfl) ?_ _)
          go_wp2_with (fail)
          go_meet
          subst hW1
          exact ⟨_, _, a1, b1, rfl, rfl, hEd.trans hf1, hf2, hf3, hf4, hf5⟩
        · go_simp
          have hr3 := hr2.alloc7 _ rfl
          try simp only [World.size_alloc] at hr3
          refine hK.out _ _ (fun _ => hHeld.ext hr3.ext) ?_
          clear hK K
          (try simp only [Act.put, List.setIfInBounds_toArray, List.set_cons_zero, List.set_cons_succ])
          (refine wpAnyU_one 3 (o := ?_) (by kernel_rfl) ?_ ?_; rotate_left 1; (simp only [List.getElem?_toArray, List.getElem?_cons_succ, List.getElem?_cons_zero]; rfl); intro K hK)
          go_simp
          refine (hr3.call3 HBY.out).mono ?_
          rintro e w_4 ⟨b1, rfl, hr4⟩
          go_wp2_with (fail)
          refine hK.out _ _ (fun _ => hHeld.ext hr4.ext) ?_
          clear hK K
          (try simp only [Act.put, List.setIfInBounds_toArray, List.set_cons_zero, List.set_cons_succ])
          obtain ⟨W1, hW1, hf1, hf2, hf3, hf4, hf5⟩ := hr4.fin
          obtain ⟨h7a, h7⟩ := hr4.b7 _ rfl
          obtain ⟨h8a, h8⟩ := hr4.b8 _ rfl
          have h78 := hr4.ne _ _ rfl rfl
          have he7 := hr4.ext.set4 h7a 0 (.int .i64 a1.lv) (.bool a1.b) (.slice a1.a a1.n a1.p) (.slice a1.ka a1.kn a1.kp)
          have h8s := h8.of_heap (heap_set4 w_4 _ 0 (.int .i64 a1.lv) (.bool a1.b) (.slice a1.a a1.n a1.p) (.slice a1.ka a1.kn a1.kp) _ (Ne.symm h78))
          obtain ⟨q0, q1, q2, q3, f0, f1, f2, f3⟩ := blk4 h7
          obtain ⟨k0, k1, k2, k3, j0, j1, j2, j3⟩ := blk4 h8s
          unfold set4 at k0 k1 k2 k3 j0 j1 j2 j3
          have hS7 := hHeld.ext he7
          (refine wpAnyU_one 6 (o := ?_) (by kernel_rfl) ?_ ?_; rotate_left 1; (simp only [List.getElem?_toArray, List.getElem?_cons_succ, List.getElem?_cons_zero]; rfl); intro K hK)
          go_simp
          refine hK.out _ _ (fun _ => hS7) ?_
          clear hK K
          (try simp only [Act.put, List.setIfInBounds_toArray, List.set_cons_zero, List.set_cons_succ])
          ((refine wpAnyU_one 7 (o := ?_) (by kernel_rfl) ?_ ?_; rotate_left 1; (simp only [List.getElem?_toArray, List.getElem?_cons_succ, List.getElem?_cons_zero]; rfl); intro K hK); go_simp; (refine hK.out _ _ (fun h => absurd rfl h) ?_); clear hK K; refine wpAnyU_done (by kernel_rfl) ?_ _)
          go_wp2_with (fail)
          go_meet
          subst hW1
          exact ⟨_, _, a1, b1, rfl, rfl, hEd.trans hf1, hf2, hf3, hf4, hf5⟩
      · go_simp
        have hr2 := hr1.alloc7 _ rfl
        try simp only [World.size_alloc] at hr2
        refine hK.out _ _ (fun _ => hHeld.ext hr2.ext) ?_
        clear hK K
        (try simp only [Act.put, List.setIfInBounds_toArray, List.set_cons_zero, List.set_cons_succ])
        (refine wpAnyU_one 1 (o := ?_) (by kernel_rfl) ?_ ?_; rotate_left 1; (simp only [List.getElem?_toArray, List.getElem?_cons_succ, List.getElem?_cons_zero]; rfl); intro K hK)
        go_simp
        refine (hr2.call1 HBX.out).mono ?_
        rintro e w_3 ⟨a1, rfl, hr3⟩
        go_wp2_with (fail)
        refine hK.out _ _ (fun _ => hHeld.ext hr3.ext) ?_
        clear hK K
        (try simp only [Act.put, List.setIfInBounds_toArray, List.set_cons_zero, List.set_cons_succ])
        (refine wpAnyU_one 3 (o := ?_) (by kernel_rfl) ?_ ?_; rotate_left 1; (simp only [List.getElem?_toArray, List.getElem?_cons_succ, List.getElem?_cons_zero]; rfl); intro K hK)
        go_simp
        refine (hr3.call3 HBY.out).mono ?_
        rintro e w_4 ⟨b1, rfl, hr4⟩
        go_wp2_with (fail)
        refine hK.out _ _ (fun _ => hHeld.ext hr4.ext) ?_
        clear hK K
        (try simp only [Act.put, List.setIfInBounds_toArray, List.set_cons_zero, List.set_cons_succ])
        obtain ⟨W1, hW1, hf1, hf2, hf3, hf4, hf5⟩ := hr4.fin
        obtain ⟨h7a, h7⟩ := hr4.b7 _ rfl
        obtain ⟨h8a, h8⟩ := hr4.b8 _ rfl
        have h78 := hr4.ne _ _ rfl rfl
        have he7 := hr4.ext.set4 h7a 0 (.int .i64 a1.lv) (.bool a1.b) (.slice a1.a a1.n a1.p) (.slice a1.ka a1.kn a1.kp)
        have h8s := h8.of_heap (heap_set4 w_4 _ 0 (.int .i64 a1.lv) (.bool a1.b) (.slice a1.a a1.n a1.p) (.slice a1.ka a1.kn a1.kp) _ (Ne.symm h78))
        obtain ⟨q0, q1, q2, q3, f0, f1, f2, f3⟩ := blk4 h7
        obtain ⟨k0, k1, k2, k3, j0, j1, j2, j3⟩ := blk4 h8s
        unfold set4 at k0 k1 k2 k3 j0 j1 j2 j3
        have hS7 := hHeld.ext he7
        (refine wpAnyU_one 6 (o := ?_) (by kernel_rfl) ?_ ?_; rotate_left 1; (simp only [List.getElem?_toArray, List.getElem?_cons_succ, List.getElem?_cons_zero]; rfl); intro K hK)
        go_simp
        refine hK.out _ _ (fun _ => hS7) ?_
        clear hK K
        (try simp only [Act.put, List.setIfInBounds_toArray, List.set_cons_zero, List.set_cons_succ])
        ((refine wpAnyU_one 7 (o := ?_) (by kernel_rfl) ?_ ?_; rotate_left 1; (simp only [List.getElem?_toArray, List.getElem?_cons_succ, List.getElem?_cons_zero]; rfl); intro K hK); go_simp; (refine hK.out _ _ (fun h => absurd rfl h) ?_); clear hK K; refine wpAnyU_done (by kernel_rfl) ?_ _)
        go_wp2_with (fail)
        go_meet
        subst hW1
        exact ⟨_, _, a1, b1, rfl, rfl, hEd.trans hf1, hf2, hf3, hf4, hf5⟩
  case rest =>
    obtain ⟨g7, g8, a, b, rfl, rfl, hEx, hA4, hB4, hAl, hBm⟩ := hcut
    have hxw := hEx.trans (Ext.refl _).drew
    have HX7 := Lib.hid (HX0.out.ext hxw)
    have HY7 := Lib.hid (HY0.out.ext hxw)
    have HA7 := Lib.hid (hAl.ext (Ext.refl _).drew)
    have HB7 := Lib.hid (hBm.ext (Ext.refl _).drew)
    have HE7 := Lib.hid (HE4.out.trans hxw)
    have HSN : Hid (Sim l (norm l)) := (sim_norm HX0.out.nnT).symm
    have HSB : Hid (simB l m = true ↔ Sim l m) := (bt_simB HX0.out.nnT HY0.out.nnT).1
    have HS7 : Hid (SP4 w3.heap.size x y g7 g8 a b _) := SP4.ext ⟨HS0.out.1.ext hEx, HS0.out.2.ext hEx, hA4, hB4⟩ (Ext.refl _).drew
    clear hEx hA4 hB4 hAl hBm hxw HBX HBY HS2 HX0 HY0 HS0 HE4
    go_upto_region 7 with (fail)
    refine wp_region_u (SP4 w3.heap.size x y g7 g8 a b) 1000 (by kernel_rfl) HS7.out (fun hHeld => ?_)
    ((refine wpAnyU_take 0 (oi := ?_) (v := ?_) (by kernel_rfl) (by kernel_rfl) (by kernel_rfl) (by kernel_rfl) (by first | exact hSn | exact hHeld) ?_ ?_ ?_ ?_ ?_; rotate_left 2; (simp only [List.getElem?_toArray, List.getElem?_cons_succ, List.getElem?_cons_zero]; rfl); rfl; (intro wS hSw; obtain ⟨⟨A1, A2, A3, A4⟩, ⟨B1, B2, B3, B4⟩, ⟨C1, C2, C3, C4⟩, D1, D2, D3, D4⟩ := hSw; go_simp; try with_reducible rfl); (exact fun _ _ _ h => h); (try simp only [Act.put, List.setIfInBounds_toArray, List.set_cons_zero, List.set_cons_succ])); (refine wpAnyU_take 1 (oi := ?_) (v := ?_) (by kernel_rfl) (by kernel_rfl) (by kernel_rfl) (by kernel_rfl) (by first | exact hSn | exact hHeld) ?_ ?_ ?_ ?_ ?_; rotate_left 2; (simp only [List.getElem?_toArray, List.getElem?_cons_succ, List.getElem?_cons_zero]; rfl); rfl; (intro wS hSw; obtain ⟨⟨A1, A2, A3, A4⟩, ⟨B1, B2, B3, B4⟩, ⟨C1, C2, C3, C4⟩, D1, D2, D3, D4⟩ := hSw; go_simp; try with_reducible rfl); (exact fun _ _ _ h => h); (try simp only [Act.put, List.setIfInBounds_toArray, List.set_cons_zero, List.set_cons_succ])))
    ((refine wpAnyU_one 2 (o := ?_) (by kernel_rfl) ?_ ?_; rotate_left 1; (simp only [List.getElem?_toArray, List.getElem?_cons_succ, List.getElem?_cons_zero]; rfl); intro K hK); go_simp; (refine (bt_terms x l _ HX7.out).mono ?_); rintro e_ wz ⟨v1, rfl, hv1, he1⟩; go_wp2_with (fail); (try clear hSn); (have hSn := hHeld.ext he1); (refine hK.out _ _ (fun _ => hSn) ?_); clear hK K; (try simp only [Act.put, List.setIfInBounds_toArray, List.set_cons_zero, List.set_cons_succ]))
    ((refine wpAnyU_one 3 (o := ?_) (by kernel_rfl) ?_ ?_; rotate_left 1; (simp only [List.getElem?_toArray, List.getElem?_cons_succ, List.getElem?_cons_zero]; rfl); intro K hK); go_simp; (refine (bt_canon x a l v1 _ (HX7.out.ext he1) (HA7.out.ext he1) hv1).mono ?_); rintro e_ wz ⟨rfl, he2⟩; go_wp2_with (fail); (try clear hSn); (have hSn := hHeld.ext (he1.trans he2)); (refine hK.out _ _ (fun _ => hSn) ?_); clear hK K; (try simp only [Act.put, List.setIfInBounds_toArray, List.set_cons_zero, List.set_cons_succ]))
    have hE2 := he1.trans he2
    clear he1 he2 hv1
    ((refine wpAnyU_take 4 (oi := ?_) (v := ?_) (by kernel_rfl) (by kernel_rfl) (by kernel_rfl) (by kernel_rfl) (by first | exact hSn | exact hHeld) ?_ ?_ ?_ ?_ ?_; rotate_left 2; (simp only [List.getElem?_toArray, List.getElem?_cons_succ, List.getElem?_cons_zero]; rfl); rfl; (intro wS hSw; obtain ⟨⟨A1, A2, A3, A4⟩, ⟨B1, B2, B3, B4⟩, ⟨C1, C2, C3, C4⟩, D1, D2, D3, D4⟩ := hSw; go_simp; try with_reducible rfl); (exact fun _ _ _ h => h); (try simp only [Act.put, List.setIfInBounds_toArray, List.set_cons_zero, List.set_cons_succ])); (refine wpAnyU_take 5 (oi := ?_) (v := ?_) (by kernel_rfl) (by kernel_rfl) (by kernel_rfl) (by kernel_rfl) (by first | exact hSn | exact hHeld) ?_ ?_ ?_ ?_ ?_; rotate_left 2; (simp only [List.getElem?_toArray, List.getElem?_cons_succ, List.getElem?_cons_zero]; rfl); rfl; (intro wS hSw; obtain ⟨⟨A1, A2, A3, A4⟩, ⟨B1, B2, B3, B4⟩, ⟨C1, C2, C3, C4⟩, D1, D2, D3, D4⟩ := hSw; go_simp; try with_reducible rfl); (exact fun _ _ _ h => h); (try simp only [Act.put, List.setIfInBounds_toArray, List.set_cons_zero, List.set_cons_succ])); (refine wpAnyU_take 6 (oi := ?_) (v := ?_) (by kernel_rfl) (by kernel_rfl) (by kernel_rfl) (by kernel_rfl) (by first | exact hSn | exact hHeld) ?_ ?_ ?_ ?_ ?_; rotate_left 2; (simp only [List.getElem?_toArray, List.getElem?_cons_succ, List.getElem?_cons_zero]; rfl); rfl; (intro wS hSw; obtain ⟨⟨A1, A2, A3, A4⟩, ⟨B1, B2, B3, B4⟩, ⟨C1, C2, C3, C4⟩, D1, D2, D3, D4⟩ := hSw; go_simp; try with_reducible rfl); (exact fun _ _ _ h => h); (try simp only [Act.put, List.setIfInBounds_toArray, List.set_cons_zero, List.set_cons_succ])); (refine wpAnyU_take 7 (oi := ?_) (v := ?_) (by kernel_rfl) (by kernel_rfl) (by kernel_rfl) (by kernel_rfl) (by first | exact hSn | exact hHeld) ?_ ?_ ?_ ?_ ?_; rotate_left 2; (simp only [List.getElem?_toArray, List.getElem?_cons_succ, List.getElem?_cons_zero]; rfl); rfl; (intro wS hSw; obtain ⟨⟨A1, A2, A3, A4⟩, ⟨B1, B2, B3, B4⟩, ⟨C1, C2, C3, C4⟩, D1, D2, D3, D4⟩ := hSw; go_simp; try with_reducible rfl); (exact fun _ _ _ h => h); (try simp only [Act.put, List.setIfInBounds_toArray, List.set_cons_zero, List.set_cons_succ])))
    ((refine wpAnyU_one 8 (o := ?_) (by kernel_rfl) ?_ ?_; rotate_left 1; (simp only [List.getElem?_toArray, List.getElem?_cons_succ, List.getElem?_cons_zero]; rfl); intro K hK); go_simp; (refine (bt_terms x l _ (HX7.out.ext hE2)).mono ?_); rintro e_ wz ⟨v2, rfl, hv2, he3⟩; go_wp2_with (fail); (try clear hSn); (have hSn := hHeld.ext (hE2.trans he3)); (refine hK.out _ _ (fun _ => hSn) ?_); clear hK K; (try simp only [Act.put, List.setIfInBounds_toArray, List.set_cons_zero, List.set_cons_succ]))
    ((refine wpAnyU_one 9 (o := ?_) (by kernel_rfl) ?_ ?_; rotate_left 1; (simp only [List.getElem?_toArray, List.getElem?_cons_succ, List.getElem?_cons_zero]; rfl); intro K hK); go_simp; (refine (bt_of x l v2 _ (HX7.out.ext (hE2.trans he3)) hv2).mono ?_); rintro e_ wz ⟨c, rfl, hc, he4⟩; go_wp2_with (fail); (try clear hSn); (have hSn := hHeld.ext ((hE2.trans he3).trans he4)); (refine hK.out _ _ (fun _ => hSn) ?_); clear hK K; (try simp only [Act.put, List.setIfInBounds_toArray, List.set_cons_zero, List.set_cons_succ]))
    ((refine wpAnyU_one 10 (o := ?_) (by kernel_rfl) ?_ ?_; rotate_left 1; (simp only [List.getElem?_toArray, List.getElem?_cons_succ, List.getElem?_cons_zero]; rfl); intro K hK); go_simp; (refine (eq_true_of a c l (norm l) _ (HA7.out.ext ((hE2.trans he3).trans he4)) hc HSN.out).mono ?_); rintro e_ wz ⟨rfl, he5⟩; go_wp2_with (fail); (try clear hSn); (have hSn := hHeld.ext (((hE2.trans he3).trans he4).trans he5)); (refine hK.out _ _ (fun _ => hSn) ?_); clear hK K; (try simp only [Act.put, List.setIfInBounds_toArray, List.set_cons_zero, List.set_cons_succ]))
    have hE5 := ((hE2.trans he3).trans he4).trans he5
    clear hE2 he3 he4 he5 hv2 hc
    ((refine wpAnyU_take 11 (oi := ?_) (v := ?_) (by kernel_rfl) (by kernel_rfl) (by kernel_rfl) (by kernel_rfl) (by first | exact hSn | exact hHeld) ?_ ?_ ?_ ?_ ?_; rotate_left 2; (simp only [List.getElem?_toArray, List.getElem?_cons_succ, List.getElem?_cons_zero]; rfl); rfl; (intro wS hSw; obtain ⟨⟨A1, A2, A3, A4⟩, ⟨B1, B2, B3, B4⟩, ⟨C1, C2, C3, C4⟩, D1, D2, D3, D4⟩ := hSw; go_simp; try with_reducible rfl); (exact fun _ _ _ h => h); (try simp only [Act.put, List.setIfInBounds_toArray, List.set_cons_zero, List.set_cons_succ])); (refine wpAnyU_take 12 (oi := ?_) (v := ?_) (by kernel_rfl) (by kernel_rfl) (by kernel_rfl) (by kernel_rfl) (by first | exact hSn | exact hHeld) ?_ ?_ ?_ ?_ ?_; rotate_left 2; (simp only [List.getElem?_toArray, List.getElem?_cons_succ, List.getElem?_cons_zero]; rfl); rfl; (intro wS hSw; obtain ⟨⟨A1, A2, A3, A4⟩, ⟨B1, B2, B3, B4⟩, ⟨C1, C2, C3, C4⟩, D1, D2, D3, D4⟩ := hSw; go_simp; try with_reducible rfl); (exact fun _ _ _ h => h); (try simp only [Act.put, List.setIfInBounds_toArray, List.set_cons_zero, List.set_cons_succ])); (refine wpAnyU_take 13 (oi := ?_) (v := ?_) (by kernel_rfl) (by kernel_rfl) (by kernel_rfl) (by kernel_rfl) (by first | exact hSn | exact hHeld) ?_ ?_ ?_ ?_ ?_; rotate_left 2; (simp only [List.getElem?_toArray, List.getElem?_cons_succ, List.getElem?_cons_zero]; rfl); rfl; (intro wS hSw; obtain ⟨⟨A1, A2, A3, A4⟩, ⟨B1, B2, B3, B4⟩, ⟨C1, C2, C3, C4⟩, D1, D2, D3, D4⟩ := hSw; go_simp; try with_reducible rfl); (exact fun _ _ _ h => h); (try simp only [Act.put, List.setIfInBounds_toArray, List.set_cons_zero, List.set_cons_succ])); (refine wpAnyU_take 14 (oi := ?_) (v := ?_) (by kernel_rfl) (by kernel_rfl) (by kernel_rfl) (by kernel_rfl) (by first | exact hSn | exact hHeld) ?_ ?_ ?_ ?_ ?_; rotate_left 2; (simp only [List.getElem?_toArray, List.getElem?_cons_succ, List.getElem?_cons_zero]; rfl); rfl; (intro wS hSw; obtain ⟨⟨A1, A2, A3, A4⟩, ⟨B1, B2, B3, B4⟩, ⟨C1, C2, C3, C4⟩, D1, D2, D3, D4⟩ := hSw; go_simp; try with_reducible rfl); (exact fun _ _ _ h => h); (try simp only [Act.put, List.setIfInBounds_toArray, List.set_cons_zero, List.set_cons_succ])); (refine wpAnyU_take 15 (oi := ?_) (v := ?_) (by kernel_rfl) (by kernel_rfl) (by kernel_rfl) (by kernel_rfl) (by first | exact hSn | exact hHeld) ?_ ?_ ?_ ?_ ?_; rotate_left 2; (simp only [List.getElem?_toArray, List.getElem?_cons_succ, List.getElem?_cons_zero]; rfl); rfl; (intro wS hSw; obtain ⟨⟨A1, A2, A3, A4⟩, ⟨B1, B2, B3, B4⟩, ⟨C1, C2, C3, C4⟩, D1, D2, D3, D4⟩ := hSw; go_simp; try with_reducible rfl); (exact fun _ _ _ h => h); (try simp only [Act.put, List.setIfInBounds_toArray, List.set_cons_zero, List.set_cons_succ])))
    ((refine wpAnyU_one 16 (o := ?_) (by kernel_rfl) ?_ ?_; rotate_left 1; (simp only [List.getElem?_toArray, List.getElem?_cons_succ, List.getElem?_cons_zero]; rfl); intro K hK); go_simp; (refine (rp_Normal M0 a l _ (mb0 _) (HA7.out.ext hE5).pi).mono ?_); rintro e_ wz ⟨c2, rfl, hc2, he6⟩; go_wp2_with (fail); (try clear hSn); (have hSn := hHeld.ext (hE5.trans he6)); (refine hK.out _ _ (fun _ => hSn) ?_); clear hK K; (try simp only [Act.put, List.setIfInBounds_toArray, List.set_cons_zero, List.set_cons_succ]))
    ((refine wpAnyU_one 17 (o := ?_) (by kernel_rfl) ?_ ?_; rotate_left 1; (simp only [List.getElem?_toArray, List.getElem?_cons_succ, List.getElem?_cons_zero]; rfl); intro K hK); go_simp; (refine (eq_true_of a c2 l l _ (HA7.out.ext (hE5.trans he6)) hc2 (Sim.refl l)).mono ?_); rintro e_ wz ⟨rfl, he7⟩; go_wp2_with (fail); (try clear hSn); (have hSn := hHeld.ext ((hE5.trans he6).trans he7)); (refine hK.out _ _ (fun _ => hSn) ?_); clear hK K; (try simp only [Act.put, List.setIfInBounds_toArray, List.set_cons_zero, List.set_cons_succ]))
    have hE7 := (hE5.trans he6).trans he7
    clear hE5 he6 he7 hc2
    ((refine wpAnyU_take 18 (oi := ?_) (v := ?_) (by kernel_rfl) (by kernel_rfl) (by kernel_rfl) (by kernel_rfl) (by first | exact hSn | exact hHeld) ?_ ?_ ?_ ?_ ?_; rotate_left 2; (simp only [List.getElem?_toArray, List.getElem?_cons_succ, List.getElem?_cons_zero]; rfl); rfl; (intro wS hSw; obtain ⟨⟨A1, A2, A3, A4⟩, ⟨B1, B2, B3, B4⟩, ⟨C1, C2, C3, C4⟩, D1, D2, D3, D4⟩ := hSw; go_simp; try with_reducible rfl); (exact fun _ _ _ h => h); (try simp only [Act.put, List.setIfInBounds_toArray, List.set_cons_zero, List.set_cons_succ])); (refine wpAnyU_take 19 (oi := ?_) (v := ?_) (by kernel_rfl) (by kernel_rfl) (by kernel_rfl) (by kernel_rfl) (by first | exact hSn | exact hHeld) ?_ ?_ ?_ ?_ ?_; rotate_left 2; (simp only [List.getElem?_toArray, List.getElem?_cons_succ, List.getElem?_cons_zero]; rfl); rfl; (intro wS hSw; obtain ⟨⟨A1, A2, A3, A4⟩, ⟨B1, B2, B3, B4⟩, ⟨C1, C2, C3, C4⟩, D1, D2, D3, D4⟩ := hSw; go_simp; try with_reducible rfl); (exact fun _ _ _ h => h); (try simp only [Act.put, List.setIfInBounds_toArray, List.set_cons_zero, List.set_cons_succ])))
    refine wpAnyU_done (by kernel_rfl) ?_ _
    have HS9 : Hid (SP4 w3.heap.size x y g7 g8 a b _) := SP4.ext hSn (Ext.refl _).drew
    have hE9 := hE7.trans (Ext.refl _).drew
    have HX9 := Lib.hid (HX7.out.ext hE9)
    have HY9 := Lib.hid (HY7.out.ext hE9)
    have HA9 := Lib.hid (HA7.out.ext hE9)
    have HB9 := Lib.hid (HB7.out.ext hE9)
    have HE9 := Lib.hid (HE7.out.trans hE9)
    clear HX7 HY7 HA7 HB7 HE7 HS7 hE7 hE9 hSn hHeld
    go_upto_region 9 with (fail)
    refine wp_region_u (SP4 w3.heap.size x y g7 g8 a b) 23 (by kernel_rfl) HS9.out (fun hHeld => ?_)
    ((refine wpAnyU_take 0 (oi := ?_) (v := ?_) (by kernel_rfl) (by kernel_rfl) (by kernel_rfl) (by kernel_rfl) (by first | exact hSn | exact hHeld) ?_ ?_ ?_ ?_ ?_; rotate_left 2; (simp only [List.getElem?_toArray, List.getElem?_cons_succ, List.getElem?_cons_zero]; rfl); rfl; (intro wS hSw; obtain ⟨⟨A1, A2, A3, A4⟩, ⟨B1, B2, B3, B4⟩, ⟨C1, C2, C3, C4⟩, D1, D2, D3, D4⟩ := hSw; go_simp; try with_reducible rfl); (exact fun _ _ _ h => h); (try simp only [Act.put, List.setIfInBounds_toArray, List.set_cons_zero, List.set_cons_succ])); (refine wpAnyU_take 1 (oi := ?_) (v := ?_) (by kernel_rfl) (by kernel_rfl) (by kernel_rfl) (by kernel_rfl) (by first | exact hSn | exact hHeld) ?_ ?_ ?_ ?_ ?_; rotate_left 2; (simp only [List.getElem?_toArray, List.getElem?_cons_succ, List.getElem?_cons_zero]; rfl); rfl; (intro wS hSw; obtain ⟨⟨A1, A2, A3, A4⟩, ⟨B1, B2, B3, B4⟩, ⟨C1, C2, C3, C4⟩, D1, D2, D3, D4⟩ := hSw; go_simp; try with_reducible rfl); (exact fun _ _ _ h => h); (try simp only [Act.put, List.setIfInBounds_toArray, List.set_cons_zero, List.set_cons_succ])); (refine wpAnyU_take 3 (oi := ?_) (v := ?_) (by kernel_rfl) (by kernel_rfl) (by kernel_rfl) (by kernel_rfl) (by first | exact hSn | exact hHeld) ?_ ?_ ?_ ?_ ?_; rotate_left 2; (simp only [List.getElem?_toArray, List.getElem?_cons_succ, List.getElem?_cons_zero]; rfl); rfl; (intro wS hSw; obtain ⟨⟨A1, A2, A3, A4⟩, ⟨B1, B2, B3, B4⟩, ⟨C1, C2, C3, C4⟩, D1, D2, D3, D4⟩ := hSw; go_simp; try with_reducible rfl); (exact fun _ _ _ h => h); (try simp only [Act.put, List.setIfInBounds_toArray, List.set_cons_zero, List.set_cons_succ])); (refine wpAnyU_take 4 (oi := ?_) (v := ?_) (by kernel_rfl) (by kernel_rfl) (by kernel_rfl) (by kernel_rfl) (by first | exact hSn | exact hHeld) ?_ ?_ ?_ ?_ ?_; rotate_left 2; (simp only [List.getElem?_toArray, List.getElem?_cons_succ, List.getElem?_cons_zero]; rfl); rfl; (intro wS hSw; obtain ⟨⟨A1, A2, A3, A4⟩, ⟨B1, B2, B3, B4⟩, ⟨C1, C2, C3, C4⟩, D1, D2, D3, D4⟩ := hSw; go_simp; try with_reducible rfl); (exact fun _ _ _ h => h); (try simp only [Act.put, List.setIfInBounds_toArray, List.set_cons_zero, List.set_cons_succ])))
    ((refine wpAnyU_one 2 (o := ?_) (by kernel_rfl) ?_ ?_; rotate_left 1; (simp only [List.getElem?_toArray, List.getElem?_cons_succ, List.getElem?_cons_zero]; rfl); intro K hK); go_simp; (refine (same_b x y l m _ (simB l m) HX9.out.pi HY9.out.pi HSB.out).mono ?_); rintro e_ wz ⟨rfl, he1⟩; go_wp2_with (fail); (try clear hSn); (have hSn := hHeld.ext he1); (refine hK.out _ _ (fun _ => hSn) ?_); clear hK K; (try simp only [Act.put, List.setIfInBounds_toArray, List.set_cons_zero, List.set_cons_succ]))
    ((refine wpAnyU_one 5 (o := ?_) (by kernel_rfl) ?_ ?_; rotate_left 1; (simp only [List.getElem?_toArray, List.getElem?_cons_succ, List.getElem?_cons_zero]; rfl); intro K hK); go_simp; (refine (rf_equal 4 M0 l m a b _ (HA9.out.ext he1) (HB9.out.ext he1)).mono ?_); rintro e_ wz ⟨rfl, he2⟩; go_wp2_with (fail); (try clear hSn); (have hSn := hHeld.ext (he1.trans he2)); (refine hK.out _ _ (fun _ => hSn) ?_); clear hK K; (try simp only [Act.put, List.setIfInBounds_toArray, List.set_cons_zero, List.set_cons_succ]))
    have hE2 := he1.trans he2
    clear he1 he2
    ((refine wpAnyU_take 6 (oi := ?_) (v := ?_) (by kernel_rfl) (by kernel_rfl) (by kernel_rfl) (by kernel_rfl) (by first | exact hSn | exact hHeld) ?_ ?_ ?_ ?_ ?_; rotate_left 2; (simp only [List.getElem?_toArray, List.getElem?_cons_succ, List.getElem?_cons_zero]; rfl); rfl; (intro wS hSw; obtain ⟨⟨A1, A2, A3, A4⟩, ⟨B1, B2, B3, B4⟩, ⟨C1, C2, C3, C4⟩, D1, D2, D3, D4⟩ := hSw; go_simp; try with_reducible rfl); (exact fun _ _ _ h => h); (try simp only [Act.put, List.setIfInBounds_toArray, List.set_cons_zero, List.set_cons_succ])); (refine wpAnyU_take 7 (oi := ?_) (v := ?_) (by kernel_rfl) (by kernel_rfl) (by kernel_rfl) (by kernel_rfl) (by first | exact hSn | exact hHeld) ?_ ?_ ?_ ?_ ?_; rotate_left 2; (simp only [List.getElem?_toArray, List.getElem?_cons_succ, List.getElem?_cons_zero]; rfl); rfl; (intro wS hSw; obtain ⟨⟨A1, A2, A3, A4⟩, ⟨B1, B2, B3, B4⟩, ⟨C1, C2, C3, C4⟩, D1, D2, D3, D4⟩ := hSw; go_simp; try with_reducible rfl); (exact fun _ _ _ h => h); (try simp only [Act.put, List.setIfInBounds_toArray, List.set_cons_zero, List.set_cons_succ])); (refine wpAnyU_take 8 (oi := ?_) (v := ?_) (by kernel_rfl) (by kernel_rfl) (by kernel_rfl) (by kernel_rfl) (by first | exact hSn | exact hHeld) ?_ ?_ ?_ ?_ ?_; rotate_left 2; (simp only [List.getElem?_toArray, List.getElem?_cons_succ, List.getElem?_cons_zero]; rfl); rfl; (intro wS hSw; obtain ⟨⟨A1, A2, A3, A4⟩, ⟨B1, B2, B3, B4⟩, ⟨C1, C2, C3, C4⟩, D1, D2, D3, D4⟩ := hSw; go_simp; try with_reducible rfl); (exact fun _ _ _ h => h); (try simp only [Act.put, List.setIfInBounds_toArray, List.set_cons_zero, List.set_cons_succ])); (refine wpAnyU_take 9 (oi := ?_) (v := ?_) (by kernel_rfl) (by kernel_rfl) (by kernel_rfl) (by kernel_rfl) (by first | exact hSn | exact hHeld) ?_ ?_ ?_ ?_ ?_; rotate_left 2; (simp only [List.getElem?_toArray, List.getElem?_cons_succ, List.getElem?_cons_zero]; rfl); rfl; (intro wS hSw; obtain ⟨⟨A1, A2, A3, A4⟩, ⟨B1, B2, B3, B4⟩, ⟨C1, C2, C3, C4⟩, D1, D2, D3, D4⟩ := hSw; go_simp; try with_reducible rfl); (exact fun _ _ _ h => h); (try simp only [Act.put, List.setIfInBounds_toArray, List.set_cons_zero, List.set_cons_succ])))
    ((refine wpAnyU_one 10 (o := ?_) (by kernel_rfl) ?_ ?_; rotate_left 1; (simp only [List.getElem?_toArray, List.getElem?_cons_succ, List.getElem?_cons_zero]; rfl); intro K hK); go_simp; (refine (same_b x a l l _ true (HX9.out.ext hE2).pi (HA9.out.ext hE2).pi ⟨fun _ => Sim.refl l, fun _ => rfl⟩).mono ?_); rintro e_ wz ⟨rfl, he3⟩; go_wp2_with (fail); (try clear hSn); (have hSn := hHeld.ext (hE2.trans he3)); (refine hK.out _ _ (fun _ => hSn) ?_); clear hK K; (try simp only [Act.put, List.setIfInBounds_toArray, List.set_cons_zero, List.set_cons_succ]))
    have hE3 := hE2.trans he3
    clear hE2 he3
    ((refine wpAnyU_take 11 (oi := ?_) (v := ?_) (by kernel_rfl) (by kernel_rfl) (by kernel_rfl) (by kernel_rfl) (by first | exact hSn | exact hHeld) ?_ ?_ ?_ ?_ ?_; rotate_left 2; (simp only [List.getElem?_toArray, List.getElem?_cons_succ, List.getElem?_cons_zero]; rfl); rfl; (intro wS hSw; obtain ⟨⟨A1, A2, A3, A4⟩, ⟨B1, B2, B3, B4⟩, ⟨C1, C2, C3, C4⟩, D1, D2, D3, D4⟩ := hSw; go_simp; try with_reducible rfl); (exact fun _ _ _ h => h); (try simp only [Act.put, List.setIfInBounds_toArray, List.set_cons_zero, List.set_cons_succ])); (refine wpAnyU_take 12 (oi := ?_) (v := ?_) (by kernel_rfl) (by kernel_rfl) (by kernel_rfl) (by kernel_rfl) (by first | exact hSn | exact hHeld) ?_ ?_ ?_ ?_ ?_; rotate_left 2; (simp only [List.getElem?_toArray, List.getElem?_cons_succ, List.getElem?_cons_zero]; rfl); rfl; (intro wS hSw; obtain ⟨⟨A1, A2, A3, A4⟩, ⟨B1, B2, B3, B4⟩, ⟨C1, C2, C3, C4⟩, D1, D2, D3, D4⟩ := hSw; go_simp; try with_reducible rfl); (exact fun _ _ _ h => h); (try simp only [Act.put, List.setIfInBounds_toArray, List.set_cons_zero, List.set_cons_succ])); (refine wpAnyU_take 13 (oi := ?_) (v := ?_) (by kernel_rfl) (by kernel_rfl) (by kernel_rfl) (by kernel_rfl) (by first | exact hSn | exact hHeld) ?_ ?_ ?_ ?_ ?_; rotate_left 2; (simp only [List.getElem?_toArray, List.getElem?_cons_succ, List.getElem?_cons_zero]; rfl); rfl; (intro wS hSw; obtain ⟨⟨A1, A2, A3, A4⟩, ⟨B1, B2, B3, B4⟩, ⟨C1, C2, C3, C4⟩, D1, D2, D3, D4⟩ := hSw; go_simp; try with_reducible rfl); (exact fun _ _ _ h => h); (try simp only [Act.put, List.setIfInBounds_toArray, List.set_cons_zero, List.set_cons_succ])); (refine wpAnyU_take 14 (oi := ?_) (v := ?_) (by kernel_rfl) (by kernel_rfl) (by kernel_rfl) (by kernel_rfl) (by first | exact hSn | exact hHeld) ?_ ?_ ?_ ?_ ?_; rotate_left 2; (simp only [List.getElem?_toArray, List.getElem?_cons_succ, List.getElem?_cons_zero]; rfl); rfl; (intro wS hSw; obtain ⟨⟨A1, A2, A3, A4⟩, ⟨B1, B2, B3, B4⟩, ⟨C1, C2, C3, C4⟩, D1, D2, D3, D4⟩ := hSw; go_simp; try with_reducible rfl); (exact fun _ _ _ h => h); (try simp only [Act.put, List.setIfInBounds_toArray, List.set_cons_zero, List.set_cons_succ])); (refine wpAnyU_take 16 (oi := ?_) (v := ?_) (by kernel_rfl) (by kernel_rfl) (by kernel_rfl) (by kernel_rfl) (by first | exact hSn | exact hHeld) ?_ ?_ ?_ ?_ ?_; rotate_left 2; (simp only [List.getElem?_toArray, List.getElem?_cons_succ, List.getElem?_cons_zero]; rfl); rfl; (intro wS hSw; obtain ⟨⟨A1, A2, A3, A4⟩, ⟨B1, B2, B3, B4⟩, ⟨C1, C2, C3, C4⟩, D1, D2, D3, D4⟩ := hSw; go_simp; try with_reducible rfl); (exact fun _ _ _ h => h); (try simp only [Act.put, List.setIfInBounds_toArray, List.set_cons_zero, List.set_cons_succ])); (refine wpAnyU_take 18 (oi := ?_) (v := ?_) (by kernel_rfl) (by kernel_rfl) (by kernel_rfl) (by kernel_rfl) (by first | exact hSn | exact hHeld) ?_ ?_ ?_ ?_ ?_; rotate_left 2; (simp only [List.getElem?_toArray, List.getElem?_cons_succ, List.getElem?_cons_zero]; rfl); rfl; (intro wS hSw; obtain ⟨⟨A1, A2, A3, A4⟩, ⟨B1, B2, B3, B4⟩, ⟨C1, C2, C3, C4⟩, D1, D2, D3, D4⟩ := hSw; go_simp; try with_reducible rfl); (exact fun _ _ _ h => h); (try simp only [Act.put, List.setIfInBounds_toArray, List.set_cons_zero, List.set_cons_succ])))
    ((refine wpAnyU_one 15 (o := ?_) (by kernel_rfl) ?_ ?_; rotate_left 1; (simp only [List.getElem?_toArray, List.getElem?_cons_succ, List.getElem?_cons_zero]; rfl); intro K hK); go_simp; (refine (same_b x y l m _ (simB l m) (HX9.out.ext hE3).pi (HY9.out.ext hE3).pi HSB.out).mono ?_); rintro e_ wz ⟨rfl, he4⟩; go_wp2_with (fail); (try clear hSn); (have hSn := hHeld.ext (hE3.trans he4)); (refine hK.out _ _ (fun _ => hSn) ?_); clear hK K; (try simp only [Act.put, List.setIfInBounds_toArray, List.set_cons_zero, List.set_cons_succ]))
    have hE4 := hE3.trans he4
    clear hE3 he4
    ((refine wpAnyU_one 17 (o := ?_) (by kernel_rfl) ?_ ?_; rotate_left 1; (simp only [List.getElem?_toArray, List.getElem?_cons_succ, List.getElem?_cons_zero]; rfl); intro K hK); go_simp; (refine (bt_terms x l _ (HX9.out.ext hE4)).mono ?_); rintro e_ wz ⟨v3, rfl, hv3, he5⟩; go_wp2_with (fail); (try clear hSn); (have hSn := hHeld.ext (hE4.trans he5)); (refine hK.out _ _ (fun _ => hSn) ?_); clear hK K; (try simp only [Act.put, List.setIfInBounds_toArray, List.set_cons_zero, List.set_cons_succ]))
    have hE5 := hE4.trans he5
    clear hE4 he5
    ((refine wpAnyU_one 19 (o := ?_) (by kernel_rfl) ?_ ?_; rotate_left 1; (simp only [List.getElem?_toArray, List.getElem?_cons_succ, List.getElem?_cons_zero]; rfl); intro K hK); go_simp; (refine (bt_terms y m _ (HY9.out.ext hE5)).mono ?_); rintro e_ wz ⟨v4, rfl, hv4, he6⟩; go_wp2_with (fail); (try clear hSn); (have hSn := hHeld.ext (hE5.trans he6)); (refine hK.out _ _ (fun _ => hSn) ?_); clear hK K; (try simp only [Act.put, List.setIfInBounds_toArray, List.set_cons_zero, List.set_cons_succ]))
    have hv3' := hv3.ext he6
    have hE6 := hE5.trans he6
    clear hE5 he6 hv3
    ((refine wpAnyU_one 20 (o := ?_) (by kernel_rfl) ?_ ?_; rotate_left 1; (simp only [List.getElem?_toArray, List.getElem?_cons_succ, List.getElem?_cons_zero]; rfl); intro K hK); go_simp; (refine (sps_b x y v3 v4 l m _ _ _ (simB l m) HX9.out HY9.out hv3' hv4 HSB.out).mono ?_); rintro e_ wz ⟨rfl, he7⟩; go_wp2_with (fail); (try clear hSn); (have hSn := hHeld.ext (hE6.trans he7)); (refine hK.out _ _ (fun _ => hSn) ?_); clear hK K; (try simp only [Act.put, List.setIfInBounds_toArray, List.set_cons_zero, List.set_cons_succ]))
    have hE7 := hE6.trans he7
    clear hE6 he7 hv3' hv4
    ((refine wpAnyU_take 21 (oi := ?_) (v := ?_) (by kernel_rfl) (by kernel_rfl) (by kernel_rfl) (by kernel_rfl) (by first | exact hSn | exact hHeld) ?_ ?_ ?_ ?_ ?_; rotate_left 2; (simp only [List.getElem?_toArray, List.getElem?_cons_succ, List.getElem?_cons_zero]; rfl); rfl; (intro wS hSw; obtain ⟨⟨A1, A2, A3, A4⟩, ⟨B1, B2, B3, B4⟩, ⟨C1, C2, C3, C4⟩, D1, D2, D3, D4⟩ := hSw; go_simp; try with_reducible rfl); (exact fun _ _ _ h => h); (try simp only [Act.put, List.setIfInBounds_toArray, List.set_cons_zero, List.set_cons_succ])); (refine wpAnyU_take 22 (oi := ?_) (v := ?_) (by kernel_rfl) (by kernel_rfl) (by kernel_rfl) (by kernel_rfl) (by first | exact hSn | exact hHeld) ?_ ?_ ?_ ?_ ?_; rotate_left 2; (simp only [List.getElem?_toArray, List.getElem?_cons_succ, List.getElem?_cons_zero]; rfl); rfl; (intro wS hSw; obtain ⟨⟨A1, A2, A3, A4⟩, ⟨B1, B2, B3, B4⟩, ⟨C1, C2, C3, C4⟩, D1, D2, D3, D4⟩ := hSw; go_simp; try with_reducible rfl); (exact fun _ _ _ h => h); (try simp only [Act.put, List.setIfInBounds_toArray, List.set_cons_zero, List.set_cons_succ])))
    ((refine wpAnyU_one 23 (o := ?_) (by kernel_rfl) ?_ ?_; rotate_left 1; (simp only [List.getElem?_toArray, List.getElem?_cons_succ, List.getElem?_cons_zero]; rfl); intro K hK); go_simp; (refine hK.out _ _ (fun h => absurd rfl h) ?_); clear hK K; refine wpAnyU_done (by kernel_rfl) ?_ _)
    have HE10 := Lib.hid (HE9.out.trans hE7)
    clear hE7 hHeld hSn HE9 HX9 HY9 HA9 HB9 HS9
    go_wp2
    go_ret
    exact ⟨rfl, HE10.out⟩
end Go.Proofs.Ythhffpimcgmciaa
