/- MainvarReductum: the walk. -/
import Derived.Test.YtgppogaoilijcaaGreatDr
import Derived.Test.YtgppogaoilijcaaGreatDh
set_option linter.unusedVariables false
set_option linter.unusedSimpArgs false

namespace Go.Proofs.YtgppogaoilijcaaGreat
open Go.RowKit

def SRd (b : Nat) (x : PE) (w : World) : Prop := P4 w b x
theorem SRd.ext {b : Nat} {x : PE} {w w' : World} (h : SRd b x w) (he : Ext w w') : SRd b x w' := P4.ext h he
theorem Put2.ext {wd W W' : World} {a b : Nat} {x y : PE} {l r : List Tm} (h : Put2 wd W a b x y l r) (he : Ext W W') : Put2 wd W' a b x y l r := ⟨h.e.trans he, h.p.ext he, h.q.ext he, h.x.ext he, h.y.ext he⟩
def SR4 (a b c d : Nat) (x y v r : PE) (w : World) : Prop := P4 w a x ∧ P4 w b y ∧ P4 w c v ∧ P4 w d r
theorem SR4.ext {a b c d : Nat} {x y v r : PE} {w w' : World} (h : SR4 a b c d x y v r w) (he : Ext w w') : SR4 a b c d x y v r w' := ⟨h.1.ext he, h.2.1.ext he, h.2.2.1.ext he, h.2.2.2.ext he⟩
def LrC (l : List Tm) (L : Int) (wd : World) (s7 s8 : Value) (wx : World) : Prop := ∃ (a b : Nat) (x y : PE) (sx sy : List Tm), s7 = .pointer (some ⟨a, 0, none⟩) ∧ s8 = .pointer (some ⟨b, 0, none⟩) ∧ LeadR l L sx ∧ RedR l L sy ∧ Put2 wd wx a b x y sx sy
def LrD (l : List Tm) (wd : World) (s9 : Value) (wx : World) : Prop := ∃ (a : Nat) (v : PE), s9 = .pointer (some ⟨a, 0, none⟩) ∧ Put1 wd wx a v l
set_option maxRecDepth 100000 in
set_option maxHeartbeats 16000000 in
theorem law_reductum (a1 : Option Addr) (n1 p1 : Nat) (X1 : Nat → TE) (L : Int) (w : World) (h1 : PRaw w a1 n1 p1 X1) :
    Calls Tryz.prog 9 #[.slice a1 n1 p1, .int .i64 L] w fun e w' => e = .returned (.bool true) ∧ Ext w w' := by
  have HR1 := Lib.hid h1
  clear h1
  go_enter Tryz.func9, Tryz.ntmps9
  go_wp2_with (fail)
  refine (law_fit23 _).mono ?_
  rintro e w1 ⟨rfl, he1⟩
  have HE1 := Lib.hid he1
  have CF1 := Lib.hid (law_few23 a1 n1 p1 X1 w1 (HR1.out.1.ext he1) HR1.out.2.1)
  clear he1
  go_wp2_with (fail)
  refine CF1.out.mono ?_
  rintro e w2 ⟨b, rfl, hb1, rfl⟩
  cases b with
  | false =>
    clear hb1 CF1
    go_wp2
    go_ret
    exact ⟨rfl, HE1.out⟩
  | true =>
  have HF1 := Lib.hid (hb1.1 rfl)
  clear hb1 CF1
  have CI := Lib.hid (fun W => law_inner23 L W)
  by_cases hlev : ¬ (1 ≤ L ∧ L ≤ 4)
  · have hlevB : isLevB L = false := by unfold isLevB; simp only [decide_eq_false_iff_not]; exact hlev
    rw [hlevB] at CI
    clear hlev hlevB
    go_wp2_with (fail)
    refine (CI.out _).mono ?_
    rintro e w2 ⟨rfl, rfl⟩
    go_wp2
    go_ret
    exact ⟨rfl, HE1.out⟩
  obtain ⟨kv, rfl, k1, k4⟩ : ∃ kv : Nat, L = (kv : Int) ∧ 1 ≤ kv ∧ kv ≤ 4 := ⟨L.toNat, by omega, by omega, by omega⟩
  have hlevB : isLevB (kv : Int) = true := by unfold isLevB; simp only [decide_eq_true_eq]; omega
  rw [hlevB] at CI
  have HK : Hid (1 ≤ kv ∧ kv ≤ 4) := ⟨k1, k4⟩
  clear hlev hlevB k1 k4
  obtain ⟨l1, hl1, hs1, hd1', hx1, _⟩ := HR1.out.sm23 HF1.out
  have hd1 : dlen (nrm l1) ≤ 1099511627776 := Nat.le_trans hd1' (by omega)
  have CO1 := Lib.hid (fun W he => rp_Of M0 _ l1 W (mb0 _) (hl1.ext he) hd1 hx1)
  have HS1 := Lib.hid hs1
  clear hl1 hd1 hd1' hx1 HF1 HR1 hs1
  go_wp2_with (fail)
  refine (CI.out _).mono ?_
  rintro e w2 ⟨rfl, rfl⟩
  clear CI
  go_wp2_with (fail)
  refine (CO1.out _ HE1.out).mono ?_
  rintro e w3 ⟨r, rfl, hr, he3⟩
  have hEa := (Ext.refl w3).alloc (.cells (peA r) 34)
  have HP0 : Hid (P4 (w3.alloc (.cells (peA r) 34)) w3.heap.size r) := (Blk.of_arr w3 (peA r) 34 4 rfl).p4
  have HR := Lib.hid (hr.ext hEa)
  have HE := Lib.hid ((HE1.out.trans he3).trans hEa)
  clear hr he3 hEa CO1 HE1
  go_upto_region 6 with (fail)
  generalize hbx : w3.heap.size = br at *
  generalize w3.alloc (.cells (peA r) 34) = W at *
  clear hbx
  obtain ⟨x0, x1, x2, x3⟩ := HP0.out
  have CD := Lib.hid (mv_Degree M0 r _ (kv : Int) W (mb0 _) HR.out.pi)
  go_wp2_with (fail)
  refine CD.out.mono ?_
  rintro e w4 ⟨z, rfl, hz, he4⟩
  have HZ := Lib.hid hz
  have HP4 : Hid (P4 w4.drew br r) := (HP0.out.ext he4).ext (Ext.refl w4).drew
  have HR4 : Hid (CRx M0 w4.drew 4 r (norm l1)) := (HR.out.ext he4).ext (Ext.refl w4).drew
  have HE4 : Hid (Ext w w4.drew) := (HE.out.trans he4).trans (Ext.refl w4).drew
  clear hz he4 CD HP0 HR HE x0 x1 x2 x3
  go_upto_region 7 with (fail)
  go_cut [7, 8] (LrC (norm l1) (kv : Int) w4.drew)
  case first =>
    have C2 : Hid (∀ A B W, S7 w4.drew W A B → Calls Tryz.prog 49 #[.agg (peA r), .int .i64 (kv : Int)] W (RetLd (M7 A B) W (LeadR (norm l1) (kv : Int)))) := fun A B W h => mv_Lead _ r _ (kv : Int) 6 W h.mb (h.old HR4.out).pi HS1.out.deg (by decide) (by decide) (by have := HS1.out.dl; omega)
    have C5 : Hid (∀ A B W, S7 w4.drew W A B → Calls Tryz.prog 52 #[.agg (peA r), .int .i64 (kv : Int)] W (RetLd (M7 A B) W (RedR (norm l1) (kv : Int)))) := fun A B W h => mv_Reductum _ r _ (kv : Int) 6 W h.mb (h.old HR4.out).pi HS1.out.deg (by decide) (by decide) (by have := HS1.out.dl; omega)
    have S0 := S7.start w4.drew
    refine wp_region_u (SRd br r) 10 (by kernel_rfl) HP4.out (fun hHeld => ?_)
    clear HP4 HR4 HE4 HS1 HZ HK
    generalize w4.drew = wd at *
    (refine tkB [0, 1, 3, 4] ?_; (iterate 4 (refine tk1 (oi := ?_) (v := ?_) (by kernel_rfl) (by first | exact hSn | exact hHeld) ?_ ?_ ?_ ?_ ?_; rotate_left 2; (simp only [List.getElem?_toArray, List.getElem?_cons_succ, List.getElem?_cons_zero]; rfl); rfl; (intro wS hSw; obtain ⟨S1, S2, S3, S4⟩ := hSw; go_simp; try with_reducible rfl); (exact fun _ _ _ h => h); (try simp only [Act.put, List.setIfInBounds_toArray, List.set_cons_zero, List.set_cons_succ]))); refine tkE ?_)
    (refine wpAnyU_thr 2 6 7 (oi := ?_) (oj := ?_) (ok := ?_) (by kernel_rfl) ?_ ?_ ?_ ?_ ?_ ?_; rotate_left 3; (simp only [List.getElem?_toArray, List.getElem?_cons_succ, List.getElem?_cons_zero]; rfl); (simp only [List.getElem?_toArray, List.getElem?_cons_succ, List.getElem?_cons_zero]; rfl); (simp only [List.getElem?_toArray, List.getElem?_cons_succ, List.getElem?_cons_zero]; rfl); all_goals intro K hK)
    · go_simp
      refine (C2.out _ _ wd S0).mono ?_
      rintro e v1 ⟨x, sx, rfl, hx, hsx, D⟩
      go_wp2_with (fail)
      have S1 := S0.call D
      clear D
      try clear hSn
      have hSn := hHeld.ext S1.e
      refine hK.out _ _ (fun _ => hSn) ?_
      clear hK K
      (try simp only [Act.put, List.setIfInBounds_toArray, List.set_cons_zero, List.set_cons_succ])
      (refine wpAnyU_thr 5 6 7 (oi := ?_) (oj := ?_) (ok := ?_) (by kernel_rfl) ?_ ?_ ?_ ?_ ?_ ?_; rotate_left 3; (simp only [List.getElem?_toArray, List.getElem?_cons_succ, List.getElem?_cons_zero]; rfl); (simp only [List.getElem?_toArray, List.getElem?_cons_succ, List.getElem?_cons_zero]; rfl); (simp only [List.getElem?_toArray, List.getElem?_cons_succ, List.getElem?_cons_zero]; rfl); all_goals intro K hK)
      · go_simp
        refine (C5.out _ _ v1 S1).mono ?_
        rintro e v2 ⟨y, sy, rfl, hy, hsy, D⟩
        go_wp2_with (fail)
        have S2 := S1.call D
        replace hx := hx.ext D
        clear D
        try clear hSn
        have hSn := hHeld.ext S2.e
        refine hK.out _ _ (fun _ => hSn) ?_
        clear hK K
        (try simp only [Act.put, List.setIfInBounds_toArray, List.set_cons_zero, List.set_cons_succ])
        (refine wpAnyU_two 6 7 (oi := ?_) (oj := ?_) (by kernel_rfl) ?_ ?_ ?_ ?_; rotate_left 2; (simp only [List.getElem?_toArray, List.getElem?_cons_succ, List.getElem?_cons_zero]; rfl); (simp only [List.getElem?_toArray, List.getElem?_cons_succ, List.getElem?_cons_zero]; rfl); all_goals intro K hK)
        · go_simp
          have S3 := S2.allA
          replace hx := S2.keepA hx
          replace hy := S2.keepA hy
          try clear hSn
          have hSn := hHeld.ext S3.e
          refine hK.out _ _ (fun _ => hSn) ?_
          clear hK K
          (try simp only [Act.put, List.setIfInBounds_toArray, List.set_cons_zero, List.set_cons_succ])
          generalize v2.alloc (.cells zA 34) = v3 at *
          generalize v2.heap.size = g3 at *
          (refine wpAnyU_one 7 (o := ?_) (by kernel_rfl) ?_ ?_; rotate_left 1; (simp only [List.getElem?_toArray, List.getElem?_cons_succ, List.getElem?_cons_zero]; rfl); intro K hK)
          go_simp
          have S4 := S3.allB
          replace hx := S3.keepB hx
          replace hy := S3.keepB hy
          try clear hSn
          have hSn := hHeld.ext S4.e
          refine hK.out _ _ (fun _ => hSn) ?_
          clear hK K
          (try simp only [Act.put, List.setIfInBounds_toArray, List.set_cons_zero, List.set_cons_succ])
          generalize v3.alloc (.cells zA 34) = v4 at *
          generalize v3.heap.size = g4 at *
          obtain ⟨W1, hW1, ⟨q0, q1, q2, q3⟩, ⟨f0, f1, f2, f3⟩, E1, ⟨r0, r1, r2, r3⟩, ⟨k0, k1, k2, k3⟩, W2, hW2, HP2⟩ := S4.put2 hx hy
          unfold set4 at hW1 hW2
          have hSn1 := hHeld.ext E1
          have hSn2 := hHeld.ext HP2.e
          clear hSn
          (refine wpAnyU_one 8 (o := ?_) (by kernel_rfl) ?_ ?_; rotate_left 1; (simp only [List.getElem?_toArray, List.getElem?_cons_succ, List.getElem?_cons_zero]; rfl); intro K hK)
          go_simp
          rw [← hW1]
          clear hW1
          refine hK.out _ _ (fun _ => hSn1) ?_
          clear hK K q0 q1 q2 q3 f0 f1 f2 f3
          (try simp only [Act.put, List.setIfInBounds_toArray, List.set_cons_zero, List.set_cons_succ])
          (refine wpAnyU_one 9 (o := ?_) (by kernel_rfl) ?_ ?_; rotate_left 1; (simp only [List.getElem?_toArray, List.getElem?_cons_succ, List.getElem?_cons_zero]; rfl); intro K hK)
          go_simp
          rw [← hW2]
          clear hW2
          refine hK.out _ _ (fun _ => hSn2) ?_
          clear hK K r0 r1 r2 r3 k0 k1 k2 k3
          (try simp only [Act.put, List.setIfInBounds_toArray, List.set_cons_zero, List.set_cons_succ])
          refine wpAnyU_done (by kernel_rfl) ?_ _
          go_wp2_with (fail)
          go_meet
          exact ⟨_, _, x, y, sx, sy, rfl, rfl, hsx, hsy, HP2⟩
        · go_simp
          have S5 := S2.allB
          replace hx := S2.keepB hx
          replace hy := S2.keepB hy
          try clear hSn
          have hSn := hHeld.ext S5.e
          refine hK.out _ _ (fun _ => hSn) ?_
          clear hK K
          (try simp only [Act.put, List.setIfInBounds_toArray, List.set_cons_zero, List.set_cons_succ])
          generalize v2.alloc (.cells zA 34) = v5 at *
          generalize v2.heap.size = g5 at *
          (refine wpAnyU_one 6 (o := ?_) (by kernel_rfl) ?_ ?_; rotate_left 1; (simp only [List.getElem?_toArray, List.getElem?_cons_succ, List.getElem?_cons_zero]; rfl); intro K hK)
          go_simp
          have S6 := S5.allA
          replace hx := S5.keepA hx
          replace hy := S5.keepA hy
          try clear hSn
          have hSn := hHeld.ext S6.e
          refine hK.out _ _ (fun _ => hSn) ?_
          clear hK K
          (try simp only [Act.put, List.setIfInBounds_toArray, List.set_cons_zero, List.set_cons_succ])
          generalize v5.alloc (.cells zA 34) = v6 at *
          generalize v5.heap.size = g6 at *
          obtain ⟨W1, hW1, ⟨q0, q1, q2, q3⟩, ⟨f0, f1, f2, f3⟩, E1, ⟨r0, r1, r2, r3⟩, ⟨k0, k1, k2, k3⟩, W2, hW2, HP2⟩ := S6.put2 hx hy
          unfold set4 at hW1 hW2
          have hSn1 := hHeld.ext E1
          have hSn2 := hHeld.ext HP2.e
          clear hSn
          (refine wpAnyU_one 8 (o := ?_) (by kernel_rfl) ?_ ?_; rotate_left 1; (simp only [List.getElem?_toArray, List.getElem?_cons_succ, List.getElem?_cons_zero]; rfl); intro K hK)
          go_simp
          rw [← hW1]
          clear hW1
          refine hK.out _ _ (fun _ => hSn1) ?_
          clear hK K q0 q1 q2 q3 f0 f1 f2 f3
          (try simp only [Act.put, List.setIfInBounds_toArray, List.set_cons_zero, List.set_cons_succ])
          (refine wpAnyU_one 9 (o := ?_) (by kernel_rfl) ?_ ?_; rotate_left 1; (simp only [List.getElem?_toArray, List.getElem?_cons_succ, List.getElem?_cons_zero]; rfl); intro K hK)
          go_simp
          rw [← hW2]
          clear hW2
          refine hK.out _ _ (fun _ => hSn2) ?_
          clear hK K r0 r1 r2 r3 k0 k1 k2 k3
          (try simp only [Act.put, List.setIfInBounds_toArray, List.set_cons_zero, List.set_cons_succ])
          refine wpAnyU_done (by kernel_rfl) ?_ _
          go_wp2_with (fail)
          go_meet
          exact ⟨_, _, x, y, sx, sy, rfl, rfl, hsx, hsy, HP2⟩
      · go_simp
        have S7 := S1.allA
        replace hx := S1.keepA hx
        try clear hSn
        have hSn := hHeld.ext S7.e
        refine hK.out _ _ (fun _ => hSn) ?_
        clear hK K
        (try simp only [Act.put, List.setIfInBounds_toArray, List.set_cons_zero, List.set_cons_succ])
        generalize v1.alloc (.cells zA 34) = v7 at *
        generalize v1.heap.size = g7 at *
        (refine wpAnyU_two 5 7 (oi := ?_) (oj := ?_) (by kernel_rfl) ?_ ?_ ?_ ?_; rotate_left 2; (simp only [List.getElem?_toArray, List.getElem?_cons_succ, List.getElem?_cons_zero]; rfl); (simp only [List.getElem?_toArray, List.getElem?_cons_succ, List.getElem?_cons_zero]; rfl); all_goals intro K hK)
        · go_simp
          refine (C5.out _ _ v7 S7).mono ?_
          rintro e v8 ⟨y, sy, rfl, hy, hsy, D⟩
          go_wp2_with (fail)
          have S8 := S7.call D
          replace hx := hx.ext D
          clear D
          try clear hSn
          have hSn := hHeld.ext S8.e
          refine hK.out _ _ (fun _ => hSn) ?_
          clear hK K
          (try simp only [Act.put, List.setIfInBounds_toArray, List.set_cons_zero, List.set_cons_succ])
          (refine wpAnyU_one 7 (o := ?_) (by kernel_rfl) ?_ ?_; rotate_left 1; (simp only [List.getElem?_toArray, List.getElem?_cons_succ, List.getElem?_cons_zero]; rfl); intro K hK)
          go_simp
          have S9 := S8.allB
          replace hx := S8.keepB hx
          replace hy := S8.keepB hy
          try clear hSn
          have hSn := hHeld.ext S9.e
          refine hK.out _ _ (fun _ => hSn) ?_
          clear hK K
          (try simp only [Act.put, List.setIfInBounds_toArray, List.set_cons_zero, List.set_cons_succ])
          generalize v8.alloc (.cells zA 34) = v9 at *
          generalize v8.heap.size = g9 at *
          obtain ⟨W1, hW1, ⟨q0, q1, q2, q3⟩, ⟨f0, f1, f2, f3⟩, E1, ⟨r0, r1, r2, r3⟩, ⟨k0, k1, k2, k3⟩, W2, hW2, HP2⟩ := S9.put2 hx hy
          unfold set4 at hW1 hW2
          have hSn1 := hHeld.ext E1
          have hSn2 := hHeld.ext HP2.e
          clear hSn
          (refine wpAnyU_one 8 (o := ?_) (by kernel_rfl) ?_ ?_; rotate_left 1; (simp only [List.getElem?_toArray, List.getElem?_cons_succ, List.getElem?_cons_zero]; rfl); intro K hK)
          go_simp
          rw [← hW1]
          clear hW1
          refine hK.out _ _ (fun _ => hSn1) ?_
          clear hK K q0 q1 q2 q3 f0 f1 f2 f3
          (try simp only [Act.put, List.setIfInBounds_toArray, List.set_cons_zero, List.set_cons_succ])
          (refine wpAnyU_one 9 (o := ?_) (by kernel_rfl) ?_ ?_; rotate_left 1; (simp only [List.getElem?_toArray, List.getElem?_cons_succ, List.getElem?_cons_zero]; rfl); intro K hK)
          go_simp
          rw [← hW2]
          clear hW2
          refine hK.out _ _ (fun _ => hSn2) ?_
          clear hK K r0 r1 r2 r3 k0 k1 k2 k3
          (try simp only [Act.put, List.setIfInBounds_toArray, List.set_cons_zero, List.set_cons_succ])
          refine wpAnyU_done (by kernel_rfl) ?_ _
          go_wp2_with (fail)
          go_meet
          exact ⟨_, _, x, y, sx, sy, rfl, rfl, hsx, hsy, HP2⟩
        · go_simp
          have S10 := S7.allB
          replace hx := S7.keepB hx
          try clear hSn
          have hSn := hHeld.ext S10.e
          refine hK.out _ _ (fun _ => hSn) ?_
          clear hK K
          (try simp only [Act.put, List.setIfInBounds_toArray, List.set_cons_zero, List.set_cons_succ])
          generalize v7.alloc (.cells zA 34) = v10 at *
          generalize v7.heap.size = g10 at *
          (refine wpAnyU_one 5 (o := ?_) (by kernel_rfl) ?_ ?_; rotate_left 1; (simp only [List.getElem?_toArray, List.getElem?_cons_succ, List.getElem?_cons_zero]; rfl); intro K hK)
          go_simp
          refine (C5.out _ _ v10 S10).mono ?_
          rintro e v11 ⟨y, sy, rfl, hy, hsy, D⟩
          go_wp2_with (fail)
          have S11 := S10.call D
          replace hx := hx.ext D
          clear D
          try clear hSn
          have hSn := hHeld.ext S11.e
          refine hK.out _ _ (fun _ => hSn) ?_
          clear hK K
          (try simp only [Act.put, List.setIfInBounds_toArray, List.set_cons_zero, List.set_cons_succ])
          obtain ⟨W1, hW1, ⟨q0, q1, q2, q3⟩, ⟨f0, f1, f2, f3⟩, E1, ⟨r0, r1, r2, r3⟩, ⟨k0, k1, k2, k3⟩, W2, hW2, HP2⟩ := S11.put2 hx hy
          unfold set4 at hW1 hW2
          have hSn1 := hHeld.ext E1
          have hSn2 := hHeld.ext HP2.e
          clear hSn
          (refine wpAnyU_one 8 (o := ?_) (by kernel_rfl) ?_ ?_; rotate_left 1; (simp only [List.getElem?_toArray, List.getElem?_cons_succ, List.getElem?_cons_zero]; rfl); intro K hK)
          go_simp
          rw [← hW1]
          clear hW1
          refine hK.out _ _ (fun _ => hSn1) ?_
          clear hK K q0 q1 q2 q3 f0 f1 f2 f3
          (try simp only [Act.put, List.setIfInBounds_toArray, List.set_cons_zero, List.set_cons_succ])
          (refine wpAnyU_one 9 (o := ?_) (by kernel_rfl) ?_ ?_; rotate_left 1; (simp only [List.getElem?_toArray, List.getElem?_cons_succ, List.getElem?_cons_zero]; rfl); intro K hK)
          go_simp
          rw [← hW2]
          clear hW2
          refine hK.out _ _ (fun _ => hSn2) ?_
          clear hK K r0 r1 r2 r3 k0 k1 k2 k3
          (try simp only [Act.put, List.setIfInBounds_toArray, List.set_cons_zero, List.set_cons_succ])
          refine wpAnyU_done (by kernel_rfl) ?_ _
          go_wp2_with (fail)
          go_meet
          exact ⟨_, _, x, y, sx, sy, rfl, rfl, hsx, hsy, HP2⟩
      · go_simp
        have S12 := S1.allB
        replace hx := S1.keepB hx
        try clear hSn
        have hSn := hHeld.ext S12.e
        refine hK.out _ _ (fun _ => hSn) ?_
        clear hK K
        (try simp only [Act.put, List.setIfInBounds_toArray, List.set_cons_zero, List.set_cons_succ])
        generalize v1.alloc (.cells zA 34) = v12 at *
        generalize v1.heap.size = g12 at *
        (refine wpAnyU_two 5 6 (oi := ?_) (oj := ?_) (by kernel_rfl) ?_ ?_ ?_ ?_; rotate_left 2; (simp only [List.getElem?_toArray, List.getElem?_cons_succ, List.getElem?_cons_zero]; rfl); (simp only [List.getElem?_toArray, List.getElem?_cons_succ, List.getElem?_cons_zero]; rfl); all_goals intro K hK)
        · go_simp
          refine (C5.out _ _ v12 S12).mono ?_
          rintro e v13 ⟨y, sy, rfl, hy, hsy, D⟩
          go_wp2_with (fail)
          have S13 := S12.call D
          replace hx := hx.ext D
          clear D
          try clear hSn
          have hSn := hHeld.ext S13.e
          refine hK.out _ _ (fun _ => hSn) ?_
          clear hK K
          (try simp only [Act.put, List.setIfInBounds_toArray, List.set_cons_zero, List.set_cons_succ])
          (refine wpAnyU_one 6 (o := ?_) (by kernel_rfl) ?_ ?_; rotate_left 1; (simp only [List.getElem?_toArray, List.getElem?_cons_succ, List.getElem?_cons_zero]; rfl); intro K hK)
          go_simp
          have S14 := S13.allA
          replace hx := S13.keepA hx
          replace hy := S13.keepA hy
          try clear hSn
          have hSn := hHeld.ext S14.e
          refine hK.out _ _ (fun _ => hSn) ?_
          clear hK K
          (try simp only [Act.put, List.setIfInBounds_toArray, List.set_cons_zero, List.set_cons_succ])
          generalize v13.alloc (.cells zA 34) = v14 at *
          generalize v13.heap.size = g14 at *
          obtain ⟨W1, hW1, ⟨q0, q1, q2, q3⟩, ⟨f0, f1, f2, f3⟩, E1, ⟨r0, r1, r2, r3⟩, ⟨k0, k1, k2, k3⟩, W2, hW2, HP2⟩ := S14.put2 hx hy
          unfold set4 at hW1 hW2
          have hSn1 := hHeld.ext E1
          have hSn2 := hHeld.ext HP2.e
          clear hSn
          (refine wpAnyU_one 8 (o := ?_) (by kernel_rfl) ?_ ?_; rotate_left 1; (simp only [List.getElem?_toArray, List.getElem?_cons_succ, List.getElem?_cons_zero]; rfl); intro K hK)
          go_simp
          rw [← hW1]
          clear hW1
          refine hK.out _ _ (fun _ => hSn1) ?_
          clear hK K q0 q1 q2 q3 f0 f1 f2 f3
          (try simp only [Act.put, List.setIfInBounds_toArray, List.set_cons_zero, List.set_cons_succ])
          (refine wpAnyU_one 9 (o := ?_) (by kernel_rfl) ?_ ?_; rotate_left 1; (simp only [List.getElem?_toArray, List.getElem?_cons_succ, List.getElem?_cons_zero]; rfl); intro K hK)
          go_simp
          rw [← hW2]
          clear hW2
          refine hK.out _ _ (fun _ => hSn2) ?_
          clear hK K r0 r1 r2 r3 k0 k1 k2 k3
          (try simp only [Act.put, List.setIfInBounds_toArray, List.set_cons_zero, List.set_cons_succ])
          refine wpAnyU_done (by kernel_rfl) ?_ _
          go_wp2_with (fail)
          go_meet
          exact ⟨_, _, x, y, sx, sy, rfl, rfl, hsx, hsy, HP2⟩
        · go_simp
          have S15 := S12.allA
          replace hx := S12.keepA hx
          try clear hSn
          have hSn := hHeld.ext S15.e
          refine hK.out _ _ (fun _ => hSn) ?_
          clear hK K
          (try simp only [Act.put, List.setIfInBounds_toArray, List.set_cons_zero, List.set_cons_succ])
          generalize v12.alloc (.cells zA 34) = v15 at *
          generalize v12.heap.size = g15 at *
          (refine wpAnyU_one 5 (o := ?_) (by kernel_rfl) ?_ ?_; rotate_left 1; (simp only [List.getElem?_toArray, List.getElem?_cons_succ, List.getElem?_cons_zero]; rfl); intro K hK)
          go_simp
          refine (C5.out _ _ v15 S15).mono ?_
          rintro e v16 ⟨y, sy, rfl, hy, hsy, D⟩
          go_wp2_with (fail)
          have S16 := S15.call D
          replace hx := hx.ext D
          clear D
          try clear hSn
          have hSn := hHeld.ext S16.e
          refine hK.out _ _ (fun _ => hSn) ?_
          clear hK K
          (try simp only [Act.put, List.setIfInBounds_toArray, List.set_cons_zero, List.set_cons_succ])
          obtain ⟨W1, hW1, ⟨q0, q1, q2, q3⟩, ⟨f0, f1, f2, f3⟩, E1, ⟨r0, r1, r2, r3⟩, ⟨k0, k1, k2, k3⟩, W2, hW2, HP2⟩ := S16.put2 hx hy
          unfold set4 at hW1 hW2
          have hSn1 := hHeld.ext E1
          have hSn2 := hHeld.ext HP2.e
          clear hSn
          (refine wpAnyU_one 8 (o := ?_) (by kernel_rfl) ?_ ?_; rotate_left 1; (simp only [List.getElem?_toArray, List.getElem?_cons_succ, List.getElem?_cons_zero]; rfl); intro K hK)
          go_simp
          rw [← hW1]
          clear hW1
          refine hK.out _ _ (fun _ => hSn1) ?_
          clear hK K q0 q1 q2 q3 f0 f1 f2 f3
          (try simp only [Act.put, List.setIfInBounds_toArray, List.set_cons_zero, List.set_cons_succ])
          (refine wpAnyU_one 9 (o := ?_) (by kernel_rfl) ?_ ?_; rotate_left 1; (simp only [List.getElem?_toArray, List.getElem?_cons_succ, List.getElem?_cons_zero]; rfl); intro K hK)
          go_simp
          rw [← hW2]
          clear hW2
          refine hK.out _ _ (fun _ => hSn2) ?_
          clear hK K r0 r1 r2 r3 k0 k1 k2 k3
          (try simp only [Act.put, List.setIfInBounds_toArray, List.set_cons_zero, List.set_cons_succ])
          refine wpAnyU_done (by kernel_rfl) ?_ _
          go_wp2_with (fail)
          go_meet
          exact ⟨_, _, x, y, sx, sy, rfl, rfl, hsx, hsy, HP2⟩
    · go_simp
      have S17 := S0.allA
      try clear hSn
      have hSn := hHeld.ext S17.e
      refine hK.out _ _ (fun _ => hSn) ?_
      clear hK K
      (try simp only [Act.put, List.setIfInBounds_toArray, List.set_cons_zero, List.set_cons_succ])
      generalize wd.alloc (.cells zA 34) = v17 at *
      generalize wd.heap.size = g17 at *
      (refine wpAnyU_two 2 7 (oi := ?_) (oj := ?_) (by kernel_rfl) ?_ ?_ ?_ ?_; rotate_left 2; (simp only [List.getElem?_toArray, List.getElem?_cons_succ, List.getElem?_cons_zero]; rfl); (simp only [List.getElem?_toArray, List.getElem?_cons_succ, List.getElem?_cons_zero]; rfl); all_goals intro K hK)
      · go_simp
        refine (C2.out _ _ v17 S17).mono ?_
        rintro e v18 ⟨x, sx, rfl, hx, hsx, D⟩
        go_wp2_with (fail)
        have S18 := S17.call D
        clear D
        try clear hSn
        have hSn := hHeld.ext S18.e
        refine hK.out _ _ (fun _ => hSn) ?_
        clear hK K
        (try simp only [Act.put, List.setIfInBounds_toArray, List.set_cons_zero, List.set_cons_succ])
        (refine wpAnyU_two 5 7 (oi := ?_) (oj := ?_) (by kernel_rfl) ?_ ?_ ?_ ?_; rotate_left 2; (simp only [List.getElem?_toArray, List.getElem?_cons_succ, List.getElem?_cons_zero]; rfl); (simp only [List.getElem?_toArray, List.getElem?_cons_succ, List.getElem?_cons_zero]; rfl); all_goals intro K hK)
        · go_simp
          refine (C5.out _ _ v18 S18).mono ?_
          rintro e v19 ⟨y, sy, rfl, hy, hsy, D⟩
          go_wp2_with (fail)
          have S19 := S18.call D
          replace hx := hx.ext D
          clear D
          try clear hSn
          have hSn := hHeld.ext S19.e
          refine hK.out _ _ (fun _ => hSn) ?_
          clear hK K
          (try simp only [Act.put, List.setIfInBounds_toArray, List.set_cons_zero, List.set_cons_succ])
          (refine wpAnyU_one 7 (o := ?_) (by kernel_rfl) ?_ ?_; rotate_left 1; (simp only [List.getElem?_toArray, List.getElem?_cons_succ, List.getElem?_cons_zero]; rfl); intro K hK)
          go_simp
          have S20 := S19.allB
          replace hx := S19.keepB hx
          replace hy := S19.keepB hy
          try clear hSn
          have hSn := hHeld.ext S20.e
          refine hK.out _ _ (fun _ => hSn) ?_
          clear hK K
          (try simp only [Act.put, List.setIfInBounds_toArray, List.set_cons_zero, List.set_cons_succ])
          generalize v19.alloc (.cells zA 34) = v20 at *
          generalize v19.heap.size = g20 at *
          obtain ⟨W1, hW1, ⟨q0, q1, q2, q3⟩, ⟨f0, f1, f2, f3⟩, E1, ⟨r0, r1, r2, r3⟩, ⟨k0, k1, k2, k3⟩, W2, hW2, HP2⟩ := S20.put2 hx hy
          unfold set4 at hW1 hW2
          have hSn1 := hHeld.ext E1
          have hSn2 := hHeld.ext HP2.e
          clear hSn
          (refine wpAnyU_one 8 (o := ?_) (by kernel_rfl) ?_ ?_; rotate_left 1; (simp only [List.getElem?_toArray, List.getElem?_cons_succ, List.getElem?_cons_zero]; rfl); intro K hK)
          go_simp
          rw [← hW1]
          clear hW1
          refine hK.out _ _ (fun _ => hSn1) ?_
          clear hK K q0 q1 q2 q3 f0 f1 f2 f3
          (try simp only [Act.put, List.setIfInBounds_toArray, List.set_cons_zero, List.set_cons_succ])
          (refine wpAnyU_one 9 (o := ?_) (by kernel_rfl) ?_ ?_; rotate_left 1; (simp only [List.getElem?_toArray, List.getElem?_cons_succ, List.getElem?_cons_zero]; rfl); intro K hK)
          go_simp
          rw [← hW2]
          clear hW2
          refine hK.out _ _ (fun _ => hSn2) ?_
          clear hK K r0 r1 r2 r3 k0 k1 k2 k3
          (try simp only [Act.put, List.setIfInBounds_toArray, List.set_cons_zero, List.set_cons_succ])
          refine wpAnyU_done (by kernel_rfl) ?_ _
          go_wp2_with (fail)
          go_meet
          exact ⟨_, _, x, y, sx, sy, rfl, rfl, hsx, hsy, HP2⟩
        · go_simp
          have S21 := S18.allB
          replace hx := S18.keepB hx
          try clear hSn
          have hSn := hHeld.ext S21.e
          refine hK.out _ _ (fun _ => hSn) ?_
          clear hK K
          (try simp only [Act.put, List.setIfInBounds_toArray, List.set_cons_zero, List.set_cons_succ])
          generalize v18.alloc (.cells zA 34) = v21 at *
          generalize v18.heap.size = g21 at *
          (refine wpAnyU_one 5 (o := ?_) (by kernel_rfl) ?_ ?_; rotate_left 1; (simp only [List.getElem?_toArray, List.getElem?_cons_succ, List.getElem?_cons_zero]; rfl); intro K hK)
          go_simp
          refine (C5.out _ _ v21 S21).mono ?_
          rintro e v22 ⟨y, sy, rfl, hy, hsy, D⟩
          go_wp2_with (fail)
          have S22 := S21.call D
          replace hx := hx.ext D
          clear D
          try clear hSn
          have hSn := hHeld.ext S22.e
          refine hK.out _ _ (fun _ => hSn) ?_
          clear hK K
          (try simp only [Act.put, List.setIfInBounds_toArray, List.set_cons_zero, List.set_cons_succ])
          obtain ⟨W1, hW1, ⟨q0, q1, q2, q3⟩, ⟨f0, f1, f2, f3⟩, E1, ⟨r0, r1, r2, r3⟩, ⟨k0, k1, k2, k3⟩, W2, hW2, HP2⟩ := S22.put2 hx hy
          unfold set4 at hW1 hW2
          have hSn1 := hHeld.ext E1
          have hSn2 := hHeld.ext HP2.e
          clear hSn
          (refine wpAnyU_one 8 (o := ?_) (by kernel_rfl) ?_ ?_; rotate_left 1; (simp only [List.getElem?_toArray, List.getElem?_cons_succ, List.getElem?_cons_zero]; rfl); intro K hK)
          go_simp
          rw [← hW1]
          clear hW1
          refine hK.out _ _ (fun _ => hSn1) ?_
          clear hK K q0 q1 q2 q3 f0 f1 f2 f3
          (try simp only [Act.put, List.setIfInBounds_toArray, List.set_cons_zero, List.set_cons_succ])
          (refine wpAnyU_one 9 (o := ?_) (by kernel_rfl) ?_ ?_; rotate_left 1; (simp only [List.getElem?_toArray, List.getElem?_cons_succ, List.getElem?_cons_zero]; rfl); intro K hK)
          go_simp
          rw [← hW2]
          clear hW2
          refine hK.out _ _ (fun _ => hSn2) ?_
          clear hK K r0 r1 r2 r3 k0 k1 k2 k3
          (try simp only [Act.put, List.setIfInBounds_toArray, List.set_cons_zero, List.set_cons_succ])
          refine wpAnyU_done (by kernel_rfl) ?_ _
          go_wp2_with (fail)
          go_meet
          exact ⟨_, _, x, y, sx, sy, rfl, rfl, hsx, hsy, HP2⟩
      · go_simp
        have S23 := S17.allB
        try clear hSn
        have hSn := hHeld.ext S23.e
        refine hK.out _ _ (fun _ => hSn) ?_
        clear hK K
        (try simp only [Act.put, List.setIfInBounds_toArray, List.set_cons_zero, List.set_cons_succ])
        generalize v17.alloc (.cells zA 34) = v23 at *
        generalize v17.heap.size = g23 at *
        (refine wpAnyU_one 2 (o := ?_) (by kernel_rfl) ?_ ?_; rotate_left 1; (simp only [List.getElem?_toArray, List.getElem?_cons_succ, List.getElem?_cons_zero]; rfl); intro K hK)
        go_simp
        refine (C2.out _ _ v23 S23).mono ?_
        rintro e v24 ⟨x, sx, rfl, hx, hsx, D⟩
        go_wp2_with (fail)
        have S24 := S23.call D
        clear D
        try clear hSn
        have hSn := hHeld.ext S24.e
        refine hK.out _ _ (fun _ => hSn) ?_
        clear hK K
        (try simp only [Act.put, List.setIfInBounds_toArray, List.set_cons_zero, List.set_cons_succ])
        (refine wpAnyU_one 5 (o := ?_) (by kernel_rfl) ?_ ?_; rotate_left 1; (simp only [List.getElem?_toArray, List.getElem?_cons_succ, List.getElem?_cons_zero]; rfl); intro K hK)
        go_simp
        refine (C5.out _ _ v24 S24).mono ?_
        rintro e v25 ⟨y, sy, rfl, hy, hsy, D⟩
        go_wp2_with (fail)
        have S25 := S24.call D
        replace hx := hx.ext D
        clear D
        try clear hSn
        have hSn := hHeld.ext S25.e
        refine hK.out _ _ (fun _ => hSn) ?_
        clear hK K
        (try simp only [Act.put, List.setIfInBounds_toArray, List.set_cons_zero, List.set_cons_succ])
        obtain ⟨W1, hW1, ⟨q0, q1, q2, q3⟩, ⟨f0, f1, f2, f3⟩, E1, ⟨r0, r1, r2, r3⟩, ⟨k0, k1, k2, k3⟩, W2, hW2, HP2⟩ := S25.put2 hx hy
        unfold set4 at hW1 hW2
        have hSn1 := hHeld.ext E1
        have hSn2 := hHeld.ext HP2.e
        clear hSn
        (refine wpAnyU_one 8 (o := ?_) (by kernel_rfl) ?_ ?_; rotate_left 1; (simp only [List.getElem?_toArray, List.getElem?_cons_succ, List.getElem?_cons_zero]; rfl); intro K hK)
        go_simp
        rw [← hW1]
        clear hW1
        refine hK.out _ _ (fun _ => hSn1) ?_
        clear hK K q0 q1 q2 q3 f0 f1 f2 f3
        (try simp only [Act.put, List.setIfInBounds_toArray, List.set_cons_zero, List.set_cons_succ])
        (refine wpAnyU_one 9 (o := ?_) (by kernel_rfl) ?_ ?_; rotate_left 1; (simp only [List.getElem?_toArray, List.getElem?_cons_succ, List.getElem?_cons_zero]; rfl); intro K hK)
        go_simp
        rw [← hW2]
        clear hW2
        refine hK.out _ _ (fun _ => hSn2) ?_
        clear hK K r0 r1 r2 r3 k0 k1 k2 k3
        (try simp only [Act.put, List.setIfInBounds_toArray, List.set_cons_zero, List.set_cons_succ])
        refine wpAnyU_done (by kernel_rfl) ?_ _
        go_wp2_with (fail)
        go_meet
        exact ⟨_, _, x, y, sx, sy, rfl, rfl, hsx, hsy, HP2⟩
    · go_simp
      have S26 := S0.allB
      try clear hSn
      have hSn := hHeld.ext S26.e
      refine hK.out _ _ (fun _ => hSn) ?_
      clear hK K
      (try simp only [Act.put, List.setIfInBounds_toArray, List.set_cons_zero, List.set_cons_succ])
      generalize wd.alloc (.cells zA 34) = v26 at *
      generalize wd.heap.size = g26 at *
      (refine wpAnyU_two 2 6 (oi := ?_) (oj := ?_) (by kernel_rfl) ?_ ?_ ?_ ?_; rotate_left 2; (simp only [List.getElem?_toArray, List.getElem?_cons_succ, List.getElem?_cons_zero]; rfl); (simp only [List.getElem?_toArray, List.getElem?_cons_succ, List.getElem?_cons_zero]; rfl); all_goals intro K hK)
      · go_simp
        refine (C2.out _ _ v26 S26).mono ?_
        rintro e v27 ⟨x, sx, rfl, hx, hsx, D⟩
        go_wp2_with (fail)
        have S27 := S26.call D
        clear D
        try clear hSn
        have hSn := hHeld.ext S27.e
        refine hK.out _ _ (fun _ => hSn) ?_
        clear hK K
        (try simp only [Act.put, List.setIfInBounds_toArray, List.set_cons_zero, List.set_cons_succ])
        (refine wpAnyU_two 5 6 (oi := ?_) (oj := ?_) (by kernel_rfl) ?_ ?_ ?_ ?_; rotate_left 2; (simp only [List.getElem?_toArray, List.getElem?_cons_succ, List.getElem?_cons_zero]; rfl); (simp only [List.getElem?_toArray, List.getElem?_cons_succ, List.getElem?_cons_zero]; rfl); all_goals intro K hK)
        · go_simp
          refine (C5.out _ _ v27 S27).mono ?_
          rintro e v28 ⟨y, sy, rfl, hy, hsy, D⟩
          go_wp2_with (fail)
          have S28 := S27.call D
          replace hx := hx.ext D
          clear D
          try clear hSn
          have hSn := hHeld.ext S28.e
          refine hK.out _ _ (fun _ => hSn) ?_
          clear hK K
          (try simp only [Act.put, List.setIfInBounds_toArray, List.set_cons_zero, List.set_cons_succ])
          (refine wpAnyU_one 6 (o := ?_) (by kernel_rfl) ?_ ?_; rotate_left 1; (simp only [List.getElem?_toArray, List.getElem?_cons_succ, List.getElem?_cons_zero]; rfl); intro K hK)
          go_simp
          have S29 := S28.allA
          replace hx := S28.keepA hx
          replace hy := S28.keepA hy
          try clear hSn
          have hSn := hHeld.ext S29.e
          refine hK.out _ _ (fun _ => hSn) ?_
          clear hK K
          (try simp only [Act.put, List.setIfInBounds_toArray, List.set_cons_zero, List.set_cons_succ])
          generalize v28.alloc (.cells zA 34) = v29 at *
          generalize v28.heap.size = g29 at *
          obtain ⟨W1, hW1, ⟨q0, q1, q2, q3⟩, ⟨f0, f1, f2, f3⟩, E1, ⟨r0, r1, r2, r3⟩, ⟨k0, k1, k2, k3⟩, W2, hW2, HP2⟩ := S29.put2 hx hy
          unfold set4 at hW1 hW2
          have hSn1 := hHeld.ext E1
          have hSn2 := hHeld.ext HP2.e
          clear hSn
          (refine wpAnyU_one 8 (o := ?_) (by kernel_rfl) ?_ ?_; rotate_left 1; (simp only [List.getElem?_toArray, List.getElem?_cons_succ, List.getElem?_cons_zero]; rfl); intro K hK)
          go_simp
          rw [← hW1]
          clear hW1
          refine hK.out _ _ (fun _ => hSn1) ?_
          clear hK K q0 q1 q2 q3 f0 f1 f2 f3
          (try simp only [Act.put, List.setIfInBounds_toArray, List.set_cons_zero, List.set_cons_succ])
          (refine wpAnyU_one 9 (o := ?_) (by kernel_rfl) ?_ ?_; rotate_left 1; (simp only [List.getElem?_toArray, List.getElem?_cons_succ, List.getElem?_cons_zero]; rfl); intro K hK)
          go_simp
          rw [← hW2]
          clear hW2
          refine hK.out _ _ (fun _ => hSn2) ?_
          clear hK K r0 r1 r2 r3 k0 k1 k2 k3
          (try simp only [Act.put, List.setIfInBounds_toArray, List.set_cons_zero, List.set_cons_succ])
          refine wpAnyU_done (by kernel_rfl) ?_ _
          go_wp2_with (fail)
          go_meet
          exact ⟨_, _, x, y, sx, sy, rfl, rfl, hsx, hsy, HP2⟩
        · go_simp
          have S30 := S27.allA
          replace hx := S27.keepA hx
          try clear hSn
          have hSn := hHeld.ext S30.e
          refine hK.out _ _ (fun _ => hSn) ?_
          clear hK K
          (try simp only [Act.put, List.setIfInBounds_toArray, List.set_cons_zero, List.set_cons_succ])
          generalize v27.alloc (.cells zA 34) = v30 at *
          generalize v27.heap.size = g30 at *
          (refine wpAnyU_one 5 (o := ?_) (by kernel_rfl) ?_ ?_; rotate_left 1; (simp only [List.getElem?_toArray, List.getElem?_cons_succ, List.getElem?_cons_zero]; rfl); intro K hK)
          go_simp
          refine (C5.out _ _ v30 S30).mono ?_
          rintro e v31 ⟨y, sy, rfl, hy, hsy, D⟩
          go_wp2_with (fail)
          have S31 := S30.call D
          replace hx := hx.ext D
          clear D
          try clear hSn
          have hSn := hHeld.ext S31.e
          refine hK.out _ _ (fun _ => hSn) ?_
          clear hK K
          (try simp only [Act.put, List.setIfInBounds_toArray, List.set_cons_zero, List.set_cons_succ])
          obtain ⟨W1, hW1, ⟨q0, q1, q2, q3⟩, ⟨f0, f1, f2, f3⟩, E1, ⟨r0, r1, r2, r3⟩, ⟨k0, k1, k2, k3⟩, W2, hW2, HP2⟩ := S31.put2 hx hy
          unfold set4 at hW1 hW2
          have hSn1 := hHeld.ext E1
          have hSn2 := hHeld.ext HP2.e
          clear hSn
          (refine wpAnyU_one 8 (o := ?_) (by kernel_rfl) ?_ ?_; rotate_left 1; (simp only [List.getElem?_toArray, List.getElem?_cons_succ, List.getElem?_cons_zero]; rfl); intro K hK)
          go_simp
          rw [← hW1]
          clear hW1
          refine hK.out _ _ (fun _ => hSn1) ?_
          clear hK K q0 q1 q2 q3 f0 f1 f2 f3
          (try simp only [Act.put, List.setIfInBounds_toArray, List.set_cons_zero, List.set_cons_succ])
          (refine wpAnyU_one 9 (o := ?_) (by kernel_rfl) ?_ ?_; rotate_left 1; (simp only [List.getElem?_toArray, List.getElem?_cons_succ, List.getElem?_cons_zero]; rfl); intro K hK)
          go_simp
          rw [← hW2]
          clear hW2
          refine hK.out _ _ (fun _ => hSn2) ?_
          clear hK K r0 r1 r2 r3 k0 k1 k2 k3
          (try simp only [Act.put, List.setIfInBounds_toArray, List.set_cons_zero, List.set_cons_succ])
          refine wpAnyU_done (by kernel_rfl) ?_ _
          go_wp2_with (fail)
          go_meet
          exact ⟨_, _, x, y, sx, sy, rfl, rfl, hsx, hsy, HP2⟩
      · go_simp
        have S32 := S26.allA
        try clear hSn
        have hSn := hHeld.ext S32.e
        refine hK.out _ _ (fun _ => hSn) ?_
        clear hK K
        (try simp only [Act.put, List.setIfInBounds_toArray, List.set_cons_zero, List.set_cons_succ])
        generalize v26.alloc (.cells zA 34) = v32 at *
        generalize v26.heap.size = g32 at *
        (refine wpAnyU_one 2 (o := ?_) (by kernel_rfl) ?_ ?_; rotate_left 1; (simp only [List.getElem?_toArray, List.getElem?_cons_succ, List.getElem?_cons_zero]; rfl); intro K hK)
        go_simp
        refine (C2.out _ _ v32 S32).mono ?_
        rintro e v33 ⟨x, sx, rfl, hx, hsx, D⟩
        go_wp2_with (fail)
        have S33 := S32.call D
        clear D
        try clear hSn
        have hSn := hHeld.ext S33.e
        refine hK.out _ _ (fun _ => hSn) ?_
        clear hK K
        (try simp only [Act.put, List.setIfInBounds_toArray, List.set_cons_zero, List.set_cons_succ])
        (refine wpAnyU_one 5 (o := ?_) (by kernel_rfl) ?_ ?_; rotate_left 1; (simp only [List.getElem?_toArray, List.getElem?_cons_succ, List.getElem?_cons_zero]; rfl); intro K hK)
        go_simp
        refine (C5.out _ _ v33 S33).mono ?_
        rintro e v34 ⟨y, sy, rfl, hy, hsy, D⟩
        go_wp2_with (fail)
        have S34 := S33.call D
        replace hx := hx.ext D
        clear D
        try clear hSn
        have hSn := hHeld.ext S34.e
        refine hK.out _ _ (fun _ => hSn) ?_
        clear hK K
        (try simp only [Act.put, List.setIfInBounds_toArray, List.set_cons_zero, List.set_cons_succ])
        obtain ⟨W1, hW1, ⟨q0, q1, q2, q3⟩, ⟨f0, f1, f2, f3⟩, E1, ⟨r0, r1, r2, r3⟩, ⟨k0, k1, k2, k3⟩, W2, hW2, HP2⟩ := S34.put2 hx hy
        unfold set4 at hW1 hW2
        have hSn1 := hHeld.ext E1
        have hSn2 := hHeld.ext HP2.e
        clear hSn
        (refine wpAnyU_one 8 (o := ?_) (by kernel_rfl) ?_ ?_; rotate_left 1; (simp only [List.getElem?_toArray, List.getElem?_cons_succ, List.getElem?_cons_zero]; rfl); intro K hK)
        go_simp
        rw [← hW1]
        clear hW1
        refine hK.out _ _ (fun _ => hSn1) ?_
        clear hK K q0 q1 q2 q3 f0 f1 f2 f3
        (try simp only [Act.put, List.setIfInBounds_toArray, List.set_cons_zero, List.set_cons_succ])
        (refine wpAnyU_one 9 (o := ?_) (by kernel_rfl) ?_ ?_; rotate_left 1; (simp only [List.getElem?_toArray, List.getElem?_cons_succ, List.getElem?_cons_zero]; rfl); intro K hK)
        go_simp
        rw [← hW2]
        clear hW2
        refine hK.out _ _ (fun _ => hSn2) ?_
        clear hK K r0 r1 r2 r3 k0 k1 k2 k3
        (try simp only [Act.put, List.setIfInBounds_toArray, List.set_cons_zero, List.set_cons_succ])
        refine wpAnyU_done (by kernel_rfl) ?_ _
        go_wp2_with (fail)
        go_meet
        exact ⟨_, _, x, y, sx, sy, rfl, rfl, hsx, hsy, HP2⟩
  case rest =>
    obtain ⟨ba, bb, x, y, sx, sy, rfl, rfl, hsx, hsy, hput⟩ := hcut
    have HPU := Lib.hid hput
    have HSX := Lib.hid hsx
    have HSY := Lib.hid hsy
    clear hput hsx hsy
    have CN1 := Lib.hid (rf_canonical 4 M0 sx x 5 wc HPU.out.x (by have := HPU.out.x.lev; omega))
    obtain ⟨x0, x1, x2, x3⟩ := HPU.out.p
    go_wp2_with (fail)
    refine CN1.out.mono ?_
    rintro e w5 ⟨rfl, he5⟩
    have HPV := Lib.hid (HPU.out.ext he5)
    have CN2 := Lib.hid (rf_canonical 4 M0 sy y 5 w5 HPV.out.y (by have := HPV.out.y.lev; omega))
    clear he5 CN1 HPU x0 x1 x2 x3
    obtain ⟨y0, y1, y2, y3⟩ := HPV.out.q
    go_wp2_with (fail)
    refine CN2.out.mono ?_
    rintro e w6 ⟨rfl, he6⟩
    have HPU := Lib.hid (HPV.out.ext he6)
    clear he6 CN2 HPV y0 y1 y2 y3
    rcases HZ.out with ⟨hz, rfl⟩ | ⟨_, hz, _⟩ | ⟨hz, K', n, hK', _, _, rfl, hd, _⟩
    · obtain rfl : sx = [] := by
        rcases HSX.out with ⟨_, h⟩ | ⟨h, _⟩ | ⟨h, _⟩
        · exact h
        · exact absurd hz h
        · exact absurd hz h
      obtain rfl : sy = [] := by
        rcases HSY.out with ⟨_, h⟩ | ⟨h, _⟩ | ⟨h, _⟩
        · exact h
        · exact absurd hz h
        · exact absurd hz h
      have CZ1 := Lib.hid (rp_IsZero M0 x [] w6 (mb0 _) HPU.out.x.pi)
      obtain ⟨x0, x1, x2, x3⟩ := HPU.out.p
      clear hz HZ HSX HSY
      go_wp2_with (fail)
      refine CZ1.out.mono ?_
      rintro e w7 ⟨b7, rfl, hb7, he7⟩
      obtain rfl : b7 = true := hb7.2 (Sim.refl _)
      have HPV := Lib.hid (HPU.out.ext he7)
      have CZ2 := Lib.hid (rp_IsZero M0 y [] w7 (mb0 _) HPV.out.y.pi)
      clear he7 hb7 CZ1 HPU x0 x1 x2 x3
      obtain ⟨y0, y1, y2, y3⟩ := HPV.out.q
      go_wp2_with (fail)
      refine CZ2.out.mono ?_
      rintro e w8 ⟨b8, rfl, hb8, he8⟩
      obtain rfl : b8 = true := hb8.2 (Sim.refl _)
      have HF := Lib.hid (HE4.out.trans (HPV.out.e.trans he8))
      clear he8 hb8 CZ2 HPV y0 y1 y2 y3
      go_wp2
      go_ret
      exact ⟨rfl, HF.out⟩
    · exact absurd ⟨by have := HK.out; omega, by have := HK.out; omega⟩ hz
    · obtain rfl : kv = K' := by omega
      have hn6 : n ≤ 6 := dg_le hd HS1.out.deg
      obtain rfl : sx = ck kv (n : Int) (norm l1) := by
        rcases HSX.out with ⟨h, _⟩ | ⟨_, h, _⟩ | ⟨_, K2, n2, h2, _, _, hd2, h⟩
        · exact absurd h hz
        · exact absurd ⟨by have := HK.out; omega, by have := HK.out; omega⟩ h
        · obtain rfl : kv = K2 := by omega
          rw [h, dgr_uniq HS1.out.nn hz hd2 hd]
      obtain rfl : sy = poly kv n fun i => ck kv (i : Int) (norm l1) := by
        rcases HSY.out with ⟨h, _⟩ | ⟨_, h, _⟩ | ⟨_, K2, n2, h2, _, _, hd2, h⟩
        · exact absurd h hz
        · exact absurd ⟨by have := HK.out; omega, by have := HK.out; omega⟩ h
        · obtain rfl : kv = K2 := by omega
          rw [h, dgr_uniq HS1.out.nn hz hd2 hd]
      have hnl : ¬ (n : Int) < 0 := by omega
      have hn0 : (0 : Int) ≤ (n : Int) := Int.natCast_nonneg _
      have HN6 := Lib.hid hn6
      have HD := Lib.hid hd
      have HNZ := Lib.hid hz
      have HSXD : Hid (Deg 6 (ck kv (n : Int) (norm l1))) := ck_deg HK.out.1 HK.out.2 HS1.out.deg
      have HSXL : Hid (dlen (nrm (ck kv (n : Int) (norm l1))) ≤ 7) := Nat.le_trans (dlen_mono (ck_nrm _ _ _)) HS1.out.dl
      clear hz hd HZ HSX HSY
      have HQA : Hid (SRd ba x w6.drew) := HPU.out.p.ext (Ext.refl w6).drew
      go_upto_region 12 with (fail)
      go_cut [9] (LrD (pmul (ck kv (n : Int) (norm l1)) (ppow (varL (kv : Int)) n)) w6.drew)
      case first =>
        have HCX : Hid (CRx M0 w6.drew 4 x (ck kv (n : Int) (norm l1))) := HPU.out.x.ext (Ext.refl w6).drew
        have hv1 : dlen (nrm (varL (kv : Int))) ≤ 1 := by
          unfold varL
          split
          · exact (show dlen 1 ≤ 1 from by decide)
          · decide
        have hp1 : dlen (nrm (ppow (varL (kv : Int)) n)) ≤ 7 := by
          have h1 := dlen_ppow (varL (kv : Int)) n
          have h2 : n * dlen (nrm (varL (kv : Int))) ≤ 6 * 1 := Nat.mul_le_mul hn6 hv1
          omega
        have hnv : NN (varL (kv : Int)) := fun m hm => by
          unfold varL
          split
          · show (if xp (kv : Int).toNat 1 = m then (1 : Int) else 0) + 0 = 0
            rw [if_neg]; rfl
            rintro rfl
            have : (xp (kv : Int).toNat 1).nn = true := by
              rw [Mo.nn_iff]; unfold xp; simp only; repeat' apply And.intro
              all_goals split <;> omega
            rw [this] at hm; cases hm
          · rfl
        have C2 : Hid (∀ A B W, S7 w6.drew W A B → Calls Tryz.prog 55 #[.int .i64 (kv : Int)] W (RetX (M7 A B) W 4 (varL (kv : Int)))) := fun A B W h => rp_Var _ (kv : Int) W h.mb
        have C4 : Hid (∀ A B W, S7 w6.drew W A B → ∀ p, CRx (M7 A B) W 4 p (varL (kv : Int)) → Calls Tryz.prog 54 #[.agg (peA p), .int .i64 (n : Int)] W (RetX (M7 A B) W 4 (ppow (varL (kv : Int)) n))) := fun A B W h p hp => by
          have := rp_Pow (M7 A B) p (varL (kv : Int)) 1 (n : Int) W h.mb hp.pi (by omega) (by
            have h2 : n * dlen (nrm (varL (kv : Int))) ≤ 6 * 1 := Nat.mul_le_mul hn6 hv1
            rw [Int.toNat_natCast]; omega) (deg_var _) (by
            rw [Int.toNat_natCast, Nat.mul_one]
            exact Nat.le_trans (Nat.mul_le_mul (show n + 1 ≤ 7 by omega) (show n + 1 ≤ 7 by omega)) (by decide))
          rw [Int.toNat_natCast] at this
          exact this
        have C5 : Hid (∀ A B W, S7 w6.drew W A B → ∀ p, CRx (M7 A B) W 4 p (ppow (varL (kv : Int)) n) → Calls Tryz.prog 46 #[.agg (peA x), .agg (peA p)] W (RetX (M7 A B) W 4 (pmul (ck kv (n : Int) (norm l1)) (ppow (varL (kv : Int)) n)))) := fun A B W h p hp => rp_Mul _ x p _ _ 6 6 W h.mb (h.old HCX.out).pi hp.pi (by have := HSXL.out; omega) HSXD.out ((deg_ppow (deg_var _) hnv n).mono (by omega)) (by decide)
        have S0 := S7.start w6.drew
        refine wp_region_u (SRd ba x) 8 (by kernel_rfl) HQA.out (fun hHeld => ?_)
        clear HE4 HP4 HR4 HCX hv1 hp1 hnv HPU HQA HS1 HK HSXD HSXL HN6 HD HNZ
        generalize w6.drew = wd at *
        (refine tkB [0, 1, 3] ?_; (iterate 3 (refine tk1 (oi := ?_) (v := ?_) (by kernel_rfl) (by first | exact hSn | exact hHeld) ?_ ?_ ?_ ?_ ?_; rotate_left 2; (simp only [List.getElem?_toArray, List.getElem?_cons_succ, List.getElem?_cons_zero]; rfl); rfl; (intro wS hSw; obtain ⟨S1, S2, S3, S4⟩ := hSw; go_simp; try with_reducible rfl); (exact fun _ _ _ h => h); (try simp only [Act.put, List.setIfInBounds_toArray, List.set_cons_zero, List.set_cons_succ]))); refine tkE ?_)
        (refine wpAnyU_two 2 6 (oi := ?_) (oj := ?_) (by kernel_rfl) ?_ ?_ ?_ ?_; rotate_left 2; (simp only [List.getElem?_toArray, List.getElem?_cons_succ, List.getElem?_cons_zero]; rfl); (simp only [List.getElem?_toArray, List.getElem?_cons_succ, List.getElem?_cons_zero]; rfl); all_goals intro K hK)
        · go_simp
          refine (C2.out _ _ wd S0).mono ?_
          rintro e v1 ⟨p1, rfl, hp1, D⟩
          go_wp2_with (fail)
          have S1 := S0.call D
          clear D
          try clear hSn
          have hSn := hHeld.ext S1.e
          refine hK.out _ _ (fun _ => hSn) ?_
          clear hK K
          (try simp only [Act.put, List.setIfInBounds_toArray, List.set_cons_zero, List.set_cons_succ])
          (refine wpAnyU_two 4 6 (oi := ?_) (oj := ?_) (by kernel_rfl) ?_ ?_ ?_ ?_; rotate_left 2; (simp only [List.getElem?_toArray, List.getElem?_cons_succ, List.getElem?_cons_zero]; rfl); (simp only [List.getElem?_toArray, List.getElem?_cons_succ, List.getElem?_cons_zero]; rfl); all_goals intro K hK)
          · go_simp
            refine (C4.out _ _ v1 S1 _ hp1).mono ?_
            rintro e v2 ⟨p2, rfl, hp2, D⟩
            go_wp2_with (fail)
            have S2 := S1.call D
            replace hp1 := hp1.ext D
            clear D
            try clear hSn
            have hSn := hHeld.ext S2.e
            refine hK.out _ _ (fun _ => hSn) ?_
            clear hK K
            (try simp only [Act.put, List.setIfInBounds_toArray, List.set_cons_zero, List.set_cons_succ])
            (refine wpAnyU_two 5 6 (oi := ?_) (oj := ?_) (by kernel_rfl) ?_ ?_ ?_ ?_; rotate_left 2; (simp only [List.getElem?_toArray, List.getElem?_cons_succ, List.getElem?_cons_zero]; rfl); (simp only [List.getElem?_toArray, List.getElem?_cons_succ, List.getElem?_cons_zero]; rfl); all_goals intro K hK)
            · go_simp
              refine (C5.out _ _ v2 S2 _ hp2).mono ?_
              rintro e v3 ⟨v, rfl, hv, D⟩
              go_wp2_with (fail)
              have S3 := S2.call D
              replace hp1 := hp1.ext D
              replace hp2 := hp2.ext D
              clear D
              try clear hSn
              have hSn := hHeld.ext S3.e
              refine hK.out _ _ (fun _ => hSn) ?_
              clear hK K
              (try simp only [Act.put, List.setIfInBounds_toArray, List.set_cons_zero, List.set_cons_succ])
              (refine wpAnyU_one 6 (o := ?_) (by kernel_rfl) ?_ ?_; rotate_left 1; (simp only [List.getElem?_toArray, List.getElem?_cons_succ, List.getElem?_cons_zero]; rfl); intro K hK)
              go_simp
              have S4 := S3.allA
              replace hp1 := S3.keepA hp1
              replace hp2 := S3.keepA hp2
              replace hv := S3.keepA hv
              try clear hSn
              have hSn := hHeld.ext S4.e
              refine hK.out _ _ (fun _ => hSn) ?_
              clear hK K
              (try simp only [Act.put, List.setIfInBounds_toArray, List.set_cons_zero, List.set_cons_succ])
              generalize v3.alloc (.cells zA 34) = v4 at *
              generalize v3.heap.size = g4 at *
              obtain ⟨W1, hW1, ⟨q0, q1, q2, q3⟩, ⟨f0, f1, f2, f3⟩, HP2⟩ := S4.put1 hv
              unfold set4 at hW1
              have hSn1 := hHeld.ext HP2.e
              clear hSn
              (refine wpAnyU_one 7 (o := ?_) (by kernel_rfl) ?_ ?_; rotate_left 1; (simp only [List.getElem?_toArray, List.getElem?_cons_succ, List.getElem?_cons_zero]; rfl); intro K hK)
              go_simp
              rw [← hW1]
              clear hW1
              refine hK.out _ _ (fun _ => hSn1) ?_
              clear hK K q0 q1 q2 q3 f0 f1 f2 f3
              (try simp only [Act.put, List.setIfInBounds_toArray, List.set_cons_zero, List.set_cons_succ])
              refine wpAnyU_done (by kernel_rfl) ?_ _
              go_wp2_with (fail)
              go_meet
              exact ⟨_, v, rfl, HP2⟩
            · go_simp
              have S5 := S2.allA
              replace hp1 := S2.keepA hp1
              replace hp2 := S2.keepA hp2
              try clear hSn
              have hSn := hHeld.ext S5.e
              refine hK.out _ _ (fun _ => hSn) ?_
              clear hK K
              (try simp only [Act.put, List.setIfInBounds_toArray, List.set_cons_zero, List.set_cons_succ])
              generalize v2.alloc (.cells zA 34) = v5 at *
              generalize v2.heap.size = g5 at *
              (refine wpAnyU_one 5 (o := ?_) (by kernel_rfl) ?_ ?_; rotate_left 1; (simp only [List.getElem?_toArray, List.getElem?_cons_succ, List.getElem?_cons_zero]; rfl); intro K hK)
              go_simp
              refine (C5.out _ _ v5 S5 _ hp2).mono ?_
              rintro e v6 ⟨v, rfl, hv, D⟩
              go_wp2_with (fail)
              have S6 := S5.call D
              replace hp1 := hp1.ext D
              replace hp2 := hp2.ext D
              clear D
              try clear hSn
              have hSn := hHeld.ext S6.e
              refine hK.out _ _ (fun _ => hSn) ?_
              clear hK K
              (try simp only [Act.put, List.setIfInBounds_toArray, List.set_cons_zero, List.set_cons_succ])
              obtain ⟨W1, hW1, ⟨q0, q1, q2, q3⟩, ⟨f0, f1, f2, f3⟩, HP2⟩ := S6.put1 hv
              unfold set4 at hW1
              have hSn1 := hHeld.ext HP2.e
              clear hSn
              (refine wpAnyU_one 7 (o := ?_) (by kernel_rfl) ?_ ?_; rotate_left 1; (simp only [List.getElem?_toArray, List.getElem?_cons_succ, List.getElem?_cons_zero]; rfl); intro K hK)
              go_simp
              rw [← hW1]
              clear hW1
              refine hK.out _ _ (fun _ => hSn1) ?_
              clear hK K q0 q1 q2 q3 f0 f1 f2 f3
              (try simp only [Act.put, List.setIfInBounds_toArray, List.set_cons_zero, List.set_cons_succ])
              refine wpAnyU_done (by kernel_rfl) ?_ _
              go_wp2_with (fail)
              go_meet
              exact ⟨_, v, rfl, HP2⟩
          · go_simp
            have S7 := S1.allA
            replace hp1 := S1.keepA hp1
            try clear hSn
            have hSn := hHeld.ext S7.e
            refine hK.out _ _ (fun _ => hSn) ?_
            clear hK K
            (try simp only [Act.put, List.setIfInBounds_toArray, List.set_cons_zero, List.set_cons_succ])
            generalize v1.alloc (.cells zA 34) = v7 at *
            generalize v1.heap.size = g7 at *
            (refine wpAnyU_one 4 (o := ?_) (by kernel_rfl) ?_ ?_; rotate_left 1; (simp only [List.getElem?_toArray, List.getElem?_cons_succ, List.getElem?_cons_zero]; rfl); intro K hK)
            go_simp
            refine (C4.out _ _ v7 S7 _ hp1).mono ?_
            rintro e v8 ⟨p2, rfl, hp2, D⟩
            go_wp2_with (fail)
            have S8 := S7.call D
            replace hp1 := hp1.ext D
            clear D
            try clear hSn
            have hSn := hHeld.ext S8.e
            refine hK.out _ _ (fun _ => hSn) ?_
            clear hK K
            (try simp only [Act.put, List.setIfInBounds_toArray, List.set_cons_zero, List.set_cons_succ])
            (refine wpAnyU_one 5 (o := ?_) (by kernel_rfl) ?_ ?_; rotate_left 1; (simp only [List.getElem?_toArray, List.getElem?_cons_succ, List.getElem?_cons_zero]; rfl); intro K hK)
            go_simp
            refine (C5.out _ _ v8 S8 _ hp2).mono ?_
            rintro e v9 ⟨v, rfl, hv, D⟩
            go_wp2_with (fail)
            have S9 := S8.call D
            replace hp1 := hp1.ext D
            replace hp2 := hp2.ext D
            clear D
            try clear hSn
            have hSn := hHeld.ext S9.e
            refine hK.out _ _ (fun _ => hSn) ?_
            clear hK K
            (try simp only [Act.put, List.setIfInBounds_toArray, List.set_cons_zero, List.set_cons_succ])
            obtain ⟨W1, hW1, ⟨q0, q1, q2, q3⟩, ⟨f0, f1, f2, f3⟩, HP2⟩ := S9.put1 hv
            unfold set4 at hW1
            have hSn1 := hHeld.ext HP2.e
            clear hSn
            (refine wpAnyU_one 7 (o := ?_) (by kernel_rfl) ?_ ?_; rotate_left 1; (simp only [List.getElem?_toArray, List.getElem?_cons_succ, List.getElem?_cons_zero]; rfl); intro K hK)
            go_simp
            rw [← hW1]
            clear hW1
            refine hK.out _ _ (fun _ => hSn1) ?_
            clear hK K q0 q1 q2 q3 f0 f1 f2 f3
            (try simp only [Act.put, List.setIfInBounds_toArray, List.set_cons_zero, List.set_cons_succ])
            refine wpAnyU_done (by kernel_rfl) ?_ _
            go_wp2_with (fail)
            go_meet
            exact ⟨_, v, rfl, HP2⟩
        · go_simp
          have S10 := S0.allA
          try clear hSn
          have hSn := hHeld.ext S10.e
          refine hK.out _ _ (fun _ => hSn) ?_
          clear hK K
          (try simp only [Act.put, List.setIfInBounds_toArray, List.set_cons_zero, List.set_cons_succ])
          generalize wd.alloc (.cells zA 34) = v10 at *
          generalize wd.heap.size = g10 at *
          (refine wpAnyU_one 2 (o := ?_) (by kernel_rfl) ?_ ?_; rotate_left 1; (simp only [List.getElem?_toArray, List.getElem?_cons_succ, List.getElem?_cons_zero]; rfl); intro K hK)
          go_simp
          refine (C2.out _ _ v10 S10).mono ?_
          rintro e v11 ⟨p1, rfl, hp1, D⟩
          go_wp2_with (fail)
          have S11 := S10.call D
          clear D
          try clear hSn
          have hSn := hHeld.ext S11.e
          refine hK.out _ _ (fun _ => hSn) ?_
          clear hK K
          (try simp only [Act.put, List.setIfInBounds_toArray, List.set_cons_zero, List.set_cons_succ])
          (refine wpAnyU_one 4 (o := ?_) (by kernel_rfl) ?_ ?_; rotate_left 1; (simp only [List.getElem?_toArray, List.getElem?_cons_succ, List.getElem?_cons_zero]; rfl); intro K hK)
          go_simp
          refine (C4.out _ _ v11 S11 _ hp1).mono ?_
          rintro e v12 ⟨p2, rfl, hp2, D⟩
          go_wp2_with (fail)
          have S12 := S11.call D
          replace hp1 := hp1.ext D
          clear D
          try clear hSn
          have hSn := hHeld.ext S12.e
          refine hK.out _ _ (fun _ => hSn) ?_
          clear hK K
          (try simp only [Act.put, List.setIfInBounds_toArray, List.set_cons_zero, List.set_cons_succ])
          (refine wpAnyU_one 5 (o := ?_) (by kernel_rfl) ?_ ?_; rotate_left 1; (simp only [List.getElem?_toArray, List.getElem?_cons_succ, List.getElem?_cons_zero]; rfl); intro K hK)
          go_simp
          refine (C5.out _ _ v12 S12 _ hp2).mono ?_
          rintro e v13 ⟨v, rfl, hv, D⟩
          go_wp2_with (fail)
          have S13 := S12.call D
          replace hp1 := hp1.ext D
          replace hp2 := hp2.ext D
          clear D
          try clear hSn
          have hSn := hHeld.ext S13.e
          refine hK.out _ _ (fun _ => hSn) ?_
          clear hK K
          (try simp only [Act.put, List.setIfInBounds_toArray, List.set_cons_zero, List.set_cons_succ])
          obtain ⟨W1, hW1, ⟨q0, q1, q2, q3⟩, ⟨f0, f1, f2, f3⟩, HP2⟩ := S13.put1 hv
          unfold set4 at hW1
          have hSn1 := hHeld.ext HP2.e
          clear hSn
          (refine wpAnyU_one 7 (o := ?_) (by kernel_rfl) ?_ ?_; rotate_left 1; (simp only [List.getElem?_toArray, List.getElem?_cons_succ, List.getElem?_cons_zero]; rfl); intro K hK)
          go_simp
          rw [← hW1]
          clear hW1
          refine hK.out _ _ (fun _ => hSn1) ?_
          clear hK K q0 q1 q2 q3 f0 f1 f2 f3
          (try simp only [Act.put, List.setIfInBounds_toArray, List.set_cons_zero, List.set_cons_succ])
          refine wpAnyU_done (by kernel_rfl) ?_ _
          go_wp2_with (fail)
          go_meet
          exact ⟨_, v, rfl, HP2⟩
      case rest =>
        obtain ⟨bc, v, rfl, hput1⟩ := hcut
        have hEw : Ext w6 wc := (Ext.refl w6).drew.trans hput1.e
        have hEd := (Ext.refl wc).drew
        have hS4 : SR4 ba bb bc br x y v r wc.drew := ⟨(HPU.out.p.ext hEw).ext hEd, (HPU.out.q.ext hEw).ext hEd, hput1.p.ext hEd, (P4.ext (P4.ext (P4.ext HP4.out HPU.out.e) hEw) hEd)⟩
        have HX := Lib.hid ((HPU.out.x.ext hEw).ext hEd)
        have HY := Lib.hid ((HPU.out.y.ext hEw).ext hEd)
        have HV := Lib.hid (hput1.x.ext hEd)
        have HR := Lib.hid (((HR4.out.ext HPU.out.e).ext hEw).ext hEd)
        have HE := Lib.hid (((HE4.out.trans HPU.out.e).trans hEw).trans hEd)
        have HSYD : Hid (NN (norm l1)) := HS1.out.nn
        have HMX : Hid (max (n : Int) 0 = (n : Int)) := by show _ = _; omega
        have hdl : dlen (nrm (pmul (ck kv (n : Int) (norm l1)) (ppow (varL (kv : Int)) n) ++ poly kv n fun i => ck kv (i : Int) (norm l1))) ≤ 1099511627776 := by
          have hv1 : dlen (nrm (varL (kv : Int))) ≤ 1 := by
            unfold varL
            split
            · exact (show dlen 1 ≤ 1 from by decide)
            · decide
          have h1 := dlen_ppow (varL (kv : Int)) n
          have h2 : n * dlen (nrm (varL (kv : Int))) ≤ 6 * 1 := Nat.mul_le_mul hn6 hv1
          have h3 := dlen_mul (nrm (ck kv (n : Int) (norm l1))) (nrm (ppow (varL (kv : Int)) n))
          have h4 := HSXL.out
          have h5 := poly_dl (L := kv) (A := 7) (N := n) (P := fun i => ck kv (i : Int) (norm l1)) (by omega) (fun i _ => Nat.le_trans (dlen_mono (ck_nrm _ _ _)) HS1.out.dl)
          have h6 := dlen_add (nrm (pmul (ck kv (n : Int) (norm l1)) (ppow (varL (kv : Int)) n))) (nrm (poly kv n fun i => ck kv (i : Int) (norm l1)))
          rw [nrm_append]
          rw [nrm_pmul] at h6
          rw [nrm_pmul]
          omega
        have HDL := Lib.hid hdl
        have hSame : Sim (pmul (ck kv (n : Int) (norm l1)) (ppow (varL (kv : Int)) n) ++ poly kv n fun i => ck kv (i : Int) (norm l1)) (norm l1) :=
          ((lead_shift HK.out.1 HK.out.2 _).append (Sim.refl _)).trans (red_sum HK.out.1 HK.out.2 HS1.out.nn HD.out)
        have HSAME := Lib.hid hSame
        clear hSame hdl hput1 hEw hEd HPU HP4 HR4 HE4 hn6
        go_upto_region 13 with (fail)
        refine wp_region_u (SR4 ba bb bc br x y v r) 25 (by kernel_rfl) hS4 (fun hHeld => ?_)
        clear hS4
        generalize wc.drew = wd at *
        (refine tkB [0] ?_; (iterate 1 (refine tk1 (oi := ?_) (v := ?_) (by kernel_rfl) (by first | exact hSn | exact hHeld) ?_ ?_ ?_ ?_ ?_; rotate_left 2; (simp only [List.getElem?_toArray, List.getElem?_cons_succ, List.getElem?_cons_zero]; rfl); rfl; (intro wS hSw; obtain ⟨⟨S1, S2, S3, S4⟩, ⟨S5, S6, S7, S8⟩, ⟨S9, S10, S11, S12⟩, S13, S14, S15, S16⟩ := hSw; go_simp; try with_reducible rfl); (exact fun _ _ _ h => h); (try simp only [Act.put, List.setIfInBounds_toArray, List.set_cons_zero, List.set_cons_succ]))); refine tkE ?_)
        ((refine wpAnyU_one 1 (o := ?_) (by kernel_rfl) ?_ ?_; rotate_left 1; (simp only [List.getElem?_toArray, List.getElem?_cons_succ, List.getElem?_cons_zero]; rfl); intro K hK); go_simp; (refine (rp_IsZero M0 x _ _ (mb0 _) HX.out.pi).mono ?_); rintro e_ q1 ⟨b1, rfl, hb1, e1⟩; go_wp2_with (fail); (try clear hSn); (have hSn := hHeld.ext e1); (refine hK.out _ _ (fun _ => hSn) ?_); clear hK K; (try simp only [Act.put, List.setIfInBounds_toArray, List.set_cons_zero, List.set_cons_succ]))
        obtain rfl : b1 = false := by
          cases b1 with
          | false => rfl
          | true => exact absurd (hb1.1 rfl) (lead_ne HK.out.1 HK.out.2 HS1.out.nn HNZ.out HD.out)
        clear hb1
        (refine tkB [2, 3, 4, 5] ?_; (iterate 4 (refine tk1 (oi := ?_) (v := ?_) (by kernel_rfl) (by first | exact hSn | exact hHeld) ?_ ?_ ?_ ?_ ?_; rotate_left 2; (simp only [List.getElem?_toArray, List.getElem?_cons_succ, List.getElem?_cons_zero]; rfl); rfl; (intro wS hSw; obtain ⟨⟨S1, S2, S3, S4⟩, ⟨S5, S6, S7, S8⟩, ⟨S9, S10, S11, S12⟩, S13, S14, S15, S16⟩ := hSw; go_simp; try with_reducible rfl); (exact fun _ _ _ h => h); (try simp only [Act.put, List.setIfInBounds_toArray, List.set_cons_zero, List.set_cons_succ]))); refine tkE ?_)
        ((refine wpAnyU_one 6 (o := ?_) (by kernel_rfl) ?_ ?_; rotate_left 1; (simp only [List.getElem?_toArray, List.getElem?_cons_succ, List.getElem?_cons_zero]; rfl); intro K hK); go_simp; (refine (mv_Degree M0 x _ (kv : Int) _ (mb0 _) (HX.out.ext e1).pi).mono ?_); rintro e_ q2 ⟨z1, rfl, hz1, e2⟩; go_wp2_with (fail); (try clear hSn); (have hSn := hHeld.ext (e1.trans e2)); (refine hK.out _ _ (fun _ => hSn) ?_); clear hK K; (try simp only [Act.put, List.setIfInBounds_toArray, List.set_cons_zero, List.set_cons_succ]))
        obtain rfl : z1 = 0 := by
          rcases hz1 with ⟨h, _⟩ | ⟨_, h, _⟩ | ⟨hq, K2, n2, h2, _, _, h3, hd2, _⟩
          · exact absurd h (lead_ne HK.out.1 HK.out.2 HS1.out.nn HNZ.out HD.out)
          · exact absurd ⟨by have := HK.out; omega, by have := HK.out; omega⟩ h
          · obtain rfl : kv = K2 := by omega
            have := dgr_uniq (ck_nn HK.out.1 HK.out.2 HS1.out.nn) hq hd2 (dgr_ck HK.out.1 HK.out.2 _ _)
            omega
        have E2 := Lib.hid (e1.trans e2)
        clear hz1 e1 e2
        (refine tkB [7, 8, 9, 10, 11, 13] ?_; (iterate 6 (refine tk1 (oi := ?_) (v := ?_) (by kernel_rfl) (by first | exact hSn | exact hHeld) ?_ ?_ ?_ ?_ ?_; rotate_left 2; (simp only [List.getElem?_toArray, List.getElem?_cons_succ, List.getElem?_cons_zero]; rfl); rfl; (intro wS hSw; obtain ⟨⟨S1, S2, S3, S4⟩, ⟨S5, S6, S7, S8⟩, ⟨S9, S10, S11, S12⟩, S13, S14, S15, S16⟩ := hSw; go_simp; try with_reducible rfl); (exact fun _ _ _ h => h); (try simp only [Act.put, List.setIfInBounds_toArray, List.set_cons_zero, List.set_cons_succ]))); refine tkE ?_)
        ((refine wpAnyU_one 12 (o := ?_) (by kernel_rfl) ?_ ?_; rotate_left 1; (simp only [List.getElem?_toArray, List.getElem?_cons_succ, List.getElem?_cons_zero]; rfl); intro K hK); go_simp; (refine (rp_Add M0 v y _ _ _ (mb0 _) (HV.out.ext E2.out).pi (HY.out.ext E2.out).pi HDL.out).mono ?_); rintro e_ q3 ⟨s, rfl, hs, e3⟩; go_wp2_with (fail); (try clear hSn); (have hSn := hHeld.ext (E2.out.trans e3)); (refine hK.out _ _ (fun _ => hSn) ?_); clear hK K; (try simp only [Act.put, List.setIfInBounds_toArray, List.set_cons_zero, List.set_cons_succ]))
        ((refine wpAnyU_one 14 (o := ?_) (by kernel_rfl) ?_ ?_; rotate_left 1; (simp only [List.getElem?_toArray, List.getElem?_cons_succ, List.getElem?_cons_zero]; rfl); intro K hK); go_simp; (refine (rp_Same M0 s r _ _ _ (mb0 _) hs.pi (HR.out.ext (E2.out.trans e3)).pi).mono ?_); rintro e_ q4 ⟨b2, rfl, hb2, e4⟩; go_wp2_with (fail); (try clear hSn); (have hSn := hHeld.ext ((E2.out.trans e3).trans e4)); (refine hK.out _ _ (fun _ => hSn) ?_); clear hK K; (try simp only [Act.put, List.setIfInBounds_toArray, List.set_cons_zero, List.set_cons_succ]))
        obtain rfl : b2 = true := hb2.2 HSAME.out
        have E4 := Lib.hid ((E2.out.trans e3).trans e4)
        clear hb2 hs e3 e4 E2
        have hmx := HMX.out
        (refine tkB [15, 16, 17, 18, 20, 21] ?_; (iterate 6 (refine tk1 (oi := ?_) (v := ?_) (by kernel_rfl) (by first | exact hSn | exact hHeld) ?_ ?_ ?_ ?_ ?_; rotate_left 2; (simp only [List.getElem?_toArray, List.getElem?_cons_succ, List.getElem?_cons_zero]; rfl); rfl; (intro wS hSw; obtain ⟨⟨S1, S2, S3, S4⟩, ⟨S5, S6, S7, S8⟩, ⟨S9, S10, S11, S12⟩, S13, S14, S15, S16⟩ := hSw; go_simp; try with_reducible rfl); (exact fun _ _ _ h => h); (try simp only [Act.put, List.setIfInBounds_toArray, List.set_cons_zero, List.set_cons_succ]))); refine tkE ?_)
        clear hmx
        ((refine wpAnyU_one 19 (o := ?_) (by kernel_rfl) ?_ ?_; rotate_left 1; (simp only [List.getElem?_toArray, List.getElem?_cons_succ, List.getElem?_cons_zero]; rfl); intro K hK); go_simp; (refine (mv_Degree M0 y _ (kv : Int) _ (mb0 _) (HY.out.ext E4.out).pi).mono ?_); rintro e_ q5 ⟨z2, rfl, hz2, e5⟩; go_wp2_with (fail); (try clear hSn); (have hSn := hHeld.ext (E4.out.trans e5)); (refine hK.out _ _ (fun _ => hSn) ?_); clear hK K; (try simp only [Act.put, List.setIfInBounds_toArray, List.set_cons_zero, List.set_cons_succ]))
        have hz3 : z2 < (n : Int) := by
          rcases hz2 with ⟨_, h⟩ | ⟨_, h, _⟩ | ⟨hq, K2, n2, h2, _, _, h3, hd2, _⟩
          · omega
          · exact absurd ⟨by have := HK.out; omega, by have := HK.out; omega⟩ h
          · obtain rfl : kv = K2 := by omega
            have := red_small HK.out.1 HK.out.2 HS1.out.nn hq hd2
            omega
        have HF := Lib.hid (HE.out.trans (E4.out.trans e5))
        clear hz2 e5 E4
        (refine tkB [22, 23, 24] ?_; (iterate 3 (refine tk1 (oi := ?_) (v := ?_) (by kernel_rfl) (by first | exact hSn | exact hHeld) ?_ ?_ ?_ ?_ ?_; rotate_left 2; (simp only [List.getElem?_toArray, List.getElem?_cons_succ, List.getElem?_cons_zero]; rfl); rfl; (intro wS hSw; obtain ⟨⟨S1, S2, S3, S4⟩, ⟨S5, S6, S7, S8⟩, ⟨S9, S10, S11, S12⟩, S13, S14, S15, S16⟩ := hSw; go_simp; try with_reducible rfl); (exact fun _ _ _ h => h); (try simp only [Act.put, List.setIfInBounds_toArray, List.set_cons_zero, List.set_cons_succ]))); refine tkE ?_)
        refine wpAnyU_done (by kernel_rfl) ?_ _
        clear hHeld hSn HX HY HV HR HE
        go_wp2
        go_ret
        exact ⟨rfl, HF.out⟩
end Go.Proofs.YtgppogaoilijcaaGreat
