/- SubresultantMatrices: the walk. -/
import Derived.Test.YtpclggidcmmemaaGreatQf
set_option linter.unusedVariables false
set_option linter.unusedSimpArgs false

namespace Go.Proofs.YtpclggidcmmemaaGreat
open Go.RowKit

def I3m (g : Nat) (z0 z1 z2 : Int) (w : World) : Prop := w.cell? ⟨g, 0, none⟩ = some (.int .i64 z0) ∧ w.cell? ⟨g, 1, none⟩ = some (.int .i64 z1) ∧ w.cell? ⟨g, 2, none⟩ = some (.int .i64 z2)
theorem I3m.ext {g : Nat} {z0 z1 z2 : Int} {w w' : World} (h : I3m g z0 z1 z2 w) (he : Ext w w') : I3m g z0 z1 z2 w' := by
 have hl := World.block_lt_of_cell? _ _ h.1
 exact ⟨by rw [he.cell hl]; exact h.1, by rw [he.cell hl]; exact h.2.1, by rw [he.cell hl]; exact h.2.2⟩
def SMx (a b q : Nat) (x y : PE) (z0 z1 z2 : Int) (w : World) : Prop := P4 w a x ∧ P4 w b y ∧ I3m q z0 z1 z2 w
theorem SMx.ext {a b q : Nat} {x y : PE} {z0 z1 z2 : Int} {w w' : World} (h : SMx a b q x y z0 z1 z2 w) (he : Ext w w') : SMx a b q x y z0 z1 z2 w' := ⟨h.1.ext he, h.2.1.ext he, h.2.2.ext he⟩
def MtC (l r : List Tm) (L : Int) (wd : World) (s7 s8 s9 : Value) (wx : World) : Prop := ∃ (a b : Nat) (x y : PE), s7 = .pointer (some ⟨a, 0, none⟩) ∧ s8 = .pointer (some ⟨b, 0, none⟩) ∧ s9 = .int .i64 L ∧ Put2 wd wx a b x y l r
set_option maxRecDepth 100000 in
set_option maxHeartbeats 32000000 in
theorem law_matrices (a1 a2 : Option Addr) (n1 p1 n2 p2 : Nat) (X1 X2 : Nat → TE) (L zj zi : Int) (w : World) (h1 : PRaw w a1 n1 p1 X1) (h2 : PRaw w a2 n2 p2 X2) :
  Calls Tryz.prog 3 #[.slice a1 n1 p1, .slice a2 n2 p2, .agg #[.int .i64 L, .int .i64 zj, .int .i64 zi]] w fun e w' => e = .returned (.bool true) ∧ Ext w w' := by
 have hEb := (Ext.refl w).alloc (.cells #[.int .i64 L, .int .i64 zj, .int .i64 zi] 24)
 have hBb := Blk.of_arr w #[.int .i64 L, .int .i64 zj, .int .i64 zi] 24 3 rfl
 have HI0 : Hid (I3m w.heap.size L zj zi (w.alloc (.cells #[.int .i64 L, .int .i64 zj, .int .i64 zi] 24))) := ⟨hBb.cell (i := 0) (by omega), hBb.cell (i := 1) (by omega), hBb.cell (i := 2) (by omega)⟩
 have HR1 := Lib.hid h1
 have HR2 := Lib.hid h2
 have HE0 := Lib.hid hEb
 clear h1 h2 hEb hBb
 go_enter Tryz.func3, Tryz.ntmps3
 go_upto_region 1 with (fail)
 obtain ⟨gq, hgq⟩ : ∃ gq, gq = w.heap.size := ⟨_, rfl⟩
 rw [← hgq] at HI0 ⊢
 clear hgq
 generalize w.alloc (.cells #[.int .i64 L, .int .i64 zj, .int .i64 zi] 24) = W0 at *
 go_wp2_with (fail)
 refine (law_fit25 _).mono ?_
 rintro e w1 ⟨rfl, he1⟩
 have HE1 := Lib.hid (HE0.out.trans he1)
 have HI1 := Lib.hid (HI0.out.ext he1)
 have CF1 := Lib.hid (law_few24 a1 n1 p1 X1 5 3 w1 (HR1.out.1.ext HE1.out) HR1.out.2.1)
 have CF2 := Lib.hid (law_few24 a2 n2 p2 X2 5 3 w1 (HR2.out.1.ext HE1.out) HR2.out.2.1)
 rw [show ((5 : Nat) : Int) = 5 from rfl, show ((3 : Nat) : Int) = 3 from rfl] at CF1 CF2
 clear he1 HI0 HE0
 go_wp2_with (fail)
 refine CF1.out.mono ?_
 rintro e w2 ⟨b, rfl, hb1, rfl⟩
 cases b with
 | false =>
  clear hb1 CF1 CF2
  go_wp2
  go_ret
  exact ⟨rfl, HE1.out⟩
 | true =>
 have HF1 := Lib.hid (hb1.1 rfl)
 clear hb1 CF1
 go_wp2_with (fail)
 refine CF2.out.mono ?_
 rintro e w2 ⟨b, rfl, hb2, rfl⟩
 cases b with
 | false =>
  clear hb2 CF2
  go_wp2
  go_ret
  exact ⟨rfl, HE1.out⟩
 | true =>
 have HF2 := Lib.hid (hb2.1 rfl)
 clear hb2 CF2
 obtain ⟨l1, hl1, HS1, hd1, hx1⟩ := HR1.out.smD (B := 3) HF1.out (by omega) (by omega)
 obtain ⟨l2, hl2, HS2, hd2, hx2⟩ := HR2.out.smD (B := 3) HF2.out (by omega) (by omega)
 go_upto_region 5 with (fail)
 have hED : Ext w w1.drew := HE1.out.trans (Ext.refl w1).drew
 have hlD1 := hl1.ext hED
 have hlD2 := hl2.ext hED
 have hID : I3m gq L zj zi w1.drew := HI1.out.ext (Ext.refl w1).drew
 have HED : Hid (Ext w w1.drew) := HE1.out.trans (Ext.refl w1).drew
 have HID := Lib.hid hID
 have HS1 := Lib.hid HS1
 have HS2 := Lib.hid HS2
 have HNO : Hid (norm (norm l1) = norm l1 ∧ norm (norm l2) = norm l2) := ⟨norm_norm _, norm_norm _⟩
 have CO1 : Hid (∀ A B W, S7 w1.drew W A B → Calls Tryz.prog 9 #[.slice a1 n1 p1] W (RetX (M7 A B) W 4 (norm l1))) := fun A B W h => rp_Of (M7 A B) _ l1 W h.mb ((hlD1.more (M' := M7 A B) fun g hg => .inr (h.lt g hg).1).ext h.e) hd1 hx1
 have CO2 : Hid (∀ A B W, S7 w1.drew W A B → Calls Tryz.prog 9 #[.slice a2 n2 p2] W (RetX (M7 A B) W 4 (norm l2))) := fun A B W h => rp_Of (M7 A B) _ l2 W h.mb ((hlD2.more (M' := M7 A B) fun g hg => .inr (h.lt g hg).1).ext h.e) hd2 hx2
 clear hl1 hd1 hx1 hl2 hd2 hx2 HF1 HF2 HR1 HR2 hED hlD1 hlD2 hID HE1 HI1
 generalize norm l1 = f at *
 generalize norm l2 = g at *
 go_cut [7, 8, 9] (MtC f g L w1.drew)
 case first =>
  have S0 := S7.start w1.drew
  refine wp_region_u (I3m gq L zj zi) 11 (by kernel_rfl) HID.out (fun hHeld => ?_)
  clear HS1 HS2 HED
  generalize w1.drew = wd at *
  (refine tkB [0, 2, 4, 5] ?_; (iterate 4 (refine tk1 (oi := ?_) (v := ?_) (by kernel_rfl) (by first | exact hSn | exact hHeld) ?_ ?_ ?_ ?_ ?_; rotate_left 2; (simp only [xgA, xgB, xgC]; rfl); rfl; (intro wS hSw; obtain ⟨C0, C1, C2⟩ := hSw; go_simp; try with_reducible rfl); (exact fun _ _ _ h => h); (try simp only [Act.put, xgD, xgE, xgF]))); refine tkE ?_)
  (refine wpAnyU_thr 1 6 7 (oi := ?_) (oj := ?_) (ok := ?_) (by kernel_rfl) ?_ ?_ ?_ ?_ ?_ ?_; rotate_left 3; (simp only [xgA, xgB, xgC]; rfl); (simp only [xgA, xgB, xgC]; rfl); (simp only [xgA, xgB, xgC]; rfl); all_goals intro K hK)
  ·go_simp
   refine (CO1.out _ _ wd S0).mono ?_
   rintro e v1 ⟨x, rfl, hx, D⟩
   go_wp2_with (fail)
   have S1 := S0.call D
   clear D
   try clear hSn
   have hSn := hHeld.ext S1.e
   refine hK.out _ _ (fun _ => hSn) ?_
   clear hK K
   (try simp only [Act.put, xgD, xgE, xgF])
   (refine wpAnyU_thr 3 6 7 (oi := ?_) (oj := ?_) (ok := ?_) (by kernel_rfl) ?_ ?_ ?_ ?_ ?_ ?_; rotate_left 3; (simp only [xgA, xgB, xgC]; rfl); (simp only [xgA, xgB, xgC]; rfl); (simp only [xgA, xgB, xgC]; rfl); all_goals intro K hK)
   ·go_simp
    refine (CO2.out _ _ v1 S1).mono ?_
    rintro e v2 ⟨y, rfl, hy, D⟩
    go_wp2_with (fail)
    have S2 := S1.call D
    replace hx := hx.ext D
    clear D
    try clear hSn
    have hSn := hHeld.ext S2.e
    refine hK.out _ _ (fun _ => hSn) ?_
    clear hK K
    (try simp only [Act.put, xgD, xgE, xgF])
    (refine wpAnyU_two 6 7 (oi := ?_) (oj := ?_) (by kernel_rfl) ?_ ?_ ?_ ?_; rotate_left 2; (simp only [xgA, xgB, xgC]; rfl); (simp only [xgA, xgB, xgC]; rfl); all_goals intro K hK)
    ·go_simp
     have S3 := S2.allA
     replace hx := S2.keepA hx
     replace hy := S2.keepA hy
     try clear hSn
     have hSn := hHeld.ext S3.e
     refine hK.out _ _ (fun _ => hSn) ?_
     clear hK K
     (try simp only [Act.put, xgD, xgE, xgF])
     generalize v2.alloc (.cells zA 33) = v3 at *
     generalize v2.heap.size = g3 at *
     (refine wpAnyU_one 7 (o := ?_) (by kernel_rfl) ?_ ?_; rotate_left 1; (simp only [xgA, xgB, xgC]; rfl); intro K hK)
     go_simp
     have S4 := S3.allB
     replace hx := S3.keepB hx
     replace hy := S3.keepB hy
     try clear hSn
     have hSn := hHeld.ext S4.e
     refine hK.out _ _ (fun _ => hSn) ?_
     clear hK K
     (try simp only [Act.put, xgD, xgE, xgF])
     generalize v3.alloc (.cells zA 33) = v4 at *
     generalize v3.heap.size = g4 at *
     obtain ⟨W1, hW1, ⟨q0, q1, q2, q3⟩, ⟨f0, f1, f2, f3⟩, E1, ⟨r0, r1, r2, r3⟩, ⟨k0, k1, k2, k3⟩, W2, hW2, HP2⟩ := S4.put2 hx hy
     unfold set4 at hW1 hW2
     have hSn1 := hHeld.ext E1
     have hSn2 := hHeld.ext HP2.e
     clear hSn
     (refine wpAnyU_one 8 (o := ?_) (by kernel_rfl) ?_ ?_; rotate_left 1; (simp only [xgA, xgB, xgC]; rfl); intro K hK)
     go_simp
     rw [← hW1]
     clear hW1
     refine hK.out _ _ (fun _ => hSn1) ?_
     clear hK K q0 q1 q2 q3 f0 f1 f2 f3
     (try simp only [Act.put, xgD, xgE, xgF])
     (refine wpAnyU_one 9 (o := ?_) (by kernel_rfl) ?_ ?_; rotate_left 1; (simp only [xgA, xgB, xgC]; rfl); intro K hK)
     go_simp
     rw [← hW2]
     clear hW2
     refine hK.out _ _ (fun _ => hSn2) ?_
     clear hK K r0 r1 r2 r3 k0 k1 k2 k3
     (try simp only [Act.put, xgD, xgE, xgF])
     have hSn := hSn2
     (refine tkB [10] ?_; (iterate 1 (refine tk1 (oi := ?_) (v := ?_) (by kernel_rfl) (by first | exact hSn | exact hHeld) ?_ ?_ ?_ ?_ ?_; rotate_left 2; (simp only [xgA, xgB, xgC]; rfl); rfl; (intro wS hSw; obtain ⟨C0, C1, C2⟩ := hSw; go_simp; try with_reducible rfl); (exact fun _ _ _ h => h); (try simp only [Act.put, xgD, xgE, xgF]))); refine tkE ?_)
     refine wpAnyU_done (by kernel_rfl) ?_ _
     go_wp2_with (fail)
     go_meet
     exact ⟨_, _, _, _, rfl, rfl, rfl, HP2⟩
    ·go_simp
     have S5 := S2.allB
     replace hx := S2.keepB hx
     replace hy := S2.keepB hy
     try clear hSn
     have hSn := hHeld.ext S5.e
     refine hK.out _ _ (fun _ => hSn) ?_
     clear hK K
     (try simp only [Act.put, xgD, xgE, xgF])
     generalize v2.alloc (.cells zA 33) = v5 at *
     generalize v2.heap.size = g5 at *
     (refine wpAnyU_one 6 (o := ?_) (by kernel_rfl) ?_ ?_; rotate_left 1; (simp only [xgA, xgB, xgC]; rfl); intro K hK)
     go_simp
     have S6 := S5.allA
     replace hx := S5.keepA hx
     replace hy := S5.keepA hy
     try clear hSn
     have hSn := hHeld.ext S6.e
     refine hK.out _ _ (fun _ => hSn) ?_
     clear hK K
     (try simp only [Act.put, xgD, xgE, xgF])
     generalize v5.alloc (.cells zA 33) = v6 at *
     generalize v5.heap.size = g6 at *
     obtain ⟨W1, hW1, ⟨q0, q1, q2, q3⟩, ⟨f0, f1, f2, f3⟩, E1, ⟨r0, r1, r2, r3⟩, ⟨k0, k1, k2, k3⟩, W2, hW2, HP2⟩ := S6.put2 hx hy
     unfold set4 at hW1 hW2
     have hSn1 := hHeld.ext E1
     have hSn2 := hHeld.ext HP2.e
     clear hSn
     (refine wpAnyU_one 8 (o := ?_) (by kernel_rfl) ?_ ?_; rotate_left 1; (simp only [xgA, xgB, xgC]; rfl); intro K hK)
     go_simp
     rw [← hW1]
     clear hW1
     refine hK.out _ _ (fun _ => hSn1) ?_
     clear hK K q0 q1 q2 q3 f0 f1 f2 f3
     (try simp only [Act.put, xgD, xgE, xgF])
     (refine wpAnyU_one 9 (o := ?_) (by kernel_rfl) ?_ ?_; rotate_left 1; (simp only [xgA, xgB, xgC]; rfl); intro K hK)
     go_simp
     rw [← hW2]
     clear hW2
     refine hK.out _ _ (fun _ => hSn2) ?_
     clear hK K r0 r1 r2 r3 k0 k1 k2 k3
     (try simp only [Act.put, xgD, xgE, xgF])
     have hSn := hSn2
     (refine tkB [10] ?_; (iterate 1 (refine tk1 (oi := ?_) (v := ?_) (by kernel_rfl) (by first | exact hSn | exact hHeld) ?_ ?_ ?_ ?_ ?_; rotate_left 2; (simp only [xgA, xgB, xgC]; rfl); rfl; (intro wS hSw; obtain ⟨C0, C1, C2⟩ := hSw; go_simp; try with_reducible rfl); (exact fun _ _ _ h => h); (try simp only [Act.put, xgD, xgE, xgF]))); refine tkE ?_)
     refine wpAnyU_done (by kernel_rfl) ?_ _
     go_wp2_with (fail)
     go_meet
     exact ⟨_, _, _, _, rfl, rfl, rfl, HP2⟩
   ·go_simp
    have S7 := S1.allA
    replace hx := S1.keepA hx
    try clear hSn
    have hSn := hHeld.ext S7.e
    refine hK.out _ _ (fun _ => hSn) ?_
    clear hK K
    (try simp only [Act.put, xgD, xgE, xgF])
    generalize v1.alloc (.cells zA 33) = v7 at *
    generalize v1.heap.size = g7 at *
    (refine wpAnyU_two 3 7 (oi := ?_) (oj := ?_) (by kernel_rfl) ?_ ?_ ?_ ?_; rotate_left 2; (simp only [xgA, xgB, xgC]; rfl); (simp only [xgA, xgB, xgC]; rfl); all_goals intro K hK)
    ·go_simp
     refine (CO2.out _ _ v7 S7).mono ?_
     rintro e v8 ⟨y, rfl, hy, D⟩
     go_wp2_with (fail)
     have S8 := S7.call D
     replace hx := hx.ext D
     clear D
     try clear hSn
     have hSn := hHeld.ext S8.e
     refine hK.out _ _ (fun _ => hSn) ?_
     clear hK K
     (try simp only [Act.put, xgD, xgE, xgF])
     (refine wpAnyU_one 7 (o := ?_) (by kernel_rfl) ?_ ?_; rotate_left 1; (simp only [xgA, xgB, xgC]; rfl); intro K hK)
     go_simp
     have S9 := S8.allB
     replace hx := S8.keepB hx
     replace hy := S8.keepB hy
     try clear hSn
     have hSn := hHeld.ext S9.e
     refine hK.out _ _ (fun _ => hSn) ?_
     clear hK K
     (try simp only [Act.put, xgD, xgE, xgF])
     generalize v8.alloc (.cells zA 33) = v9 at *
     generalize v8.heap.size = g9 at *
     obtain ⟨W1, hW1, ⟨q0, q1, q2, q3⟩, ⟨f0, f1, f2, f3⟩, E1, ⟨r0, r1, r2, r3⟩, ⟨k0, k1, k2, k3⟩, W2, hW2, HP2⟩ := S9.put2 hx hy
     unfold set4 at hW1 hW2
     have hSn1 := hHeld.ext E1
     have hSn2 := hHeld.ext HP2.e
     clear hSn
     (refine wpAnyU_one 8 (o := ?_) (by kernel_rfl) ?_ ?_; rotate_left 1; (simp only [xgA, xgB, xgC]; rfl); intro K hK)
     go_simp
     rw [← hW1]
     clear hW1
     refine hK.out _ _ (fun _ => hSn1) ?_
     clear hK K q0 q1 q2 q3 f0 f1 f2 f3
     (try simp only [Act.put, xgD, xgE, xgF])
     (refine wpAnyU_one 9 (o := ?_) (by kernel_rfl) ?_ ?_; rotate_left 1; (simp only [xgA, xgB, xgC]; rfl); intro K hK)
     go_simp
     rw [← hW2]
     clear hW2
     refine hK.out _ _ (fun _ => hSn2) ?_
     clear hK K r0 r1 r2 r3 k0 k1 k2 k3
     (try simp only [Act.put, xgD, xgE, xgF])
     have hSn := hSn2
     (refine tkB [10] ?_; (iterate 1 (refine tk1 (oi := ?_) (v := ?_) (by kernel_rfl) (by first | exact hSn | exact hHeld) ?_ ?_ ?_ ?_ ?_; rotate_left 2; (simp only [xgA, xgB, xgC]; rfl); rfl; (intro wS hSw; obtain ⟨C0, C1, C2⟩ := hSw; go_simp; try with_reducible rfl); (exact fun _ _ _ h => h); (try simp only [Act.put, xgD, xgE, xgF]))); refine tkE ?_)
     refine wpAnyU_done (by kernel_rfl) ?_ _
     go_wp2_with (fail)
     go_meet
     exact ⟨_, _, _, _, rfl, rfl, rfl, HP2⟩
    ·go_simp
     have S10 := S7.allB
     replace hx := S7.keepB hx
     try clear hSn
     have hSn := hHeld.ext S10.e
     refine hK.out _ _ (fun _ => hSn) ?_
     clear hK K
     (try simp only [Act.put, xgD, xgE, xgF])
     generalize v7.alloc (.cells zA 33) = v10 at *
     generalize v7.heap.size = g10 at *
     (refine wpAnyU_one 3 (o := ?_) (by kernel_rfl) ?_ ?_; rotate_left 1; (simp only [xgA, xgB, xgC]; rfl); intro K hK)
     go_simp
     refine (CO2.out _ _ v10 S10).mono ?_
     rintro e v11 ⟨y, rfl, hy, D⟩
     go_wp2_with (fail)
     have S11 := S10.call D
     replace hx := hx.ext D
     clear D
     try clear hSn
     have hSn := hHeld.ext S11.e
     refine hK.out _ _ (fun _ => hSn) ?_
     clear hK K
     (try simp only [Act.put, xgD, xgE, xgF])
     obtain ⟨W1, hW1, ⟨q0, q1, q2, q3⟩, ⟨f0, f1, f2, f3⟩, E1, ⟨r0, r1, r2, r3⟩, ⟨k0, k1, k2, k3⟩, W2, hW2, HP2⟩ := S11.put2 hx hy
     unfold set4 at hW1 hW2
     have hSn1 := hHeld.ext E1
     have hSn2 := hHeld.ext HP2.e
     clear hSn
     (refine wpAnyU_one 8 (o := ?_) (by kernel_rfl) ?_ ?_; rotate_left 1; (simp only [xgA, xgB, xgC]; rfl); intro K hK)
     go_simp
     rw [← hW1]
     clear hW1
     refine hK.out _ _ (fun _ => hSn1) ?_
     clear hK K q0 q1 q2 q3 f0 f1 f2 f3
     (try simp only [Act.put, xgD, xgE, xgF])
     (refine wpAnyU_one 9 (o := ?_) (by kernel_rfl) ?_ ?_; rotate_left 1; (simp only [xgA, xgB, xgC]; rfl); intro K hK)
     go_simp
     rw [← hW2]
     clear hW2
     refine hK.out _ _ (fun _ => hSn2) ?_
     clear hK K r0 r1 r2 r3 k0 k1 k2 k3
     (try simp only [Act.put, xgD, xgE, xgF])
     have hSn := hSn2
     (refine tkB [10] ?_; (iterate 1 (refine tk1 (oi := ?_) (v := ?_) (by kernel_rfl) (by first | exact hSn | exact hHeld) ?_ ?_ ?_ ?_ ?_; rotate_left 2; (simp only [xgA, xgB, xgC]; rfl); rfl; (intro wS hSw; obtain ⟨C0, C1, C2⟩ := hSw; go_simp; try with_reducible rfl); (exact fun _ _ _ h => h); (try simp only [Act.put, xgD, xgE, xgF]))); refine tkE ?_)
     refine wpAnyU_done (by kernel_rfl) ?_ _
     go_wp2_with (fail)
     go_meet
     exact ⟨_, _, _, _, rfl, rfl, rfl, HP2⟩
   ·go_simp
    have S12 := S1.allB
    replace hx := S1.keepB hx
    try clear hSn
    have hSn := hHeld.ext S12.e
    refine hK.out _ _ (fun _ => hSn) ?_
    clear hK K
    (try simp only [Act.put, xgD, xgE, xgF])
    generalize v1.alloc (.cells zA 33) = v12 at *
    generalize v1.heap.size = g12 at *
    (refine wpAnyU_two 3 6 (oi := ?_) (oj := ?_) (by kernel_rfl) ?_ ?_ ?_ ?_; rotate_left 2; (simp only [xgA, xgB, xgC]; rfl); (simp only [xgA, xgB, xgC]; rfl); all_goals intro K hK)
    ·go_simp
     refine (CO2.out _ _ v12 S12).mono ?_
     rintro e v13 ⟨y, rfl, hy, D⟩
     go_wp2_with (fail)
     have S13 := S12.call D
     replace hx := hx.ext D
     clear D
     try clear hSn
     have hSn := hHeld.ext S13.e
     refine hK.out _ _ (fun _ => hSn) ?_
     clear hK K
     (try simp only [Act.put, xgD, xgE, xgF])
     (refine wpAnyU_one 6 (o := ?_) (by kernel_rfl) ?_ ?_; rotate_left 1; (simp only [xgA, xgB, xgC]; rfl); intro K hK)
     go_simp
     have S14 := S13.allA
     replace hx := S13.keepA hx
     replace hy := S13.keepA hy
     try clear hSn
     have hSn := hHeld.ext S14.e
     refine hK.out _ _ (fun _ => hSn) ?_
     clear hK K
     (try simp only [Act.put, xgD, xgE, xgF])
     generalize v13.alloc (.cells zA 33) = v14 at *
     generalize v13.heap.size = g14 at *
     obtain ⟨W1, hW1, ⟨q0, q1, q2, q3⟩, ⟨f0, f1, f2, f3⟩, E1, ⟨r0, r1, r2, r3⟩, ⟨k0, k1, k2, k3⟩, W2, hW2, HP2⟩ := S14.put2 hx hy
     unfold set4 at hW1 hW2
     have hSn1 := hHeld.ext E1
     have hSn2 := hHeld.ext HP2.e
     clear hSn
     (refine wpAnyU_one 8 (o := ?_) (by kernel_rfl) ?_ ?_; rotate_left 1; (simp only [xgA, xgB, xgC]; rfl); intro K hK)
     go_simp
     rw [← hW1]
     clear hW1
     refine hK.out _ _ (fun _ => hSn1) ?_
     clear hK K q0 q1 q2 q3 f0 f1 f2 f3
     (try simp only [Act.put, xgD, xgE, xgF])
     (refine wpAnyU_one 9 (o := ?_) (by kernel_rfl) ?_ ?_; rotate_left 1; (simp only [xgA, xgB, xgC]; rfl); intro K hK)
     go_simp
     rw [← hW2]
     clear hW2
     refine hK.out _ _ (fun _ => hSn2) ?_
     clear hK K r0 r1 r2 r3 k0 k1 k2 k3
     (try simp only [Act.put, xgD, xgE, xgF])
     have hSn := hSn2
     (refine tkB [10] ?_; (iterate 1 (refine tk1 (oi := ?_) (v := ?_) (by kernel_rfl) (by first | exact hSn | exact hHeld) ?_ ?_ ?_ ?_ ?_; rotate_left 2; (simp only [xgA, xgB, xgC]; rfl); rfl; (intro wS hSw; obtain ⟨C0, C1, C2⟩ := hSw; go_simp; try with_reducible rfl); (exact fun _ _ _ h => h); (try simp only [Act.put, xgD, xgE, xgF]))); refine tkE ?_)
     refine wpAnyU_done (by kernel_rfl) ?_ _
     go_wp2_with (fail)
     go_meet
     exact ⟨_, _, _, _, rfl, rfl, rfl, HP2⟩
    ·go_simp
     have S15 := S12.allA
     replace hx := S12.keepA hx
     try clear hSn
     have hSn := hHeld.ext S15.e
     refine hK.out _ _ (fun _ => hSn) ?_
     clear hK K
     (try simp only [Act.put, xgD, xgE, xgF])
     generalize v12.alloc (.cells zA 33) = v15 at *
     generalize v12.heap.size = g15 at *
     (refine wpAnyU_one 3 (o := ?_) (by kernel_rfl) ?_ ?_; rotate_left 1; (simp only [xgA, xgB, xgC]; rfl); intro K hK)
     go_simp
     refine (CO2.out _ _ v15 S15).mono ?_
     rintro e v16 ⟨y, rfl, hy, D⟩
     go_wp2_with (fail)
     have S16 := S15.call D
     replace hx := hx.ext D
     clear D
     try clear hSn
     have hSn := hHeld.ext S16.e
     refine hK.out _ _ (fun _ => hSn) ?_
     clear hK K
     (try simp only [Act.put, xgD, xgE, xgF])
     obtain ⟨W1, hW1, ⟨q0, q1, q2, q3⟩, ⟨f0, f1, f2, f3⟩, E1, ⟨r0, r1, r2, r3⟩, ⟨k0, k1, k2, k3⟩, W2, hW2, HP2⟩ := S16.put2 hx hy
     unfold set4 at hW1 hW2
     have hSn1 := hHeld.ext E1
     have hSn2 := hHeld.ext HP2.e
     clear hSn
     (refine wpAnyU_one 8 (o := ?_) (by kernel_rfl) ?_ ?_; rotate_left 1; (simp only [xgA, xgB, xgC]; rfl); intro K hK)
     go_simp
     rw [← hW1]
     clear hW1
     refine hK.out _ _ (fun _ => hSn1) ?_
     clear hK K q0 q1 q2 q3 f0 f1 f2 f3
     (try simp only [Act.put, xgD, xgE, xgF])
     (refine wpAnyU_one 9 (o := ?_) (by kernel_rfl) ?_ ?_; rotate_left 1; (simp only [xgA, xgB, xgC]; rfl); intro K hK)
     go_simp
     rw [← hW2]
     clear hW2
     refine hK.out _ _ (fun _ => hSn2) ?_
     clear hK K r0 r1 r2 r3 k0 k1 k2 k3
     (try simp only [Act.put, xgD, xgE, xgF])
     have hSn := hSn2
     (refine tkB [10] ?_; (iterate 1 (refine tk1 (oi := ?_) (v := ?_) (by kernel_rfl) (by first | exact hSn | exact hHeld) ?_ ?_ ?_ ?_ ?_; rotate_left 2; (simp only [xgA, xgB, xgC]; rfl); rfl; (intro wS hSw; obtain ⟨C0, C1, C2⟩ := hSw; go_simp; try with_reducible rfl); (exact fun _ _ _ h => h); (try simp only [Act.put, xgD, xgE, xgF]))); refine tkE ?_)
     refine wpAnyU_done (by kernel_rfl) ?_ _
     go_wp2_with (fail)
     go_meet
     exact ⟨_, _, _, _, rfl, rfl, rfl, HP2⟩
  ·go_simp
   have S17 := S0.allA
   try clear hSn
   have hSn := hHeld.ext S17.e
   refine hK.out _ _ (fun _ => hSn) ?_
   clear hK K
   (try simp only [Act.put, xgD, xgE, xgF])
   generalize wd.alloc (.cells zA 33) = v17 at *
   generalize wd.heap.size = g17 at *
   (refine wpAnyU_two 1 7 (oi := ?_) (oj := ?_) (by kernel_rfl) ?_ ?_ ?_ ?_; rotate_left 2; (simp only [xgA, xgB, xgC]; rfl); (simp only [xgA, xgB, xgC]; rfl); all_goals intro K hK)
   ·go_simp
    refine (CO1.out _ _ v17 S17).mono ?_
    rintro e v18 ⟨x, rfl, hx, D⟩
    go_wp2_with (fail)
    have S18 := S17.call D
    clear D
    try clear hSn
    have hSn := hHeld.ext S18.e
    refine hK.out _ _ (fun _ => hSn) ?_
    clear hK K
    (try simp only [Act.put, xgD, xgE, xgF])
    (refine wpAnyU_two 3 7 (oi := ?_) (oj := ?_) (by kernel_rfl) ?_ ?_ ?_ ?_; rotate_left 2; (simp only [xgA, xgB, xgC]; rfl); (simp only [xgA, xgB, xgC]; rfl); all_goals intro K hK)
    ·go_simp
     refine (CO2.out _ _ v18 S18).mono ?_
     rintro e v19 ⟨y, rfl, hy, D⟩
     go_wp2_with (fail)
     have S19 := S18.call D
     replace hx := hx.ext D
     clear D
     try clear hSn
     have hSn := hHeld.ext S19.e
     refine hK.out _ _ (fun _ => hSn) ?_
     clear hK K
     (try simp only [Act.put, xgD, xgE, xgF])
     (refine wpAnyU_one 7 (o := ?_) (by kernel_rfl) ?_ ?_; rotate_left 1; (simp only [xgA, xgB, xgC]; rfl); intro K hK)
     go_simp
     have S20 := S19.allB
     replace hx := S19.keepB hx
     replace hy := S19.keepB hy
     try clear hSn
     have hSn := hHeld.ext S20.e
     refine hK.out _ _ (fun _ => hSn) ?_
     clear hK K
     (try simp only [Act.put, xgD, xgE, xgF])
     generalize v19.alloc (.cells zA 33) = v20 at *
     generalize v19.heap.size = g20 at *
     obtain ⟨W1, hW1, ⟨q0, q1, q2, q3⟩, ⟨f0, f1, f2, f3⟩, E1, ⟨r0, r1, r2, r3⟩, ⟨k0, k1, k2, k3⟩, W2, hW2, HP2⟩ := S20.put2 hx hy
     unfold set4 at hW1 hW2
     have hSn1 := hHeld.ext E1
     have hSn2 := hHeld.ext HP2.e
     clear hSn
     (refine wpAnyU_one 8 (o := ?_) (by kernel_rfl) ?_ ?_; rotate_left 1; (simp only [xgA, xgB, xgC]; rfl); intro K hK)
     go_simp
     rw [← hW1]
     clear hW1
     refine hK.out _ _ (fun _ => hSn1) ?_
     clear hK K q0 q1 q2 q3 f0 f1 f2 f3
     (try simp only [Act.put, xgD, xgE, xgF])
     (refine wpAnyU_one 9 (o := ?_) (by kernel_rfl) ?_ ?_; rotate_left 1; (simp only [xgA, xgB, xgC]; rfl); intro K hK)
     go_simp
     rw [← hW2]
     clear hW2
     refine hK.out _ _ (fun _ => hSn2) ?_
     clear hK K r0 r1 r2 r3 k0 k1 k2 k3
     (try simp only [Act.put, xgD, xgE, xgF])
     have hSn := hSn2
     (refine tkB [10] ?_; (iterate 1 (refine tk1 (oi := ?_) (v := ?_) (by kernel_rfl) (by first | exact hSn | exact hHeld) ?_ ?_ ?_ ?_ ?_; rotate_left 2; (simp only [xgA, xgB, xgC]; rfl); rfl; (intro wS hSw; obtain ⟨C0, C1, C2⟩ := hSw; go_simp; try with_reducible rfl); (exact fun _ _ _ h => h); (try simp only [Act.put, xgD, xgE, xgF]))); refine tkE ?_)
     refine wpAnyU_done (by kernel_rfl) ?_ _
     go_wp2_with (fail)
     go_meet
     exact ⟨_, _, _, _, rfl, rfl, rfl, HP2⟩
    ·go_simp
     have S21 := S18.allB
     replace hx := S18.keepB hx
     try clear hSn
     have hSn := hHeld.ext S21.e
     refine hK.out _ _ (fun _ => hSn) ?_
     clear hK K
     (try simp only [Act.put, xgD, xgE, xgF])
     generalize v18.alloc (.cells zA 33) = v21 at *
     generalize v18.heap.size = g21 at *
     (refine wpAnyU_one 3 (o := ?_) (by kernel_rfl) ?_ ?_; rotate_left 1; (simp only [xgA, xgB, xgC]; rfl); intro K hK)
     go_simp
     refine (CO2.out _ _ v21 S21).mono ?_
     rintro e v22 ⟨y, rfl, hy, D⟩
     go_wp2_with (fail)
     have S22 := S21.call D
     replace hx := hx.ext D
     clear D
     try clear hSn
     have hSn := hHeld.ext S22.e
     refine hK.out _ _ (fun _ => hSn) ?_
     clear hK K
     (try simp only [Act.put, xgD, xgE, xgF])
     obtain ⟨W1, hW1, ⟨q0, q1, q2, q3⟩, ⟨f0, f1, f2, f3⟩, E1, ⟨r0, r1, r2, r3⟩, ⟨k0, k1, k2, k3⟩, W2, hW2, HP2⟩ := S22.put2 hx hy
     unfold set4 at hW1 hW2
     have hSn1 := hHeld.ext E1
     have hSn2 := hHeld.ext HP2.e
     clear hSn
     (refine wpAnyU_one 8 (o := ?_) (by kernel_rfl) ?_ ?_; rotate_left 1; (simp only [xgA, xgB, xgC]; rfl); intro K hK)
     go_simp
     rw [← hW1]
     clear hW1
     refine hK.out _ _ (fun _ => hSn1) ?_
     clear hK K q0 q1 q2 q3 f0 f1 f2 f3
     (try simp only [Act.put, xgD, xgE, xgF])
     (refine wpAnyU_one 9 (o := ?_) (by kernel_rfl) ?_ ?_; rotate_left 1; (simp only [xgA, xgB, xgC]; rfl); intro K hK)
     go_simp
     rw [← hW2]
     clear hW2
     refine hK.out _ _ (fun _ => hSn2) ?_
     clear hK K r0 r1 r2 r3 k0 k1 k2 k3
     (try simp only [Act.put, xgD, xgE, xgF])
     have hSn := hSn2
     (refine tkB [10] ?_; (iterate 1 (refine tk1 (oi := ?_) (v := ?_) (by kernel_rfl) (by first | exact hSn | exact hHeld) ?_ ?_ ?_ ?_ ?_; rotate_left 2; (simp only [xgA, xgB, xgC]; rfl); rfl; (intro wS hSw; obtain ⟨C0, C1, C2⟩ := hSw; go_simp; try with_reducible rfl); (exact fun _ _ _ h => h); (try simp only [Act.put, xgD, xgE, xgF]))); refine tkE ?_)
     refine wpAnyU_done (by kernel_rfl) ?_ _
     go_wp2_with (fail)
     go_meet
     exact ⟨_, _, _, _, rfl, rfl, rfl, HP2⟩
   ·go_simp
    have S23 := S17.allB
    try clear hSn
    have hSn := hHeld.ext S23.e
    refine hK.out _ _ (fun _ => hSn) ?_
    clear hK K
    (try simp only [Act.put, xgD, xgE, xgF])
    generalize v17.alloc (.cells zA 33) = v23 at *
    generalize v17.heap.size = g23 at *
    (refine wpAnyU_one 1 (o := ?_) (by kernel_rfl) ?_ ?_; rotate_left 1; (simp only [xgA, xgB, xgC]; rfl); intro K hK)
    go_simp
    refine (CO1.out _ _ v23 S23).mono ?_
    rintro e v24 ⟨x, rfl, hx, D⟩
    go_wp2_with (fail)
    have S24 := S23.call D
    clear D
    try clear hSn
    have hSn := hHeld.ext S24.e
    refine hK.out _ _ (fun _ => hSn) ?_
    clear hK K
    (try simp only [Act.put, xgD, xgE, xgF])
    (refine wpAnyU_one 3 (o := ?_) (by kernel_rfl) ?_ ?_; rotate_left 1; (simp only [xgA, xgB, xgC]; rfl); intro K hK)
    go_simp
    refine (CO2.out _ _ v24 S24).mono ?_
    rintro e v25 ⟨y, rfl, hy, D⟩
    go_wp2_with (fail)
    have S25 := S24.call D
    replace hx := hx.ext D
    clear D
    try clear hSn
    have hSn := hHeld.ext S25.e
    refine hK.out _ _ (fun _ => hSn) ?_
    clear hK K
    (try simp only [Act.put, xgD, xgE, xgF])
    obtain ⟨W1, hW1, ⟨q0, q1, q2, q3⟩, ⟨f0, f1, f2, f3⟩, E1, ⟨r0, r1, r2, r3⟩, ⟨k0, k1, k2, k3⟩, W2, hW2, HP2⟩ := S25.put2 hx hy
    unfold set4 at hW1 hW2
    have hSn1 := hHeld.ext E1
    have hSn2 := hHeld.ext HP2.e
    clear hSn
    (refine wpAnyU_one 8 (o := ?_) (by kernel_rfl) ?_ ?_; rotate_left 1; (simp only [xgA, xgB, xgC]; rfl); intro K hK)
    go_simp
    rw [← hW1]
    clear hW1
    refine hK.out _ _ (fun _ => hSn1) ?_
    clear hK K q0 q1 q2 q3 f0 f1 f2 f3
    (try simp only [Act.put, xgD, xgE, xgF])
    (refine wpAnyU_one 9 (o := ?_) (by kernel_rfl) ?_ ?_; rotate_left 1; (simp only [xgA, xgB, xgC]; rfl); intro K hK)
    go_simp
    rw [← hW2]
    clear hW2
    refine hK.out _ _ (fun _ => hSn2) ?_
    clear hK K r0 r1 r2 r3 k0 k1 k2 k3
    (try simp only [Act.put, xgD, xgE, xgF])
    have hSn := hSn2
    (refine tkB [10] ?_; (iterate 1 (refine tk1 (oi := ?_) (v := ?_) (by kernel_rfl) (by first | exact hSn | exact hHeld) ?_ ?_ ?_ ?_ ?_; rotate_left 2; (simp only [xgA, xgB, xgC]; rfl); rfl; (intro wS hSw; obtain ⟨C0, C1, C2⟩ := hSw; go_simp; try with_reducible rfl); (exact fun _ _ _ h => h); (try simp only [Act.put, xgD, xgE, xgF]))); refine tkE ?_)
    refine wpAnyU_done (by kernel_rfl) ?_ _
    go_wp2_with (fail)
    go_meet
    exact ⟨_, _, _, _, rfl, rfl, rfl, HP2⟩
  ·go_simp
   have S26 := S0.allB
   try clear hSn
   have hSn := hHeld.ext S26.e
   refine hK.out _ _ (fun _ => hSn) ?_
   clear hK K
   (try simp only [Act.put, xgD, xgE, xgF])
   generalize wd.alloc (.cells zA 33) = v26 at *
   generalize wd.heap.size = g26 at *
   (refine wpAnyU_two 1 6 (oi := ?_) (oj := ?_) (by kernel_rfl) ?_ ?_ ?_ ?_; rotate_left 2; (simp only [xgA, xgB, xgC]; rfl); (simp only [xgA, xgB, xgC]; rfl); all_goals intro K hK)
   ·go_simp
    refine (CO1.out _ _ v26 S26).mono ?_
    rintro e v27 ⟨x, rfl, hx, D⟩
    go_wp2_with (fail)
    have S27 := S26.call D
    clear D
    try clear hSn
    have hSn := hHeld.ext S27.e
    refine hK.out _ _ (fun _ => hSn) ?_
    clear hK K
    (try simp only [Act.put, xgD, xgE, xgF])
    (refine wpAnyU_two 3 6 (oi := ?_) (oj := ?_) (by kernel_rfl) ?_ ?_ ?_ ?_; rotate_left 2; (simp only [xgA, xgB, xgC]; rfl); (simp only [xgA, xgB, xgC]; rfl); all_goals intro K hK)
    ·go_simp
     refine (CO2.out _ _ v27 S27).mono ?_
     rintro e v28 ⟨y, rfl, hy, D⟩
     go_wp2_with (fail)
     have S28 := S27.call D
     replace hx := hx.ext D
     clear D
     try clear hSn
     have hSn := hHeld.ext S28.e
     refine hK.out _ _ (fun _ => hSn) ?_
     clear hK K
     (try simp only [Act.put, xgD, xgE, xgF])
     (refine wpAnyU_one 6 (o := ?_) (by kernel_rfl) ?_ ?_; rotate_left 1; (simp only [xgA, xgB, xgC]; rfl); intro K hK)
     go_simp
     have S29 := S28.allA
     replace hx := S28.keepA hx
     replace hy := S28.keepA hy
     try clear hSn
     have hSn := hHeld.ext S29.e
     refine hK.out _ _ (fun _ => hSn) ?_
     clear hK K
     (try simp only [Act.put, xgD, xgE, xgF])
     generalize v28.alloc (.cells zA 33) = v29 at *
     generalize v28.heap.size = g29 at *
     obtain ⟨W1, hW1, ⟨q0, q1, q2, q3⟩, ⟨f0, f1, f2, f3⟩, E1, ⟨r0, r1, r2, r3⟩, ⟨k0, k1, k2, k3⟩, W2, hW2, HP2⟩ := S29.put2 hx hy
     unfold set4 at hW1 hW2
     have hSn1 := hHeld.ext E1
     have hSn2 := hHeld.ext HP2.e
     clear hSn
     (refine wpAnyU_one 8 (o := ?_) (by kernel_rfl) ?_ ?_; rotate_left 1; (simp only [xgA, xgB, xgC]; rfl); intro K hK)
     go_simp
     rw [← hW1]
     clear hW1
     refine hK.out _ _ (fun _ => hSn1) ?_
     clear hK K q0 q1 q2 q3 f0 f1 f2 f3
     (try simp only [Act.put, xgD, xgE, xgF])
     (refine wpAnyU_one 9 (o := ?_) (by kernel_rfl) ?_ ?_; rotate_left 1; (simp only [xgA, xgB, xgC]; rfl); intro K hK)
     go_simp
     rw [← hW2]
     clear hW2
     refine hK.out _ _ (fun _ => hSn2) ?_
     clear hK K r0 r1 r2 r3 k0 k1 k2 k3
     (try simp only [Act.put, xgD, xgE, xgF])
     have hSn := hSn2
     (refine tkB [10] ?_; (iterate 1 (refine tk1 (oi := ?_) (v := ?_) (by kernel_rfl) (by first | exact hSn | exact hHeld) ?_ ?_ ?_ ?_ ?_; rotate_left 2; (simp only [xgA, xgB, xgC]; rfl); rfl; (intro wS hSw; obtain ⟨C0, C1, C2⟩ := hSw; go_simp; try with_reducible rfl); (exact fun _ _ _ h => h); (try simp only [Act.put, xgD, xgE, xgF]))); refine tkE ?_)
     refine wpAnyU_done (by kernel_rfl) ?_ _
     go_wp2_with (fail)
     go_meet
     exact ⟨_, _, _, _, rfl, rfl, rfl, HP2⟩
    ·go_simp
     have S30 := S27.allA
     replace hx := S27.keepA hx
     try clear hSn
     have hSn := hHeld.ext S30.e
     refine hK.out _ _ (fun _ => hSn) ?_
     clear hK K
     (try simp only [Act.put, xgD, xgE, xgF])
     generalize v27.alloc (.cells zA 33) = v30 at *
     generalize v27.heap.size = g30 at *
     (refine wpAnyU_one 3 (o := ?_) (by kernel_rfl) ?_ ?_; rotate_left 1; (simp only [xgA, xgB, xgC]; rfl); intro K hK)
     go_simp
     refine (CO2.out _ _ v30 S30).mono ?_
     rintro e v31 ⟨y, rfl, hy, D⟩
     go_wp2_with (fail)
     have S31 := S30.call D
     replace hx := hx.ext D
     clear D
     try clear hSn
     have hSn := hHeld.ext S31.e
     refine hK.out _ _ (fun _ => hSn) ?_
     clear hK K
     (try simp only [Act.put, xgD, xgE, xgF])
     obtain ⟨W1, hW1, ⟨q0, q1, q2, q3⟩, ⟨f0, f1, f2, f3⟩, E1, ⟨r0, r1, r2, r3⟩, ⟨k0, k1, k2, k3⟩, W2, hW2, HP2⟩ := S31.put2 hx hy
     unfold set4 at hW1 hW2
     have hSn1 := hHeld.ext E1
     have hSn2 := hHeld.ext HP2.e
     clear hSn
     (refine wpAnyU_one 8 (o := ?_) (by kernel_rfl) ?_ ?_; rotate_left 1; (simp only [xgA, xgB, xgC]; rfl); intro K hK)
     go_simp
     rw [← hW1]
     clear hW1
     refine hK.out _ _ (fun _ => hSn1) ?_
     clear hK K q0 q1 q2 q3 f0 f1 f2 f3
     (try simp only [Act.put, xgD, xgE, xgF])
     (refine wpAnyU_one 9 (o := ?_) (by kernel_rfl) ?_ ?_; rotate_left 1; (simp only [xgA, xgB, xgC]; rfl); intro K hK)
     go_simp
     rw [← hW2]
     clear hW2
     refine hK.out _ _ (fun _ => hSn2) ?_
     clear hK K r0 r1 r2 r3 k0 k1 k2 k3
     (try simp only [Act.put, xgD, xgE, xgF])
     have hSn := hSn2
     (refine tkB [10] ?_; (iterate 1 (refine tk1 (oi := ?_) (v := ?_) (by kernel_rfl) (by first | exact hSn | exact hHeld) ?_ ?_ ?_ ?_ ?_; rotate_left 2; (simp only [xgA, xgB, xgC]; rfl); rfl; (intro wS hSw; obtain ⟨C0, C1, C2⟩ := hSw; go_simp; try with_reducible rfl); (exact fun _ _ _ h => h); (try simp only [Act.put, xgD, xgE, xgF]))); refine tkE ?_)
     refine wpAnyU_done (by kernel_rfl) ?_ _
     go_wp2_with (fail)
     go_meet
     exact ⟨_, _, _, _, rfl, rfl, rfl, HP2⟩
   ·go_simp
    have S32 := S26.allA
    try clear hSn
    have hSn := hHeld.ext S32.e
    refine hK.out _ _ (fun _ => hSn) ?_
    clear hK K
    (try simp only [Act.put, xgD, xgE, xgF])
    generalize v26.alloc (.cells zA 33) = v32 at *
    generalize v26.heap.size = g32 at *
    (refine wpAnyU_one 1 (o := ?_) (by kernel_rfl) ?_ ?_; rotate_left 1; (simp only [xgA, xgB, xgC]; rfl); intro K hK)
    go_simp
    refine (CO1.out _ _ v32 S32).mono ?_
    rintro e v33 ⟨x, rfl, hx, D⟩
    go_wp2_with (fail)
    have S33 := S32.call D
    clear D
    try clear hSn
    have hSn := hHeld.ext S33.e
    refine hK.out _ _ (fun _ => hSn) ?_
    clear hK K
    (try simp only [Act.put, xgD, xgE, xgF])
    (refine wpAnyU_one 3 (o := ?_) (by kernel_rfl) ?_ ?_; rotate_left 1; (simp only [xgA, xgB, xgC]; rfl); intro K hK)
    go_simp
    refine (CO2.out _ _ v33 S33).mono ?_
    rintro e v34 ⟨y, rfl, hy, D⟩
    go_wp2_with (fail)
    have S34 := S33.call D
    replace hx := hx.ext D
    clear D
    try clear hSn
    have hSn := hHeld.ext S34.e
    refine hK.out _ _ (fun _ => hSn) ?_
    clear hK K
    (try simp only [Act.put, xgD, xgE, xgF])
    obtain ⟨W1, hW1, ⟨q0, q1, q2, q3⟩, ⟨f0, f1, f2, f3⟩, E1, ⟨r0, r1, r2, r3⟩, ⟨k0, k1, k2, k3⟩, W2, hW2, HP2⟩ := S34.put2 hx hy
    unfold set4 at hW1 hW2
    have hSn1 := hHeld.ext E1
    have hSn2 := hHeld.ext HP2.e
    clear hSn
    (refine wpAnyU_one 8 (o := ?_) (by kernel_rfl) ?_ ?_; rotate_left 1; (simp only [xgA, xgB, xgC]; rfl); intro K hK)
    go_simp
    rw [← hW1]
    clear hW1
    refine hK.out _ _ (fun _ => hSn1) ?_
    clear hK K q0 q1 q2 q3 f0 f1 f2 f3
    (try simp only [Act.put, xgD, xgE, xgF])
    (refine wpAnyU_one 9 (o := ?_) (by kernel_rfl) ?_ ?_; rotate_left 1; (simp only [xgA, xgB, xgC]; rfl); intro K hK)
    go_simp
    rw [← hW2]
    clear hW2
    refine hK.out _ _ (fun _ => hSn2) ?_
    clear hK K r0 r1 r2 r3 k0 k1 k2 k3
    (try simp only [Act.put, xgD, xgE, xgF])
    have hSn := hSn2
    (refine tkB [10] ?_; (iterate 1 (refine tk1 (oi := ?_) (v := ?_) (by kernel_rfl) (by first | exact hSn | exact hHeld) ?_ ?_ ?_ ?_ ?_; rotate_left 2; (simp only [xgA, xgB, xgC]; rfl); rfl; (intro wS hSw; obtain ⟨C0, C1, C2⟩ := hSw; go_simp; try with_reducible rfl); (exact fun _ _ _ h => h); (try simp only [Act.put, xgD, xgE, xgF]))); refine tkE ?_)
    refine wpAnyU_done (by kernel_rfl) ?_ _
    go_wp2_with (fail)
    go_meet
    exact ⟨_, _, _, _, rfl, rfl, rfl, HP2⟩
 case rest =>
  obtain ⟨ba, bb, x, y, rfl, rfl, rfl, hput⟩ := hcut
  have HX := Lib.hid hput.x
  have HY := Lib.hid hput.y
  have HEW := Lib.hid (HED.out.trans hput.e)
  have HSM : Hid (SMx ba bb gq x y L zj zi wc) := ⟨hput.p, hput.q, HID.out.ext hput.e⟩
  clear hput CO1 CO2 HID HED
  have CK : Hid (∀ W, Ext wc W → Calls Tryz.prog 44 #[.agg (peA x), .agg (peA y), .int .i64 L] W (RetCk f g L W)) := fun W he => sr_check M0 f g x y L W (mb0 _) (HX.out.ext he).pi (HY.out.ext he).pi
  by_cases hin : ¬ (1 ≤ L ∧ L ≤ 4)
  ·have CKE : Hid (∀ W, Ext wc W → Calls Tryz.prog 44 #[.agg (peA x), .agg (peA y), .int .i64 L] W fun e w' => e = .returned (.int .i64 4) ∧ Ext W w') := fun W he => (CK.out W he).mono fun e w' h => by
    obtain ⟨er, rfl, hc, he'⟩ := h
    rcases hc with ⟨_, rfl⟩ | ⟨h, _⟩ | ⟨h, _⟩
    ·exact ⟨rfl, he'⟩
    ·exact absurd h hin
    ·exact absurd h hin
   have CSy : Hid (∀ W, Ext wc W → Calls Tryz.prog 10 #[.agg (peA x), .agg (peA y), .int .i64 L] W (RetNo W 4)) := fun W he => sr_SylvesterE W x y L 4 (by decide) fun wk hk => CKE.out wk (he.trans hk)
   have CMn : Hid (∀ W, Ext wc W → Calls Tryz.prog 11 #[.agg (peA x), .agg (peA y), .int .i64 L, .int .i64 zj, .int .i64 zi] W (RetNo W 4)) := fun W he => sr_MinorE W x y L 4 zj zi (by decide) fun wk hk => CKE.out wk (he.trans hk)
   have CI : Hid (∀ W, Calls Tryz.prog 12 #[.int .i64 L] W fun e w' => e = .returned (.bool false) ∧ w' = W) := fun W => law_inner L false ⟨fun h => absurd h (by decide), fun h => absurd h hin⟩ W
   clear hin CK CKE
   obtain ⟨⟨x0, x1, x2, x3⟩, ⟨y0, y1, y2, y3⟩, i0, i1, i2⟩ := HSM.out
   go_wp2_with (fail)
   refine (CSy.out wc (Ext.refl _)).mono ?_
   rintro e w5 ⟨rfl, he5⟩
   have HSD : Hid (SMx ba bb gq x y L zj zi w5.drew) := (HSM.out.ext he5).ext (Ext.refl _).drew
   have HE5 : Hid (Ext wc w5.drew) := he5.trans (Ext.refl _).drew
   clear he5 CSy x0 x1 x2 x3 y0 y1 y2 y3 i0 i1 i2
   go_upto_region 7 with (fail)
   refine wp_region_u (SMx ba bb gq x y L zj zi) 6 (by kernel_rfl) HSD.out (fun hHeld => ?_)
   generalize w5.drew = w7 at *
   (refine tkB [0, 1, 2, 3, 4, 5] ?_; (iterate 6 (refine tk1 (oi := ?_) (v := ?_) (by kernel_rfl) (by first | exact hSn | exact hHeld) ?_ ?_ ?_ ?_ ?_; rotate_left 2; (simp only [xgA, xgB, xgC]; rfl); rfl; (intro wS hSw; obtain ⟨⟨A0, A1, A2, A3⟩, ⟨B0, B1, B2, B3⟩, C0, C1, C2⟩ := hSw; go_simp; try with_reducible rfl); (exact fun _ _ _ h => h); (try simp only [Act.put, xgD, xgE, xgF]))); refine tkE ?_)
   refine wpAnyU_done (by kernel_rfl) ?_ _
   clear hHeld
   obtain ⟨⟨x0, x1, x2, x3⟩, ⟨y0, y1, y2, y3⟩, i0, i1, i2⟩ := HSD.out
   go_wp2_with (fail)
   refine (CMn.out w7 HE5.out).mono ?_
   rintro e w8 ⟨rfl, he8⟩
   have HF := Lib.hid (HEW.out.trans (HE5.out.trans he8))
   clear he8 CMn x0 x1 x2 x3 y0 y1 y2 y3 i0 i1 i2 HSD HSM HE5 HX HY
   go_wp2_with (fail)
   refine (CI.out w8).mono ?_
   rintro e w9 ⟨rfl, rfl⟩
   go_wp2
   go_ret
   exact ⟨rfl, HF.out⟩
  have hin : 1 ≤ L ∧ L ≤ 4 := Classical.not_not.1 hin
  have CI : Hid (∀ W, Calls Tryz.prog 12 #[.int .i64 L] W fun e w' => e = .returned (.bool true) ∧ w' = W) := fun W => law_inner L true ⟨fun _ => hin, fun _ => rfl⟩ W
  have CZ1 : Hid (∀ W, Ext wc W → Calls Tryz.prog 13 #[.agg (peA x)] W fun e w' => ∃ b : Bool, e = .returned (.bool b) ∧ (b = true ↔ Sim f []) ∧ Ext W w') := fun W he => rp_IsZero M0 x f W (mb0 _) (HX.out.ext he).pi
  have CZ2 : Hid (∀ W, Ext wc W → Calls Tryz.prog 13 #[.agg (peA y)] W fun e w' => ∃ b : Bool, e = .returned (.bool b) ∧ (b = true ↔ Sim g []) ∧ Ext W w') := fun W he => rp_IsZero M0 y g W (mb0 _) (HY.out.ext he).pi
  by_cases hz : Sim f [] ∨ Sim g []
  ·have CKE : Hid (∀ W, Ext wc W → Calls Tryz.prog 44 #[.agg (peA x), .agg (peA y), .int .i64 L] W fun e w' => e = .returned (.int .i64 2) ∧ Ext W w') := fun W he => (CK.out W he).mono fun e w' h => by
    obtain ⟨er, rfl, hc, he'⟩ := h
    rcases hc with ⟨h, _⟩ | ⟨_, _, rfl⟩ | ⟨_, h1, h2, _⟩
    ·exact absurd hin h
    ·exact ⟨rfl, he'⟩
    ·exact absurd hz fun hh => hh.elim h1 h2
   have CSy : Hid (∀ W, Ext wc W → Calls Tryz.prog 10 #[.agg (peA x), .agg (peA y), .int .i64 L] W (RetNo W 2)) := fun W he => sr_SylvesterE W x y L 2 (by decide) fun wk hk => CKE.out wk (he.trans hk)
   have CMn : Hid (∀ W, Ext wc W → Calls Tryz.prog 11 #[.agg (peA x), .agg (peA y), .int .i64 L, .int .i64 zj, .int .i64 zi] W (RetNo W 2)) := fun W he => sr_MinorE W x y L 2 zj zi (by decide) fun wk hk => CKE.out wk (he.trans hk)
   have HZ := Lib.hid hz
   clear hin hz CK CKE
   obtain ⟨⟨x0, x1, x2, x3⟩, ⟨y0, y1, y2, y3⟩, i0, i1, i2⟩ := HSM.out
   go_wp2_with (fail)
   refine (CSy.out wc (Ext.refl _)).mono ?_
   rintro e w5 ⟨rfl, he5⟩
   have HSD : Hid (SMx ba bb gq x y L zj zi w5.drew) := (HSM.out.ext he5).ext (Ext.refl _).drew
   have HE5 : Hid (Ext wc w5.drew) := he5.trans (Ext.refl _).drew
   clear he5 CSy x0 x1 x2 x3 y0 y1 y2 y3 i0 i1 i2
   go_upto_region 7 with (fail)
   refine wp_region_u (SMx ba bb gq x y L zj zi) 6 (by kernel_rfl) HSD.out (fun hHeld => ?_)
   generalize w5.drew = w7 at *
   (refine tkB [0, 1, 2, 3, 4, 5] ?_; (iterate 6 (refine tk1 (oi := ?_) (v := ?_) (by kernel_rfl) (by first | exact hSn | exact hHeld) ?_ ?_ ?_ ?_ ?_; rotate_left 2; (simp only [xgA, xgB, xgC]; rfl); rfl; (intro wS hSw; obtain ⟨⟨A0, A1, A2, A3⟩, ⟨B0, B1, B2, B3⟩, C0, C1, C2⟩ := hSw; go_simp; try with_reducible rfl); (exact fun _ _ _ h => h); (try simp only [Act.put, xgD, xgE, xgF]))); refine tkE ?_)
   refine wpAnyU_done (by kernel_rfl) ?_ _
   clear hHeld
   obtain ⟨⟨x0, x1, x2, x3⟩, ⟨y0, y1, y2, y3⟩, i0, i1, i2⟩ := HSD.out
   go_wp2_with (fail)
   refine (CMn.out w7 HE5.out).mono ?_
   rintro e w8 ⟨rfl, he8⟩
   have HSE : Hid (SMx ba bb gq x y L zj zi w8) := HSD.out.ext he8
   have HE8 := Lib.hid (HE5.out.trans he8)
   clear he8 CMn x0 x1 x2 x3 y0 y1 y2 y3 i0 i1 i2 HSD HSM HE5 HX HY
   go_wp2_with (fail)
   refine (CI.out w8).mono ?_
   rintro e w9 ⟨rfl, rfl⟩
   obtain ⟨⟨x0, x1, x2, x3⟩, ⟨y0, y1, y2, y3⟩, i0, i1, i2⟩ := HSE.out
   go_wp2_with (fail)
   refine (CZ1.out _ HE8.out).mono ?_
   rintro e w10 ⟨b, rfl, hb, he10⟩
   have HE10 := Lib.hid (HE8.out.trans he10)
   have HSF := Lib.hid (HSE.out.ext he10)
   clear x0 x1 x2 x3 y0 y1 y2 y3 i0 i1 i2 HSE HE8 he10
   cases b with
   | true =>
    clear hb
    go_wp2
    go_ret
    exact ⟨rfl, HEW.out.trans HE10.out⟩
   | false =>
    have hg : Sim g [] := HZ.out.elim (fun h => by cases hb.2 h) id
    have HG := Lib.hid hg
    clear hb hg
    obtain ⟨⟨x0, x1, x2, x3⟩, ⟨y0, y1, y2, y3⟩, i0, i1, i2⟩ := HSF.out
    go_wp2_with (fail)
    refine (CZ2.out _ HE10.out).mono ?_
    rintro e w11 ⟨b, rfl, hb, he11⟩
    obtain rfl : b = true := hb.2 HG.out
    have HF := Lib.hid (HEW.out.trans (HE10.out.trans he11))
    clear hb x0 x1 x2 x3 y0 y1 y2 y3 i0 i1 i2 HSF he11 HE10
    go_wp2
    go_ret
    exact ⟨rfl, HF.out⟩
  have hzf : ¬ Sim f [] := fun h => hz (.inl h)
  have hzg : ¬ Sim g [] := fun h => hz (.inr h)
  have CKE : Hid (∀ W, Ext wc W → Calls Tryz.prog 44 #[.agg (peA x), .agg (peA y), .int .i64 L] W fun e w' => e = .returned (.int .i64 0) ∧ Ext W w') := fun W he => (CK.out W he).mono fun e w' h => by
   obtain ⟨er, rfl, hc, he'⟩ := h
   rcases hc with ⟨h, _⟩ | ⟨_, h, _⟩ | ⟨_, h1, h2, rfl⟩
   ·exact absurd hin h
   ·exact absurd h hz
   ·exact ⟨rfl, he'⟩
  obtain ⟨J, rfl⟩ : ∃ J : Nat, L = (J : Int) := ⟨L.toNat, by omega⟩
  have hJ1 : 1 ≤ J := by omega
  have hJ4 : J ≤ 4 := by omega
  obtain ⟨m, hdm⟩ := dgr_ex (k := J) HS1.out.nn
  obtain ⟨n, hdn⟩ := dgr_ex (k := J) HS2.out.nn
  have hm3 : m ≤ 3 := dg_le hdm HS1.out.deg
  have hn3 : n ≤ 3 := dg_le hdn HS2.out.deg
  have hZF : ∀ e : Int, e < 0 ∨ ((m + 1 : Nat) : Int) ≤ e → Sim (ck J e f) [] := fun e he => by
   rcases he with he | he
   ·exact ck_negI hJ1 hJ4 HS1.out.nn he
   ·obtain ⟨k, rfl⟩ : ∃ k : Nat, e = (k : Int) := ⟨e.toNat, by omega⟩
    exact ck_none hJ1 hJ4 hdm.1 (by omega)
  have hZG : ∀ e : Int, e < 0 ∨ ((n + 1 : Nat) : Int) ≤ e → Sim (ck J e g) [] := fun e he => by
   rcases he with he | he
   ·exact ck_negI hJ1 hJ4 HS2.out.nn he
   ·obtain ⟨k, rfl⟩ : ∃ k : Nat, e = (k : Int) := ⟨e.toNat, by omega⟩
    exact ck_none hJ1 hJ4 hdn.1 (by omega)
  have CA : ∀ W, Ext wc W → Calls Tryz.prog 45 #[.agg (peA x), .int .i64 (J : Int)] W (RetCV M0 W J m f) := fun W he => mv_CoefsV M0 x f J m 3 W hJ1 hJ4 HS1.out.nn hzf hdm (mb0 _) (HX.out.ext he).pi HS1.out.deg (by decide) (by decide) (Nat.le_trans HS1.out.dl (by decide))
  have CB : ∀ W, Ext wc W → Calls Tryz.prog 45 #[.agg (peA y), .int .i64 (J : Int)] W (RetCV M0 W J n g) := fun W he => mv_CoefsV M0 y g J n 3 W hJ1 hJ4 HS2.out.nn hzg hdn (mb0 _) (HY.out.ext he).pi HS2.out.deg (by decide) (by decide) (Nat.le_trans HS2.out.dl (by decide))
  have DA : ∀ W, Ext wc W → Calls Tryz.prog 52 #[.agg (peA x), .int .i64 (J : Int)] W fun e w' => e = .returned (.int .i64 (m : Int)) ∧ Ext W w' := fun W he => mv_DegreeV M0 x f J (m : Int) W hJ1 hJ4 HS1.out.nn (.inr ⟨hzf, m, hdm, rfl⟩) (mb0 _) (HX.out.ext he).pi
  have DB : ∀ W, Ext wc W → Calls Tryz.prog 52 #[.agg (peA y), .int .i64 (J : Int)] W fun e w' => e = .returned (.int .i64 (n : Int)) ∧ Ext W w' := fun W he => mv_DegreeV M0 y g J (n : Int) W hJ1 hJ4 HS2.out.nn (.inr ⟨hzg, n, hdn, rfl⟩) (mb0 _) (HY.out.ext he).pi
  have RA : ∀ W, Ext wc W → RowsOf M0 W x J f := fun W he => rows_of M0 W x J 3 f hJ1 hJ4 HS1.out.nn (HX.out.ext he).pi HS1.out.deg (by decide) (by decide) (Nat.le_trans HS1.out.dl (by decide))
  have RB : ∀ W, Ext wc W → RowsOf M0 W y J g := fun W he => rows_of M0 W y J 3 g hJ1 hJ4 HS2.out.nn (HY.out.ext he).pi HS2.out.deg (by decide) (by decide) (Nat.le_trans HS2.out.dl (by decide))
  have CSy : Hid (∀ W, Ext wc W → Calls Tryz.prog 10 #[.agg (peA x), .agg (peA y), .int .i64 (J : Int)] W (RetSy M0 W J m n f g)) := fun W he => sr_Sylvester M0 W x y J m n f g (mb0 _) (by omega) (by omega) hZF hZG (fun wk hk => CKE.out wk (he.trans hk)) (fun wk hk => CA wk (he.trans hk)) fun wk hk => CB wk (he.trans hk)
  have CRs : Hid (∀ W, Ext wc W → Calls Tryz.prog 15 #[.agg (peA x), .agg (peA y), .int .i64 (J : Int)] W (RetMx M0 W (n + m) (m + n) (syM J m n f g))) := fun W he => rf_Sylvester M0 W x y J m n f g (mb0 _) (by omega) (by omega) (fun wk hk => DA wk (he.trans hk)) (fun wk hk => DB wk (he.trans hk)) (RA W he) (RB W he)
  have CDg : Hid (∀ W, Ext wc W → Calls Tryz.prog 16 #[.agg (peA x), .agg (peA y), .int .i64 (J : Int)] W fun e w' => e = .returned (.agg #[.int .i64 (m : Int), .int .i64 (n : Int)]) ∧ Ext W w') := fun W he => law_degrees W x y (J : Int) (m : Int) (n : Int) (fun wk hk => DA wk (he.trans hk)) fun wk hk => DB wk (he.trans hk)
  have CZA : Hid (∀ W, Ext wc W → Calls Tryz.prog 13 #[.agg (peA x)] W fun e w' => e = .returned (.bool false) ∧ Ext W w') := fun W he => (CZ1.out W he).mono fun e w' ⟨b, h1, h2, h3⟩ => by
   cases b with
   | true => exact absurd (h2.1 rfl) hzf
   | false => exact ⟨h1, h3⟩
  have CZB : Hid (∀ W, Ext wc W → Calls Tryz.prog 13 #[.agg (peA y)] W fun e w' => e = .returned (.bool false) ∧ Ext W w') := fun W he => (CZ2.out W he).mono fun e w' ⟨b, h1, h2, h3⟩ => by
   cases b with
   | true => exact absurd (h2.1 rfl) hzg
   | false => exact ⟨h1, h3⟩
  have CEq : Hid (∀ W (va vb : Value) (S N : Nat) (P : Nat → Nat → List Tm), S ≤ 10 → N ≤ 10 → MatV M0 W va S N P → MatV M0 W vb S N P → Calls Tryz.prog 14 #[va, vb] W fun e w' => e = .returned (.bool true) ∧ Ext W w') := fun W va vb S N P h1 h2 h3 h4 => law_equal25 M0 W va vb S N P P (mb0 _) h3 h4 (fun _ _ _ _ => Sim.refl _) (by omega) (by omega)
  have HMN : Hid (m ≤ 3 ∧ n ≤ 3) := ⟨hm3, hn3⟩
  have HFIN : Hid (Ext w wc) := HEW.out
  have CMX : Hid ((zi < 0 ∨ zj < zi ∨ min (m : Int) (n : Int) ≤ zj) → ∀ W, Ext wc W → Calls Tryz.prog 11 #[.agg (peA x), .agg (peA y), .int .i64 (J : Int), .int .i64 zj, .int .i64 zi] W (RetNo W 1)) := fun hji W he => sr_MinorA M0 W x y J m n zj zi f g (mb0 _) (by omega) (by omega) hji (fun wk hk => CKE.out wk (he.trans hk)) (fun wk hk => CA wk (he.trans hk)) fun wk hk => CB wk (he.trans hk)
  have CMO : Hid (∀ j i c : Nat, zj = (j : Int) → zi = (i : Int) → j < m → j < n → i ≤ j → c + 1 + j + j = m + n → ∀ W, Ext wc W → Calls Tryz.prog 11 #[.agg (peA x), .agg (peA y), .int .i64 (J : Int), .int .i64 zj, .int .i64 zi] W (RetMn M0 W J m n j c (i : Int) f g)) := fun j i c h1 h2 h3 h4 h5 h6 W he => by
   rw [h1, h2]
   exact sr_Minor M0 W x y J m n j c i f g (mb0 _) (by omega) (by omega) h3 h4 h5 h6 hZF hZG (fun wk hk => CKE.out wk (he.trans hk)) (fun wk hk => CA wk (he.trans hk)) fun wk hk => CB wk (he.trans hk)
  have CRO : Hid (∀ j i c : Nat, zj = (j : Int) → zi = (i : Int) → j < m → j < n → i ≤ j → c + 1 + j + j = m + n → ∀ W, Ext wc W → Calls Tryz.prog 17 #[.agg (peA x), .agg (peA y), .int .i64 (J : Int), .int .i64 zj, .int .i64 zi] W (RetMx M0 W (n - j + (m - j)) (c + 1) (mnM J m n j c (i : Int) f g))) := fun j i c h1 h2 h3 h4 h5 h6 W he => by
   rw [h1, h2]
   exact rf_Minor M0 W x y J m n j c i f g (mb0 _) (by omega) (by omega) h3 h4 h5 h6 (fun wk hk => DA wk (he.trans hk)) (fun wk hk => DB wk (he.trans hk)) (RA W he) (RB W he)
  clear CA CB DA DB RA RB hZF hZG hdm hdn hm3 hn3 hzf hzg hz hin CK CKE CZ1 CZ2 HX HY HS1 HS2 HEW hJ1 hJ4 HNO
  obtain ⟨⟨x0, x1, x2, x3⟩, ⟨y0, y1, y2, y3⟩, i0, i1, i2⟩ := HSM.out
  go_wp2_with (fail)
  refine (CSy.out wc (Ext.refl _)).mono ?_
  rintro e w5 ⟨sa, sc, rfl, ⟨base, hbase, hS⟩, he5⟩
  have HSD : Hid (SMx ba bb gq x y (J : Int) zj zi w5.drew) := (HSM.out.ext he5).ext (Ext.refl _).drew
  have HE5 : Hid (Ext wc w5.drew) := he5.trans (Ext.refl _).drew
  obtain ⟨S, hSe⟩ : ∃ S, S = n + m := ⟨_, rfl⟩
  rw [← hSe] at hS ⊢
  have HSV : Hid (MatV M0 w5.drew (.slice sa S sc) S (m + n) (syM J m n f g)) := hS.read.ext (Ext.refl _).drew
  have HSE := Lib.hid hSe
  clear he5 CSy x0 x1 x2 x3 y0 y1 y2 y3 i0 i1 i2 hbase hS hSe
  go_upto_region 7 with (fail)
  refine wp_region_u (SMx ba bb gq x y (J : Int) zj zi) 6 (by kernel_rfl) HSD.out (fun hHeld => ?_)
  generalize w5.drew = w7 at *
  (refine tkB [0, 1, 2, 3, 4, 5] ?_; (iterate 6 (refine tk1 (oi := ?_) (v := ?_) (by kernel_rfl) (by first | exact hSn | exact hHeld) ?_ ?_ ?_ ?_ ?_; rotate_left 2; (simp only [xgA, xgB, xgC]; rfl); rfl; (intro wS hSw; obtain ⟨⟨A0, A1, A2, A3⟩, ⟨B0, B1, B2, B3⟩, C0, C1, C2⟩ := hSw; go_simp; try with_reducible rfl); (exact fun _ _ _ h => h); (try simp only [Act.put, xgD, xgE, xgF]))); refine tkE ?_)
  refine wpAnyU_done (by kernel_rfl) ?_ _
  clear hHeld HSM
  obtain ⟨⟨x0, x1, x2, x3⟩, ⟨y0, y1, y2, y3⟩, i0, i1, i2⟩ := HSD.out
  by_cases hji : zi < 0 ∨ zj < zi ∨ min (m : Int) (n : Int) ≤ zj
  ·have CM := Lib.hid (CMX.out hji)
   have HJI := Lib.hid hji
   clear hji CMX CMO CRO
   go_wp2_with (fail)
   refine (CM.out w7 HE5.out).mono ?_
   rintro e w8 ⟨rfl, he8⟩
   have HSE8 := Lib.hid (HSD.out.ext he8)
   have HE8 := Lib.hid (HE5.out.trans he8)
   have HV8 := Lib.hid (HSV.out.ext he8)
   clear he8 CM x0 x1 x2 x3 y0 y1 y2 y3 i0 i1 i2 HSD HE5 HSV
   go_wp2_with (fail)
   refine (CI.out w8).mono ?_
   rintro e w9 ⟨rfl, rfl⟩
   clear CI
   obtain ⟨⟨x0, x1, x2, x3⟩, ⟨y0, y1, y2, y3⟩, i0, i1, i2⟩ := HSE8.out
   go_wp2_with (fail)
   refine (CZA.out _ HE8.out).mono ?_
   rintro e w10 ⟨rfl, he10⟩
   have HE10 := Lib.hid (HE8.out.trans he10)
   have HS10 := Lib.hid (HSE8.out.ext he10)
   have HV10 := Lib.hid (HV8.out.ext he10)
   clear x0 x1 x2 x3 y0 y1 y2 y3 i0 i1 i2 HSE8 HE8 he10 HV8 CZA
   obtain ⟨⟨x0, x1, x2, x3⟩, ⟨y0, y1, y2, y3⟩, i0, i1, i2⟩ := HS10.out
   go_wp2_with (fail)
   refine (CZB.out _ HE10.out).mono ?_
   rintro e w11 ⟨rfl, he11⟩
   have HE11 := Lib.hid (HE10.out.trans he11)
   have HS11 := Lib.hid (HS10.out.ext he11)
   have HV11 := Lib.hid (HV10.out.ext he11)
   clear x0 x1 x2 x3 y0 y1 y2 y3 i0 i1 i2 HS10 HE10 he11 HV10 CZB
   obtain ⟨⟨x0, x1, x2, x3⟩, ⟨y0, y1, y2, y3⟩, i0, i1, i2⟩ := HS11.out
   go_wp2_with (fail)
   refine (CRs.out _ HE11.out).mono ?_
   rintro e w12 ⟨ra, rc, base, rfl, hbase, hR, he12⟩
   rw [← HSE.out] at hR ⊢
   have HE12 := Lib.hid (HE11.out.trans he12)
   have HS12 := Lib.hid (HS11.out.ext he12)
   have HC12 := Lib.hid (CEq.out w12 _ _ S (m + n) _ (by have := HMN.out; have := HSE.out; omega) (by have := HMN.out; omega) (HV11.out.ext he12) hR.read)
   clear x0 x1 x2 x3 y0 y1 y2 y3 i0 i1 i2 HS11 HE11 he12 HV11 CRs hbase hR
   go_wp2_with (fail)
   refine HC12.out.mono ?_
   rintro e w13 ⟨rfl, he13⟩
   have HE13 := Lib.hid (HE12.out.trans he13)
   have HS13 := Lib.hid (HS12.out.ext he13)
   clear HS12 HE12 he13 HC12
   obtain ⟨⟨x0, x1, x2, x3⟩, ⟨y0, y1, y2, y3⟩, i0, i1, i2⟩ := HS13.out
   go_wp2_with (fail)
   refine (CDg.out _ HE13.out).mono ?_
   rintro e w14 ⟨rfl, he14⟩
   have HE14 := Lib.hid (HE13.out.trans he14)
   have HS14 := Lib.hid (HS13.out.ext he14)
   clear x0 x1 x2 x3 y0 y1 y2 y3 i0 i1 i2 HS13 HE13 he14 CDg
   go_upto_region 16 with (fail)
   have q0 := (Blk.of_arr w14 #[.int .i64 (m : Int), .int .i64 (n : Int)] 45 2 rfl).cell (i := 0) (by omega)
   have q1 := (Blk.of_arr w14 #[.int .i64 (m : Int), .int .i64 (n : Int)] 45 2 rfl).cell (i := 1) (by omega)
   have HE15 : Hid (Ext wc (w14.alloc (.cells #[.int .i64 (m : Int), .int .i64 (n : Int)] 45))) := HE14.out.alloc _
   have HS15 : Hid (SMx ba bb gq x y (J : Int) zj zi (w14.alloc (.cells #[.int .i64 (m : Int), .int .i64 (n : Int)] 45))) := HS14.out.ext ((Ext.refl w14).alloc _)
   have HX15 : Hid (Ext w14 (w14.alloc (.cells #[.int .i64 (m : Int), .int .i64 (n : Int)] 45))) := (Ext.refl w14).alloc _
   have q0 : (w14.alloc (.cells #[.int .i64 (m : Int), .int .i64 (n : Int)] 45)).cell? ⟨w14.heap.size, 0, none⟩ = some (.int .i64 (m : Int)) := q0
   have q1 : (w14.alloc (.cells #[.int .i64 (m : Int), .int .i64 (n : Int)] 45)).cell? ⟨w14.heap.size, 1, none⟩ = some (.int .i64 (n : Int)) := q1
   obtain ⟨g15, hg15⟩ : ∃ g15, g15 = w14.heap.size := ⟨_, rfl⟩
   rw [← hg15] at q0 q1 ⊢
   generalize w14.alloc (.cells #[.int .i64 (m : Int), .int .i64 (n : Int)] 45) = w15 at *
   clear hg15 HE14 HS14
   have HF := Lib.hid (HFIN.out.trans HE15.out)
   clear HX15 HE15 HS15
   by_cases h1 : zi < 0
   ·go_wp2
    go_ret
    exact ⟨rfl, HF.out⟩
   ·by_cases h2 : zj < zi
    ·go_wp2
     go_ret
     exact ⟨rfl, HF.out⟩
    ·have h3 : min (m : Int) (n : Int) ≤ zj := by have := HJI.out; omega
     go_wp2
     go_ret
     exact ⟨rfl, HF.out⟩
  ·have h1 : ¬ zi < 0 := fun h => hji (.inl h)
   have h2 : ¬ zj < zi := fun h => hji (.inr (.inl h))
   have h3 : ¬ min (m : Int) (n : Int) ≤ zj := fun h => hji (.inr (.inr h))
   obtain ⟨j, hj⟩ : ∃ j : Nat, zj = (j : Int) := ⟨zj.toNat, by omega⟩
   obtain ⟨i, hi⟩ : ∃ i : Nat, zi = (i : Int) := ⟨zi.toNat, by omega⟩
   have hjm : j < m := by omega
   have hjn : j < n := by omega
   obtain ⟨c, hc⟩ : ∃ c : Nat, c + 1 + j + j = m + n := ⟨m + n - 1 - j - j, by omega⟩
   have CM := Lib.hid (CMO.out j i c hj hi hjm hjn (by omega) hc)
   have CR := Lib.hid (CRO.out j i c hj hi hjm hjn (by omega) hc)
   have HCB : Hid (n - j + (m - j) ≤ 10 ∧ c + 1 ≤ 10) := by have := HMN.out; exact ⟨by omega, by omega⟩
   have HN1 := Lib.hid h1
   have HN2 := Lib.hid h2
   have HN3 := Lib.hid h3
   clear hji CMX CMO CRO hj hi hjm hjn hc h1 h2 h3
   go_wp2_with (fail)
   refine (CM.out w7 HE5.out).mono ?_
   rintro e w8 ⟨ma, mc, rfl, ⟨base, hbase, hM⟩, he8⟩
   obtain ⟨R, hRe⟩ : ∃ R, R = n - j + (m - j) := ⟨_, rfl⟩
   rw [← hRe] at hM ⊢
   have HMV := Lib.hid hM.read
   have HRE := Lib.hid hRe
   have HSE8 := Lib.hid (HSD.out.ext he8)
   have HE8 := Lib.hid (HE5.out.trans he8)
   have HV8 := Lib.hid (HSV.out.ext he8)
   clear he8 CM x0 x1 x2 x3 y0 y1 y2 y3 i0 i1 i2 HSD HE5 HSV hbase hM hRe
   go_wp2_with (fail)
   refine (CI.out w8).mono ?_
   rintro e w9 ⟨rfl, rfl⟩
   clear CI
   obtain ⟨⟨x0, x1, x2, x3⟩, ⟨y0, y1, y2, y3⟩, i0, i1, i2⟩ := HSE8.out
   go_wp2_with (fail)
   refine (CZA.out _ HE8.out).mono ?_
   rintro e w10 ⟨rfl, he10⟩
   have HXA := Lib.hid he10
   have HE10 := Lib.hid (HE8.out.trans he10)
   have HS10 := Lib.hid (HSE8.out.ext he10)
   have HV10 := Lib.hid (HV8.out.ext he10)
   clear x0 x1 x2 x3 y0 y1 y2 y3 i0 i1 i2 HSE8 HE8 he10 HV8 CZA
   obtain ⟨⟨x0, x1, x2, x3⟩, ⟨y0, y1, y2, y3⟩, i0, i1, i2⟩ := HS10.out
   go_wp2_with (fail)
   refine (CZB.out _ HE10.out).mono ?_
   rintro e w11 ⟨rfl, he11⟩
   have HXB := Lib.hid (HXA.out.trans he11)
   have HE11 := Lib.hid (HE10.out.trans he11)
   have HS11 := Lib.hid (HS10.out.ext he11)
   have HV11 := Lib.hid (HV10.out.ext he11)
   clear x0 x1 x2 x3 y0 y1 y2 y3 i0 i1 i2 HS10 HE10 he11 HV10 CZB
   obtain ⟨⟨x0, x1, x2, x3⟩, ⟨y0, y1, y2, y3⟩, i0, i1, i2⟩ := HS11.out
   go_wp2_with (fail)
   refine (CRs.out _ HE11.out).mono ?_
   rintro e w12 ⟨ra, rc, base, rfl, hbase, hR, he12⟩
   have HXC := Lib.hid (HXB.out.trans he12)
   rw [← HSE.out] at hR ⊢
   have HE12 := Lib.hid (HE11.out.trans he12)
   have HS12 := Lib.hid (HS11.out.ext he12)
   have HC12 := Lib.hid (CEq.out w12 _ _ S (m + n) _ (by have := HMN.out; have := HSE.out; omega) (by have := HMN.out; omega) (HV11.out.ext he12) hR.read)
   clear x0 x1 x2 x3 y0 y1 y2 y3 i0 i1 i2 HS11 HE11 he12 HV11 CRs hbase hR
   go_wp2_with (fail)
   refine HC12.out.mono ?_
   rintro e w13 ⟨rfl, he13⟩
   have HXD := Lib.hid (HXC.out.trans he13)
   have HE13 := Lib.hid (HE12.out.trans he13)
   have HS13 := Lib.hid (HS12.out.ext he13)
   clear HS12 HE12 he13 HC12
   obtain ⟨⟨x0, x1, x2, x3⟩, ⟨y0, y1, y2, y3⟩, i0, i1, i2⟩ := HS13.out
   go_wp2_with (fail)
   refine (CDg.out _ HE13.out).mono ?_
   rintro e w14 ⟨rfl, he14⟩
   have HXE := Lib.hid (HXD.out.trans he14)
   have HE14 := Lib.hid (HE13.out.trans he14)
   have HS14 := Lib.hid (HS13.out.ext he14)
   clear x0 x1 x2 x3 y0 y1 y2 y3 i0 i1 i2 HS13 HE13 he14 CDg
   go_upto_region 16 with (fail)
   have q0 := (Blk.of_arr w14 #[.int .i64 (m : Int), .int .i64 (n : Int)] 45 2 rfl).cell (i := 0) (by omega)
   have q1 := (Blk.of_arr w14 #[.int .i64 (m : Int), .int .i64 (n : Int)] 45 2 rfl).cell (i := 1) (by omega)
   have HE15 : Hid (Ext wc (w14.alloc (.cells #[.int .i64 (m : Int), .int .i64 (n : Int)] 45))) := HE14.out.alloc _
   have HS15 : Hid (SMx ba bb gq x y (J : Int) zj zi (w14.alloc (.cells #[.int .i64 (m : Int), .int .i64 (n : Int)] 45))) := HS14.out.ext ((Ext.refl w14).alloc _)
   have HX15 : Hid (Ext w14 (w14.alloc (.cells #[.int .i64 (m : Int), .int .i64 (n : Int)] 45))) := (Ext.refl w14).alloc _
   have q0 : (w14.alloc (.cells #[.int .i64 (m : Int), .int .i64 (n : Int)] 45)).cell? ⟨w14.heap.size, 0, none⟩ = some (.int .i64 (m : Int)) := q0
   have q1 : (w14.alloc (.cells #[.int .i64 (m : Int), .int .i64 (n : Int)] 45)).cell? ⟨w14.heap.size, 1, none⟩ = some (.int .i64 (n : Int)) := q1
   obtain ⟨g15, hg15⟩ : ∃ g15, g15 = w14.heap.size := ⟨_, rfl⟩
   rw [← hg15] at q0 q1 ⊢
   generalize w14.alloc (.cells #[.int .i64 (m : Int), .int .i64 (n : Int)] 45) = w15 at *
   clear hg15 HE14 HS14
   have HMV15 := Lib.hid (HMV.out.ext (HXE.out.trans HX15.out))
   clear HXA HXB HXC HXD HXE HX15 HMV
   have h1 := HN1.out
   have h2 := HN2.out
   have h3 := HN3.out
   obtain ⟨⟨x0, x1, x2, x3⟩, ⟨y0, y1, y2, y3⟩, i0, i1, i2⟩ := HS15.out
   go_wp2_with (fail)
   refine (CR.out _ HE15.out).mono ?_
   rintro e w16 ⟨ra, rc, base, rfl, hbase, hR, he16⟩
   rw [← HRE.out] at hR ⊢
   have HE16 := Lib.hid (HE15.out.trans he16)
   have HC16 := Lib.hid (CEq.out w16 _ _ R (c + 1) _ (by have := HCB.out; have := HRE.out; omega) HCB.out.2 (HMV15.out.ext he16) hR.read)
   clear x0 x1 x2 x3 y0 y1 y2 y3 i0 i1 i2 HS15 HE15 he16 CR hbase hR q0 q1 h1 h2 h3
   go_wp2_with (fail)
   refine HC16.out.mono ?_
   rintro e w17 ⟨rfl, he17⟩
   have HF := Lib.hid (HFIN.out.trans (HE16.out.trans he17))
   clear HC16 HE16 he17
   go_wp2
   go_ret
   exact ⟨rfl, HF.out⟩
end Go.Proofs.YtpclggidcmmemaaGreat
