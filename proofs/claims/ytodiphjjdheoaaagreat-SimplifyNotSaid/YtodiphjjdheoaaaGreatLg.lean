/- simplify.regular: the walk. -/
import Derived.Test.YtodiphjjdheoaaaGreatLf
set_option linter.unusedVariables false
set_option linter.unusedSimpArgs false

namespace Go.Proofs.YtodiphjjdheoaaaGreat
open Go.RowKit

def RetY (P : Prop) (w : World) (e : Ending) (w' : World) : Prop := ∃ b, e = .returned (.bool b) ∧ (b = true ↔ P) ∧ Ext w w'
def RetCN (P : Prop) (w : World) (e : Ending) (w' : World) : Prop := ∃ (ok b : Bool) (a : Option Addr) (n p : Nat), e = .returned (.tuple #[.agg #[.bool b, .slice a n p], .bool ok]) ∧ (ok = true ↔ P) ∧ Ext w w'
structure RgI (fn : Nat) (y : MX) (w : World) (cst sf blk : Prop) (KD : Nat → Int) (SK : Nat → Prop) (NK EM EP : Nat → Nat → Prop) (kk : Nat → MX) : Prop where
 le : y.n ≤ y.p ∧ y.p ≤ maxLen
 cs : ∀ W, Ext w W → Calls Tryz.prog 58 #[.agg (peA y.x)] W (RetCN cst W)
 sn : ∀ W, Ext w W → Calls Tryz.prog 59 #[.agg (peA y.x)] W fun e w' => ∃ u : PE, e = .returned (.agg (peA u)) ∧ Ext W w' ∧ (∀ W2, Ext w' W2 → Calls Tryz.prog 115 #[.agg (peA y.x), .agg (peA u)] W2 (RetY sf W2)) ∧ ∀ W2, Ext w' W2 → Calls Tryz.prog 20 #[.agg (peA y.x), .agg (peA u)] W2 (RetY sf W2)
 bl : ∀ W, Ext w W → Calls Tryz.prog 65 #[.agg (peA y.x)] W (RetY blk W)
 bl2 : ∀ W, Ext w W → Calls Tryz.prog 20 #[.agg (peA y.x), .agg (peA PE.z)] W (RetY blk W)
 kat : ∀ i, i < y.n → (∃ b off, y.a = some ⟨b, off, none⟩ ∧ MxC w b (off + i * 7) (kk i)) ∧ (kk i).kd = KD i
 rg : ∀ i, i < y.n → ∀ W, Ext w W → Calls Tryz.prog fn #[.agg (kk i).A] W (RetY (SK i) W)
 rp : ∀ i, i < y.n → SK i → (∀ k, k < i → SK k) → ∀ W, Ext w W → Calls Tryz.prog 116 #[.slice y.a i y.p, .agg (kk i).A] W (RetN (∀ k, k < i → NK i k) W)
 eqm : ∀ i k, i < y.n → k < i → SK i → SK k → ∀ W, Ext w W → Calls Tryz.prog 26 #[.agg (kk k).A, .agg (kk i).A] W (RetY (EM i k) W)
 eqp : ∀ i k, i < y.n → k < i → SK i → SK k → ∀ W, Ext w W → Calls Tryz.prog 20 #[.agg (peA (kk k).x), .agg (peA (kk i).x)] W (RetY (EP i k) W)
 nk : ∀ i k, i < y.n → k < i → (NK i k ↔ ¬ EM i k ∧ ¬ (KD k = 2 ∧ KD i = 2 ∧ EP i k))
def SpP (y : MX) (cst sf blk : Prop) (KD : Nat → Int) (SK : Nat → Prop) (NK : Nat → Nat → Prop) : Prop :=
 (y.kd = 2 ∧ (1 ≤ y.rl ∧ y.rl ≤ 6) ∧ ¬ cst ∧ y.n = 0 ∧ sf) ∨ ((y.kd = 3 ∨ y.kd = 4) ∧ y.rl = 0 ∧ blk ∧ 2 ≤ y.n ∧ ∀ i, i < y.n → KD i ≠ y.kd ∧ SK i ∧ ∀ k, k < i → NK i k)
def SRg (g : Nat) (kd : Int) (v : Value) (gk : Nat) (z : MX) (w : World) : Prop := w.cell? ⟨g, 0, none⟩ = some (.int .i64 kd) ∧ w.cell? ⟨g, 6, none⟩ = some v ∧ MxC w gk 0 z
theorem SRg.ext {g : Nat} {kd : Int} {v : Value} {gk : Nat} {z : MX} {w w' : World} (h : SRg g kd v gk z w) (he : Ext w w') : SRg g kd v gk z w' := by
 have hb := World.block_lt_of_cell? _ _ h.1
 exact ⟨by rw [he.cell hb]; exact h.1, by rw [he.cell hb]; exact h.2.1, h.2.2.ext he⟩
theorem RetY.no {P : Prop} {w w' : World} (h : ¬ P) (he : Ext w w') : RetY P w (.returned (.bool false)) w' := ⟨false, rfl, ⟨fun h' => (by cases h'), fun h' => absurd h' h⟩, he⟩
theorem RetY.yes {P : Prop} {w w' : World} (h : P) (he : Ext w w') : RetY P w (.returned (.bool true)) w' := ⟨true, rfl, ⟨fun _ => h, fun _ => rfl⟩, he⟩
set_option maxRecDepth 100000 in
set_option maxHeartbeats 32000000 in
theorem regular_walk (y : MX) (w : World) (cst sf blk : Prop) (KD : Nat → Int) (SK : Nat → Prop) (NK EM EP : Nat → Nat → Prop) (kk : Nat → MX) (hI : RgI 66 y w cst sf blk KD SK NK EM EP kk) :
  Calls Tryz.prog 66 #[.agg y.A] w (RetY (SpP y cst sf blk KD SK NK) w) := by
 have hX := (Ext.refl w).alloc (.cells y.A 32)
 have hB := new_mx w y
 obtain ⟨hnp, hpm⟩ := hI.le
 unfold maxLen at hpm
 have HI := Lib.hid hI
 have HSP : Hid (SpP y cst sf blk KD SK NK ↔ (y.kd = 2 ∧ (1 ≤ y.rl ∧ y.rl ≤ 6) ∧ ¬ cst ∧ y.n = 0 ∧ sf) ∨ ((y.kd = 3 ∨ y.kd = 4) ∧ y.rl = 0 ∧ blk ∧ 2 ≤ y.n ∧ ∀ i, i < y.n → KD i ≠ y.kd ∧ SK i ∧ ∀ k, k < i → NK i k)) := Iff.rfl
 generalize SpP y cst sf blk KD SK NK = PP at *
 clear hI
 generalize hW : w.alloc (.cells y.A 32) = W at *
 have HW := Lib.hid hW
 have HX := Lib.hid hX
 have HB := Lib.hid hB
 clear hW hX hB
 obtain ⟨x0, x1, x2, x3, x4, x5, x6⟩ := HB.out
 by_cases k2 : y.kd = 2
 ·have HPP : Hid (PP ↔ ((1 ≤ y.rl ∧ y.rl ≤ 6) ∧ ¬ cst ∧ y.n = 0 ∧ sf)) := by
   refine HSP.out.trans ⟨fun h => h.elim (fun h => h.2) fun h => ?_, fun h => .inl ⟨k2, h⟩⟩
   obtain ⟨h | h, _⟩ := h <;> omega
  have b2 : (y.kd == 2) = true := beq_iff_eq.2 k2
  clear HSP k2
  go_enter Tryz.func66, Tryz.ntmps66
  go_upto_region 1 with (fail)
  rw [HW.out]
  generalize w.heap.size = g at *
  go_wp2_with (fail)
  refine (HI.out.cs _ HX.out).mono ?_
  rintro e w2 ⟨ok, b, a, n, p, rfl, hok, he2⟩
  have hX3 := he2.trans ((Ext.refl w2).alloc (.cells #[.bool b, .slice a n p] 26))
  have HX3 := Lib.hid (HX.out.trans hX3)
  have HB3 := Lib.hid (HB.out.ext hX3)
  have HOK := Lib.hid hok
  generalize hW3 : w2.alloc (.cells #[.bool b, .slice a n p] 26) = W3 at *
  have HW3 := Lib.hid hW3
  clear hX3 he2 hok hW3 x0 x1 x2 x3 x4 x5 x6 HX HB
  obtain ⟨x0, x1, x2, x3, x4, x5, x6⟩ := HB3.out
  by_cases r1 : 1 ≤ y.rl
  rotate_left
  ·have HN : Hid (¬ PP) := fun h => r1 (HPP.out.1 h).1.1
   go_upto_region 5 with (fail)
   rw [HW3.out]
   go_upto_region 6 with (fail)
   have hS : MxC W3.drew g 0 y := HB3.out.ext (Ext.refl W3).drew
   have HXD := Lib.hid (HX3.out.trans (Ext.refl W3).drew)
   refine wp_region_u (fun w => MxC w g 0 y) 19 (by kernel_rfl) hS (fun hHeld => ?_)
   generalize W3.drew = wd at *
   (refine tkB [0, 1] ?_; (iterate 2 (refine tk1 (oi := ?_) (v := ?_) (by kernel_rfl) (by first | exact hSn | exact hHeld) ?_ ?_ ?_ ?_ ?_; rotate_left 2; (simp only [xgA, xgB, xgC]; rfl); rfl; (intro wS hSw; obtain ⟨A0, A1, A2, A3, A4, A5, A6⟩ := hSw; go_simp; try with_reducible rfl); (exact fun _ _ _ h => h); (try simp only [Act.put, xgD, xgE, xgF]))); refine tkE ?_)
   (refine tkB [2, 3] ?_; (iterate 2 (refine ts1F (oi := ?_) (by kernel_rfl) (by first | exact hSn | exact hHeld) ?_ ?_ ?_ ?_; rotate_left 1; (simp only [xgA, xgB, xgC]; rfl); rfl; (exact fun _ _ _ h => h); (try simp only [Act.put, xgD, xgE, xgF]))); refine tkE ?_)
   (refine tkB [4, 5] ?_; (iterate 2 (refine tk1 (oi := ?_) (v := ?_) (by kernel_rfl) (by first | exact hSn | exact hHeld) ?_ ?_ ?_ ?_ ?_; rotate_left 2; (simp only [xgA, xgB, xgC]; rfl); rfl; (intro wS hSw; obtain ⟨A0, A1, A2, A3, A4, A5, A6⟩ := hSw; go_simp; try with_reducible rfl); (exact fun _ _ _ h => h); (try simp only [Act.put, xgD, xgE, xgF]))); refine tkE ?_)
   (refine tkB [6, 7, 8, 9] ?_; (iterate 4 (refine ts1F (oi := ?_) (by kernel_rfl) (by first | exact hSn | exact hHeld) ?_ ?_ ?_ ?_; rotate_left 1; (simp only [xgA, xgB, xgC]; rfl); rfl; (exact fun _ _ _ h => h); (try simp only [Act.put, xgD, xgE, xgF]))); refine tkE ?_)
   (refine tkB [10, 11] ?_; (iterate 2 (refine tk1 (oi := ?_) (v := ?_) (by kernel_rfl) (by first | exact hSn | exact hHeld) ?_ ?_ ?_ ?_ ?_; rotate_left 2; (simp only [xgA, xgB, xgC]; rfl); rfl; (intro wS hSw; obtain ⟨A0, A1, A2, A3, A4, A5, A6⟩ := hSw; go_simp; try with_reducible rfl); (exact fun _ _ _ h => h); (try simp only [Act.put, xgD, xgE, xgF]))); refine tkE ?_)
   (refine tkB [12, 13, 14, 15, 16, 17] ?_; (iterate 6 (refine ts1F (oi := ?_) (by kernel_rfl) (by first | exact hSn | exact hHeld) ?_ ?_ ?_ ?_; rotate_left 1; (simp only [xgA, xgB, xgC]; rfl); rfl; (exact fun _ _ _ h => h); (try simp only [Act.put, xgD, xgE, xgF]))); refine tkE ?_)
   (refine tkB [18] ?_; (iterate 1 (refine tk1 (oi := ?_) (v := ?_) (by kernel_rfl) (by first | exact hSn | exact hHeld) ?_ ?_ ?_ ?_ ?_; rotate_left 2; (simp only [xgA, xgB, xgC]; rfl); rfl; (intro wS hSw; obtain ⟨A0, A1, A2, A3, A4, A5, A6⟩ := hSw; go_simp; try with_reducible rfl); (exact fun _ _ _ h => h); (try simp only [Act.put, xgD, xgE, xgF]))); refine tkE ?_)
   ((refine wpAnyU_one 19 (o := ?_) (by kernel_rfl) ?_ ?_; rotate_left 1; (simp only [xgA, xgB, xgC]; rfl); intro K hK); go_simp; (refine hK.out _ _ (fun h => absurd rfl h) ?_); clear hK K; refine wpAnyU_done (by kernel_rfl) ?_ _)
   go_wp2
   go_ret
   exact RetY.no HN.out HXD.out
  by_cases r6 : y.rl ≤ 6
  rotate_left
  ·have HN : Hid (¬ PP) := fun h => r6 (HPP.out.1 h).1.2
   have d6 : decide (y.rl ≤ 6) = false := decide_eq_false r6
   have d1 : decide (1 ≤ y.rl) = true := decide_eq_true r1
   clear r6 r1
   go_upto_region 5 with (fail)
   rw [HW3.out]
   go_upto_region 6 with (fail)
   have hS : MxC W3.drew g 0 y := HB3.out.ext (Ext.refl W3).drew
   have HXD := Lib.hid (HX3.out.trans (Ext.refl W3).drew)
   refine wp_region_u (fun w => MxC w g 0 y) 19 (by kernel_rfl) hS (fun hHeld => ?_)
   generalize W3.drew = wd at *
   (refine tkB [0, 1] ?_; (iterate 2 (refine tk1 (oi := ?_) (v := ?_) (by kernel_rfl) (by first | exact hSn | exact hHeld) ?_ ?_ ?_ ?_ ?_; rotate_left 2; (simp only [xgA, xgB, xgC]; rfl); rfl; (intro wS hSw; obtain ⟨A0, A1, A2, A3, A4, A5, A6⟩ := hSw; go_simp; try with_reducible rfl); (exact fun _ _ _ h => h); (try simp only [Act.put, xgD, xgE, xgF]))); refine tkE ?_)
   (refine tkB [2, 3] ?_; (iterate 2 (refine ts1F (oi := ?_) (by kernel_rfl) (by first | exact hSn | exact hHeld) ?_ ?_ ?_ ?_; rotate_left 1; (simp only [xgA, xgB, xgC]; rfl); rfl; (exact fun _ _ _ h => h); (try simp only [Act.put, xgD, xgE, xgF]))); refine tkE ?_)
   (refine tkB [4, 5] ?_; (iterate 2 (refine tk1 (oi := ?_) (v := ?_) (by kernel_rfl) (by first | exact hSn | exact hHeld) ?_ ?_ ?_ ?_ ?_; rotate_left 2; (simp only [xgA, xgB, xgC]; rfl); rfl; (intro wS hSw; obtain ⟨A0, A1, A2, A3, A4, A5, A6⟩ := hSw; go_simp; try with_reducible rfl); (exact fun _ _ _ h => h); (try simp only [Act.put, xgD, xgE, xgF]))); refine tkE ?_)
   (refine tkB [6, 7, 8, 9] ?_; (iterate 4 (refine ts1F (oi := ?_) (by kernel_rfl) (by first | exact hSn | exact hHeld) ?_ ?_ ?_ ?_; rotate_left 1; (simp only [xgA, xgB, xgC]; rfl); rfl; (exact fun _ _ _ h => h); (try simp only [Act.put, xgD, xgE, xgF]))); refine tkE ?_)
   (refine tkB [10, 11] ?_; (iterate 2 (refine tk1 (oi := ?_) (v := ?_) (by kernel_rfl) (by first | exact hSn | exact hHeld) ?_ ?_ ?_ ?_ ?_; rotate_left 2; (simp only [xgA, xgB, xgC]; rfl); rfl; (intro wS hSw; obtain ⟨A0, A1, A2, A3, A4, A5, A6⟩ := hSw; go_simp; try with_reducible rfl); (exact fun _ _ _ h => h); (try simp only [Act.put, xgD, xgE, xgF]))); refine tkE ?_)
   (refine tkB [12, 13, 14, 15, 16, 17] ?_; (iterate 6 (refine ts1F (oi := ?_) (by kernel_rfl) (by first | exact hSn | exact hHeld) ?_ ?_ ?_ ?_; rotate_left 1; (simp only [xgA, xgB, xgC]; rfl); rfl; (exact fun _ _ _ h => h); (try simp only [Act.put, xgD, xgE, xgF]))); refine tkE ?_)
   (refine tkB [18] ?_; (iterate 1 (refine tk1 (oi := ?_) (v := ?_) (by kernel_rfl) (by first | exact hSn | exact hHeld) ?_ ?_ ?_ ?_ ?_; rotate_left 2; (simp only [xgA, xgB, xgC]; rfl); rfl; (intro wS hSw; obtain ⟨A0, A1, A2, A3, A4, A5, A6⟩ := hSw; go_simp; try with_reducible rfl); (exact fun _ _ _ h => h); (try simp only [Act.put, xgD, xgE, xgF]))); refine tkE ?_)
   ((refine wpAnyU_one 19 (o := ?_) (by kernel_rfl) ?_ ?_; rotate_left 1; (simp only [xgA, xgB, xgC]; rfl); intro K hK); go_simp; (refine hK.out _ _ (fun h => absurd rfl h) ?_); clear hK K; refine wpAnyU_done (by kernel_rfl) ?_ _)
   go_wp2
   go_ret
   exact RetY.no HN.out HXD.out
  have HR16 : Hid (1 ≤ y.rl ∧ y.rl ≤ 6) := ⟨r1, r6⟩
  cases ok
  rotate_left
  ·have HN : Hid (¬ PP) := fun h => (HPP.out.1 h).2.1 (HOK.out.1 rfl)
   go_upto_region 5 with (fail)
   rw [HW3.out]
   go_upto_region 6 with (fail)
   have hS : MxC W3.drew g 0 y := HB3.out.ext (Ext.refl W3).drew
   have HXD := Lib.hid (HX3.out.trans (Ext.refl W3).drew)
   refine wp_region_u (fun w => MxC w g 0 y) 19 (by kernel_rfl) hS (fun hHeld => ?_)
   generalize W3.drew = wd at *
   (refine tkB [0, 1, 2, 3, 4, 5] ?_; (iterate 6 (refine tk1 (oi := ?_) (v := ?_) (by kernel_rfl) (by first | exact hSn | exact hHeld) ?_ ?_ ?_ ?_ ?_; rotate_left 2; (simp only [xgA, xgB, xgC]; rfl); rfl; (intro wS hSw; obtain ⟨A0, A1, A2, A3, A4, A5, A6⟩ := hSw; go_simp; try with_reducible rfl); (exact fun _ _ _ h => h); (try simp only [Act.put, xgD, xgE, xgF]))); refine tkE ?_)
   (refine tkB [6, 7, 8, 9] ?_; (iterate 4 (refine ts1F (oi := ?_) (by kernel_rfl) (by first | exact hSn | exact hHeld) ?_ ?_ ?_ ?_; rotate_left 1; (simp only [xgA, xgB, xgC]; rfl); rfl; (exact fun _ _ _ h => h); (try simp only [Act.put, xgD, xgE, xgF]))); refine tkE ?_)
   (refine tkB [10, 11] ?_; (iterate 2 (refine tk1 (oi := ?_) (v := ?_) (by kernel_rfl) (by first | exact hSn | exact hHeld) ?_ ?_ ?_ ?_ ?_; rotate_left 2; (simp only [xgA, xgB, xgC]; rfl); rfl; (intro wS hSw; obtain ⟨A0, A1, A2, A3, A4, A5, A6⟩ := hSw; go_simp; try with_reducible rfl); (exact fun _ _ _ h => h); (try simp only [Act.put, xgD, xgE, xgF]))); refine tkE ?_)
   (refine tkB [12, 13, 14, 15, 16, 17] ?_; (iterate 6 (refine ts1F (oi := ?_) (by kernel_rfl) (by first | exact hSn | exact hHeld) ?_ ?_ ?_ ?_; rotate_left 1; (simp only [xgA, xgB, xgC]; rfl); rfl; (exact fun _ _ _ h => h); (try simp only [Act.put, xgD, xgE, xgF]))); refine tkE ?_)
   (refine tkB [18] ?_; (iterate 1 (refine tk1 (oi := ?_) (v := ?_) (by kernel_rfl) (by first | exact hSn | exact hHeld) ?_ ?_ ?_ ?_ ?_; rotate_left 2; (simp only [xgA, xgB, xgC]; rfl); rfl; (intro wS hSw; obtain ⟨A0, A1, A2, A3, A4, A5, A6⟩ := hSw; go_simp; try with_reducible rfl); (exact fun _ _ _ h => h); (try simp only [Act.put, xgD, xgE, xgF]))); refine tkE ?_)
   ((refine wpAnyU_one 19 (o := ?_) (by kernel_rfl) ?_ ?_; rotate_left 1; (simp only [xgA, xgB, xgC]; rfl); intro K hK); go_simp; (refine hK.out _ _ (fun h => absurd rfl h) ?_); clear hK K; refine wpAnyU_done (by kernel_rfl) ?_ _)
   go_wp2
   go_ret
   exact RetY.no HN.out HXD.out
  have HNC : Hid (¬ cst) := fun h => absurd (HOK.out.2 h) (by decide)
  by_cases hn0 : y.n = 0
  rotate_left
  ·have nB : ((y.n : Int) == 0) = false := beq_eq_false_iff_ne.2 (by omega)
   have HN : Hid (¬ PP) := fun h => hn0 (HPP.out.1 h).2.2.1
   clear hn0
   go_upto_region 5 with (fail)
   rw [HW3.out]
   go_upto_region 6 with (fail)
   have hS : MxC W3.drew g 0 y := HB3.out.ext (Ext.refl W3).drew
   have HXD := Lib.hid (HX3.out.trans (Ext.refl W3).drew)
   refine wp_region_u (fun w => MxC w g 0 y) 19 (by kernel_rfl) hS (fun hHeld => ?_)
   generalize W3.drew = wd at *
   (refine tkB [0, 1, 2, 3, 4, 5, 6, 7, 8, 9, 10, 11] ?_; (iterate 12 (refine tk1 (oi := ?_) (v := ?_) (by kernel_rfl) (by first | exact hSn | exact hHeld) ?_ ?_ ?_ ?_ ?_; rotate_left 2; (simp only [xgA, xgB, xgC]; rfl); rfl; (intro wS hSw; obtain ⟨A0, A1, A2, A3, A4, A5, A6⟩ := hSw; go_simp; try with_reducible rfl); (exact fun _ _ _ h => h); (try simp only [Act.put, xgD, xgE, xgF]))); refine tkE ?_)
   (refine tkB [12, 13, 14, 15, 16, 17] ?_; (iterate 6 (refine ts1F (oi := ?_) (by kernel_rfl) (by first | exact hSn | exact hHeld) ?_ ?_ ?_ ?_; rotate_left 1; (simp only [xgA, xgB, xgC]; rfl); rfl; (exact fun _ _ _ h => h); (try simp only [Act.put, xgD, xgE, xgF]))); refine tkE ?_)
   (refine tkB [18] ?_; (iterate 1 (refine tk1 (oi := ?_) (v := ?_) (by kernel_rfl) (by first | exact hSn | exact hHeld) ?_ ?_ ?_ ?_ ?_; rotate_left 2; (simp only [xgA, xgB, xgC]; rfl); rfl; (intro wS hSw; obtain ⟨A0, A1, A2, A3, A4, A5, A6⟩ := hSw; go_simp; try with_reducible rfl); (exact fun _ _ _ h => h); (try simp only [Act.put, xgD, xgE, xgF]))); refine tkE ?_)
   ((refine wpAnyU_one 19 (o := ?_) (by kernel_rfl) ?_ ?_; rotate_left 1; (simp only [xgA, xgB, xgC]; rfl); intro K hK); go_simp; (refine hK.out _ _ (fun h => absurd rfl h) ?_); clear hK K; refine wpAnyU_done (by kernel_rfl) ?_ _)
   go_wp2
   go_ret
   exact RetY.no HN.out HXD.out
  have nB : ((y.n : Int) == 0) = true := beq_iff_eq.2 (by omega)
  have HPF : Hid (PP ↔ sf) := HPP.out.trans ⟨fun h => h.2.2.2, fun h => ⟨HR16.out, HNC.out, hn0, h⟩⟩
  clear hn0 HPP
  go_upto_region 5 with (fail)
  rw [HW3.out]
  go_upto_region 6 with (fail)
  have hS : MxC W3.drew g 0 y := HB3.out.ext (Ext.refl W3).drew
  have HXD := Lib.hid (HX3.out.trans (Ext.refl W3).drew)
  refine wp_region_u (fun w => MxC w g 0 y) 19 (by kernel_rfl) hS (fun hHeld => ?_)
  generalize W3.drew = wd at *
  (refine tkB [0, 1, 2, 3, 4, 5, 6, 7, 8, 9, 10, 11, 12, 13, 14, 15] ?_; (iterate 16 (refine tk1 (oi := ?_) (v := ?_) (by kernel_rfl) (by first | exact hSn | exact hHeld) ?_ ?_ ?_ ?_ ?_; rotate_left 2; (simp only [xgA, xgB, xgC]; rfl); rfl; (intro wS hSw; obtain ⟨A0, A1, A2, A3, A4, A5, A6⟩ := hSw; go_simp; try with_reducible rfl); (exact fun _ _ _ h => h); (try simp only [Act.put, xgD, xgE, xgF]))); refine tkE ?_)
  ((refine wpAnyU_one 16 (o := ?_) (by kernel_rfl) ?_ ?_; rotate_left 1; (simp only [xgA, xgB, xgC]; rfl); intro K hK); go_simp; (refine (HI.out.sn _ HXD.out).mono ?_); rintro e_ v1 ⟨u, rfl, d1, hid, _⟩; go_wp2_with (fail); (try clear hSn); (have hSn := hHeld.ext d1); (refine hK.out _ _ (fun _ => hSn) ?_); clear hK K; (try simp only [Act.put, xgD, xgE, xgF]))
  ((refine wpAnyU_one 17 (o := ?_) (by kernel_rfl) ?_ ?_; rotate_left 1; (simp only [xgA, xgB, xgC]; rfl); intro K hK); go_simp; (refine (hid _ (Ext.refl _)).mono ?_); rintro e_ v2 ⟨b2, rfl, hb2, d2⟩; go_wp2_with (fail); (try clear hSn); (have hSn := hHeld.ext (d1.trans d2)); (refine hK.out _ _ (fun _ => hSn) ?_); clear hK K; (try simp only [Act.put, xgD, xgE, xgF]))
  (refine tkB [18] ?_; (iterate 1 (refine tk1 (oi := ?_) (v := ?_) (by kernel_rfl) (by first | exact hSn | exact hHeld) ?_ ?_ ?_ ?_ ?_; rotate_left 2; (simp only [xgA, xgB, xgC]; rfl); rfl; (intro wS hSw; obtain ⟨A0, A1, A2, A3, A4, A5, A6⟩ := hSw; go_simp; try with_reducible rfl); (exact fun _ _ _ h => h); (try simp only [Act.put, xgD, xgE, xgF]))); refine tkE ?_)
  ((refine wpAnyU_one 19 (o := ?_) (by kernel_rfl) ?_ ?_; rotate_left 1; (simp only [xgA, xgB, xgC]; rfl); intro K hK); go_simp; (refine hK.out _ _ (fun h => absurd rfl h) ?_); clear hK K; refine wpAnyU_done (by kernel_rfl) ?_ _)
  have HF : Hid (RetY PP w (.returned (.bool b2)) v2) := ⟨b2, rfl, hb2.trans HPF.out.symm, HXD.out.trans (d1.trans d2)⟩
  clear d1 d2 hid hb2 hSn hHeld hS
  go_wp2
  go_ret
  exact HF.out
 by_cases k34 : ¬ (y.kd = 3 ∨ y.kd = 4)
 ·have HN : Hid (¬ PP) := fun h => (HSP.out.1 h).elim (fun h => k2 h.1) fun h => k34 h.1
  have b2 : (y.kd == 2) = false := beq_eq_false_iff_ne.2 k2
  have b3 : (y.kd == 3) = false := beq_eq_false_iff_ne.2 fun h => k34 (.inl h)
  have b4 : (y.kd == 4) = false := beq_eq_false_iff_ne.2 fun h => k34 (.inr h)
  clear HSP k2 k34 HI
  go_enter Tryz.func66, Tryz.ntmps66
  go_upto_region 1 with (fail)
  rw [HW.out]
  generalize w.heap.size = g at *
  go_wp2
  go_ret
  exact RetY.no HN.out HX.out
 have k34 := Decidable.not_not.1 k34
 have HPP : Hid (PP ↔ (y.rl = 0 ∧ blk ∧ 2 ≤ y.n ∧ ∀ i, i < y.n → KD i ≠ y.kd ∧ SK i ∧ ∀ k, k < i → NK i k)) := HSP.out.trans ⟨fun h => h.elim (fun h => absurd h.1 k2) fun h => h.2, fun h => .inr ⟨k34, h⟩⟩
 have b2 : (y.kd == 2) = false := beq_eq_false_iff_ne.2 k2
 have b34 : (y.kd == 3) = true ∨ ((y.kd == 3) = false ∧ (y.kd == 4) = true) := by
  rcases k34 with h | h
  ·exact .inl (beq_iff_eq.2 h)
  ·exact .inr ⟨beq_eq_false_iff_ne.2 (by omega), beq_iff_eq.2 h⟩
 clear HSP k2 k34
 by_cases hr0 : y.rl = 0
 rotate_left
 ·have HN : Hid (¬ PP) := fun h => hr0 (HPP.out.1 h).1
  have r0 : (y.rl != 0) = true := by simpa using hr0
  clear HPP hr0 HI
  rcases b34 with b3 | ⟨b3, b4⟩
  all_goals
   go_enter Tryz.func66, Tryz.ntmps66
   go_upto_region 1 with (fail)
   rw [HW.out]
   generalize w.heap.size = g at *
   go_wp2
   go_ret
   exact RetY.no HN.out HX.out
 have r0 : (y.rl != 0) = false := by simpa using hr0
 have HR0 := Lib.hid hr0
 clear hr0
 have CB := Lib.hid (HI.out.bl)
 rcases b34 with b3 | ⟨b3, b4⟩
 all_goals
  go_enter Tryz.func66, Tryz.ntmps66
  go_upto_region 1 with (fail)
  rw [HW.out]
  generalize w.heap.size = g at *
  go_wp2_with (fail)
  refine (CB.out _ HX.out).mono ?_
  rintro e w2 ⟨b, rfl, hb, he2⟩
  have HX2 := Lib.hid (HX.out.trans he2)
  have HB2 := Lib.hid (HB.out.ext he2)
  have HBB := Lib.hid hb
  clear hb he2 CB HX HB x0 x1 x2 x3 x4 x5 x6 HW
  obtain ⟨x0, x1, x2, x3, x4, x5, x6⟩ := HB2.out
  cases b
  ·have HN : Hid (¬ PP) := fun h => absurd (HBB.out.2 (HPP.out.1 h).2.1) (by decide)
   clear HI HPP HBB
   go_wp2
   go_ret
   exact RetY.no HN.out HX2.out
  have HBK : Hid blk := HBB.out.1 rfl
  by_cases hn2 : (y.n : Int) < 2
  ·have HN : Hid (¬ PP) := fun h => by have := (HPP.out.1 h).2.2.1; omega
   clear HI HPP HBB
   go_wp2
   go_ret
   exact RetY.no HN.out HX2.out
  have HPL : Hid (PP ↔ ∀ i, i < y.n → KD i ≠ y.kd ∧ SK i ∧ ∀ k, k < i → NK i k) := HPP.out.trans ⟨fun h => h.2.2.2, fun h => ⟨HR0.out, HBK.out, by omega, h⟩⟩
  clear HPP HBB HR0 HBK
  obtain ⟨ya, hya⟩ : ∃ q, q = y.a := ⟨_, rfl⟩
  obtain ⟨yn, hyn⟩ : ∃ q, q = y.n := ⟨_, rfl⟩
  have HKT : Hid (∀ i, i < yn → (∃ b off, ya = some ⟨b, off, none⟩ ∧ MxC w b (off + i * 7) (kk i)) ∧ (kk i).kd = KD i) := by
   show ∀ i, _
   rw [hya, hyn]; exact HI.out.kat
  have HRG : Hid (∀ i, i < yn → ∀ W, Ext w W → Calls Tryz.prog 66 #[.agg (kk i).A] W (RetY (SK i) W)) := by
   show ∀ i, _
   rw [hyn]; exact HI.out.rg
  have HRP : Hid (∀ i, i < yn → SK i → (∀ k, k < i → SK k) → ∀ W, Ext w W → Calls Tryz.prog 116 #[.slice ya i y.p, .agg (kk i).A] W (RetN (∀ k, k < i → NK i k) W)) := by
   show ∀ i, _
   rw [hya, hyn]; exact HI.out.rp
  rw [← hya, ← hyn] at x6
  rw [← hyn] at HPL hnp hn2
  have HX0 := Lib.hid x0
  have HX6 := Lib.hid x6
  have hn1 : yn ≤ 9223372036854775807 := by omega
  clear hya hyn HI HB2 x1 x2 x3 x4 x5 x0
  go_wp2
  clear x6
  go_loopw [66] (fun iv wr => ∃ (j : Nat), j ≤ yn ∧ iv = .int .i64 (j : Int) ∧ Hid (∀ i, i < j → KD i ≠ y.kd ∧ SK i ∧ ∀ k, k < i → NK i k) ∧ Hid (Ext w2 wr)) (fun iv _ => yn - (intOf iv).toNat)
  case atStart => exact ⟨0, Nat.zero_le _, rfl, fun i hi => absurd hi (Nat.not_lt_zero _), Ext.refl _⟩
  case round =>
   obtain ⟨j, hj, rfl, HQ, HR⟩ := hrel
   by_cases hlt : j < yn
   ·obtain ⟨⟨b, off, rfl, hc⟩, hkj⟩ := HKT.out j hlt
    have hXr := HX2.out.trans HR.out
    have hEA := (Ext.refl wr).alloc (.cells (kk j).A 32)
    obtain ⟨e0, e1, e2, e3, e4, e5, e6⟩ := hc.ext hXr
    have hY3 := new_mx wr (kk j)
    have CRG := Lib.hid (HRG.out j hlt)
    have CRP := Lib.hid (HRP.out j hlt)
    have HKJ : Hid ((kk j).kd = KD j) := hkj
    clear hc hkj HKT HRG HRP
    generalize kk j = z at *
    generalize hW3 : wr.alloc (.cells z.A 32) = W3 at *
    have HW3 := Lib.hid hW3
    have HX13 : Hid (Ext w2 W3) := HR.out.trans hEA
    have hXD := (HX2.out.trans HX13.out).trans (Ext.refl W3).drew
    have hX2D := HX13.out.trans (Ext.refl W3).drew
    have hS : SRg g y.kd (.slice (some ⟨b, off, none⟩) yn y.p) wr.heap.size z W3.drew := ⟨by rw [hX2D.cell (World.block_lt_of_cell? _ _ HX0.out)]; exact HX0.out, by rw [hX2D.cell (World.block_lt_of_cell? _ _ HX6.out)]; exact HX6.out, hY3.ext (Ext.refl W3).drew⟩
    have HXD := Lib.hid hXD
    have HX2D := Lib.hid hX2D
    have hltI : (j : Int) < (yn : Int) := by omega
    have hjp : (j : Int) ≤ (y.p : Int) := by omega
    have HLT := Lib.hid hlt
    clear hW3 hEA hXr hXD hX2D hY3 hlt HR HX13
    go_upto_region 14 with (fail)
    rw [HW3.out]
    generalize wr.heap.size = gk at *
    clear HW3 e0 e1 e2 e3 e4 e5 e6
    refine wp_region_u (SRg g y.kd (.slice (some ⟨b, off, none⟩) yn y.p) gk z) 18 (by kernel_rfl) hS (fun hHeld => ?_)
    generalize W3.drew = wd at *
    by_cases hk : z.kd = y.kd
    ·have zB : (z.kd == y.kd) = true := beq_iff_eq.2 hk
     have HN : Hid (¬ PP) := fun h => (HPL.out.1 h j HLT.out).1 (by rw [← HKJ.out]; exact hk)
     clear hk
     (refine tkB [0, 1, 2, 3, 4, 5] ?_; (iterate 6 (refine tk1 (oi := ?_) (v := ?_) (by kernel_rfl) (by first | exact hSn | exact hHeld) ?_ ?_ ?_ ?_ ?_; rotate_left 2; (simp only [xgA, xgB, xgC]; rfl); rfl; (intro wS hSw; obtain ⟨A0, A6, B0, B1, B2, B3, B4, B5, B6⟩ := hSw; go_simp; try with_reducible rfl); (exact fun _ _ _ h => h); (try simp only [Act.put, xgD, xgE, xgF]))); refine tkE ?_)
     (refine tkB [6, 7, 8] ?_; (iterate 3 (refine ts1F (oi := ?_) (by kernel_rfl) (by first | exact hSn | exact hHeld) ?_ ?_ ?_ ?_; rotate_left 1; (simp only [xgA, xgB, xgC]; rfl); rfl; (exact fun _ _ _ h => h); (try simp only [Act.put, xgD, xgE, xgF]))); refine tkE ?_)
     (refine tkB [9, 10] ?_; (iterate 2 (refine tk1 (oi := ?_) (v := ?_) (by kernel_rfl) (by first | exact hSn | exact hHeld) ?_ ?_ ?_ ?_ ?_; rotate_left 2; (simp only [xgA, xgB, xgC]; rfl); rfl; (intro wS hSw; obtain ⟨A0, A6, B0, B1, B2, B3, B4, B5, B6⟩ := hSw; go_simp; try with_reducible rfl); (exact fun _ _ _ h => h); (try simp only [Act.put, xgD, xgE, xgF]))); refine tkE ?_)
     (refine tkB [11, 12, 13, 14, 15, 16] ?_; (iterate 6 (refine ts1F (oi := ?_) (by kernel_rfl) (by first | exact hSn | exact hHeld) ?_ ?_ ?_ ?_; rotate_left 1; (simp only [xgA, xgB, xgC]; rfl); rfl; (exact fun _ _ _ h => h); (try simp only [Act.put, xgD, xgE, xgF]))); refine tkE ?_)
     (refine tkB [17] ?_; (iterate 1 (refine tk1 (oi := ?_) (v := ?_) (by kernel_rfl) (by first | exact hSn | exact hHeld) ?_ ?_ ?_ ?_ ?_; rotate_left 2; (simp only [xgA, xgB, xgC]; rfl); rfl; (intro wS hSw; obtain ⟨A0, A6, B0, B1, B2, B3, B4, B5, B6⟩ := hSw; go_simp; (try simp only [List.getElem?_cons_zero, List.getElem?_cons_succ, Option.getD_some, Sem.run_pure, Result.andThen_ok, if_true]); try with_reducible rfl); (exact fun _ _ _ h => h); (try simp only [Act.put, xgD, xgE, xgF]))); refine tkE ?_)
     refine wpAnyU_done (by kernel_rfl) ?_ _
     clear hHeld hS
     go_wp2
     go_ret
     exact RetY.no HN.out HXD.out
    have zB : (z.kd == y.kd) = false := beq_eq_false_iff_ne.2 hk
    have HNK : Hid (KD j ≠ y.kd) := by show _ ≠ _; rw [← HKJ.out]; exact hk
    clear hk
    (refine tkB [0, 1, 2, 3, 4, 5, 6] ?_; (iterate 7 (refine tk1 (oi := ?_) (v := ?_) (by kernel_rfl) (by first | exact hSn | exact hHeld) ?_ ?_ ?_ ?_ ?_; rotate_left 2; (simp only [xgA, xgB, xgC]; rfl); rfl; (intro wS hSw; obtain ⟨A0, A6, B0, B1, B2, B3, B4, B5, B6⟩ := hSw; go_simp; try with_reducible rfl); (exact fun _ _ _ h => h); (try simp only [Act.put, xgD, xgE, xgF]))); refine tkE ?_)
    ((refine wpAnyU_one 7 (o := ?_) (by kernel_rfl) ?_ ?_; rotate_left 1; (simp only [xgA, xgB, xgC]; rfl); intro K hK); go_simp; (refine (CRG.out _ HXD.out).mono ?_); rintro e_ u7 ⟨b7, rfl, hb7, d7⟩; go_wp2_with (fail); (try clear hSn); (have hSn := hHeld.ext d7); (refine hK.out _ _ (fun _ => hSn) ?_); clear hK K; (try simp only [Act.put, xgD, xgE, xgF]))
    cases b7
    ·have HN : Hid (¬ PP) := fun h => absurd (hb7.2 (HPL.out.1 h j HLT.out).2.1) (by decide)
     (refine tkB [8, 9, 10] ?_; (iterate 3 (refine tk1 (oi := ?_) (v := ?_) (by kernel_rfl) (by first | exact hSn | exact hHeld) ?_ ?_ ?_ ?_ ?_; rotate_left 2; (simp only [xgA, xgB, xgC]; rfl); rfl; (intro wS hSw; obtain ⟨A0, A6, B0, B1, B2, B3, B4, B5, B6⟩ := hSw; go_simp; try with_reducible rfl); (exact fun _ _ _ h => h); (try simp only [Act.put, xgD, xgE, xgF]))); refine tkE ?_)
     (refine tkB [11, 12, 13, 14, 15, 16] ?_; (iterate 6 (refine ts1F (oi := ?_) (by kernel_rfl) (by first | exact hSn | exact hHeld) ?_ ?_ ?_ ?_; rotate_left 1; (simp only [xgA, xgB, xgC]; rfl); rfl; (exact fun _ _ _ h => h); (try simp only [Act.put, xgD, xgE, xgF]))); refine tkE ?_)
     (refine tkB [17] ?_; (iterate 1 (refine tk1 (oi := ?_) (v := ?_) (by kernel_rfl) (by first | exact hSn | exact hHeld) ?_ ?_ ?_ ?_ ?_; rotate_left 2; (simp only [xgA, xgB, xgC]; rfl); rfl; (intro wS hSw; obtain ⟨A0, A6, B0, B1, B2, B3, B4, B5, B6⟩ := hSw; go_simp; (try simp only [List.getElem?_cons_zero, List.getElem?_cons_succ, Option.getD_some, Sem.run_pure, Result.andThen_ok, if_true]); try with_reducible rfl); (exact fun _ _ _ h => h); (try simp only [Act.put, xgD, xgE, xgF]))); refine tkE ?_)
     refine wpAnyU_done (by kernel_rfl) ?_ _
     have HF := Lib.hid (HXD.out.trans d7)
     clear hHeld hS hSn d7 hb7
     go_wp2
     go_ret
     exact RetY.no HN.out HF.out
    have hsk := hb7.1 rfl
    (refine tkB [8, 9, 10, 11, 12, 13, 14, 15] ?_; (iterate 8 (refine tk1 (oi := ?_) (v := ?_) (by kernel_rfl) (by first | exact hSn | exact hHeld) ?_ ?_ ?_ ?_ ?_; rotate_left 2; (simp only [xgA, xgB, xgC]; rfl); rfl; (intro wS hSw; obtain ⟨A0, A6, B0, B1, B2, B3, B4, B5, B6⟩ := hSw; go_simp; try with_reducible rfl); (exact fun _ _ _ h => h); (try simp only [Act.put, xgD, xgE, xgF]))); refine tkE ?_)
    ((refine wpAnyU_one 16 (o := ?_) (by kernel_rfl) ?_ ?_; rotate_left 1; (simp only [xgA, xgB, xgC]; rfl); intro K hK); go_simp; (refine (CRP.out hsk (fun k hk => (HQ.out k hk).2.1) _ (HXD.out.trans d7)).mono ?_); rintro e_ u8 ⟨b8, rfl, hb8, d8⟩; go_wp2_with (fail); (try clear hSn); (have hSn := hHeld.ext (d7.trans d8)); (refine hK.out _ _ (fun _ => hSn) ?_); clear hK K; (try simp only [Act.put, xgD, xgE, xgF]))
    (refine tkB [17] ?_; (iterate 1 (refine tk1 (oi := ?_) (v := ?_) (by kernel_rfl) (by first | exact hSn | exact hHeld) ?_ ?_ ?_ ?_ ?_; rotate_left 2; (simp only [xgA, xgB, xgC]; rfl); rfl; (intro wS hSw; obtain ⟨A0, A6, B0, B1, B2, B3, B4, B5, B6⟩ := hSw; go_simp; (try simp only [List.getElem?_cons_zero, List.getElem?_cons_succ, Option.getD_some, Sem.run_pure, Result.andThen_ok, if_true]); try with_reducible rfl); (exact fun _ _ _ h => h); (try simp only [Act.put, xgD, xgE, xgF]))); refine tkE ?_)
    refine wpAnyU_done (by kernel_rfl) ?_ _
    have HF := Lib.hid (HXD.out.trans (d7.trans d8))
    have HX2F := Lib.hid (HX2D.out.trans (d7.trans d8))
    have HB8 := Lib.hid hb8
    have HSK := Lib.hid hsk
    clear hHeld hS hSn d7 d8 hb7 hb8 hsk CRG CRP
    cases b8
    ·have HQ2 : Hid (∀ i, i < j + 1 → KD i ≠ y.kd ∧ SK i ∧ ∀ k, k < i → NK i k) := fun i hi => by
      by_cases hij : i = j
      ·rw [hij]; exact ⟨HNK.out, HSK.out, HB8.out.1 rfl⟩
      ·exact HQ.out i (by omega)
     clear HQ
     go_wp2
     go_roundw
     case rel => exact ⟨j + 1, HLT.out, by go_num, HQ2.out, HX2F.out⟩
     case measure => have := HLT.out; simp [intOf]; omega
    ·have HN : Hid (¬ PP) := fun h => absurd (HB8.out.2 (HPL.out.1 h j HLT.out).2.2) (by decide)
     go_wp2
     go_ret
     exact RetY.no HN.out HF.out
   ·obtain rfl : j = yn := by omega
    have hge : ¬ (j : Int) < (j : Int) := by omega
    have HY : Hid PP := HPL.out.2 HQ.out
    have HF := Lib.hid (HX2.out.trans HR.out)
    clear HQ
    go_wp2
    go_ret
    exact RetY.yes HY.out HF.out
end Go.Proofs.YtodiphjjdheoaaaGreat
