/- cylinderref39.simple: the walk. -/
import Derived.Test.YtodiphjjdheoaaaGreatLg
set_option linter.unusedVariables false
set_option linter.unusedSimpArgs false

namespace Go.Proofs.YtodiphjjdheoaaaGreat
open Go.RowKit

def SRh (g : Nat) (kd : Int) (v : Value) (b o o' : Nat) (z z' : MX) (w : World) : Prop := w.cell? ⟨g, 0, none⟩ = some (.int .i64 kd) ∧ w.cell? ⟨g, 6, none⟩ = some v ∧ MxC w b o z ∧ MxC w b o' z'
theorem SRh.ext {g : Nat} {kd : Int} {v : Value} {b o o' : Nat} {z z' : MX} {w w' : World} (h : SRh g kd v b o o' z z' w) (he : Ext w w') : SRh g kd v b o o' z z' w' := by
 have hb := World.block_lt_of_cell? _ _ h.1
 exact ⟨by rw [he.cell hb]; exact h.1, by rw [he.cell hb]; exact h.2.1, h.2.2.1.ext he, h.2.2.2.ext he⟩
def Z7 (w : World) (g : Nat) : Prop := (w.cell? ⟨g, 0, none⟩ = some (.int .i64 0) ∧ w.cell? ⟨g, 1, none⟩ = some (.int .i64 0) ∧ w.cell? ⟨g, 2, none⟩ = some (.int .i64 0) ∧ w.cell? ⟨g, 3, none⟩ = some (.bool false) ∧ w.cell? ⟨g, 4, none⟩ = some (.slice none 0 0) ∧ w.cell? ⟨g, 5, none⟩ = some (.slice none 0 0) ∧ w.cell? ⟨g, 6, none⟩ = some (.slice none 0 0)) ∧
 w.frozen? ⟨g, 0, none⟩ = false ∧ w.frozen? ⟨g, 1, none⟩ = false ∧ w.frozen? ⟨g, 2, none⟩ = false ∧ w.frozen? ⟨g, 3, none⟩ = false ∧ w.frozen? ⟨g, 4, none⟩ = false ∧ w.frozen? ⟨g, 5, none⟩ = false ∧ w.frozen? ⟨g, 6, none⟩ = false
theorem two7 {w W : World} {gA gB : Nat} (z z' : MX) (hA : Blk W gA 32 7 (arr mzA)) (hB : Blk W gB 32 7 (arr mzA)) (hne : gB ≠ gA) (h1 : w.heap.size ≤ gA) (h2 : w.heap.size ≤ gB) (he : Ext w W) :
  Z7 W gA ∧ ∃ W1, W1 = ((((((W.setCell ⟨gA, 0, none⟩ (.int .i64 z.kd)).setCell ⟨gA, 1, none⟩ (.int .i64 z.rl)).setCell ⟨gA, 2, none⟩ (.int .i64 z.x.lv)).setCell ⟨gA, 3, none⟩ (.bool z.x.b)).setCell ⟨gA, 4, none⟩ (.slice z.x.a z.x.n z.x.p)).setCell ⟨gA, 5, none⟩ (.slice z.x.ka z.x.kn z.x.kp)).setCell ⟨gA, 6, none⟩ (.slice z.a z.n z.p) ∧ Ext w W1 ∧ Z7 W1 gB ∧
  ∃ W2, W2 = ((((((W1.setCell ⟨gB, 0, none⟩ (.int .i64 z'.kd)).setCell ⟨gB, 1, none⟩ (.int .i64 z'.rl)).setCell ⟨gB, 2, none⟩ (.int .i64 z'.x.lv)).setCell ⟨gB, 3, none⟩ (.bool z'.x.b)).setCell ⟨gB, 4, none⟩ (.slice z'.x.a z'.x.n z'.x.p)).setCell ⟨gB, 5, none⟩ (.slice z'.x.ka z'.x.kn z'.x.kp)).setCell ⟨gB, 6, none⟩ (.slice z'.a z'.n z'.p) ∧ Ext w W2 ∧ MxC W2 gA 0 z ∧ MxC W2 gB 0 z' := by
 obtain ⟨W1, e1, c1, f1, d1, k1, x1⟩ := fin7 (M' := fun g => g = gA) (w := w) (.int .i64 z.kd) (.int .i64 z.rl) (.int .i64 z.x.lv) (.bool z.x.b) (.slice z.x.a z.x.n z.x.p) (.slice z.x.ka z.x.kn z.x.kp) (.slice z.a z.n z.p) hA rfl h1 he
 have hB1 : Blk W1 gB 32 7 (arr mzA) := hB.of_heap (k1.2 gB hB.lt hne)
 obtain ⟨W2, e2, c2, f2, d2, k2, x2⟩ := fin7 (M' := fun g => g = gB) (w := w) (.int .i64 z'.kd) (.int .i64 z'.rl) (.int .i64 z'.x.lv) (.bool z'.x.b) (.slice z'.x.a z'.x.n z'.x.p) (.slice z'.x.ka z'.x.kn z'.x.kp) (.slice z'.a z'.n z'.p) hB1 rfl h2 x1
 refine ⟨⟨c1, f1⟩, W1, e1, x1, ⟨c2, f2⟩, W2, e2, x2, ?_, d2⟩
 have hm : MxC W1 gA 0 z := d1
 exact hm.heap (k2.2 gA hm.lt fun e => hne e.symm)
theorem alloc2 (wd : World) : Ext wd (wd.alloc (.cells mzA 32)) ∧ Ext wd ((wd.alloc (.cells mzA 32)).alloc (.cells mzA 32)) ∧ Blk ((wd.alloc (.cells mzA 32)).alloc (.cells mzA 32)) wd.heap.size 32 7 (arr mzA) ∧ Blk ((wd.alloc (.cells mzA 32)).alloc (.cells mzA 32)) (wd.alloc (.cells mzA 32)).heap.size 32 7 (arr mzA) ∧ wd.heap.size < (wd.alloc (.cells mzA 32)).heap.size := by
 have h1 := Blk.of_arr wd mzA 32 7 rfl
 exact ⟨(Ext.refl _).alloc _, ((Ext.refl _).alloc _).alloc _, h1.alloc _, Blk.of_arr _ mzA 32 7 rfl, by simp⟩
set_option maxRecDepth 100000 in
set_option maxHeartbeats 32000000 in
theorem simple_walk (y : MX) (w : World) (cst sf blk : Prop) (KD : Nat → Int) (SK : Nat → Prop) (NK EM EP : Nat → Nat → Prop) (kk : Nat → MX) (hI : RgI 64 y w cst sf blk KD SK NK EM EP kk) :
  Calls Tryz.prog 64 #[.agg y.A] w (RetY (SpP y cst sf blk KD SK NK) w) := by
 have hX := (Ext.refl w).alloc (.cells y.A 32)
 have hB := new_mx w y
 obtain ⟨hnp, hpm⟩ := hI.le
 unfold maxLen at hpm
 have HI := Lib.hid hI
 have HSP : Hid (SpP y cst sf blk KD SK NK ↔ (y.kd = 2 ∧ (1 ≤ y.rl ∧ y.rl ≤ 6) ∧ ¬ cst ∧ y.n = 0 ∧ sf) ∨ ((y.kd = 3 ∨ y.kd = 4) ∧ y.rl = 0 ∧ blk ∧ 2 ≤ y.n ∧ ∀ i, i < y.n → KD i ≠ y.kd ∧ SK i ∧ ∀ k, k < i → NK i k)) := Iff.rfl
 generalize SpP y cst sf blk KD SK NK = PP at *
 clear hI
 generalize hW : w.alloc (.cells y.A 32) = W at *
 have HW := Lib.hid hW
 have HX := Lib.hid hX
 have HB := Lib.hid hB
 clear hW hX hB
 obtain ⟨x0, x1, x2, x3, x4, x5, x6⟩ := HB.out
 by_cases k2 : y.kd = 2
 ·have HPP : Hid (PP ↔ ((1 ≤ y.rl ∧ y.rl ≤ 6) ∧ ¬ cst ∧ y.n = 0 ∧ sf)) := by
   refine HSP.out.trans ⟨fun h => h.elim (fun h => h.2) fun h => ?_, fun h => .inl ⟨k2, h⟩⟩
   obtain ⟨h | h, _⟩ := h <;> omega
  have b2 : (y.kd == 2) = true := beq_iff_eq.2 k2
  clear HSP k2
  go_enter Tryz.func64, Tryz.ntmps64
  go_upto_region 1 with (fail)
  rw [HW.out]
  generalize w.heap.size = g at *
  go_wp2_with (fail)
  refine (HI.out.cs _ HX.out).mono ?_
  rintro e w2 ⟨ok, b, a, n, p, rfl, hok, he2⟩
  have hX3 := he2.trans ((Ext.refl w2).alloc (.cells #[.bool b, .slice a n p] 26))
  have HX3 := Lib.hid (HX.out.trans hX3)
  have HB3 := Lib.hid (HB.out.ext hX3)
  have HOK := Lib.hid hok
  generalize hW3 : w2.alloc (.cells #[.bool b, .slice a n p] 26) = W3 at *
  have HW3 := Lib.hid hW3
  clear hX3 he2 hok hW3 x0 x1 x2 x3 x4 x5 x6 HX HB
  go_upto_region 4 with (fail)
  rw [HW3.out]
  have hS : MxC W3.drew g 0 y := HB3.out.ext (Ext.refl W3).drew
  have HXD := Lib.hid (HX3.out.trans (Ext.refl W3).drew)
  refine wp_region_u (fun w => MxC w g 0 y) 26 (by kernel_rfl) hS (fun hHeld => ?_)
  generalize W3.drew = wd at *
  cases ok
  rotate_left
  ·have HN : Hid (¬ PP) := fun h => (HPP.out.1 h).2.1 (HOK.out.1 rfl)
   (refine tkB [0, 1, 2] ?_; (iterate 3 (refine tk1 (oi := ?_) (v := ?_) (by kernel_rfl) (by first | exact hSn | exact hHeld) ?_ ?_ ?_ ?_ ?_; rotate_left 2; (simp only [xgA, xgB, xgC]; rfl); rfl; (intro wS hSw; obtain ⟨A0, A1, A2, A3, A4, A5, A6⟩ := hSw; go_simp; try with_reducible rfl); (exact fun _ _ _ h => h); (try simp only [Act.put, xgD, xgE, xgF]))); refine tkE ?_)
   (refine tkB [3, 4, 5, 6, 7, 8] ?_; (iterate 6 (refine ts1F (oi := ?_) (by kernel_rfl) (by first | exact hSn | exact hHeld) ?_ ?_ ?_ ?_; rotate_left 1; (simp only [xgA, xgB, xgC]; rfl); rfl; (exact fun _ _ _ h => h); (try simp only [Act.put, xgD, xgE, xgF]))); refine tkE ?_)
   (refine tkB [9, 10] ?_; (iterate 2 (refine tk1 (oi := ?_) (v := ?_) (by kernel_rfl) (by first | exact hSn | exact hHeld) ?_ ?_ ?_ ?_ ?_; rotate_left 2; (simp only [xgA, xgB, xgC]; rfl); rfl; (intro wS hSw; obtain ⟨A0, A1, A2, A3, A4, A5, A6⟩ := hSw; go_simp; try with_reducible rfl); (exact fun _ _ _ h => h); (try simp only [Act.put, xgD, xgE, xgF]))); refine tkE ?_)
   (refine tkB [11, 12, 13] ?_; (iterate 3 (refine ts1F (oi := ?_) (by kernel_rfl) (by first | exact hSn | exact hHeld) ?_ ?_ ?_ ?_; rotate_left 1; (simp only [xgA, xgB, xgC]; rfl); rfl; (exact fun _ _ _ h => h); (try simp only [Act.put, xgD, xgE, xgF]))); refine tkE ?_)
   (refine tkB [14, 15] ?_; (iterate 2 (refine tk1 (oi := ?_) (v := ?_) (by kernel_rfl) (by first | exact hSn | exact hHeld) ?_ ?_ ?_ ?_ ?_; rotate_left 2; (simp only [xgA, xgB, xgC]; rfl); rfl; (intro wS hSw; obtain ⟨A0, A1, A2, A3, A4, A5, A6⟩ := hSw; go_simp; try with_reducible rfl); (exact fun _ _ _ h => h); (try simp only [Act.put, xgD, xgE, xgF]))); refine tkE ?_)
   (refine tkB [16, 17, 18] ?_; (iterate 3 (refine ts1F (oi := ?_) (by kernel_rfl) (by first | exact hSn | exact hHeld) ?_ ?_ ?_ ?_; rotate_left 1; (simp only [xgA, xgB, xgC]; rfl); rfl; (exact fun _ _ _ h => h); (try simp only [Act.put, xgD, xgE, xgF]))); refine tkE ?_)
   (refine tkB [19, 20] ?_; (iterate 2 (refine tk1 (oi := ?_) (v := ?_) (by kernel_rfl) (by first | exact hSn | exact hHeld) ?_ ?_ ?_ ?_ ?_; rotate_left 2; (simp only [xgA, xgB, xgC]; rfl); rfl; (intro wS hSw; obtain ⟨A0, A1, A2, A3, A4, A5, A6⟩ := hSw; go_simp; try with_reducible rfl); (exact fun _ _ _ h => h); (try simp only [Act.put, xgD, xgE, xgF]))); refine tkE ?_)
   (refine tkB [21, 22, 23, 24] ?_; (iterate 4 (refine ts1F (oi := ?_) (by kernel_rfl) (by first | exact hSn | exact hHeld) ?_ ?_ ?_ ?_; rotate_left 1; (simp only [xgA, xgB, xgC]; rfl); rfl; (exact fun _ _ _ h => h); (try simp only [Act.put, xgD, xgE, xgF]))); refine tkE ?_)
   (refine tkB [25] ?_; (iterate 1 (refine tk1 (oi := ?_) (v := ?_) (by kernel_rfl) (by first | exact hSn | exact hHeld) ?_ ?_ ?_ ?_ ?_; rotate_left 2; (simp only [xgA, xgB, xgC]; rfl); rfl; (intro wS hSw; obtain ⟨A0, A1, A2, A3, A4, A5, A6⟩ := hSw; go_simp; try with_reducible rfl); (exact fun _ _ _ h => h); (try simp only [Act.put, xgD, xgE, xgF]))); refine tkE ?_)
   ((refine wpAnyU_one 26 (o := ?_) (by kernel_rfl) ?_ ?_; rotate_left 1; (simp only [xgA, xgB, xgC]; rfl); intro K hK); go_simp; (refine hK.out _ _ (fun h => absurd rfl h) ?_); clear hK K; refine wpAnyU_done (by kernel_rfl) ?_ _)
   go_wp2
   go_ret
   exact RetY.no HN.out HXD.out
  have HNC : Hid (¬ cst) := fun h => absurd (HOK.out.2 h) (by decide)
  (refine tkB [0, 1, 2, 3, 4, 5, 6] ?_; (iterate 7 (refine tk1 (oi := ?_) (v := ?_) (by kernel_rfl) (by first | exact hSn | exact hHeld) ?_ ?_ ?_ ?_ ?_; rotate_left 2; (simp only [xgA, xgB, xgC]; rfl); rfl; (intro wS hSw; obtain ⟨A0, A1, A2, A3, A4, A5, A6⟩ := hSw; go_simp; try with_reducible rfl); (exact fun _ _ _ h => h); (try simp only [Act.put, xgD, xgE, xgF]))); refine tkE ?_)
  ((refine wpAnyU_one 7 (o := ?_) (by kernel_rfl) ?_ ?_; rotate_left 1; (simp only [xgA, xgB, xgC]; rfl); intro K hK); go_simp; (refine (HI.out.sn _ HXD.out).mono ?_); rintro e_ v1 ⟨u, rfl, d1, _, hid⟩; go_wp2_with (fail); (try clear hSn); (have hSn := hHeld.ext d1); (refine hK.out _ _ (fun _ => hSn) ?_); clear hK K; (try simp only [Act.put, xgD, xgE, xgF]))
  ((refine wpAnyU_one 8 (o := ?_) (by kernel_rfl) ?_ ?_; rotate_left 1; (simp only [xgA, xgB, xgC]; rfl); intro K hK); go_simp; (refine (hid _ (Ext.refl _)).mono ?_); rintro e_ v2 ⟨b2, rfl, hb2, d2⟩; go_wp2_with (fail); (try clear hSn); (have hSn := hHeld.ext (d1.trans d2)); (refine hK.out _ _ (fun _ => hSn) ?_); clear hK K; (try simp only [Act.put, xgD, xgE, xgF]))
  have HF := Lib.hid (HXD.out.trans (d1.trans d2))
  have HB2 := Lib.hid hb2
  clear hb2 hid d1 d2
  cases b2
  ·have HN : Hid (¬ PP) := fun h => absurd (HB2.out.2 (HPP.out.1 h).2.2.2) (by decide)
   (refine tkB [9, 10] ?_; (iterate 2 (refine tk1 (oi := ?_) (v := ?_) (by kernel_rfl) (by first | exact hSn | exact hHeld) ?_ ?_ ?_ ?_ ?_; rotate_left 2; (simp only [xgA, xgB, xgC]; rfl); rfl; (intro wS hSw; obtain ⟨A0, A1, A2, A3, A4, A5, A6⟩ := hSw; go_simp; try with_reducible rfl); (exact fun _ _ _ h => h); (try simp only [Act.put, xgD, xgE, xgF]))); refine tkE ?_)
   (refine tkB [11, 12, 13] ?_; (iterate 3 (refine ts1F (oi := ?_) (by kernel_rfl) (by first | exact hSn | exact hHeld) ?_ ?_ ?_ ?_; rotate_left 1; (simp only [xgA, xgB, xgC]; rfl); rfl; (exact fun _ _ _ h => h); (try simp only [Act.put, xgD, xgE, xgF]))); refine tkE ?_)
   (refine tkB [14, 15] ?_; (iterate 2 (refine tk1 (oi := ?_) (v := ?_) (by kernel_rfl) (by first | exact hSn | exact hHeld) ?_ ?_ ?_ ?_ ?_; rotate_left 2; (simp only [xgA, xgB, xgC]; rfl); rfl; (intro wS hSw; obtain ⟨A0, A1, A2, A3, A4, A5, A6⟩ := hSw; go_simp; try with_reducible rfl); (exact fun _ _ _ h => h); (try simp only [Act.put, xgD, xgE, xgF]))); refine tkE ?_)
   (refine tkB [16, 17, 18] ?_; (iterate 3 (refine ts1F (oi := ?_) (by kernel_rfl) (by first | exact hSn | exact hHeld) ?_ ?_ ?_ ?_; rotate_left 1; (simp only [xgA, xgB, xgC]; rfl); rfl; (exact fun _ _ _ h => h); (try simp only [Act.put, xgD, xgE, xgF]))); refine tkE ?_)
   (refine tkB [19, 20] ?_; (iterate 2 (refine tk1 (oi := ?_) (v := ?_) (by kernel_rfl) (by first | exact hSn | exact hHeld) ?_ ?_ ?_ ?_ ?_; rotate_left 2; (simp only [xgA, xgB, xgC]; rfl); rfl; (intro wS hSw; obtain ⟨A0, A1, A2, A3, A4, A5, A6⟩ := hSw; go_simp; try with_reducible rfl); (exact fun _ _ _ h => h); (try simp only [Act.put, xgD, xgE, xgF]))); refine tkE ?_)
   (refine tkB [21, 22, 23, 24] ?_; (iterate 4 (refine ts1F (oi := ?_) (by kernel_rfl) (by first | exact hSn | exact hHeld) ?_ ?_ ?_ ?_; rotate_left 1; (simp only [xgA, xgB, xgC]; rfl); rfl; (exact fun _ _ _ h => h); (try simp only [Act.put, xgD, xgE, xgF]))); refine tkE ?_)
   (refine tkB [25] ?_; (iterate 1 (refine tk1 (oi := ?_) (v := ?_) (by kernel_rfl) (by first | exact hSn | exact hHeld) ?_ ?_ ?_ ?_ ?_; rotate_left 2; (simp only [xgA, xgB, xgC]; rfl); rfl; (intro wS hSw; obtain ⟨A0, A1, A2, A3, A4, A5, A6⟩ := hSw; go_simp; try with_reducible rfl); (exact fun _ _ _ h => h); (try simp only [Act.put, xgD, xgE, xgF]))); refine tkE ?_)
   ((refine wpAnyU_one 26 (o := ?_) (by kernel_rfl) ?_ ?_; rotate_left 1; (simp only [xgA, xgB, xgC]; rfl); intro K hK); go_simp; (refine hK.out _ _ (fun h => absurd rfl h) ?_); clear hK K; refine wpAnyU_done (by kernel_rfl) ?_ _)
   go_wp2
   go_ret
   exact RetY.no HN.out HF.out
  have HSF : Hid sf := HB2.out.1 rfl
  by_cases r1 : 1 ≤ y.rl
  rotate_left
  ·have HN : Hid (¬ PP) := fun h => r1 (HPP.out.1 h).1.1
   have d1 : decide (1 ≤ y.rl) = false := decide_eq_false r1
   clear r1
   (refine tkB [9, 10, 11, 12, 13, 14, 15] ?_; (iterate 7 (refine tk1 (oi := ?_) (v := ?_) (by kernel_rfl) (by first | exact hSn | exact hHeld) ?_ ?_ ?_ ?_ ?_; rotate_left 2; (simp only [xgA, xgB, xgC]; rfl); rfl; (intro wS hSw; obtain ⟨A0, A1, A2, A3, A4, A5, A6⟩ := hSw; go_simp; try with_reducible rfl); (exact fun _ _ _ h => h); (try simp only [Act.put, xgD, xgE, xgF]))); refine tkE ?_)
   (refine tkB [16, 17, 18] ?_; (iterate 3 (refine ts1F (oi := ?_) (by kernel_rfl) (by first | exact hSn | exact hHeld) ?_ ?_ ?_ ?_; rotate_left 1; (simp only [xgA, xgB, xgC]; rfl); rfl; (exact fun _ _ _ h => h); (try simp only [Act.put, xgD, xgE, xgF]))); refine tkE ?_)
   (refine tkB [19, 20] ?_; (iterate 2 (refine tk1 (oi := ?_) (v := ?_) (by kernel_rfl) (by first | exact hSn | exact hHeld) ?_ ?_ ?_ ?_ ?_; rotate_left 2; (simp only [xgA, xgB, xgC]; rfl); rfl; (intro wS hSw; obtain ⟨A0, A1, A2, A3, A4, A5, A6⟩ := hSw; go_simp; try with_reducible rfl); (exact fun _ _ _ h => h); (try simp only [Act.put, xgD, xgE, xgF]))); refine tkE ?_)
   (refine tkB [21, 22, 23, 24] ?_; (iterate 4 (refine ts1F (oi := ?_) (by kernel_rfl) (by first | exact hSn | exact hHeld) ?_ ?_ ?_ ?_; rotate_left 1; (simp only [xgA, xgB, xgC]; rfl); rfl; (exact fun _ _ _ h => h); (try simp only [Act.put, xgD, xgE, xgF]))); refine tkE ?_)
   (refine tkB [25] ?_; (iterate 1 (refine tk1 (oi := ?_) (v := ?_) (by kernel_rfl) (by first | exact hSn | exact hHeld) ?_ ?_ ?_ ?_ ?_; rotate_left 2; (simp only [xgA, xgB, xgC]; rfl); rfl; (intro wS hSw; obtain ⟨A0, A1, A2, A3, A4, A5, A6⟩ := hSw; go_simp; try with_reducible rfl); (exact fun _ _ _ h => h); (try simp only [Act.put, xgD, xgE, xgF]))); refine tkE ?_)
   ((refine wpAnyU_one 26 (o := ?_) (by kernel_rfl) ?_ ?_; rotate_left 1; (simp only [xgA, xgB, xgC]; rfl); intro K hK); go_simp; (refine hK.out _ _ (fun h => absurd rfl h) ?_); clear hK K; refine wpAnyU_done (by kernel_rfl) ?_ _)
   go_wp2
   go_ret
   exact RetY.no HN.out HF.out
  by_cases r6 : y.rl ≤ 6
  rotate_left
  ·have HN : Hid (¬ PP) := fun h => r6 (HPP.out.1 h).1.2
   have d6 : decide (y.rl ≤ 6) = false := decide_eq_false r6
   have d1 : decide (1 ≤ y.rl) = true := decide_eq_true r1
   clear r6 r1
   (refine tkB [9, 10, 11, 12, 13, 14, 15, 16, 17, 18, 19, 20] ?_; (iterate 12 (refine tk1 (oi := ?_) (v := ?_) (by kernel_rfl) (by first | exact hSn | exact hHeld) ?_ ?_ ?_ ?_ ?_; rotate_left 2; (simp only [xgA, xgB, xgC]; rfl); rfl; (intro wS hSw; obtain ⟨A0, A1, A2, A3, A4, A5, A6⟩ := hSw; go_simp; try with_reducible rfl); (exact fun _ _ _ h => h); (try simp only [Act.put, xgD, xgE, xgF]))); refine tkE ?_)
   (refine tkB [21, 22, 23, 24] ?_; (iterate 4 (refine ts1F (oi := ?_) (by kernel_rfl) (by first | exact hSn | exact hHeld) ?_ ?_ ?_ ?_; rotate_left 1; (simp only [xgA, xgB, xgC]; rfl); rfl; (exact fun _ _ _ h => h); (try simp only [Act.put, xgD, xgE, xgF]))); refine tkE ?_)
   (refine tkB [25] ?_; (iterate 1 (refine tk1 (oi := ?_) (v := ?_) (by kernel_rfl) (by first | exact hSn | exact hHeld) ?_ ?_ ?_ ?_ ?_; rotate_left 2; (simp only [xgA, xgB, xgC]; rfl); rfl; (intro wS hSw; obtain ⟨A0, A1, A2, A3, A4, A5, A6⟩ := hSw; go_simp; try with_reducible rfl); (exact fun _ _ _ h => h); (try simp only [Act.put, xgD, xgE, xgF]))); refine tkE ?_)
   ((refine wpAnyU_one 26 (o := ?_) (by kernel_rfl) ?_ ?_; rotate_left 1; (simp only [xgA, xgB, xgC]; rfl); intro K hK); go_simp; (refine hK.out _ _ (fun h => absurd rfl h) ?_); clear hK K; refine wpAnyU_done (by kernel_rfl) ?_ _)
   go_wp2
   go_ret
   exact RetY.no HN.out HF.out
  have d6 : decide (y.rl ≤ 6) = true := decide_eq_true r6
  have d1 : decide (1 ≤ y.rl) = true := decide_eq_true r1
  have HR16 : Hid (1 ≤ y.rl ∧ y.rl ≤ 6) := ⟨r1, r6⟩
  clear r1 r6
  by_cases hn0 : y.n = 0
  rotate_left
  ·have nB : ((y.n : Int) == 0) = false := beq_eq_false_iff_ne.2 (by omega)
   have HN : Hid (¬ PP) := fun h => hn0 (HPP.out.1 h).2.2.1
   clear hn0
   (refine tkB [9, 10, 11, 12, 13, 14, 15, 16, 17, 18, 19, 20, 21, 22, 23, 24, 25] ?_; (iterate 17 (refine tk1 (oi := ?_) (v := ?_) (by kernel_rfl) (by first | exact hSn | exact hHeld) ?_ ?_ ?_ ?_ ?_; rotate_left 2; (simp only [xgA, xgB, xgC]; rfl); rfl; (intro wS hSw; obtain ⟨A0, A1, A2, A3, A4, A5, A6⟩ := hSw; go_simp; try with_reducible rfl); (exact fun _ _ _ h => h); (try simp only [Act.put, xgD, xgE, xgF]))); refine tkE ?_)
   ((refine wpAnyU_one 26 (o := ?_) (by kernel_rfl) ?_ ?_; rotate_left 1; (simp only [xgA, xgB, xgC]; rfl); intro K hK); go_simp; (refine hK.out _ _ (fun h => absurd rfl h) ?_); clear hK K; refine wpAnyU_done (by kernel_rfl) ?_ _)
   go_wp2
   go_ret
   exact RetY.no HN.out HF.out
  have nB : ((y.n : Int) == 0) = true := beq_iff_eq.2 (by omega)
  have HY : Hid PP := HPP.out.2 ⟨HR16.out, HNC.out, hn0, HSF.out⟩
  clear hn0
  (refine tkB [9, 10, 11, 12, 13, 14, 15, 16, 17, 18, 19, 20, 21, 22, 23, 24, 25] ?_; (iterate 17 (refine tk1 (oi := ?_) (v := ?_) (by kernel_rfl) (by first | exact hSn | exact hHeld) ?_ ?_ ?_ ?_ ?_; rotate_left 2; (simp only [xgA, xgB, xgC]; rfl); rfl; (intro wS hSw; obtain ⟨A0, A1, A2, A3, A4, A5, A6⟩ := hSw; go_simp; try with_reducible rfl); (exact fun _ _ _ h => h); (try simp only [Act.put, xgD, xgE, xgF]))); refine tkE ?_)
  ((refine wpAnyU_one 26 (o := ?_) (by kernel_rfl) ?_ ?_; rotate_left 1; (simp only [xgA, xgB, xgC]; rfl); intro K hK); go_simp; (refine hK.out _ _ (fun h => absurd rfl h) ?_); clear hK K; refine wpAnyU_done (by kernel_rfl) ?_ _)
  go_wp2
  go_ret
  exact RetY.yes HY.out HF.out
 by_cases k34 : ¬ (y.kd = 3 ∨ y.kd = 4)
 ·have HN : Hid (¬ PP) := fun h => (HSP.out.1 h).elim (fun h => k2 h.1) fun h => k34 h.1
  have b2 : (y.kd == 2) = false := beq_eq_false_iff_ne.2 k2
  have b3 : (y.kd == 3) = false := beq_eq_false_iff_ne.2 fun h => k34 (.inl h)
  have b4 : (y.kd == 4) = false := beq_eq_false_iff_ne.2 fun h => k34 (.inr h)
  clear HSP k2 k34 HI
  go_enter Tryz.func64, Tryz.ntmps64
  go_upto_region 1 with (fail)
  rw [HW.out]
  generalize w.heap.size = g at *
  go_wp2
  go_ret
  exact RetY.no HN.out HX.out
 have k34 := Decidable.not_not.1 k34
 have HPP : Hid (PP ↔ (y.rl = 0 ∧ blk ∧ 2 ≤ y.n ∧ ∀ i, i < y.n → KD i ≠ y.kd ∧ SK i ∧ ∀ k, k < i → NK i k)) := HSP.out.trans ⟨fun h => h.elim (fun h => absurd h.1 k2) fun h => h.2, fun h => .inr ⟨k34, h⟩⟩
 have b2 : (y.kd == 2) = false := beq_eq_false_iff_ne.2 k2
 have b34 : (y.kd == 3) = true ∨ ((y.kd == 3) = false ∧ (y.kd == 4) = true) := by
  rcases k34 with h | h
  ·exact .inl (beq_iff_eq.2 h)
  ·exact .inr ⟨beq_eq_false_iff_ne.2 (by omega), beq_iff_eq.2 h⟩
 clear HSP k2 k34
 obtain ⟨ya, hya⟩ : ∃ q, q = y.a := ⟨_, rfl⟩
 obtain ⟨yn, hyn⟩ : ∃ q, q = y.n := ⟨_, rfl⟩
 have HKT : Hid (∀ i, i < yn → (∃ b off, ya = some ⟨b, off, none⟩ ∧ MxC w b (off + i * 7) (kk i)) ∧ (kk i).kd = KD i) := by
  show ∀ i, _
  rw [hya, hyn]; exact HI.out.kat
 have HRG : Hid (∀ i, i < yn → ∀ W, Ext w W → Calls Tryz.prog 64 #[.agg (kk i).A] W (RetY (SK i) W)) := by
  show ∀ i, _
  rw [hyn]; exact HI.out.rg
 have HEM : Hid (∀ i k, i < yn → k < i → SK i → SK k → ∀ W, Ext w W → Calls Tryz.prog 26 #[.agg (kk k).A, .agg (kk i).A] W (RetY (EM i k) W)) := by
  show ∀ i, _
  rw [hyn]; exact HI.out.eqm
 have HEP : Hid (∀ i k, i < yn → k < i → SK i → SK k → ∀ W, Ext w W → Calls Tryz.prog 20 #[.agg (peA (kk k).x), .agg (peA (kk i).x)] W (RetY (EP i k) W)) := by
  show ∀ i, _
  rw [hyn]; exact HI.out.eqp
 have HNK : Hid (∀ i k, i < yn → k < i → (NK i k ↔ ¬ EM i k ∧ ¬ (KD k = 2 ∧ KD i = 2 ∧ EP i k))) := by
  show ∀ i, _
  rw [hyn]; exact HI.out.nk
 have HB2 := Lib.hid HI.out.bl2
 rw [← hya, ← hyn] at x6
 rw [← hyn] at HPP hnp
 have HX0 := Lib.hid x0
 have HX6 := Lib.hid x6
 have hn1 : yn ≤ 9223372036854775807 := by omega
 clear hya hyn HI x1 x2 x3 x4 x5
 rcases b34 with b3 | ⟨b3, b4⟩
 all_goals
  go_enter Tryz.func64, Tryz.ntmps64
  go_upto_region 1 with (fail)
  rw [HW.out]
  generalize w.heap.size = g at *
  clear HW
  go_wp2
  clear x6 x0
  go_loopw [51] (fun iv wr => ∃ (j : Nat), j ≤ yn ∧ iv = .int .i64 (j : Int) ∧ Hid (∀ i, i < j → KD i ≠ y.kd ∧ SK i ∧ ∀ k, k < i → NK i k) ∧ Hid (Ext W wr)) (fun iv _ => yn - (intOf iv).toNat)
  case atStart => exact ⟨0, Nat.zero_le _, rfl, fun i hi => absurd hi (Nat.not_lt_zero _), Ext.refl _⟩
  case round =>
   obtain ⟨j, hj, rfl, HQ, HR⟩ := hrel
   by_cases hlt : j < yn
   ·obtain ⟨⟨b, off, rfl, hc⟩, hkj⟩ := HKT.out j hlt
    have hXD := (HX.out.trans HR.out).trans (Ext.refl wr).drew
    have hX2D := HR.out.trans (Ext.refl wr).drew
    have hcc := hc.ext hXD
    have hS : SRh g y.kd (.slice (some ⟨b, off, none⟩) yn y.p) b (off + j * 7) (off + j * 7) (kk j) (kk j) wr.drew := ⟨by rw [hX2D.cell (World.block_lt_of_cell? _ _ HX0.out)]; exact HX0.out, by rw [hX2D.cell (World.block_lt_of_cell? _ _ HX6.out)]; exact HX6.out, hcc, hcc⟩
    have CRG := Lib.hid (HRG.out j hlt)
    have CEM := Lib.hid (HEM.out j)
    have CEP := Lib.hid (HEP.out j)
    have CNK := Lib.hid (HNK.out j)
    have HCJ := Lib.hid hc
    have HKJ : Hid ((kk j).kd = KD j) := hkj
    have HXD := Lib.hid hXD
    have HX2D := Lib.hid hX2D
    have hltI : (j : Int) < (yn : Int) := by omega
    have HLT := Lib.hid hlt
    clear hc hcc hkj HRG HEM HEP HNK hXD hX2D hlt HR
    obtain ⟨z, hz⟩ : ∃ z, z = kk j := ⟨_, rfl⟩
    rw [← hz] at CRG CEM CEP HCJ HKJ hS
    clear hz
    go_upto_region 10 with (fail)
    refine wp_region_u (SRh g y.kd (.slice (some ⟨b, off, none⟩) yn y.p) b (off + j * 7) (off + j * 7) z z) 18 (by kernel_rfl) hS (fun hHeld => ?_)
    generalize wr.drew = wd at *
    by_cases hk : z.kd = y.kd
    ·have zB : (z.kd == y.kd) = true := beq_iff_eq.2 hk
     have HN : Hid (¬ PP) := fun h => ((HPP.out.1 h).2.2.2 j HLT.out).1 (by rw [← HKJ.out]; exact hk)
     clear hk
     (refine tkB [0, 1, 2, 3, 4, 5, 6, 7, 8, 9] ?_; (iterate 10 (refine tk1 (oi := ?_) (v := ?_) (by kernel_rfl) (by first | exact hSn | exact hHeld) ?_ ?_ ?_ ?_ ?_; rotate_left 2; (simp only [xgA, xgB, xgC]; rfl); rfl; (intro wS hSw; obtain ⟨A0, A6, ⟨C0, C1, C2, C3, C4, C5, C6⟩, D0, D1, D2, D3, D4, D5, D6⟩ := hSw; go_simp; try with_reducible rfl); (exact fun _ _ _ h => h); (try simp only [Act.put, xgD, xgE, xgF]))); refine tkE ?_)
     (refine tkB [10, 11, 12, 13, 14, 15, 16] ?_; (iterate 7 (refine ts1F (oi := ?_) (by kernel_rfl) (by first | exact hSn | exact hHeld) ?_ ?_ ?_ ?_; rotate_left 1; (simp only [xgA, xgB, xgC]; rfl); rfl; (exact fun _ _ _ h => h); (try simp only [Act.put, xgD, xgE, xgF]))); refine tkE ?_)
     (refine tkB [17] ?_; (iterate 1 (refine tk1 (oi := ?_) (v := ?_) (by kernel_rfl) (by first | exact hSn | exact hHeld) ?_ ?_ ?_ ?_ ?_; rotate_left 2; (simp only [xgA, xgB, xgC]; rfl); rfl; (intro wS hSw; obtain ⟨A0, A6, ⟨C0, C1, C2, C3, C4, C5, C6⟩, D0, D1, D2, D3, D4, D5, D6⟩ := hSw; go_simp; (try simp only [List.getElem?_cons_zero, List.getElem?_cons_succ, Option.getD_some, Sem.run_pure, Result.andThen_ok, if_true]); try with_reducible rfl); (exact fun _ _ _ h => h); (try simp only [Act.put, xgD, xgE, xgF]))); refine tkE ?_)
     refine wpAnyU_done (by kernel_rfl) ?_ _
     clear hHeld hS
     go_wp2
     go_ret
     exact RetY.no HN.out HXD.out
    have zB : (z.kd == y.kd) = false := beq_eq_false_iff_ne.2 hk
    have HNE : Hid (KD j ≠ y.kd) := by show _ ≠ _; rw [← HKJ.out]; exact hk
    clear hk
    (refine tkB [0, 1, 2, 3, 4, 5, 6, 7, 8, 9, 10, 11, 12, 13, 14] ?_; (iterate 15 (refine tk1 (oi := ?_) (v := ?_) (by kernel_rfl) (by first | exact hSn | exact hHeld) ?_ ?_ ?_ ?_ ?_; rotate_left 2; (simp only [xgA, xgB, xgC]; rfl); rfl; (intro wS hSw; obtain ⟨A0, A6, ⟨C0, C1, C2, C3, C4, C5, C6⟩, D0, D1, D2, D3, D4, D5, D6⟩ := hSw; go_simp; try with_reducible rfl); (exact fun _ _ _ h => h); (try simp only [Act.put, xgD, xgE, xgF]))); refine tkE ?_)
    ((refine wpAnyU_one 15 (o := ?_) (by kernel_rfl) ?_ ?_; rotate_left 1; (simp only [xgA, xgB, xgC]; rfl); intro K hK); go_simp; (refine (CRG.out _ HXD.out).mono ?_); rintro e_ u7 ⟨b7, rfl, hb7, d7⟩; go_wp2_with (fail); (try clear hSn); (have hSn := hHeld.ext d7); (refine hK.out _ _ (fun _ => hSn) ?_); clear hK K; (try simp only [Act.put, xgD, xgE, xgF]))
    cases b7
    ·have HN : Hid (¬ PP) := fun h => absurd (hb7.2 ((HPP.out.1 h).2.2.2 j HLT.out).2.1) (by decide)
     (refine tkB [16, 17] ?_; (iterate 2 (refine tk1 (oi := ?_) (v := ?_) (by kernel_rfl) (by first | exact hSn | exact hHeld) ?_ ?_ ?_ ?_ ?_; rotate_left 2; (simp only [xgA, xgB, xgC]; rfl); rfl; (intro wS hSw; obtain ⟨A0, A6, ⟨C0, C1, C2, C3, C4, C5, C6⟩, D0, D1, D2, D3, D4, D5, D6⟩ := hSw; go_simp; (try simp only [List.getElem?_cons_zero, List.getElem?_cons_succ, Option.getD_some, Sem.run_pure, Result.andThen_ok, if_true]); try with_reducible rfl); (exact fun _ _ _ h => h); (try simp only [Act.put, xgD, xgE, xgF]))); refine tkE ?_)
     refine wpAnyU_done (by kernel_rfl) ?_ _
     have HF := Lib.hid (HXD.out.trans d7)
     clear hHeld hS hSn d7 hb7
     go_wp2
     go_ret
     exact RetY.no HN.out HF.out
    (refine tkB [16, 17] ?_; (iterate 2 (refine tk1 (oi := ?_) (v := ?_) (by kernel_rfl) (by first | exact hSn | exact hHeld) ?_ ?_ ?_ ?_ ?_; rotate_left 2; (simp only [xgA, xgB, xgC]; rfl); rfl; (intro wS hSw; obtain ⟨A0, A6, ⟨C0, C1, C2, C3, C4, C5, C6⟩, D0, D1, D2, D3, D4, D5, D6⟩ := hSw; go_simp; (try simp only [List.getElem?_cons_zero, List.getElem?_cons_succ, Option.getD_some, Sem.run_pure, Result.andThen_ok, if_true]); try with_reducible rfl); (exact fun _ _ _ h => h); (try simp only [Act.put, xgD, xgE, xgF]))); refine tkE ?_)
    refine wpAnyU_done (by kernel_rfl) ?_ _
    have HF := Lib.hid (HXD.out.trans d7)
    have HX2F := Lib.hid (HX2D.out.trans d7)
    have HSK : Hid (SK j) := hb7.1 rfl
    clear hHeld hS hSn d7 hb7 CRG HXD HX2D zB
    go_wp2
    go_loopw [6] (fun iv wr => ∃ (q : Nat), q ≤ j ∧ iv = .int .i64 (q : Int) ∧ Hid (∀ k, k < q → NK j k) ∧ Hid (Ext u7 wr)) (fun iv _ => j - (intOf iv).toNat)
    case atStart => exact ⟨0, Nat.zero_le _, rfl, fun i hi => absurd hi (Nat.not_lt_zero _), Ext.refl _⟩
    case round =>
     obtain ⟨q, hq, rfl, HQ2, HR2⟩ := hrel
     by_cases hqj : q < j
     ·have hqI : (q : Int) < (j : Int) := by omega
      have hqy : q < yn := by have := HLT.out; omega
      obtain ⟨⟨b', off', hbe, hcq⟩, hkq⟩ := HKT.out q hqy
      simp only [Option.some.injEq, Addr.mk.injEq, and_true] at hbe
      obtain ⟨rfl, rfl⟩ := hbe
      have hXD := (HF.out.trans HR2.out).trans (Ext.refl wr).drew
      have hX2D := (HX2F.out.trans HR2.out).trans (Ext.refl wr).drew
      have hS : SRh g y.kd (.slice (some ⟨b, off, none⟩) yn y.p) b (off + q * 7) (off + j * 7) (kk q) z wr.drew := ⟨by rw [hX2D.cell (World.block_lt_of_cell? _ _ HX0.out)]; exact HX0.out, by rw [hX2D.cell (World.block_lt_of_cell? _ _ HX6.out)]; exact HX6.out, hcq.ext hXD, HCJ.out.ext hXD⟩
      have CE := Lib.hid (CEM.out q HLT.out hqj HSK.out (HQ.out q hqj).2.1)
      have CP := Lib.hid (CEP.out q HLT.out hqj HSK.out (HQ.out q hqj).2.1)
      have CN := Lib.hid (CNK.out q HLT.out hqj)
      have HKQ : Hid ((kk q).kd = KD q) := hkq
      have HXD := Lib.hid hXD
      have HEU := Lib.hid (HR2.out.trans (Ext.refl wr).drew)
      have HQJ := Lib.hid hqj
      clear hcq hkq hXD hX2D HR2 hqj
      obtain ⟨z', hz'⟩ : ∃ z', z' = kk q := ⟨_, rfl⟩
      rw [← hz'] at CE CP HKQ hS
      clear hz'
      go_upto_region 15 with (fail)
      refine wp_region_u (SRh g y.kd (.slice (some ⟨b, off, none⟩) yn y.p) b (off + q * 7) (off + j * 7) z' z) 13 (by kernel_rfl) hS (fun hHeld => ?_)
      clear hS
      generalize wr.drew = wd at *
      (refine tkB [0, 1, 2, 3, 4, 5, 6, 7, 8, 9] ?_; (iterate 10 (refine tk1 (oi := ?_) (v := ?_) (by kernel_rfl) (by first | exact hSn | exact hHeld) ?_ ?_ ?_ ?_ ?_; rotate_left 2; (simp only [xgA, xgB, xgC]; rfl); rfl; (intro wS hSw; obtain ⟨A0, A6, ⟨C0, C1, C2, C3, C4, C5, C6⟩, D0, D1, D2, D3, D4, D5, D6⟩ := hSw; go_simp; try with_reducible rfl); (exact fun _ _ _ h => h); (try simp only [Act.put, xgD, xgE, xgF]))); refine tkE ?_)
      (refine wpAnyU_two 10 11 (oi := ?_) (oj := ?_) (by kernel_rfl) ?_ ?_ ?_ ?_; rotate_left 2; (simp only [xgA, xgB, xgC]; rfl); (simp only [xgA, xgB, xgC]; rfl); all_goals intro K hK)
      go_simp
      obtain ⟨E1, E2, hBa, hBb, hsz⟩ := alloc2 wd
      have H7 := two7 (w := wd) z' z hBa hBb (by omega) (Nat.le_refl _) (by omega) E2
      have hSa := hHeld.ext E1
      have hSb := hHeld.ext E2
      refine hK.out _ _ (fun _ => hSa) ?_
      clear hK K hSa hBa hBb hsz E1 E2
      (try simp only [Act.put, xgD, xgE, xgF])
      generalize wd.alloc (.cells mzA 32) = w1 at *
      generalize wd.heap.size = gA at *
      (refine wpAnyU_one 11 (o := ?_) (by kernel_rfl) ?_ ?_; rotate_left 1; (simp only [xgA, xgB, xgC]; rfl); intro K hK)
      go_simp
      refine hK.out _ _ (fun _ => hSb) ?_
      clear hK K hSb
      (try simp only [Act.put, xgD, xgE, xgF])
      generalize w1.alloc (.cells mzA 32) = w2 at *
      generalize w1.heap.size = gB at *
      rotate_left
      go_simp
      obtain ⟨E1, E2, hBa, hBb, hsz⟩ := alloc2 wd
      have H7 := two7 (w := wd) z' z hBb hBa (by omega) (by omega) (Nat.le_refl _) E2
      have hSa := hHeld.ext E1
      have hSb := hHeld.ext E2
      refine hK.out _ _ (fun _ => hSa) ?_
      clear hK K hSa hBa hBb hsz E1 E2
      (try simp only [Act.put, xgD, xgE, xgF])
      generalize wd.alloc (.cells mzA 32) = w1 at *
      generalize wd.heap.size = gB at *
      (refine wpAnyU_one 10 (o := ?_) (by kernel_rfl) ?_ ?_; rotate_left 1; (simp only [xgA, xgB, xgC]; rfl); intro K hK)
      go_simp
      refine hK.out _ _ (fun _ => hSb) ?_
      clear hK K hSb
      (try simp only [Act.put, xgD, xgE, xgF])
      generalize w1.alloc (.cells mzA 32) = w2 at *
      generalize w1.heap.size = gA at *
      all_goals
       obtain ⟨⟨⟨q0, q1, q2, q3, q4, q5, q6⟩, f0, f1, f2, f3, f4, f5, f6⟩, W1, hW1, EX1, ⟨⟨r0, r1, r2, r3, r4, r5, r6⟩, s0, s1, s2, s3, s4, s5, s6⟩, W2, hW2, EX2, hmA, hmB⟩ := H7
       have hSa := hHeld.ext EX1
       have hSb := hHeld.ext EX2
       (refine wpAnyU_one 12 (o := ?_) (by kernel_rfl) ?_ ?_; rotate_left 1; (simp only [xgA, xgB, xgC]; rfl); intro K hK)
       go_simp
       rw [← hW1]
       clear hW1
       refine hK.out _ _ (fun _ => hSa) ?_
       clear hK K q0 q1 q2 q3 q4 q5 q6 f0 f1 f2 f3 f4 f5 f6 hSa
       (try simp only [Act.put, xgD, xgE, xgF])
       (refine wpAnyU_one 13 (o := ?_) (by kernel_rfl) ?_ ?_; rotate_left 1; (simp only [xgA, xgB, xgC]; rfl); intro K hK)
       go_simp
       rw [← hW2]
       clear hW2
       refine hK.out _ _ (fun _ => hSb) ?_
       clear hK K r0 r1 r2 r3 r4 r5 r6 s0 s1 s2 s3 s4 s5 s6 hSb
       (try simp only [Act.put, xgD, xgE, xgF])
       refine wpAnyU_done (by kernel_rfl) ?_ _
       have HXW := Lib.hid (HXD.out.trans EX2)
       have HEW := Lib.hid (HEU.out.trans EX2)
       have HMA := Lib.hid hmA
       have HMB := Lib.hid hmB
       obtain ⟨x0, x1, x2, x3, x4, x5, x6⟩ := hmA
       obtain ⟨y0, y1, y2, y3, y4, y5, y6⟩ := hmB
       clear EX1 EX2 HXD HEU hHeld
       go_wp2_with (fail)
       refine (CE.out _ HXW.out).mono ?_
       rintro e w5 ⟨be, rfl, hbe, d5⟩
       have HX5 := Lib.hid (HXW.out.trans d5)
       have HE5 := Lib.hid (HEW.out.trans d5)
       have HBE := Lib.hid hbe
       have HMA5 := Lib.hid (HMA.out.ext d5)
       have HMB5 := Lib.hid (HMB.out.ext d5)
       clear hbe d5 x0 x1 x2 x3 x4 x5 x6 y0 y1 y2 y3 y4 y5 y6 HMA HMB HXW HEW CE
       obtain ⟨x0, x1, x2, x3, x4, x5, x6⟩ := HMA5.out
       obtain ⟨y0, y1, y2, y3, y4, y5, y6⟩ := HMB5.out
       cases be
       rotate_left
       ·have HN : Hid (¬ PP) := fun h => ((CN.out.1 (((HPP.out.1 h).2.2.2 j HLT.out).2.2 q HQJ.out)).1 (HBE.out.1 rfl))
        clear HMA5 HMB5
        go_wp2
        go_ret
        exact RetY.no HN.out HX5.out
       have HNM : Hid (¬ EM j q) := fun h => absurd (HBE.out.2 h) (by decide)
       by_cases hk' : z'.kd = 2
       rotate_left
       ·have kB : (z'.kd == 2) = false := beq_eq_false_iff_ne.2 hk'
        have HQ3 : Hid (∀ k, k < q + 1 → NK j k) := fun k hk => by
         by_cases hkq : k = q
         ·rw [hkq]; exact CN.out.2 ⟨HNM.out, fun h => hk' (by rw [HKQ.out]; exact h.1)⟩
         ·exact HQ2.out k (by omega)
        clear hk' HMA5 HMB5 CP
        go_wp2
        go_roundw
        case rel => exact ⟨q + 1, HQJ.out, by go_num, HQ3.out, HE5.out⟩
        case measure => have := HQJ.out; simp [intOf]; omega
       have kB : (z'.kd == 2) = true := beq_iff_eq.2 hk'
       have HK1 : Hid (KD q = 2) := by show _ = _; rw [← HKQ.out]; exact hk'
       clear hk'
       by_cases hk2 : z.kd = 2
       rotate_left
       ·have kC : (z.kd == 2) = false := beq_eq_false_iff_ne.2 hk2
        have HQ3 : Hid (∀ k, k < q + 1 → NK j k) := fun k hk => by
         by_cases hkq : k = q
         ·rw [hkq]; exact CN.out.2 ⟨HNM.out, fun h => hk2 (by rw [HKJ.out]; exact h.2.1)⟩
         ·exact HQ2.out k (by omega)
        clear hk2 HMA5 HMB5 CP
        go_wp2
        go_roundw
        case rel => exact ⟨q + 1, HQJ.out, by go_num, HQ3.out, HE5.out⟩
        case measure => have := HQJ.out; simp [intOf]; omega
       have kC : (z.kd == 2) = true := beq_iff_eq.2 hk2
       have HK2 : Hid (KD j = 2) := by show _ = _; rw [← HKJ.out]; exact hk2
       clear hk2
       go_wp2_with (fail)
       refine (CP.out _ HX5.out).mono ?_
       rintro e w6 ⟨bp, rfl, hbp, d6⟩
       have HX6b := Lib.hid (HX5.out.trans d6)
       have HE6 := Lib.hid (HE5.out.trans d6)
       have HBP := Lib.hid hbp
       clear hbp d6 CP x0 x1 x2 x3 x4 x5 x6 y0 y1 y2 y3 y4 y5 y6 HMA5 HMB5 HX5 HE5
       cases bp
       ·have HQ3 : Hid (∀ k, k < q + 1 → NK j k) := fun k hk => by
         by_cases hkq : k = q
         ·rw [hkq]; exact CN.out.2 ⟨HNM.out, fun h => absurd (HBP.out.2 h.2.2) (by decide)⟩
         ·exact HQ2.out k (by omega)
        go_wp2
        go_roundw
        case rel => exact ⟨q + 1, HQJ.out, by go_num, HQ3.out, HE6.out⟩
        case measure => have := HQJ.out; simp [intOf]; omega
       ·have HN : Hid (¬ PP) := fun h => ((CN.out.1 (((HPP.out.1 h).2.2.2 j HLT.out).2.2 q HQJ.out)).2 ⟨HK1.out, HK2.out, HBP.out.1 rfl⟩)
        go_wp2
        go_ret
        exact RetY.no HN.out HX6b.out
     ·obtain rfl : q = j := by omega
      have hge : ¬ (q : Int) < (q : Int) := by omega
      have HQ4 : Hid (∀ i, i < q + 1 → KD i ≠ y.kd ∧ SK i ∧ ∀ k, k < i → NK i k) := fun i hi => by
       by_cases hij : i = q
       ·rw [hij]; exact ⟨HNE.out, HSK.out, HQ2.out⟩
       ·exact HQ.out i (by omega)
      have HE4 := Lib.hid (HX2F.out.trans HR2.out)
      clear HQ HQ2
      go_wp2
      go_roundw
      case rel => exact ⟨q + 1, HLT.out, by go_num, HQ4.out, HE4.out⟩
      case measure => have := HLT.out; simp [intOf]; omega
   ·obtain rfl : j = yn := by omega
    have hge : ¬ (j : Int) < (j : Int) := by omega
    have HF := Lib.hid (HX.out.trans HR.out)
    obtain ⟨x0, x1, x2, x3, x4, x5, x6o⟩ := HB.out.ext HR.out
    clear x6o
    have x6 : wr.cell? ⟨g, 6, none⟩ = some (.slice ya j y.p) := by rw [HR.out.cell (World.block_lt_of_cell? _ _ HX6.out)]; exact HX6.out
    have HPL : Hid (PP ↔ y.rl = 0 ∧ blk ∧ 2 ≤ j) := HPP.out.trans ⟨fun h => ⟨h.1, h.2.1, h.2.2.1⟩, fun h => ⟨h.1, h.2.1, h.2.2, HQ.out⟩⟩
    clear HQ HPP HKT HRG HEM HEP HNK HX0 HX6 HR HB
    by_cases hn2 : 2 ≤ j
    rotate_left
    ·have HN : Hid (¬ PP) := fun h => hn2 (HPL.out.1 h).2.2
     have n2 : ¬ (2 : Int) ≤ (j : Int) := by omega
     clear hn2
     go_wp2
     go_ret
     exact RetY.no HN.out HF.out
    have n2 : (2 : Int) ≤ (j : Int) := by omega
    have HN2 := Lib.hid hn2
    clear hn2
    by_cases hr0 : y.rl = 0
    rotate_left
    ·have HN : Hid (¬ PP) := fun h => hr0 (HPL.out.1 h).1
     have r0 : (y.rl == 0) = false := beq_eq_false_iff_ne.2 hr0
     clear hr0
     go_wp2
     go_ret
     exact RetY.no HN.out HF.out
    have r0 : (y.rl == 0) = true := beq_iff_eq.2 hr0
    have HR0 := Lib.hid hr0
    clear hr0
    go_wp2_with (fail)
    refine (HB2.out _ HF.out).mono ?_
    rintro e w7 ⟨b7, rfl, hb7, d7⟩
    have HZ : Hid (RetY PP w (.returned (.bool b7)) w7) := ⟨b7, rfl, hb7.trans ⟨fun h => HPL.out.2 ⟨HR0.out, h, HN2.out⟩, fun h => (HPL.out.1 h).2.1⟩, HF.out.trans d7⟩
    clear hb7 d7
    go_wp2
    go_ret
    exact HZ.out
end Go.Proofs.YtodiphjjdheoaaaGreat
