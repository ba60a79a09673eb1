/- cylinderref34.SameInt, cylinderref38.SamePoly: at any canonical values. -/
import Derived.Test.YtodiphjjdheoaaaGreatHb
set_option linter.unusedVariables false
set_option linter.unusedSimpArgs false

namespace Go.Proofs.YtodiphjjdheoaaaGreat
open Go.RowKit

structure SSj (P Q : Nat) (n : Nat) (b o b' o' p p' : Nat) (k : Nat) (dk ek : Nat) (w : World) : Prop where
 x1 : w.cell? ⟨P, 1, none⟩ = some (.slice (some ⟨b, o, none⟩) n p)
 y1 : w.cell? ⟨Q, 1, none⟩ = some (.slice (some ⟨b', o', none⟩) n p')
 e : w.cell? ⟨b, o + k, none⟩ = some (.int .u32 dk)
 f : w.cell? ⟨b', o' + k, none⟩ = some (.int .u32 ek)
theorem SSj.ext {P Q n b o b' o' p p' k dk ek : Nat} {w w' : World} (h : SSj P Q n b o b' o' p p' k dk ek w) (he : Ext w w') : SSj P Q n b o b' o' p p' k dk ek w' := by
 obtain ⟨h1, h2, h3, h4⟩ := h
 have b1 := World.block_lt_of_cell? _ _ h1
 have b2 := World.block_lt_of_cell? _ _ h2
 have b3 := World.block_lt_of_cell? _ _ h3
 have b4 := World.block_lt_of_cell? _ _ h4
 exact ⟨by rw [he.cell b1]; exact h1, by rw [he.cell b2]; exact h2, by rw [he.cell b3]; exact h3, by rw [he.cell b4]; exact h4⟩
set_option maxRecDepth 100000 in
set_option maxHeartbeats 8000000 in
theorem rf_sameIntB {M : Nat → Prop} (c0 c1 d0 d1 : Value) (z y : Int) (w : World) (h : IntC M w c0 c1 z) (k : IntC M w d0 d1 y) :
  Calls Tryz.prog 61 #[.agg #[c0, c1], .agg #[d0, d1]] w fun e w' => e = .returned (.bool (decide (z = y))) ∧ Ext w w' := by
 obtain ⟨h1, rfl⟩ := h
 obtain ⟨k1, rfl⟩ := k
 obtain ⟨d, hR, hdv, _⟩ := h1.len
 obtain ⟨e, hS, hev, _⟩ := k1.len
 obtain ⟨a, p, rfl⟩ := natr_slice hR
 obtain ⟨a', p', rfl⟩ := natr_slice hS
 have hn := hR.1
 have hm := hS.1
 have hdz := hR.2.1
 have hez := hS.2.1
 generalize hnz : dlen z.natAbs = n at *
 generalize hmz : dlen y.natAbs = m at *
 have hzd : z = y → n = m := fun h => by rw [← hnz, ← hmz, h]
 have hzs : z = y → decide (z < 0) = decide (y < 0) := fun h => by rw [h]
 have HALL : Hid (decide (z < 0) = decide (y < 0) → n = m → (∀ i, i < n → d i = e i) → z = y) := fun h1 h2 h3 => by
  have h4 : nv d n = nv e n := nv_congr d e n h3
  rw [hdv, h2, hev] at h4
  have h5 : z < 0 ↔ y < 0 := by simpa using h1
  omega
 have HONE : Hid (z = y → n = m → ∀ i, i < n → d i = e i) := fun h1 h2 => by
  have h4 : nv d n = nv e n := by rw [hdv, h2, hev, h1]
  exact nv_inj d e n hdz (fun i hi => hez i (by omega)) h4
 have HEQ : Hid (z = y → n = m) := hzd
 have HSG : Hid (z = y → decide (z < 0) = decide (y < 0)) := hzs
 clear h1 k1 hzd hzs hdv hev hnz hmz hdz hez
 generalize decide (z < 0) = bz at *
 generalize decide (y < 0) = bb at *
 have hB0 := ((Blk.of_arr w #[.bool bz, .slice a n p] 26 2 rfl).alloc (.cells #[.bool bb, .slice a' m p'] 26))
 have hB1 := (Blk.of_arr (w.alloc (.cells #[.bool bz, .slice a n p] 26)) #[.bool bb, .slice a' m p'] 26 2 rfl)
 have hE0 : Ext w ((w.alloc (.cells #[.bool bz, .slice a n p] 26)).alloc (.cells #[.bool bb, .slice a' m p'] 26)) := (((Ext.refl w).alloc _).alloc _)
 simp only [World.size_alloc] at hB1
 generalize hW0 : (w.alloc (.cells #[.bool bz, .slice a n p] 26)).alloc (.cells #[.bool bb, .slice a' m p'] 26) = W at *
 have HW0 := Lib.hid hW0
 have HB0 := Lib.hid hB0
 have HB1 := Lib.hid hB1
 have HE0 := Lib.hid hE0
 have HR := Lib.hid (hR.ext hE0)
 have HS := Lib.hid (hS.ext hE0)
 have x0 := hB0.cell (i := 0) (by omega)
 have x1 := hB0.cell (i := 1) (by omega)
 have y0 := hB1.cell (i := 0) (by omega)
 have y1 := hB1.cell (i := 1) (by omega)
 simp only [arr] at x0 x1 y0 y1
 have x0 : W.cell? ⟨w.heap.size, 0, none⟩ = some (.bool bz) := x0
 have x1 : W.cell? ⟨w.heap.size, 1, none⟩ = some (.slice a n p) := x1
 have y0 : W.cell? ⟨w.heap.size + 1, 0, none⟩ = some (.bool bb) := y0
 have y1 : W.cell? ⟨w.heap.size + 1, 1, none⟩ = some (.slice a' m p') := y1
 clear hB0 hB1 hE0 hR hS hW0
 by_cases hsg : ¬ bz = bb
 ·have hbb : (bz != bb) = true := by simpa using hsg
  have HF : Hid (decide (z = y) = false) := decide_eq_false fun h => hsg (HSG.out h)
  clear HR HS HB0 HB1
  go_enter Tryz.func61, Tryz.ntmps61
  go_upto_region 1 with (fail)
  rw [HW0.out]
  go_wp2
  exact bodyPost_ret (v := .bool false) (by simp [results, Tryz.results61, go_sem]) rfl ⟨by rw [HF.out], HE0.out⟩
 obtain rfl : bz = bb := Decidable.not_not.1 hsg
 have hbb : (bz != bz) = false := by simp
 by_cases hnm : ¬ n = m
 ·have hnn : ((n : Int) != (m : Int)) = true := by simp; omega
  have HF : Hid (decide (z = y) = false) := decide_eq_false fun h => hnm (HEQ.out h)
  clear HR HS HB0 HB1
  go_enter Tryz.func61, Tryz.ntmps61
  go_upto_region 1 with (fail)
  rw [HW0.out]
  go_wp2
  exact bodyPost_ret (v := .bool false) (by simp [results, Tryz.results61, go_sem]) rfl ⟨by rw [HF.out], HE0.out⟩
 obtain rfl : n = m := Decidable.not_not.1 hnm
 have hnn : ((n : Int) != (n : Int)) = false := by simp
 have HALL2 : Hid ((∀ i, i < n → d i = e i) ↔ z = y) := ⟨HALL.out rfl rfl, fun h => HONE.out h rfl⟩
 clear HALL HONE HEQ HSG hsg hnm
 go_enter Tryz.func61, Tryz.ntmps61
 go_upto_region 1 with (fail)
 rw [HW0.out]
 go_wp2
 go_loopw [23] (fun i wr => ∃ k : Nat, k ≤ n ∧ i = .int .i64 k ∧ Hid (∀ i, i < k → d i = e i) ∧ Hid (Ext W wr)) (fun i _ => n - (intOf i).toNat)
 case atStart => exact ⟨0, Nat.zero_le _, rfl, fun i hi => absurd hi (Nat.not_lt_zero _), Ext.refl _⟩
 case round =>
  clear x0 y0 x1 y1
  obtain ⟨k, hk, rfl, HSO, HEX⟩ := hrel
  by_cases hlt : k < n
  ·have hlI : (k : Int) < (n : Int) := by omega
   have hEd := HEX.out.drew
   obtain ⟨_, hd, hr⟩ := HR.out.ext hEd
   obtain ⟨_, hd', hs⟩ := HS.out.ext hEd
   rcases hr with ⟨h0, _⟩ | ⟨b, o, cap, e1, hc1, hc2, _, hcell⟩
   ·omega
   rcases hs with ⟨h0, _⟩ | ⟨b', o', cap', e1', hc1', hc2', _, hcell'⟩
   ·omega
   simp only [Value.slice.injEq, true_and] at e1 e1'
   obtain ⟨rfl, rfl⟩ := e1
   obtain ⟨rfl, rfl⟩ := e1'
   have HSS : Hid (SSj w.heap.size (w.heap.size + 1) n b o b' o' p p' k (d k) (e k) wr.drew) := ⟨(HB0.out.ext hEd).cell (i := 1) (by omega), (HB1.out.ext hEd).cell (i := 1) (by omega), hcell k hlt, hcell' k hlt⟩
   have HEd := Lib.hid hEd
   have kw2 : IntKind.i64.wrap (k : Int) = k := IntWalk.i64_in _ (by omega)
   have HLT := Lib.hid hlt
   unfold maxLen at hc2 hc2'
   have HSK : Hid (d k = e k → ∀ i, i < k + 1 → d i = e i) := fun h i hi => by
    by_cases hik : i = k
    ·rw [hik]; exact h
    ·exact HSO.out i (by omega)
   have HNE : Hid (¬ d k = e k → decide (z = y) = false) := fun h => decide_eq_false fun hzy => h (HALL2.out.2 hzy k hlt)
   clear hEd hcell hcell' hd hd' HR HS HB0 HB1 HALL2 HSO
   go_upto_region 6 with (fail)
   refine wp_region_u (SSj w.heap.size (w.heap.size + 1) n b o b' o' p p' k (d k) (e k)) 10 (by kernel_rfl) HSS.out (fun hHeld => ?_)
   generalize wr.drew = wd at *
   generalize d k = dk at *
   generalize e k = ek at *
   by_cases hde : dk = ek
   ·subst hde
    ((refine wpAnyU_takeT 0 (oi := ?_) (v := ?_) (by kernel_rfl) (by kernel_rfl) (by kernel_rfl) (by kernel_rfl) (by kernel_rfl) (by first | exact hSn | exact hHeld) ?_ ?_ ?_ ?_ ?_; rotate_left 2; (simp only [xgA, xgB, xgC]; rfl); rfl; (intro wS hSw; obtain ⟨S1, S2, S3, S4⟩ := hSw; go_simp; try with_reducible rfl); (exact fun _ _ _ h => h); (try simp only [Act.put, xgD, xgE, xgF])); (refine wpAnyU_takeT 1 (oi := ?_) (v := ?_) (by kernel_rfl) (by kernel_rfl) (by kernel_rfl) (by kernel_rfl) (by kernel_rfl) (by first | exact hSn | exact hHeld) ?_ ?_ ?_ ?_ ?_; rotate_left 2; (simp only [xgA, xgB, xgC]; rfl); rfl; (intro wS hSw; obtain ⟨S1, S2, S3, S4⟩ := hSw; go_simp; try with_reducible rfl); (exact fun _ _ _ h => h); (try simp only [Act.put, xgD, xgE, xgF])); (refine wpAnyU_takeT 2 (oi := ?_) (v := ?_) (by kernel_rfl) (by kernel_rfl) (by kernel_rfl) (by kernel_rfl) (by kernel_rfl) (by first | exact hSn | exact hHeld) ?_ ?_ ?_ ?_ ?_; rotate_left 2; (simp only [xgA, xgB, xgC]; rfl); rfl; (intro wS hSw; obtain ⟨S1, S2, S3, S4⟩ := hSw; go_simp; try with_reducible rfl); (exact fun _ _ _ h => h); (try simp only [Act.put, xgD, xgE, xgF])); (refine wpAnyU_takeT 3 (oi := ?_) (v := ?_) (by kernel_rfl) (by kernel_rfl) (by kernel_rfl) (by kernel_rfl) (by kernel_rfl) (by first | exact hSn | exact hHeld) ?_ ?_ ?_ ?_ ?_; rotate_left 2; (simp only [xgA, xgB, xgC]; rfl); rfl; (intro wS hSw; obtain ⟨S1, S2, S3, S4⟩ := hSw; go_simp; try with_reducible rfl); (exact fun _ _ _ h => h); (try simp only [Act.put, xgD, xgE, xgF])); (refine wpAnyU_takeT 4 (oi := ?_) (v := ?_) (by kernel_rfl) (by kernel_rfl) (by kernel_rfl) (by kernel_rfl) (by kernel_rfl) (by first | exact hSn | exact hHeld) ?_ ?_ ?_ ?_ ?_; rotate_left 2; (simp only [xgA, xgB, xgC]; rfl); rfl; (intro wS hSw; obtain ⟨S1, S2, S3, S4⟩ := hSw; go_simp; try with_reducible rfl); (exact fun _ _ _ h => h); (try simp only [Act.put, xgD, xgE, xgF])); (refine wpAnyU_takeT 5 (oi := ?_) (v := ?_) (by kernel_rfl) (by kernel_rfl) (by kernel_rfl) (by kernel_rfl) (by kernel_rfl) (by first | exact hSn | exact hHeld) ?_ ?_ ?_ ?_ ?_; rotate_left 2; (simp only [xgA, xgB, xgC]; rfl); rfl; (intro wS hSw; obtain ⟨S1, S2, S3, S4⟩ := hSw; go_simp; try with_reducible rfl); (exact fun _ _ _ h => h); (try simp only [Act.put, xgD, xgE, xgF])); (refine wpAnyU_takeT 6 (oi := ?_) (v := ?_) (by kernel_rfl) (by kernel_rfl) (by kernel_rfl) (by kernel_rfl) (by kernel_rfl) (by first | exact hSn | exact hHeld) ?_ ?_ ?_ ?_ ?_; rotate_left 2; (simp only [xgA, xgB, xgC]; rfl); rfl; (intro wS hSw; obtain ⟨S1, S2, S3, S4⟩ := hSw; go_simp; try with_reducible rfl); (exact fun _ _ _ h => h); (try simp only [Act.put, xgD, xgE, xgF])); (refine wpAnyU_takeT 7 (oi := ?_) (v := ?_) (by kernel_rfl) (by kernel_rfl) (by kernel_rfl) (by kernel_rfl) (by kernel_rfl) (by first | exact hSn | exact hHeld) ?_ ?_ ?_ ?_ ?_; rotate_left 2; (simp only [xgA, xgB, xgC]; rfl); rfl; (intro wS hSw; obtain ⟨S1, S2, S3, S4⟩ := hSw; go_simp; try with_reducible rfl); (exact fun _ _ _ h => h); (try simp only [Act.put, xgD, xgE, xgF])); (refine wpAnyU_takeT 8 (oi := ?_) (v := ?_) (by kernel_rfl) (by kernel_rfl) (by kernel_rfl) (by kernel_rfl) (by kernel_rfl) (by first | exact hSn | exact hHeld) ?_ ?_ ?_ ?_ ?_; rotate_left 2; (simp only [xgA, xgB, xgC]; rfl); rfl; (intro wS hSw; obtain ⟨S1, S2, S3, S4⟩ := hSw; go_simp; try with_reducible rfl); (exact fun _ _ _ h => h); (try simp only [Act.put, xgD, xgE, xgF])); (refine wpAnyU_takeT 9 (oi := ?_) (v := ?_) (by kernel_rfl) (by kernel_rfl) (by kernel_rfl) (by kernel_rfl) (by kernel_rfl) (by first | exact hSn | exact hHeld) ?_ ?_ ?_ ?_ ?_; rotate_left 2; (simp only [xgA, xgB, xgC]; rfl); rfl; (intro wS hSw; obtain ⟨S1, S2, S3, S4⟩ := hSw; go_simp; try with_reducible rfl); (exact fun _ _ _ h => h); (try simp only [Act.put, xgD, xgE, xgF])))
    ((refine wpAnyU_one 10 (o := ?_) (by kernel_rfl) ?_ ?_; rotate_left 1; (simp only [xgA, xgB, xgC]; rfl); intro K hK); go_simp; (refine hK.out _ _ (fun h => absurd rfl h) ?_); clear hK K; refine wpAnyU_done (by kernel_rfl) ?_ _)
    go_wp2
    go_roundw
    case rel => exact ⟨k + 1, HLT.out, by go_num, HSK.out rfl, HEd⟩
    case measure => have := HLT.out; simp [intOf]; omega
   ·have HF := Lib.hid (HNE.out hde)
    have HFE := Lib.hid (HE0.out.trans HEd.out)
    have hdI : ¬ ((dk : Int) = (ek : Int)) := by omega
    have hdb : ((dk : Int) != (ek : Int)) = true := by simpa using hdI
    ((refine wpAnyU_takeT 0 (oi := ?_) (v := ?_) (by kernel_rfl) (by kernel_rfl) (by kernel_rfl) (by kernel_rfl) (by kernel_rfl) (by first | exact hSn | exact hHeld) ?_ ?_ ?_ ?_ ?_; rotate_left 2; (simp only [xgA, xgB, xgC]; rfl); rfl; (intro wS hSw; obtain ⟨S1, S2, S3, S4⟩ := hSw; go_simp; try with_reducible rfl); (exact fun _ _ _ h => h); (try simp only [Act.put, xgD, xgE, xgF])); (refine wpAnyU_takeT 1 (oi := ?_) (v := ?_) (by kernel_rfl) (by kernel_rfl) (by kernel_rfl) (by kernel_rfl) (by kernel_rfl) (by first | exact hSn | exact hHeld) ?_ ?_ ?_ ?_ ?_; rotate_left 2; (simp only [xgA, xgB, xgC]; rfl); rfl; (intro wS hSw; obtain ⟨S1, S2, S3, S4⟩ := hSw; go_simp; try with_reducible rfl); (exact fun _ _ _ h => h); (try simp only [Act.put, xgD, xgE, xgF])); (refine wpAnyU_takeT 2 (oi := ?_) (v := ?_) (by kernel_rfl) (by kernel_rfl) (by kernel_rfl) (by kernel_rfl) (by kernel_rfl) (by first | exact hSn | exact hHeld) ?_ ?_ ?_ ?_ ?_; rotate_left 2; (simp only [xgA, xgB, xgC]; rfl); rfl; (intro wS hSw; obtain ⟨S1, S2, S3, S4⟩ := hSw; go_simp; try with_reducible rfl); (exact fun _ _ _ h => h); (try simp only [Act.put, xgD, xgE, xgF])); (refine wpAnyU_takeT 3 (oi := ?_) (v := ?_) (by kernel_rfl) (by kernel_rfl) (by kernel_rfl) (by kernel_rfl) (by kernel_rfl) (by first | exact hSn | exact hHeld) ?_ ?_ ?_ ?_ ?_; rotate_left 2; (simp only [xgA, xgB, xgC]; rfl); rfl; (intro wS hSw; obtain ⟨S1, S2, S3, S4⟩ := hSw; go_simp; try with_reducible rfl); (exact fun _ _ _ h => h); (try simp only [Act.put, xgD, xgE, xgF])); (refine wpAnyU_takeT 4 (oi := ?_) (v := ?_) (by kernel_rfl) (by kernel_rfl) (by kernel_rfl) (by kernel_rfl) (by kernel_rfl) (by first | exact hSn | exact hHeld) ?_ ?_ ?_ ?_ ?_; rotate_left 2; (simp only [xgA, xgB, xgC]; rfl); rfl; (intro wS hSw; obtain ⟨S1, S2, S3, S4⟩ := hSw; go_simp; try with_reducible rfl); (exact fun _ _ _ h => h); (try simp only [Act.put, xgD, xgE, xgF])); (refine wpAnyU_takeT 5 (oi := ?_) (v := ?_) (by kernel_rfl) (by kernel_rfl) (by kernel_rfl) (by kernel_rfl) (by kernel_rfl) (by first | exact hSn | exact hHeld) ?_ ?_ ?_ ?_ ?_; rotate_left 2; (simp only [xgA, xgB, xgC]; rfl); rfl; (intro wS hSw; obtain ⟨S1, S2, S3, S4⟩ := hSw; go_simp; try with_reducible rfl); (exact fun _ _ _ h => h); (try simp only [Act.put, xgD, xgE, xgF])); (refine wpAnyU_takeT 6 (oi := ?_) (v := ?_) (by kernel_rfl) (by kernel_rfl) (by kernel_rfl) (by kernel_rfl) (by kernel_rfl) (by first | exact hSn | exact hHeld) ?_ ?_ ?_ ?_ ?_; rotate_left 2; (simp only [xgA, xgB, xgC]; rfl); rfl; (intro wS hSw; obtain ⟨S1, S2, S3, S4⟩ := hSw; go_simp; try with_reducible rfl); (exact fun _ _ _ h => h); (try simp only [Act.put, xgD, xgE, xgF])); (refine wpAnyU_takeT 7 (oi := ?_) (v := ?_) (by kernel_rfl) (by kernel_rfl) (by kernel_rfl) (by kernel_rfl) (by kernel_rfl) (by first | exact hSn | exact hHeld) ?_ ?_ ?_ ?_ ?_; rotate_left 2; (simp only [xgA, xgB, xgC]; rfl); rfl; (intro wS hSw; obtain ⟨S1, S2, S3, S4⟩ := hSw; go_simp; try with_reducible rfl); (exact fun _ _ _ h => h); (try simp only [Act.put, xgD, xgE, xgF])); (refine wpAnyU_takeT 8 (oi := ?_) (v := ?_) (by kernel_rfl) (by kernel_rfl) (by kernel_rfl) (by kernel_rfl) (by kernel_rfl) (by first | exact hSn | exact hHeld) ?_ ?_ ?_ ?_ ?_; rotate_left 2; (simp only [xgA, xgB, xgC]; rfl); rfl; (intro wS hSw; obtain ⟨S1, S2, S3, S4⟩ := hSw; go_simp; try with_reducible rfl); (exact fun _ _ _ h => h); (try simp only [Act.put, xgD, xgE, xgF])); (refine wpAnyU_takeT 9 (oi := ?_) (v := ?_) (by kernel_rfl) (by kernel_rfl) (by kernel_rfl) (by kernel_rfl) (by kernel_rfl) (by first | exact hSn | exact hHeld) ?_ ?_ ?_ ?_ ?_; rotate_left 2; (simp only [xgA, xgB, xgC]; rfl); rfl; (intro wS hSw; obtain ⟨S1, S2, S3, S4⟩ := hSw; go_simp; try with_reducible rfl); (exact fun _ _ _ h => h); (try simp only [Act.put, xgD, xgE, xgF])))
    ((refine wpAnyU_one 10 (o := ?_) (by kernel_rfl) ?_ ?_; rotate_left 1; (simp only [xgA, xgB, xgC]; rfl); intro K hK); go_simp; (refine hK.out _ _ (fun h => absurd rfl h) ?_); clear hK K; refine wpAnyU_done (by kernel_rfl) ?_ _)
    clear hHeld HSS
    go_wp2
    exact bodyPost_ret (v := .bool false) (by simp [results, Tryz.results61, go_sem]) rfl ⟨by rw [HF.out], HFE.out⟩
  ·obtain rfl : k = n := by omega
   have HT : Hid (decide (z = y) = true) := decide_eq_true (HALL2.out.1 HSO.out)
   have HF := Lib.hid (HE0.out.trans HEX.out)
   clear HB0 HB1 HR HS HALL2 HSO
   go_wp2
   exact bodyPost_ret (v := .bool true) (by simp [results, Tryz.results61, go_sem]) rfl ⟨by rw [HT.out], HF.out⟩
def SmB (L : Nat) : Prop := ∀ (M : Nat → Prop) (l r : List Tm) (x y : PE) (w : World), CRx M w L x l → CRx M w L y r → Calls Tryz.prog 20 #[.agg (peA x), .agg (peA y)] w fun e w' => e = .returned (.bool (simB l r)) ∧ Ext w w'
set_option maxRecDepth 100000 in
set_option maxHeartbeats 4000000 in
theorem samepB_walk (L : Nat) (ih : ∀ D, D < L → SmB D) : SmB L := by
 intro M l r x y w h k
 have HSB : Hid (simB l r = true ↔ Sim l r) := simB_iff h.nn k.nn
 have HUQ : Hid (Sim l r → x.lv = y.lv ∧ x.kn = y.kn) := fun hs => CR.uniq h k hs
 have hE0 : Ext w ((w.alloc (.cells (peA x) 29)).alloc (.cells (peA y) 29)) := ((Ext.refl w).alloc _).alloc _
 by_cases hlv : ¬ x.lv = y.lv
 ·have hd : (x.lv != y.lv) = true := by simpa using hlv
  have HR : Hid (simB l r = false) := by
   cases hb : simB l r
   ·rfl
   ·exact absurd (HUQ.out (HSB.out.1 hb)).1 hlv
  clear h k hlv
  go_enter Tryz.func20, Tryz.ntmps20
  go_wp2
  go_ret
  exact ⟨by rw [HR.out]; rfl, hE0⟩
 have hlv' : x.lv = y.lv := Decidable.not_not.1 hlv
 have hd : (x.lv != y.lv) = false := by simpa using hlv'
 by_cases hn : ¬ x.kn = y.kn
 ·have hd2 : ((x.kn : Int) != (y.kn : Int)) = true := by simp; omega
  have HR : Hid (simB l r = false) := by
   cases hb : simB l r
   ·rfl
   ·exact absurd (HUQ.out (HSB.out.1 hb)).2 hn
  clear h k hn hlv hlv'
  go_enter Tryz.func20, Tryz.ntmps20
  go_wp2
  go_ret
  exact ⟨by rw [HR.out]; rfl, hE0⟩
 have hn' : x.kn = y.kn := Decidable.not_not.1 hn
 have hd2 : ((x.kn : Int) != (y.kn : Int)) = false := by simp; omega
 clear hlv hn HUQ
 obtain ⟨zx, hvx, hzx, hcx⟩ := h.valC
 obtain ⟨zy, hvy, hzy, hcy⟩ := k.valC
 have ctr := rf_sameIntB _ _ _ _ zx zy _ (hvx.ext hE0) (hvy.ext hE0)
 have HBX := Lib.hid ((Blk.of_arr w (peA x) 29 4 rfl).alloc (.cells (peA y) 29))
 have b1 := Blk.of_arr (w.alloc (.cells (peA x) 29)) (peA y) 29 4 rfl
 simp only [World.size_alloc] at b1
 have HBY := Lib.hid b1
 have HE0 := Lib.hid hE0
 clear b1
 by_cases hzz : ¬ zx = zy
 ·have HR : Hid (simB l r = false) := by
   cases hb : simB l r
   ·rfl
   ·exfalso
    have hs := HSB.out.1 hb
    by_cases hl : x.lv = 0
    ·have := ((hcx hl).trans (hs.trans (hcy (by omega)).symm)) Mo.zero
     exact hzz (by simpa [coefAt] using this)
    ·exact hzz ((hzx hl).trans (hzy (by omega)).symm)
  rw [decide_eq_false hzz] at ctr
  have CTR := Lib.hid ctr
  clear ctr h k hvx hvy hzx hzy hcx hcy hzz hn' hlv' hE0
  go_enter Tryz.func20, Tryz.ntmps20
  go_wp2_with (fail)
  refine (CTR.out).mono ?_
  rintro e w1 ⟨rfl, he⟩
  go_wp2
  go_ret
  exact ⟨by rw [HR.out]; rfl, HE0.out.trans he⟩
 have hz' : zx = zy := Decidable.not_not.1 hzz
 rw [decide_eq_true hz'] at ctr
 have CTR := Lib.hid ctr
 have HPK : Hid (∃ (P Q : Nat → List Tm), (∀ i, i < x.kn → ∃ b off b' off' u t, x.ka = some ⟨b, off, none⟩ ∧ y.ka = some ⟨b', off', none⟩ ∧ x.kn ≤ x.kp ∧ x.kp ≤ maxLen ∧ y.kn ≤ y.kp ∧ y.kp ≤ maxLen ∧ b < w.heap.size ∧ b' < w.heap.size ∧ KCell w b (off + i * 4) u ∧ KCell w b' (off' + i * 4) t ∧
   (∀ W, Ext w W → Calls Tryz.prog 20 #[.agg (peA u), .agg (peA t)] W fun e w' => e = .returned (.bool (simB (P i) (Q i))) ∧ Ext W w') ∧ (simB (P i) (Q i) = true ↔ Sim (P i) (Q i))) ∧ ((∀ i, i < x.kn → Sim (P i) (Q i)) → Sim l r) ∧ (Sim l r → ∀ i, i < x.kn → Sim (P i) (Q i))) := by
  by_cases hl : x.lv = 0
  ·have h1 := hcx hl
   have h3 := hcy (by omega)
   have h2 : x.kn = 0 := (h.cst hl).elim fun _ q => q.2.2.2
   refine ⟨fun _ => [], fun _ => [], fun i hi => by omega, fun _ => ?_, fun _ i hi => by omega⟩
   rw [hz'] at h1
   exact h1.symm.trans h3
  ·obtain ⟨D, b, off, P, hDe, hD4, hDL, hb0, hn0, hka, hn2, hnL, hnc, hcm, hb, hMb, hlow, hnz, hsim, hnr, hkid⟩ := h.node hl
   obtain ⟨D', b', off', Q, kDe, kD4, kDL, kb0, kn0, kka, kn2, knL, knc, kcm, kb, kMb, klow, knz, ksim, knr, kkid⟩ := k.node (by omega)
   have : D' = D := by omega
   subst this
   refine ⟨P, Q, fun i hi => ?_, fun hs => ?_, fun hs => ?_⟩
   ·obtain ⟨u, hu1, hu2, _⟩ := hkid i hi
    obtain ⟨t, ht1, ht2, _⟩ := kkid i (by omega)
    exact ⟨b, off, b', off', u, t, hka, kka, hnc, hcm, knc, kcm, hb, kb, hu1, ht1, fun W hW => ih D' (by omega) M _ _ u t W (hu2.ext hW) (ht2.ext hW), simB_iff hu2.nn ht2.nn⟩
   ·rw [hn'] at hsim hs
    exact hsim.symm.trans ((poly_congr _ _ _ _ hs).trans ksim)
   ·rw [hn'] at hsim hlow ⊢
    exact poly_inj hD4 hlow klow (hsim.trans (hs.trans ksim.symm))
 have hkL := h.kn_le
 clear ctr h k hvx hvy hzx hzy hcx hcy hzz hlv' hE0 hz' ih hd2
 obtain ⟨lv, bb, a, n, p, ka, kn, kp⟩ := x
 obtain ⟨lv', bb', a', n0', p', ka', kn', kp'⟩ := y
 simp only at *
 subst hn'
 have hd2 : ((kn : Int) != (kn : Int)) = false := by simp
 obtain ⟨P, Q, hK, hcon, hinj⟩ := HPK.out
 have HK := Lib.hid hK
 have HCON := Lib.hid hcon
 have HINJ := Lib.hid hinj
 clear hK hcon hinj HPK
 go_enter Tryz.func20, Tryz.ntmps20
 go_wp2_with (fail)
 refine (CTR.out).mono ?_
 rintro e w1 ⟨rfl, he⟩
 have HW1 := Lib.hid he
 have x3 := (HBX.out.ext he).cell (i := 3) (by omega)
 simp only [arr] at x3
 have x3 : w1.cell? ⟨w.heap.size, 3, none⟩ = some (.slice ka kn kp) := x3
 clear he
 go_wp2
 clear x3
 go_loopw [31] (fun i wr => ∃ k : Nat, k ≤ kn ∧ i = .int .i64 k ∧ Hid (∀ i, i < k → Sim (P i) (Q i)) ∧ Hid (Ext w1 wr)) (fun i _ => kn - (intOf i).toNat)
 case atStart => exact ⟨0, Nat.zero_le _, rfl, (fun i hi => by omega), Ext.refl _⟩
 case round =>
  obtain ⟨k, hk, rfl, HQ, HER⟩ := hrel
  have hE1 := HW1.out.trans HER.out
  have hbx := HBX.out.ext hE1
  have hby := HBY.out.ext hE1
  have y3 := hbx.cell (i := 3) (by omega)
  have u3 := hby.cell (i := 3) (by omega)
  simp only [arr] at y3 u3
  have hl1 := hbx.lt
  have hl2 := hby.lt
  have HEW := Lib.hid (HE0.out.trans hE1)
  have hsz := HEW.out.size
  clear hbx hby hE1
  by_cases hlt : k < kn
  ·obtain ⟨b, off, b', off', u, t, rfl, rfl, hc1, hc2, hc3, hc4, hb, hb', hu, ht, hctr, hsb⟩ := HK.out k hlt
   obtain ⟨k0, k1, k2, k3⟩ := hu.ext hb HEW.out
   obtain ⟨t0, t1, t2, t3⟩ := ht.ext hb' HEW.out
   have hbw : b < wr.heap.size := by omega
   have hbw' : b' < wr.heap.size := by omega
   have hctr2 := hctr wr.drew (HEW.out.trans (Ext.refl wr).drew)
   have hk0 : (0 : Int) ≤ (k : Int) := Int.natCast_nonneg _
   have hkk : (k : Int) < (kn : Int) := by omega
   have HSK := Lib.hid hsb
   clear hctr hu ht hsb
   cases hsk : simB (P k) (Q k)
   ·rw [hsk] at hctr2
    have CT2 := Lib.hid hctr2
    have HR : Hid (simB l r = false) := by
     cases hbs : simB l r
     ·rfl
     ·have := HSK.out.2 (HINJ.out (HSB.out.1 hbs) k hlt)
      rw [hsk] at this; cases this
    clear hctr2 hsk
    go_wp2
    go_still_tail 10, (by kernel_rfl)
    change wpList _ _ _ _ _ wr.drew
    go_wp2_with (fail)
    refine (CT2.out).mono ?_
    rintro e w2 ⟨rfl, he⟩
    have HF := Lib.hid (HEW.out.trans (((Ext.refl wr).drew).trans he))
    clear he
    go_wp2
    go_ret
    exact ⟨by rw [HR.out]; rfl, HF.out⟩
   ·rw [hsk] at hctr2
    have CT2 := Lib.hid hctr2
    have HQ2 : Hid (∀ i, i < k + 1 → Sim (P i) (Q i)) := fun i hi => if h : i < k then HQ.out i h else by
     have : i = k := by omega
     subst this; exact HSK.out.1 hsk
    clear hctr2 hsk
    go_wp2
    go_still_tail 10, (by kernel_rfl)
    change wpList _ _ _ _ _ wr.drew
    go_wp2_with (fail)
    refine (CT2.out).mono ?_
    rintro e w2 ⟨rfl, he⟩
    have HF := Lib.hid (HER.out.trans (((Ext.refl wr).drew).trans he))
    clear he
    go_wp2
    go_roundw
    case rel => exact ⟨k + 1, by omega, by go_num, HQ2, HF⟩
    case measure => simp [intOf]; omega
  ·have hkn : k = kn := by omega
   subst hkn
   have HR : Hid (simB l r = true) := HSB.out.2 (HCON.out HQ.out)
   go_wp2
   go_ret
   exact ⟨by rw [HR.out]; rfl, HEW.out⟩
theorem rf_samePolyB (L : Nat) : SmB L := by
 induction L using Nat.strongRecOn with
 | _ L ih => exact samepB_walk L fun D hD => ih D hD
end Go.Proofs.YtodiphjjdheoaaaGreat
