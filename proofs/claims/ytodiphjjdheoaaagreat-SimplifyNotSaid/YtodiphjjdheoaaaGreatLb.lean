/- cylinderref34.SameInt, slices.Equal on digits: at values of any form. Matrices in memory with all their fields; what simple means (plain). -/
import Derived.Test.YtodiphjjdheoaaaGreatLa
import Derived.Test.YtodiphjjdheoaaaGreatHb
set_option linter.unusedVariables false
set_option linter.unusedSimpArgs false

namespace Go.Proofs.YtodiphjjdheoaaaGreat
open Go.RowKit

def deqB (n m : Nat) (d e : Nat → Nat) : Bool := n == m && (List.range n).all fun i => d i == e i
theorem deqB_iff {n m : Nat} {d e : Nat → Nat} : deqB n m d e = true ↔ n = m ∧ ∀ i, i < n → d i = e i := by
 unfold deqB
 simp only [Bool.and_eq_true, beq_iff_eq, List.all_eq_true, List.mem_range]
theorem deqB_false {n m : Nat} {d e : Nat → Nat} (h : ¬ (n = m ∧ ∀ i, i < n → d i = e i)) : deqB n m d e = false := by
 cases hb : deqB n m d e
 ·rfl
 ·exact absurd (deqB_iff.1 hb) h
theorem riB_false {r s : RawI} (h : ¬ (r.neg = s.neg ∧ r.n = s.n ∧ ∀ i, i < r.n → r.dg i = s.dg i)) : riB r s = false := by
 cases hb : riB r s
 ·rfl
 ·exact absurd (riB_iff.1 hb) h
def SDg (b o b' o' : Nat) (dk ek : Nat) (w : World) : Prop := w.cell? ⟨b, o, none⟩ = some (.int .u32 dk) ∧ w.cell? ⟨b', o', none⟩ = some (.int .u32 ek)
theorem SDg.ext {b o b' o' dk ek : Nat} {w w' : World} (h : SDg b o b' o' dk ek w) (he : Ext w w') : SDg b o b' o' dk ek w' := by
 obtain ⟨h1, h2⟩ := h
 exact ⟨by rw [he.cell (World.block_lt_of_cell? _ _ h1)]; exact h1, by rw [he.cell (World.block_lt_of_cell? _ _ h2)]; exact h2⟩
set_option maxRecDepth 100000 in
set_option maxHeartbeats 8000000 in
theorem sl_eqDigits {M : Nat → Prop} (v v' : Value) (n m : Nat) (d e : Nat → Nat) (w : World) (h : NatR M w v n d) (k : NatR M w v' m e) :
  Calls Tryz.prog 152 #[v, v'] w fun e' w' => e' = .returned (.bool (deqB n m d e)) ∧ Ext w w' := by
 obtain ⟨a, p, rfl⟩ := natr_slice h
 obtain ⟨a', p', rfl⟩ := natr_slice k
 have hn := h.1
 have hm := k.1
 have HR := Lib.hid h
 have HS := Lib.hid k
 have HE := Lib.hid (Ext.refl w)
 clear h k
 by_cases hnm : ¬ n = m
 ·have hnn : ((n : Int) != (m : Int)) = true := by simp; omega
  have HF : Hid (deqB n m d e = false) := deqB_false fun h => hnm h.1
  clear HR HS
  go_enter Tryz.func152, Tryz.ntmps152
  go_wp2
  go_ret
  exact ⟨by rw [HF.out]; rfl, HE.out⟩
 obtain rfl : n = m := Decidable.not_not.1 hnm
 have hnn : ((n : Int) != (n : Int)) = false := by simp
 clear hnm
 go_enter Tryz.func152, Tryz.ntmps152
 go_wp2
 go_loopw [13] (fun i wr => ∃ k : Nat, k ≤ n ∧ i = .int .i64 k ∧ Hid (∀ i, i < k → d i = e i) ∧ Hid (Ext w wr)) (fun i _ => n - (intOf i).toNat)
 case atStart => exact ⟨0, Nat.zero_le _, rfl, fun i hi => absurd hi (Nat.not_lt_zero _), Ext.refl _⟩
 case round =>
  obtain ⟨k, hk, rfl, HSO, HEX⟩ := hrel
  by_cases hlt : k < n
  ·have hlI : (k : Int) < (n : Int) := by omega
   have hEd := HEX.out.trans (Ext.refl wr).drew
   obtain ⟨_, hd, hr⟩ := HR.out.ext hEd
   obtain ⟨_, hd', hs⟩ := HS.out.ext hEd
   rcases hr with ⟨h0, _⟩ | ⟨b, o, cap, e1, hc1, hc2, _, hcell⟩
   ·omega
   rcases hs with ⟨h0, _⟩ | ⟨b', o', cap', e1', hc1', hc2', _, hcell'⟩
   ·omega
   simp only [Value.slice.injEq, true_and] at e1 e1'
   obtain ⟨rfl, rfl⟩ := e1
   obtain ⟨rfl, rfl⟩ := e1'
   have HSS : Hid (SDg b (o + k) b' (o' + k) (d k) (e k) wr.drew) := ⟨hcell k hlt, hcell' k hlt⟩
   have HEd := Lib.hid hEd
   have kw2 : IntKind.i64.wrap (k : Int) = k := IntWalk.i64_in _ (by omega)
   have HLT := Lib.hid hlt
   unfold maxLen at hc2 hc2'
   have HSK : Hid (d k = e k → ∀ i, i < k + 1 → d i = e i) := fun h i hi => by
    by_cases hik : i = k
    ·rw [hik]; exact h
    ·exact HSO.out i (by omega)
   have HNE : Hid (¬ d k = e k → deqB n n d e = false) := fun h => deqB_false fun hq => h (hq.2 k HLT.out)
   clear hEd hcell hcell' hd hd' HR HS HSO
   go_upto_region 6 with (fail)
   refine wp_region_u (SDg b (o + k) b' (o' + k) (d k) (e k)) 9 (by kernel_rfl) HSS.out (fun hHeld => ?_)
   generalize wr.drew = wd at *
   generalize d k = dk at *
   generalize e k = ek at *
   by_cases hde : dk = ek
   ·subst hde
    (refine tkB [0, 1, 2, 3, 4, 5, 6, 7, 8] ?_; (iterate 9 (refine tk1 (oi := ?_) (v := ?_) (by kernel_rfl) (by first | exact hSn | exact hHeld) ?_ ?_ ?_ ?_ ?_; rotate_left 2; (simp only [xgA, xgB, xgC]; rfl); rfl; (intro wS hSw; obtain ⟨S1, S2⟩ := hSw; go_simp; try with_reducible rfl); (exact fun _ _ _ h => h); (try simp only [Act.put, xgD, xgE, xgF]))); refine tkE ?_)
    refine wpAnyU_done (by kernel_rfl) ?_ _
    clear hHeld HSS HNE
    go_wp2
    go_roundw
    case rel => exact ⟨k + 1, HLT.out, by go_num, HSK.out rfl, HEd⟩
    case measure => have := HLT.out; simp [intOf]; omega
   ·have HF := Lib.hid (HNE.out hde)
    have hdI : ¬ ((dk : Int) = (ek : Int)) := by omega
    have hdb : ((dk : Int) != (ek : Int)) = true := by simpa using hdI
    (refine tkB [0, 1, 2, 3, 4, 5, 6, 7, 8] ?_; (iterate 9 (refine tk1 (oi := ?_) (v := ?_) (by kernel_rfl) (by first | exact hSn | exact hHeld) ?_ ?_ ?_ ?_ ?_; rotate_left 2; (simp only [xgA, xgB, xgC]; rfl); rfl; (intro wS hSw; obtain ⟨S1, S2⟩ := hSw; go_simp; try with_reducible rfl); (exact fun _ _ _ h => h); (try simp only [Act.put, xgD, xgE, xgF]))); refine tkE ?_)
    refine wpAnyU_done (by kernel_rfl) ?_ _
    clear hHeld HSS
    go_wp2
    go_ret
    exact ⟨by rw [HF.out]; rfl, HEd.out⟩
  ·obtain rfl : k = n := by omega
   have hge : ¬ (k : Int) < (k : Int) := by omega
   have HT : Hid (deqB k k d e = true) := deqB_iff.2 ⟨rfl, HSO.out⟩
   clear HR HS HSO
   go_wp2
   go_ret
   exact ⟨by rw [HT.out]; rfl, HEX.out⟩
structure SSr (P Q : Nat) (n : Nat) (b o b' o' p p' : Nat) (k : Nat) (dk ek : Nat) (w : World) : Prop where
 x1 : w.cell? ⟨P, 1, none⟩ = some (.slice (some ⟨b, o, none⟩) n p)
 y1 : w.cell? ⟨Q, 1, none⟩ = some (.slice (some ⟨b', o', none⟩) n p')
 e : w.cell? ⟨b, o + k, none⟩ = some (.int .u32 dk)
 f : w.cell? ⟨b', o' + k, none⟩ = some (.int .u32 ek)
theorem SSr.ext {P Q n b o b' o' p p' k dk ek : Nat} {w w' : World} (h : SSr P Q n b o b' o' p p' k dk ek w) (he : Ext w w') : SSr P Q n b o b' o' p p' k dk ek w' := by
 obtain ⟨h1, h2, h3, h4⟩ := h
 have b1 := World.block_lt_of_cell? _ _ h1
 have b2 := World.block_lt_of_cell? _ _ h2
 have b3 := World.block_lt_of_cell? _ _ h3
 have b4 := World.block_lt_of_cell? _ _ h4
 exact ⟨by rw [he.cell b1]; exact h1, by rw [he.cell b2]; exact h2, by rw [he.cell b3]; exact h3, by rw [he.cell b4]; exact h4⟩
set_option maxRecDepth 100000 in
set_option maxHeartbeats 8000000 in
theorem rf_sameIntR {M : Nat → Prop} (c0 c1 d0 d1 : Value) (r s : RawI) (w : World) (h : IntR M w c0 c1 r) (k : IntR M w d0 d1 s) :
  Calls Tryz.prog 61 #[.agg #[c0, c1], .agg #[d0, d1]] w fun e w' => e = .returned (.bool (riB r s)) ∧ Ext w w' := by
 obtain ⟨rfl, hR⟩ := h
 obtain ⟨rfl, hS⟩ := k
 obtain ⟨a, p, rfl⟩ := natr_slice hR
 obtain ⟨a', p', rfl⟩ := natr_slice hS
 have HFA : Hid (¬ (r.neg = s.neg ∧ r.n = s.n ∧ ∀ i, i < r.n → r.dg i = s.dg i) → riB r s = false) := riB_false
 have HTR : Hid (r.neg = s.neg → r.n = s.n → (∀ i, i < r.n → r.dg i = s.dg i) → riB r s = true) := fun h1 h2 h3 => riB_iff.2 ⟨h1, h2, h3⟩
 generalize riB r s = ans at *
 obtain ⟨bz, n, d⟩ := r
 obtain ⟨bb, m, e⟩ := s
 simp only at hR hS HFA HTR ⊢
 have hn := hR.1
 have hm := hS.1
 have hB0 := ((Blk.of_arr w #[.bool bz, .slice a n p] 26 2 rfl).alloc (.cells #[.bool bb, .slice a' m p'] 26))
 have hB1 := (Blk.of_arr (w.alloc (.cells #[.bool bz, .slice a n p] 26)) #[.bool bb, .slice a' m p'] 26 2 rfl)
 have hE0 : Ext w ((w.alloc (.cells #[.bool bz, .slice a n p] 26)).alloc (.cells #[.bool bb, .slice a' m p'] 26)) := (((Ext.refl w).alloc _).alloc _)
 simp only [World.size_alloc] at hB1
 generalize hW0 : (w.alloc (.cells #[.bool bz, .slice a n p] 26)).alloc (.cells #[.bool bb, .slice a' m p'] 26) = W at *
 have HW0 := Lib.hid hW0
 have HB0 := Lib.hid hB0
 have HB1 := Lib.hid hB1
 have HE0 := Lib.hid hE0
 have HR := Lib.hid (hR.ext hE0)
 have HS := Lib.hid (hS.ext hE0)
 have x0 := hB0.cell (i := 0) (by omega)
 have x1 := hB0.cell (i := 1) (by omega)
 have y0 := hB1.cell (i := 0) (by omega)
 have y1 := hB1.cell (i := 1) (by omega)
 simp only [arr] at x0 x1 y0 y1
 have x0 : W.cell? ⟨w.heap.size, 0, none⟩ = some (.bool bz) := x0
 have x1 : W.cell? ⟨w.heap.size, 1, none⟩ = some (.slice a n p) := x1
 have y0 : W.cell? ⟨w.heap.size + 1, 0, none⟩ = some (.bool bb) := y0
 have y1 : W.cell? ⟨w.heap.size + 1, 1, none⟩ = some (.slice a' m p') := y1
 clear hB0 hB1 hE0 hR hS hW0
 by_cases hsg : ¬ bz = bb
 ·have hbb : (bz != bb) = true := by simpa using hsg
  have HF : Hid (ans = false) := HFA.out fun h => hsg h.1
  clear HR HS HB0 HB1
  go_enter Tryz.func61, Tryz.ntmps61
  go_upto_region 1 with (fail)
  rw [HW0.out]
  go_wp2
  exact bodyPost_ret (v := .bool false) (by simp [results, Tryz.results61, go_sem]) rfl ⟨by rw [HF.out], HE0.out⟩
 obtain rfl : bz = bb := Decidable.not_not.1 hsg
 have hbb : (bz != bz) = false := by simp
 by_cases hnm : ¬ n = m
 ·have hnn : ((n : Int) != (m : Int)) = true := by simp; omega
  have HF : Hid (ans = false) := HFA.out fun h => hnm h.2.1
  clear HR HS HB0 HB1
  go_enter Tryz.func61, Tryz.ntmps61
  go_upto_region 1 with (fail)
  rw [HW0.out]
  go_wp2
  exact bodyPost_ret (v := .bool false) (by simp [results, Tryz.results61, go_sem]) rfl ⟨by rw [HF.out], HE0.out⟩
 obtain rfl : n = m := Decidable.not_not.1 hnm
 have hnn : ((n : Int) != (n : Int)) = false := by simp
 have HAL : Hid ((∀ i, i < n → d i = e i) → ans = true) := HTR.out rfl rfl
 have HNO : Hid (∀ i, i < n → ¬ d i = e i → ans = false) := fun i hi h => HFA.out fun hq => h (hq.2.2 i hi)
 clear HFA HTR hsg hnm
 go_enter Tryz.func61, Tryz.ntmps61
 go_upto_region 1 with (fail)
 rw [HW0.out]
 go_wp2
 go_loopw [23] (fun i wr => ∃ k : Nat, k ≤ n ∧ i = .int .i64 k ∧ Hid (∀ i, i < k → d i = e i) ∧ Hid (Ext W wr)) (fun i _ => n - (intOf i).toNat)
 case atStart => exact ⟨0, Nat.zero_le _, rfl, fun i hi => absurd hi (Nat.not_lt_zero _), Ext.refl _⟩
 case round =>
  clear x0 y0 x1 y1
  obtain ⟨k, hk, rfl, HSO, HEX⟩ := hrel
  by_cases hlt : k < n
  ·have hlI : (k : Int) < (n : Int) := by omega
   have hEd := HEX.out.drew
   obtain ⟨_, hd, hr⟩ := HR.out.ext hEd
   obtain ⟨_, hd', hs⟩ := HS.out.ext hEd
   rcases hr with ⟨h0, _⟩ | ⟨b, o, cap, e1, hc1, hc2, _, hcell⟩
   ·omega
   rcases hs with ⟨h0, _⟩ | ⟨b', o', cap', e1', hc1', hc2', _, hcell'⟩
   ·omega
   simp only [Value.slice.injEq, true_and] at e1 e1'
   obtain ⟨rfl, rfl⟩ := e1
   obtain ⟨rfl, rfl⟩ := e1'
   have HSS : Hid (SSr w.heap.size (w.heap.size + 1) n b o b' o' p p' k (d k) (e k) wr.drew) := ⟨(HB0.out.ext hEd).cell (i := 1) (by omega), (HB1.out.ext hEd).cell (i := 1) (by omega), hcell k hlt, hcell' k hlt⟩
   have HEd := Lib.hid hEd
   have kw2 : IntKind.i64.wrap (k : Int) = k := IntWalk.i64_in _ (by omega)
   have HLT := Lib.hid hlt
   unfold maxLen at hc2 hc2'
   have HSK : Hid (d k = e k → ∀ i, i < k + 1 → d i = e i) := fun h i hi => by
    by_cases hik : i = k
    ·rw [hik]; exact h
    ·exact HSO.out i (by omega)
   have HNE : Hid (¬ d k = e k → ans = false) := HNO.out k hlt
   clear hEd hcell hcell' hd hd' HR HS HB0 HB1 HAL HNO HSO
   go_upto_region 6 with (fail)
   refine wp_region_u (SSr w.heap.size (w.heap.size + 1) n b o b' o' p p' k (d k) (e k)) 10 (by kernel_rfl) HSS.out (fun hHeld => ?_)
   generalize wr.drew = wd at *
   generalize d k = dk at *
   generalize e k = ek at *
   by_cases hde : dk = ek
   ·subst hde
    ((refine wpAnyU_takeT 0 (oi := ?_) (v := ?_) (by kernel_rfl) (by kernel_rfl) (by kernel_rfl) (by kernel_rfl) (by kernel_rfl) (by first | exact hSn | exact hHeld) ?_ ?_ ?_ ?_ ?_; rotate_left 2; (simp only [xgA, xgB, xgC]; rfl); rfl; (intro wS hSw; obtain ⟨S1, S2, S3, S4⟩ := hSw; go_simp; try with_reducible rfl); (exact fun _ _ _ h => h); (try simp only [Act.put, xgD, xgE, xgF])); (refine wpAnyU_takeT 1 (oi := ?_) (v := ?_) (by kernel_rfl) (by kernel_rfl) (by kernel_rfl) (by kernel_rfl) (by kernel_rfl) (by first | exact hSn | exact hHeld) ?_ ?_ ?_ ?_ ?_; rotate_left 2; (simp only [xgA, xgB, xgC]; rfl); rfl; (intro wS hSw; obtain ⟨S1, S2, S3, S4⟩ := hSw; go_simp; try with_reducible rfl); (exact fun _ _ _ h => h); (try simp only [Act.put, xgD, xgE, xgF])); (refine wpAnyU_takeT 2 (oi := ?_) (v := ?_) (by kernel_rfl) (by kernel_rfl) (by kernel_rfl) (by kernel_rfl) (by kernel_rfl) (by first | exact hSn | exact hHeld) ?_ ?_ ?_ ?_ ?_; rotate_left 2; (simp only [xgA, xgB, xgC]; rfl); rfl; (intro wS hSw; obtain ⟨S1, S2, S3, S4⟩ := hSw; go_simp; try with_reducible rfl); (exact fun _ _ _ h => h); (try simp only [Act.put, xgD, xgE, xgF])); (refine wpAnyU_takeT 3 (oi := ?_) (v := ?_) (by kernel_rfl) (by kernel_rfl) (by kernel_rfl) (by kernel_rfl) (by kernel_rfl) (by first | exact hSn | exact hHeld) ?_ ?_ ?_ ?_ ?_; rotate_left 2; (simp only [xgA, xgB, xgC]; rfl); rfl; (intro wS hSw; obtain ⟨S1, S2, S3, S4⟩ := hSw; go_simp; try with_reducible rfl); (exact fun _ _ _ h => h); (try simp only [Act.put, xgD, xgE, xgF])); (refine wpAnyU_takeT 4 (oi := ?_) (v := ?_) (by kernel_rfl) (by kernel_rfl) (by kernel_rfl) (by kernel_rfl) (by kernel_rfl) (by first | exact hSn | exact hHeld) ?_ ?_ ?_ ?_ ?_; rotate_left 2; (simp only [xgA, xgB, xgC]; rfl); rfl; (intro wS hSw; obtain ⟨S1, S2, S3, S4⟩ := hSw; go_simp; try with_reducible rfl); (exact fun _ _ _ h => h); (try simp only [Act.put, xgD, xgE, xgF])); (refine wpAnyU_takeT 5 (oi := ?_) (v := ?_) (by kernel_rfl) (by kernel_rfl) (by kernel_rfl) (by kernel_rfl) (by kernel_rfl) (by first | exact hSn | exact hHeld) ?_ ?_ ?_ ?_ ?_; rotate_left 2; (simp only [xgA, xgB, xgC]; rfl); rfl; (intro wS hSw; obtain ⟨S1, S2, S3, S4⟩ := hSw; go_simp; try with_reducible rfl); (exact fun _ _ _ h => h); (try simp only [Act.put, xgD, xgE, xgF])); (refine wpAnyU_takeT 6 (oi := ?_) (v := ?_) (by kernel_rfl) (by kernel_rfl) (by kernel_rfl) (by kernel_rfl) (by kernel_rfl) (by first | exact hSn | exact hHeld) ?_ ?_ ?_ ?_ ?_; rotate_left 2; (simp only [xgA, xgB, xgC]; rfl); rfl; (intro wS hSw; obtain ⟨S1, S2, S3, S4⟩ := hSw; go_simp; try with_reducible rfl); (exact fun _ _ _ h => h); (try simp only [Act.put, xgD, xgE, xgF])); (refine wpAnyU_takeT 7 (oi := ?_) (v := ?_) (by kernel_rfl) (by kernel_rfl) (by kernel_rfl) (by kernel_rfl) (by kernel_rfl) (by first | exact hSn | exact hHeld) ?_ ?_ ?_ ?_ ?_; rotate_left 2; (simp only [xgA, xgB, xgC]; rfl); rfl; (intro wS hSw; obtain ⟨S1, S2, S3, S4⟩ := hSw; go_simp; try with_reducible rfl); (exact fun _ _ _ h => h); (try simp only [Act.put, xgD, xgE, xgF])); (refine wpAnyU_takeT 8 (oi := ?_) (v := ?_) (by kernel_rfl) (by kernel_rfl) (by kernel_rfl) (by kernel_rfl) (by kernel_rfl) (by first | exact hSn | exact hHeld) ?_ ?_ ?_ ?_ ?_; rotate_left 2; (simp only [xgA, xgB, xgC]; rfl); rfl; (intro wS hSw; obtain ⟨S1, S2, S3, S4⟩ := hSw; go_simp; try with_reducible rfl); (exact fun _ _ _ h => h); (try simp only [Act.put, xgD, xgE, xgF])); (refine wpAnyU_takeT 9 (oi := ?_) (v := ?_) (by kernel_rfl) (by kernel_rfl) (by kernel_rfl) (by kernel_rfl) (by kernel_rfl) (by first | exact hSn | exact hHeld) ?_ ?_ ?_ ?_ ?_; rotate_left 2; (simp only [xgA, xgB, xgC]; rfl); rfl; (intro wS hSw; obtain ⟨S1, S2, S3, S4⟩ := hSw; go_simp; try with_reducible rfl); (exact fun _ _ _ h => h); (try simp only [Act.put, xgD, xgE, xgF])))
    ((refine wpAnyU_one 10 (o := ?_) (by kernel_rfl) ?_ ?_; rotate_left 1; (simp only [xgA, xgB, xgC]; rfl); intro K hK); go_simp; (refine hK.out _ _ (fun h => absurd rfl h) ?_); clear hK K; refine wpAnyU_done (by kernel_rfl) ?_ _)
    go_wp2
    go_roundw
    case rel => exact ⟨k + 1, HLT.out, by go_num, HSK.out rfl, HEd⟩
    case measure => have := HLT.out; simp [intOf]; omega
   ·have HF := Lib.hid (HNE.out hde)
    have HFE := Lib.hid (HE0.out.trans HEd.out)
    have hdI : ¬ ((dk : Int) = (ek : Int)) := by omega
    have hdb : ((dk : Int) != (ek : Int)) = true := by simpa using hdI
    ((refine wpAnyU_takeT 0 (oi := ?_) (v := ?_) (by kernel_rfl) (by kernel_rfl) (by kernel_rfl) (by kernel_rfl) (by kernel_rfl) (by first | exact hSn | exact hHeld) ?_ ?_ ?_ ?_ ?_; rotate_left 2; (simp only [xgA, xgB, xgC]; rfl); rfl; (intro wS hSw; obtain ⟨S1, S2, S3, S4⟩ := hSw; go_simp; try with_reducible rfl); (exact fun _ _ _ h => h); (try simp only [Act.put, xgD, xgE, xgF])); (refine wpAnyU_takeT 1 (oi := ?_) (v := ?_) (by kernel_rfl) (by kernel_rfl) (by kernel_rfl) (by kernel_rfl) (by kernel_rfl) (by first | exact hSn | exact hHeld) ?_ ?_ ?_ ?_ ?_; rotate_left 2; (simp only [xgA, xgB, xgC]; rfl); rfl; (intro wS hSw; obtain ⟨S1, S2, S3, S4⟩ := hSw; go_simp; try with_reducible rfl); (exact fun _ _ _ h => h); (try simp only [Act.put, xgD, xgE, xgF])); (refine wpAnyU_takeT 2 (oi := ?_) (v := ?_) (by kernel_rfl) (by kernel_rfl) (by kernel_rfl) (by kernel_rfl) (by kernel_rfl) (by first | exact hSn | exact hHeld) ?_ ?_ ?_ ?_ ?_; rotate_left 2; (simp only [xgA, xgB, xgC]; rfl); rfl; (intro wS hSw; obtain ⟨S1, S2, S3, S4⟩ := hSw; go_simp; try with_reducible rfl); (exact fun _ _ _ h => h); (try simp only [Act.put, xgD, xgE, xgF])); (refine wpAnyU_takeT 3 (oi := ?_) (v := ?_) (by kernel_rfl) (by kernel_rfl) (by kernel_rfl) (by kernel_rfl) (by kernel_rfl) (by first | exact hSn | exact hHeld) ?_ ?_ ?_ ?_ ?_; rotate_left 2; (simp only [xgA, xgB, xgC]; rfl); rfl; (intro wS hSw; obtain ⟨S1, S2, S3, S4⟩ := hSw; go_simp; try with_reducible rfl); (exact fun _ _ _ h => h); (try simp only [Act.put, xgD, xgE, xgF])); (refine wpAnyU_takeT 4 (oi := ?_) (v := ?_) (by kernel_rfl) (by kernel_rfl) (by kernel_rfl) (by kernel_rfl) (by kernel_rfl) (by first | exact hSn | exact hHeld) ?_ ?_ ?_ ?_ ?_; rotate_left 2; (simp only [xgA, xgB, xgC]; rfl); rfl; (intro wS hSw; obtain ⟨S1, S2, S3, S4⟩ := hSw; go_simp; try with_reducible rfl); (exact fun _ _ _ h => h); (try simp only [Act.put, xgD, xgE, xgF])); (refine wpAnyU_takeT 5 (oi := ?_) (v := ?_) (by kernel_rfl) (by kernel_rfl) (by kernel_rfl) (by kernel_rfl) (by kernel_rfl) (by first | exact hSn | exact hHeld) ?_ ?_ ?_ ?_ ?_; rotate_left 2; (simp only [xgA, xgB, xgC]; rfl); rfl; (intro wS hSw; obtain ⟨S1, S2, S3, S4⟩ := hSw; go_simp; try with_reducible rfl); (exact fun _ _ _ h => h); (try simp only [Act.put, xgD, xgE, xgF])); (refine wpAnyU_takeT 6 (oi := ?_) (v := ?_) (by kernel_rfl) (by kernel_rfl) (by kernel_rfl) (by kernel_rfl) (by kernel_rfl) (by first | exact hSn | exact hHeld) ?_ ?_ ?_ ?_ ?_; rotate_left 2; (simp only [xgA, xgB, xgC]; rfl); rfl; (intro wS hSw; obtain ⟨S1, S2, S3, S4⟩ := hSw; go_simp; try with_reducible rfl); (exact fun _ _ _ h => h); (try simp only [Act.put, xgD, xgE, xgF])); (refine wpAnyU_takeT 7 (oi := ?_) (v := ?_) (by kernel_rfl) (by kernel_rfl) (by kernel_rfl) (by kernel_rfl) (by kernel_rfl) (by first | exact hSn | exact hHeld) ?_ ?_ ?_ ?_ ?_; rotate_left 2; (simp only [xgA, xgB, xgC]; rfl); rfl; (intro wS hSw; obtain ⟨S1, S2, S3, S4⟩ := hSw; go_simp; try with_reducible rfl); (exact fun _ _ _ h => h); (try simp only [Act.put, xgD, xgE, xgF])); (refine wpAnyU_takeT 8 (oi := ?_) (v := ?_) (by kernel_rfl) (by kernel_rfl) (by kernel_rfl) (by kernel_rfl) (by kernel_rfl) (by first | exact hSn | exact hHeld) ?_ ?_ ?_ ?_ ?_; rotate_left 2; (simp only [xgA, xgB, xgC]; rfl); rfl; (intro wS hSw; obtain ⟨S1, S2, S3, S4⟩ := hSw; go_simp; try with_reducible rfl); (exact fun _ _ _ h => h); (try simp only [Act.put, xgD, xgE, xgF])); (refine wpAnyU_takeT 9 (oi := ?_) (v := ?_) (by kernel_rfl) (by kernel_rfl) (by kernel_rfl) (by kernel_rfl) (by kernel_rfl) (by first | exact hSn | exact hHeld) ?_ ?_ ?_ ?_ ?_; rotate_left 2; (simp only [xgA, xgB, xgC]; rfl); rfl; (intro wS hSw; obtain ⟨S1, S2, S3, S4⟩ := hSw; go_simp; try with_reducible rfl); (exact fun _ _ _ h => h); (try simp only [Act.put, xgD, xgE, xgF])))
    ((refine wpAnyU_one 10 (o := ?_) (by kernel_rfl) ?_ ?_; rotate_left 1; (simp only [xgA, xgB, xgC]; rfl); intro K hK); go_simp; (refine hK.out _ _ (fun h => absurd rfl h) ?_); clear hK K; refine wpAnyU_done (by kernel_rfl) ?_ _)
    clear hHeld HSS
    go_wp2
    exact bodyPost_ret (v := .bool false) (by simp [results, Tryz.results61, go_sem]) rfl ⟨by rw [HF.out], HFE.out⟩
  ·obtain rfl : k = n := by omega
   have HT : Hid (ans = true) := HAL.out HSO.out
   have HF := Lib.hid (HE0.out.trans HEX.out)
   clear HB0 HB1 HR HS HAL HNO HSO
   go_wp2
   exact bodyPost_ret (v := .bool true) (by simp [results, Tryz.results61, go_sem]) rfl ⟨by rw [HT.out], HF.out⟩
end Go.Proofs.YtodiphjjdheoaaaGreat

namespace Go.Proofs.YtodiphjjdheoaaaGreat
open Go.RowKit

def XT : Nat → Type
 | 0 => Unit
 | d + 1 => Int × Int × RT 6 × Nat × (Nat → XT d)
def xdf : (d : Nat) → XT d
 | 0 => ()
 | d + 1 => (0, 0, dfl 6, 0, fun _ => xdf d)
def xkd : (d : Nat) → XT d → Int
 | 0, _ => 0
 | _ + 1, T => T.1
def XMc (w : World) : (d : Nat) → MX → XT d → Prop
 | 0, _, _ => False
 | d + 1, y, T => (y.kd = T.1 ∧ y.rl = T.2.1 ∧ RR M0 w 6 T.2.2.1 (.int .i64 y.x.lv) (.bool y.x.b) (.slice y.x.a y.x.n y.x.p) (.slice y.x.ka y.x.kn y.x.kp) ∧ TB 6 T.2.2.1 ∧ SmF (terms 6 T.2.2.1)) ∧ (y.n = T.2.2.2.1 ∧ y.n ≤ y.p ∧ y.p ≤ maxLen) ∧
  ∃ kk : Nat → MX, ∀ i, i < y.n → (∃ b off, y.a = some ⟨b, off, none⟩ ∧ MxC w b (off + i * 7) (kk i)) ∧ XMc w d (kk i) (T.2.2.2.2 i)
theorem XMc.ext {w w' : World} (he : Ext w w') : ∀ {d : Nat} {y : MX} {T : XT d}, XMc w d y T → XMc w' d y T
 | 0, _, _, h => h
 | _ + 1, _, _, h => by
  obtain ⟨⟨h1, h2, h3, h4⟩, h5, kk, hk⟩ := h
  refine ⟨⟨h1, h2, RR.ext h3 he, h4⟩, h5, kk, fun i hi => ?_⟩
  obtain ⟨⟨b, off, e, hc⟩, hx⟩ := hk i hi
  exact ⟨⟨b, off, e, hc.ext he⟩, XMc.ext he hx⟩
def toTM : (d : Nat) → XT d → TM
 | 0, _ => tmB false
 | d + 1, T => .nd T.1 T.2.1 (norm (terms 6 T.2.2.1)) ((List.range T.2.2.2.1).map fun i => toTM d (T.2.2.2.2 i))
theorem toTM_s (d : Nat) (T : XT (d + 1)) : toTM (d + 1) T = .nd T.1 T.2.1 (norm (terms 6 T.2.2.1)) ((List.range T.2.2.2.1).map fun i => toTM d (T.2.2.2.2 i)) := by
 conv => lhs; unfold toTM
theorem toTM_kd {w : World} : ∀ {d : Nat} {y : MX} {T : XT d}, XMc w d y T → (toTM d T).kd = xkd d T
 | 0, _, _, h => h.elim
 | d + 1, _, T, _ => by rw [toTM_s]; rfl
def cstP (p : RT 6) : Prop := Sim (terms 6 p) [(hd (terms 6 p), Mo.zero)]
def sfP (p : RT 6) : Prop := isCan 6 p = true ∧ Sim (terms 6 p) (snorm (terms 6 p))
def blkP (p : RT 6) : Prop := feqB 6 p (dfl 6) = true
def SpX : (d : Nat) → XT d → Prop
 | 0, _ => False
 | d + 1, T => (T.1 = 2 ∧ (1 ≤ T.2.1 ∧ T.2.1 ≤ 6) ∧ ¬ cstP T.2.2.1 ∧ T.2.2.2.1 = 0 ∧ sfP T.2.2.1) ∨ ((T.1 = 3 ∨ T.1 = 4) ∧ T.2.1 = 0 ∧ blkP T.2.2.1 ∧ 2 ≤ T.2.2.2.1 ∧ ∀ i, i < T.2.2.2.1 → xkd d (T.2.2.2.2 i) ≠ T.1 ∧ SpX d (T.2.2.2.2 i) ∧ ∀ k, k < i → Nm (toTM d (T.2.2.2.2 i)) (toTM d (T.2.2.2.2 k)))
def IsX : (d : Nat) → XT d → Prop
 | 0, _ => False
 | d + 1, T => ((T.1 = 0 ∨ T.1 = 1) ∧ T.2.1 = 0 ∧ blkP T.2.2.1 ∧ T.2.2.2.1 = 0) ∨ SpX (d + 1) T
theorem dfl_can : isCan 6 (dfl 6) = true := by
 rw [isCan_eq]; rfl
theorem dfl_ok : ∀ d, okT d (dfl d)
 | 0 => trivial
 | _ + 1 => ⟨fun i hi => absurd hi (Nat.not_lt_zero _), fun i hi => absurd hi (Nat.not_lt_zero _)⟩
theorem dfl_terms : terms 6 (dfl 6) = [(0, Mo.zero)] := by
 rw [terms_const (show (dfl 6).1 ≤ 0 from Int.le_refl _)]; rfl
theorem blkP.spec {p : RT 6} (h : blkP p) : isCan 6 p = true ∧ norm (terms 6 p) = [] := by
 refine ⟨by rw [feq_can 6 h]; exact dfl_can, ?_⟩
 rw [feq_terms 6 h, dfl_terms]
 exact (Sim.norm (r := []) sim_zero_const).trans rfl
theorem crx_of {w : World} {x : PE} {p : RT 6} (h : RR M0 w 6 p (.int .i64 x.lv) (.bool x.b) (.slice x.a x.n x.p) (.slice x.ka x.kn x.kp)) (hc : isCan 6 p = true) : CRx M0 w 4 x (norm (terms 6 p)) := (RR.cr h hc).sim (nn_norm_sim (nn_of_all (terms_nn 6 p))).symm
theorem smF_norm {l : List Tm} (h : SmF l) : SmF (norm l) := ⟨nn_of_all fun t ht => all_nn_norm l t ht, h.2.1.sim (nn_norm_sim h.1).symm, Nat.le_trans (dlen_mono (norm_nrm l)) h.2.2⟩
theorem SpX.tm {w : World} : ∀ {d : Nat} {y : MX} {T : XT d}, XMc w d y T → SpX d T → TMc true d M0 w y (toTM d T)
 | 0, _, _, h, _ => h.elim
 | d + 1, y, T, h, hs => by
  obtain ⟨⟨h1, h2, h3, h4, h5⟩, ⟨h6, h7, h8⟩, kk, hk⟩ := h
  have hcan : isCan 6 T.2.2.1 = true := by
   rcases hs with hs | hs
   ·exact hs.2.2.2.2.1
   ·exact hs.2.2.1.spec.1
  rw [toTM_s]
  refine ⟨⟨h1, h2, smF_norm h5, ?_⟩, ?_⟩
  ·refine (show CRx M0 w 4 y.x (norm (terms 6 T.2.2.1)) ∧ NodeOk _ from ⟨crx_of h3 hcan, norm_norm _, ?_⟩)
   rcases hs with ⟨g1, g2, g3, g4, g5⟩ | ⟨g1, g2, g3, g4, g5⟩
   ·refine .inr (.inl ⟨g1, g2, ?_⟩)
    show (List.range T.2.2.2.1).map _ = []
    rw [g4]; rfl
   ·exact .inr (.inr ⟨g1, g2, g3.spec.2⟩)
  ·refine ⟨?_, h7, h8, kk, fun i hi => ?_⟩
   ·show y.n = ((List.range T.2.2.2.1).map fun i => toTM d (T.2.2.2.2 i)).length
    rw [List.length_map, List.length_range]; exact h6
   ·obtain ⟨⟨b, off, e, hc⟩, hx⟩ := hk i hi
    refine ⟨⟨b, off, e, fun h => h, hc⟩, ?_⟩
    rw [show kat (TM.ks (.nd T.1 T.2.1 (norm (terms 6 T.2.2.1)) ((List.range T.2.2.2.1).map fun i => toTM d (T.2.2.2.2 i)))) i = toTM d (T.2.2.2.2 i) from kat_map _ _ _ (by omega)]
    rcases hs with ⟨g1, g2, g3, g4, g5⟩ | ⟨g1, g2, g3, g4, g5⟩
    ·omega
    ·exact SpX.tm hx (g5 i (by omega)).2.1
theorem CRx.six {w : World} {x : PE} {l : List Tm} (h : CRx M0 w 4 x l) (hl : SmF l) (hn : norm l = l) : ∃ u : RT 6, RR M0 w 6 u (.int .i64 x.lv) (.bool x.b) (.slice x.a x.n x.p) (.slice x.ka x.kn x.kp) ∧ isCan 6 u = true ∧ okT 6 u ∧ TB 6 u ∧ SmF (terms 6 u) ∧ norm (terms 6 u) = l ∧ Sim (terms 6 u) l := by
 obtain ⟨t, h1, h2, h3, h4⟩ := CRx.up h (show 4 ≤ 5 by omega)
 have hlv := can_lev h2
 have hd := sim_deg h4 hl.2.1
 have hlen := can_len 66 6 t h2 h1.ok hd
 have hpow : (66 + 1) ^ (Go.Proofs.YtodiphjjdheoaaaGreat.lev 6 t).toNat ≤ (66 + 1) ^ 4 := Nat.pow_le_pow_right (by omega) (by show t.1.toNat ≤ 4; omega)
 have e67 : (66 + 1 : Nat) ^ 4 = 20151121 := by decide
 have hn2 := can_nrm h2 h4
 have hL5 := Nat.le_trans (dlen_mono hn2) hl.2.2
 refine ⟨t, h1, h2, h1.ok, ⟨by omega, Nat.le_trans hlen (Nat.le_trans hpow (by decide)), Nat.le_trans hL5 (by decide), fun s hs k => ?_⟩, ⟨nn_of_all (terms_nn 6 t), hd, hL5⟩, ?_, h4⟩
 ·have := can_exp 66 6 t h2 h1.ok hd s hs k
  omega
 ·rw [h4.norm, hn]
theorem kat_pw {ks : List TM} (h : ks.Pairwise (fun a b => Nm b a)) {i k : Nat} (hi : i < ks.length) (hk : k < i) : Nm (kat ks i) (kat ks k) := by
 have := List.pairwise_iff_getElem.1 h k i (by omega) hi hk
 unfold kat
 rw [List.getD_eq_getElem?_getD, List.getD_eq_getElem?_getD, List.getElem?_eq_getElem hi, List.getElem?_eq_getElem (show k < ks.length by omega)]
 exact this
theorem dfl_sim {u : RT 6} (hc : isCan 6 u = true) (ho : okT 6 u) (h : Sim (terms 6 u) []) : blkP u := (feq_iff dfl_can ho (dfl_ok 6)).2 ⟨hc, by rw [dfl_terms]; exact h.trans sim_zero_const.symm⟩
theorem xt_smp (w : World) : ∀ (f : Nat) (y : MX) (t : TM), TMc true f M0 w y t → SmpT t → ∃ T : XT f, XMc w f y T ∧ toTM f T = t ∧ SpX f T
 | 0, _, _, h, _ => h.elim
 | f + 1, y, t, h, hs => by
  obtain ⟨⟨n1, n2, n3, n4⟩, k1, k2, k3, kk, hk⟩ := h
  have n4 : CRx M0 w 4 y.x t.l ∧ NodeOk t := n4
  obtain ⟨u, u1, u2, u3, u4, u5, u6, u7⟩ := CRx.six n4.1 n3 n4.2.1
  have hkids : ∀ i, i < y.n → SmpT (kat t.ks i) := fun i hi => by
   cases hs with
   | atom => rw [k1] at hi; exact absurd hi (Nat.not_lt_zero _)
   | join o ks h1 h2 h3 h4 => exact h2 _ (kat_get (by rw [k1] at hi; exact hi))
  have hK : ∀ i, i < y.n → ∃ T : XT f, XMc w f (kk i) T ∧ toTM f T = kat t.ks i ∧ SpX f T := fun i hi => xt_smp w f (kk i) (kat t.ks i) (hk i hi).2 (hkids i hi)
  obtain ⟨F, hF⟩ := pick (xdf f) hK
  have htm : toTM (f + 1) (show XT (f + 1) from (t.kd, t.rl, u, y.n, F)) = t := by
   rw [toTM_s]
   show TM.nd t.kd t.rl (norm (terms 6 u)) ((List.range y.n).map fun i => toTM f (F i)) = t
   rw [u6]
   have e : ((List.range y.n).map fun i => toTM f (F i)) = t.ks := by
    apply kat_ext
    ·rw [List.length_map, List.length_range, k1]
    ·intro i hi
     rw [List.length_map, List.length_range] at hi
     rw [kat_map _ _ _ hi, (hF i hi).2.1]
   rw [e, ← t.eta]
  refine ⟨(t.kd, t.rl, u, y.n, F), ⟨⟨n1, n2, u1, u4, u5⟩, ⟨rfl, k2, k3⟩, kk, fun i hi => ?_⟩, htm, ?_⟩
  ·obtain ⟨⟨b, off, e, _, hc⟩, _⟩ := hk i hi
   exact ⟨⟨b, off, e, hc⟩, (hF i hi).1⟩
  ·cases hs with
   | atom r l h1 h6 h3 h4 =>
    change Sim (terms 6 u) l at u7
    refine .inl ⟨rfl, ⟨h1, h6⟩, fun hc => h4 ?_, k1, u2, ?_⟩
    ·have e : hd (terms 6 u) = hd l := u7.hd
     have hc : Sim (terms 6 u) [(hd (terms 6 u), Mo.zero)] := hc
     rw [e] at hc
     exact u7.symm.trans hc
    ·rw [u7.snorm, h3]; exact u7
   | join o ks h1 h2 h3 h4 =>
    refine .inr ⟨by cases o <;> simp [TM.kd], rfl, dfl_sim u2 u3 u7, by show 2 ≤ y.n; rw [k1]; exact h1, fun i hi => ?_⟩
    have hi : i < y.n := hi
    have hil : i < ks.length := by rw [k1] at hi; exact hi
    refine ⟨?_, (hF i hi).2.2, fun k hk' => ?_⟩
    ·show xkd f (F i) ≠ _
     rw [← toTM_kd (hF i hi).1, (hF i hi).2.1]
     exact h3 _ (kat_get hil)
    ·show Nm (toTM f (F i)) (toTM f (F k))
     rw [(hF i hi).2.1, (hF k (by omega)).2.1]
     exact kat_pw h4 hil hk'
theorem xt_smS (w : World) (f : Nat) (y : MX) (t : TM) (h : TMc true (f + 1) M0 w y t) (hs : SmpS t) : ∃ T : XT (f + 1), XMc w (f + 1) y T ∧ IsX (f + 1) T := by
 rcases hs with ⟨b, rfl⟩ | hs
 ·obtain ⟨⟨n1, n2, n3, n4⟩, k1, k2, k3, kk, hk⟩ := h
  have n4 : CRx M0 w 4 y.x (tmB b).l ∧ NodeOk (tmB b) := n4
  obtain ⟨u, u1, u2, u3, u4, u5, u6, u7⟩ := CRx.six n4.1 n3 n4.2.1
  have k0 : y.n = 0 := k1
  refine ⟨(tk b, 0, u, 0, fun _ => xdf f), ⟨⟨n1, n2, u1, u4, u5⟩, ⟨k0, k2, k3⟩, kk, fun i hi => by omega⟩, .inl ⟨by cases b <;> simp [tk], rfl, dfl_sim u2 u3 u7, rfl⟩⟩
 ·obtain ⟨T, h1, _, h3⟩ := xt_smp w (f + 1) y t h hs
  exact ⟨T, h1, .inr h3⟩
end Go.Proofs.YtodiphjjdheoaaaGreat
