/- Plain facts on rational numbers: their sizes; the values of polynomials. -/
import Derived.Test.YtodiphjjdheoaaaGreatMj
set_option linter.unusedVariables false
set_option linter.unusedSimpArgs false

namespace Go.Proofs.YtodiphjjdheoaaaGreat

def rb (n : Nat) (q : Rat) : Prop := dlen q.num.natAbs ≤ n ∧ dlen q.den ≤ n
theorem rb.mono {n m : Nat} {q : Rat} (h : rb n q) (hm : n ≤ m) : rb m q := ⟨Nat.le_trans h.1 hm, Nat.le_trans h.2 hm⟩
theorem num_mkRat_le (z : Int) (d : Nat) : (mkRat z d).num.natAbs ≤ z.natAbs := by
 rw [Rat.num_mkRat]
 split
 ·simp
 ·exact Int.natAbs_ediv_le_natAbs _ _
theorem den_mkRat_le (z : Int) (d : Nat) (hd : d ≠ 0) : (mkRat z d).den ≤ d := by
 rw [Rat.den_mkRat, if_neg hd]; exact Nat.div_le_self _ _
theorem dlen_one : dlen 1 = 1 := rfl
theorem rb_mkRat {n : Nat} {z : Int} {d : Nat} (h1 : dlen z.natAbs ≤ n) (h2 : dlen d ≤ n) (hn : 1 ≤ n) : rb n (mkRat z d) := by
 refine ⟨Nat.le_trans (dlen_mono (num_mkRat_le z d)) h1, ?_⟩
 by_cases hd : d = 0
 ·rw [Rat.den_mkRat, if_pos hd, dlen_one]; exact hn
 ·exact Nat.le_trans (dlen_mono (den_mkRat_le z d hd)) h2
theorem rb.pos {n : Nat} {q : Rat} (h : rb n q) : 1 ≤ n := Nat.le_trans (dlen_pos q.den_nz) h.2
theorem rb_mul {n m : Nat} {p q : Rat} (h : rb n p) (k : rb m q) : rb (n + m) (p * q) := by
 rw [Rat.mul_def']
 have h1 := dlen_mul p.num.natAbs q.num.natAbs
 have h2 := dlen_mul p.den q.den
 refine rb_mkRat ?_ ?_ (by have := h.pos; omega)
 ·rw [Int.natAbs_mul]; have := h.1; have := k.1; omega
 ·have := h.2; have := k.2; omega
theorem dlen_addZ (x y : Int) : dlen (x + y).natAbs ≤ max (dlen x.natAbs) (dlen y.natAbs) + 1 :=
 Nat.le_trans (dlen_mono (Int.natAbs_add_le x y)) (dlen_add _ _)
theorem rb_add {n m : Nat} {p q : Rat} (h : rb n p) (k : rb m q) : rb (n + m + 1) (p + q) := by
 rw [Rat.add_def']
 have h1 := dlen_mul p.num.natAbs q.den
 have h2 := dlen_mul q.num.natAbs p.den
 have h3 := dlen_mul p.den q.den
 have h4 := dlen_addZ (p.num * q.den) (q.num * p.den)
 rw [Int.natAbs_mul, Int.natAbs_mul, Int.natAbs_natCast, Int.natAbs_natCast] at h4
 have := h.1; have := k.1; have := h.2; have := k.2
 exact rb_mkRat (by omega) (by omega) (by omega)
theorem rb_int (z : Int) : rb (dlen z.natAbs + 1) (z : Rat) := by
 refine ⟨?_, ?_⟩
 ·rw [Rat.num_intCast]; omega
 ·rw [Rat.den_intCast, dlen_one]; omega
theorem rb_zero : rb 1 (0 : Rat) := ⟨by rw [Rat.zero_num]; decide, by rw [Rat.zero_den, dlen_one]; exact Nat.le_refl _⟩

def evM (a : Nat → Rat) (m : Mo) : Rat := a 0 ^ m.a.toNat * a 1 ^ m.b.toNat * a 2 ^ m.c.toNat * a 3 ^ m.d.toNat
def evT (a : Nat → Rat) : List Tm → Rat
 | [] => 0
 | t :: l => (t.1 : Rat) * evM a t.2 + evT a l
theorem evT_append (a : Nat → Rat) (l r : List Tm) : evT a (l ++ r) = evT a l + evT a r := by
 induction l with
 | nil => simp [evT, Rat.zero_add]
 | cons t l ih => simp only [List.cons_append, evT, ih, Rat.add_assoc]
theorem rpow_add (x : Rat) (n m : Nat) : x ^ (n + m) = x ^ n * x ^ m := by
 induction m with
 | zero => simp
 | succ m ih => rw [← Nat.add_assoc, Rat.pow_succ, ih, Rat.pow_succ, Rat.mul_assoc]
theorem evM_zero (a : Nat → Rat) : evM a Mo.zero = 1 := by
 simp [evM, Mo.zero]
theorem evM_add (a : Nat → Rat) (x y : Mo) (hx : x.nn = true) (hy : y.nn = true) : evM a (Mo.add x y) = evM a x * evM a y := by
 obtain ⟨x1, x2, x3, x4⟩ := (Mo.nn_iff x).1 hx
 obtain ⟨y1, y2, y3, y4⟩ := (Mo.nn_iff y).1 hy
 unfold evM Mo.add
 simp only
 rw [Int.toNat_add x1 y1, Int.toNat_add x2 y2, Int.toNat_add x3 y3, Int.toNat_add x4 y4, rpow_add, rpow_add, rpow_add, rpow_add]
 generalize a 0 ^ x.a.toNat = p1
 generalize a 0 ^ y.a.toNat = q1
 generalize a 1 ^ x.b.toNat = p2
 generalize a 1 ^ y.b.toNat = q2
 generalize a 2 ^ x.c.toNat = p3
 generalize a 2 ^ y.c.toNat = q3
 generalize a 3 ^ x.d.toNat = p4
 generalize a 3 ^ y.d.toNat = q4
 grind
theorem evM_xp (a : Nat → Rat) (L i : Nat) (h1 : 1 ≤ L) (h4 : L ≤ 4) : evM a (xp L (i : Int)) = a (L - 1) ^ i := by
 rcases lev_cases h1 h4 with rfl | rfl | rfl | rfl <;> simp [evM, xp]
theorem xp_nn (L i : Nat) : (xp L (i : Int)).nn = true := by
 rw [Mo.nn_iff]; unfold xp; simp only
 refine ⟨?_, ?_, ?_, ?_⟩ <;> split <;> omega
theorem evT_shift (a : Nat → Rat) (k : Mo) (hk : k.nn = true) (l : List Tm) (hl : ∀ t ∈ l, t.2.nn = true) : evT a (shift k l) = evM a k * evT a l := by
 induction l with
 | nil => show evT a [] = _; simp [evT]
 | cons t l ih =>
  show (t.1 : Rat) * evM a (Mo.add t.2 k) + evT a (shift k l) = _
  rw [ih fun s hs => hl s (List.mem_cons_of_mem _ hs), evM_add a _ _ (hl t (List.mem_cons_self ..)) hk]
  simp only [evT]
  generalize evM a t.2 = p
  generalize evM a k = q
  generalize evT a l = r
  grind
def ps (x : Rat) (P : Nat → Rat) : Nat → Rat
 | 0 => 0
 | n + 1 => ps x P n + x ^ n * P n
def hv (x : Rat) (P : Nat → Rat) (n : Nat) : Nat → Rat
 | 0 => 0
 | j + 1 => hv x P n j * x + P (n - 1 - j)
theorem hv_ps (x : Rat) (P : Nat → Rat) (n : Nat) : ∀ j, j ≤ n → hv x P n j * x ^ (n - j) + ps x P (n - j) = ps x P n
 | 0, _ => by simp [hv, Rat.zero_add]
 | j + 1, h => by
  have ih := hv_ps x P n j (by omega)
  obtain ⟨m, hm⟩ : ∃ m, n - j = m + 1 := ⟨n - j - 1, by omega⟩
  rw [hm] at ih
  rw [show n - (j + 1) = m by omega]
  simp only [hv]
  rw [show n - 1 - j = m by omega]
  simp only [ps] at ih
  rw [Rat.pow_succ] at ih
  rw [← ih]
  generalize hv x P n j = p
  generalize x ^ m = q
  generalize P m = r
  generalize ps x P m = s
  grind
theorem hv_all (x : Rat) (P : Nat → Rat) (n : Nat) : hv x P n n = ps x P n := by
 have := hv_ps x P n n (Nat.le_refl _)
 rw [Nat.sub_self] at this
 simpa [ps, Rat.add_zero] using this
theorem evT_poly (a : Nat → Rat) (L n : Nat) (P : Nat → List Tm) (h1 : 1 ≤ L) (h4 : L ≤ 4) (hP : ∀ i, i < n → ∀ t ∈ P i, t.2.nn = true) : evT a (poly L n P) = ps (a (L - 1)) (fun i => evT a (P i)) n := by
 induction n with
 | zero => rfl
 | succ n ih =>
  rw [poly_succ, evT_append, ih fun i hi => hP i (by omega), evT_shift a _ (xp_nn L n) _ (hP n (by omega)), evM_xp a L n h1 h4]; rfl
theorem evT_single (a : Nat → Rat) (z : Int) : evT a [(z, Mo.zero)] = (z : Rat) := by
 simp [evT, evM_zero, Rat.add_zero]
theorem nsum_mono (f : Nat → Nat) {n m : Nat} (h : n ≤ m) : nsum f n ≤ nsum f m := by
 obtain ⟨k, rfl⟩ : ∃ k, m = n + k := ⟨m - n, by omega⟩
 clear h
 induction k with
 | zero => exact Nat.le_refl _
 | succ k ih => rw [← Nat.add_assoc]; simp only [nsum]; omega
theorem rb_hv {A : Nat} {x : Rat} (hx : rb A x) (P : Nat → Rat) (f : Nat → Nat) (n : Nat) (hP : ∀ i, i < n → rb (f i) (P i)) : ∀ j, j ≤ n → rb (1 + nsum (fun i => f i + A + 1) n - nsum (fun i => f i + A + 1) (n - j)) (hv x P n j)
 | 0, _ => by
  refine rb_zero.mono ?_
  rw [Nat.sub_zero]; omega
 | j + 1, h => by
  have ih := rb_hv hx P f n hP j (by omega)
  obtain ⟨m, hm⟩ : ∃ m, n - j = m + 1 := ⟨n - j - 1, by omega⟩
  rw [hm] at ih
  rw [show n - (j + 1) = m by omega]
  simp only [hv]
  rw [show n - 1 - j = m by omega]
  have h1 := hP m (by omega)
  have h2 := nsum_mono (fun i => f i + A + 1) (show m + 1 ≤ n by omega)
  simp only [nsum] at ih h2
  refine (rb_add (rb_mul ih hx) h1).mono ?_
  omega
theorem evT_node (a : Nat → Rat) {d : Nat} {t : RT (d + 1)} (h1 : 1 ≤ t.1) (h4 : t.1 ≤ 4) : evT a (terms (d + 1) t) = ps (a (t.1.toNat - 1)) (fun i => evT a (terms d (t.2.2.2 i))) t.2.2.1 := by
 rw [terms_node h1 h4, evT_poly a _ _ _ (by omega) (by omega) fun i _ => terms_nn d _]
theorem rb_evT {A : Nat} {a : Nat → Rat} (ha : ∀ i, i < 4 → rb A (a i)) : ∀ (d : Nat) (t : RT d), rb (szE A d t) (evT a (terms d t))
 | 0, _ => rb_zero
 | d + 1, t => by
  by_cases h1 : t.1 ≤ 0
  ·unfold szE; rw [terms_const h1, if_pos h1, evT_single]; exact rb_int _
  ·by_cases h2 : 4 < t.1
   ·unfold szE terms; rw [if_neg h1, if_pos h2, if_neg h1, if_pos h2]; exact rb_zero
   ·rw [evT_node a (by omega) (by omega), ← hv_all]
    unfold szE; rw [if_neg h1, if_neg h2]
    have := rb_hv (ha (t.1.toNat - 1) (by omega)) (fun i => evT a (terms d (t.2.2.2 i))) (fun i => szE A d (t.2.2.2 i)) t.2.2.1 (fun i _ => rb_evT ha d _) t.2.2.1 (Nat.le_refl _)
    refine this.mono ?_
    omega
end Go.Proofs.YtodiphjjdheoaaaGreat
