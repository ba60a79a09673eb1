/- mainvar.Join. pseudo.exactCoefs. the division of two polynomials with the same main variable: plain law. copy of a row of polynomials; products of polynomials without the variable. -/
import Derived.Test.YtpclggidcmmemaaGreatBa
import Derived.Test.YtpclggidcmmemaaGreatMm
import Derived.Test.YtpclggidcmmemaaGreatNe
set_option linter.unusedVariables false
set_option linter.unusedSimpArgs false

namespace Go.Proofs.YtpclggidcmmemaaGreat
open Go.RowKit

theorem poly_len_c {L c : Nat} {P : Nat → List Tm} : ∀ n, (∀ i, i < n → (P i).length ≤ c) → (poly L n P).length ≤ n * c
 | 0, _ => by rw [poly_zero]; simp
 | n + 1, h => by
  have ih := poly_len_c (L := L) n fun i hi => h i (by omega)
  have h1 := h n (by omega)
  rw [poly_succ, List.length_append, Nat.add_mul, Nat.one_mul]
  simp only [shift, List.length_map]
  omega
theorem poly_nrm_c {L c : Nat} {P : Nat → List Tm} : ∀ n, (∀ i, i < n → nrm (P i) ≤ c) → nrm (poly L n P) ≤ n * c
 | 0, _ => by rw [poly_zero]; simp [nrm]
 | n + 1, h => by
  have ih := poly_nrm_c (L := L) n fun i hi => h i (by omega)
  have h1 := h n (by omega)
  rw [poly_succ, nrm_append, nrm_shift, Nat.add_mul, Nat.one_mul]
  omega
theorem dlen_small {n : Nat} (h : n ≤ 4294967295) : dlen n ≤ 1 := by rw [dlen_le_iff, Nat.pow_one]; omega
theorem poly_dl {L A N : Nat} {P : Nat → List Tm} (hN : N ≤ 4294967295) (h : ∀ i, i < N → dlen (nrm (P i)) ≤ A) : dlen (nrm (poly L N P)) ≤ A + 2 := by
 have h1 := poly_nrm_c (L := L) (c := 4294967296 ^ A) N fun i hi => Nat.le_of_lt ((dlen_le_iff _ _).1 (h i hi))
 have h2 := dlen_mono h1
 have h3 := dlen_mul N (4294967296 ^ A)
 have h4 := dlen_small hN
 have h5 : dlen (4294967296 ^ A) ≤ A + 1 := by
  rw [dlen_le_iff]
  exact Nat.pow_lt_pow_right (by omega) (by omega)
 omega
theorem mv_isLevel (l : Int) (w : World) : Calls Tryz.prog 85 #[.int .i64 l] w fun e w' => e = .returned (.bool (isLevB l)) ∧ w = w' := by
 by_cases h1 : 1 ≤ l
 ·by_cases h2 : l ≤ 4
  ·have H : Hid (isLevB l = true) := by show _ = _; unfold isLevB; simp [h1, h2]
   go_enter Tryz.func85, Tryz.ntmps85
   go_wp2
   go_ret
   exact ⟨by rw [H.out]; rfl, rfl⟩
  ·have H : Hid (isLevB l = false) := by show _ = _; unfold isLevB; simp [h2]
   go_enter Tryz.func85, Tryz.ntmps85
   go_wp2
   go_ret
   exact ⟨by rw [H.out]; rfl, rfl⟩
 ·have H : Hid (isLevB l = false) := by show _ = _; unfold isLevB; simp [h1]
  go_enter Tryz.func85, Tryz.ntmps85
  go_wp2
  go_ret
  exact ⟨by rw [H.out]; rfl, rfl⟩
end Go.Proofs.YtpclggidcmmemaaGreat

namespace Go.Proofs.YtpclggidcmmemaaGreat
open Go.RowKit

def inB (B C : Nat) : Nat := B + (B + 1) * C
def qX (C : Nat) : Nat → Nat → Nat
 | 0, _ => 1
 | L + 1, B => (B + 2) * (qX C L (inB B C) + 1) + 3
def OkB (C : Nat) : Nat → Nat → Prop
 | 0, B => B ≤ 1000000 ∧ (B + 1) * (C + 1) ≤ 1099511627776
 | L + 1, B => (inB B C ≤ 1000000 ∧ (inB B C + 1) ^ (L + 1) ≤ 1099511627776 ∧ (inB B C + 1) * (C + 1) ≤ 1099511627776) ∧ OkB C L (inB B C)
def ExR (M : Nat → Prop) (L : Nat) (l r : List Tm) (A : Nat) (v : PE) (ok : Bool) (w : World) : Prop := (ok = true → ∃ q, CRx M w L v q ∧ Sim (pmul q r) l ∧ dlen (nrm q) ≤ A) ∧ (ok = false → ¬ Dv r l)
theorem p4_of_heap {w' wr : World} {b : Nat} {x : PE} (h : P4 wr b x) (he : w'.heap[b]? = wr.heap[b]?) : P4 w' b x := by
 have hc := fun o => World.cell?_of_block (w := wr) (w' := w') (a := ⟨b, o, none⟩) he
 obtain ⟨p0, p1, p2, p3⟩ := h
 exact ⟨(hc 0).trans p0, (hc 1).trans p1, (hc 2).trans p2, (hc 3).trans p3⟩
end Go.Proofs.YtpclggidcmmemaaGreat

namespace Go.Proofs.YtpclggidcmmemaaGreat
open Go.RowKit

abbrev negL (l : List Tm) : List Tm := pmul l [(-1, Mo.zero)]
theorem negL_coef (l : List Tm) (m : Mo) : coefAt (negL l) m = - coefAt l m := by
 rw [pmul_single l _ m, shift_zero, coefAt_smul]; show (-1 : Int) * _ = _; omega
theorem negL_nrm (l : List Tm) : nrm (negL l) = nrm l := by rw [nrm_pmul, nrm_one]; show _ * 1 = _; omega
theorem negL_deg {B : Nat} {l : List Tm} (h : Deg B l) : Deg B (negL l) := fun m hm k => h m (fun h0 => hm (by rw [negL_coef, h0]; rfl)) k
theorem negL_nn {l : List Tm} (h : NN l) : NN (negL l) := fun m hm => by rw [negL_coef, h m hm]; rfl
theorem NN.append {l r : List Tm} (h : NN l) (k : NN r) : NN (l ++ r) := fun m hm => by rw [coefAt_append, h m hm, k m hm]; rfl
theorem NN.nil : NN [] := fun _ _ => rfl
theorem NN.shift {l : List Tm} (h : NN l) {k i : Nat} : NN (shift (xp k (i : Int)) l) := fun m hm => by
 rw [coefAt_shift]
 refine h _ ?_
 cases hc : (Mo.sub m (xp k (i : Int))).nn with
 | false => rfl
 | true =>
  rw [Mo.nn_iff] at hc
  have : m.nn = true := by
   rw [Mo.nn_iff]
   have g1 : (Mo.sub m (xp k (i : Int))).a = m.a - (if k = 1 then (i : Int) else 0) := rfl
   have g2 : (Mo.sub m (xp k (i : Int))).b = m.b - (if k = 2 then (i : Int) else 0) := rfl
   have g3 : (Mo.sub m (xp k (i : Int))).c = m.c - (if k = 3 then (i : Int) else 0) := rfl
   have g4 : (Mo.sub m (xp k (i : Int))).d = m.d - (if k = 4 then (i : Int) else 0) := rfl
   rw [g1, g2, g3, g4] at hc
   have f : ∀ P : Prop, [Decidable P] → (0 : Int) ≤ (if P then (i : Int) else 0) := fun P _ => by split <;> omega
   have := f (k = 1); have := f (k = 2); have := f (k = 3); have := f (k = 4)
   omega
  rw [hm] at this; cases this
theorem NN.poly {L : Nat} {P : Nat → List Tm} : ∀ {n : Nat}, (∀ i, i < n → NN (P i)) → NN (poly L n P)
 | 0, _ => NN.nil
 | n + 1, h => by rw [poly_succ]; exact (NN.poly fun i hi => h i (by omega)).append (h n (by omega)).shift
theorem poly_append (L : Nat) (P Q : Nat → List Tm) : ∀ n, Sim (poly L n fun i => P i ++ Q i) (poly L n P ++ poly L n Q)
 | 0 => Sim.refl _
 | n + 1 => fun m => by
  have ih := poly_append L P Q n m
  simp only [poly_succ, coefAt_append, shift_append] at ih ⊢
  omega
theorem poly_nil {L : Nat} {P : Nat → List Tm} : ∀ {n : Nat}, (∀ i, i < n → Sim (P i) []) → Sim (poly L n P) []
 | 0, _ => Sim.refl _
 | n + 1, h => by
  rw [poly_succ]
  exact (poly_nil fun i hi => h i (by omega)).append ((h n (by omega)).shift _)
theorem xp_add_xp (L i j : Nat) : Mo.add (xp L (i : Int)) (xp L (j : Int)) = xp L ((j + i : Nat) : Int) := Mo.ext_get fun k _ _ => by
 rw [get_add]
 by_cases h : 1 ≤ L ∧ L ≤ 4
 ·rw [get_xp _ _ _ h.1 h.2, get_xp _ _ _ h.1 h.2, get_xp _ _ _ h.1 h.2]; split <;> omega
 ·have h0 : ∀ i : Int, xp L i = Mo.zero := fun i => by
   simp only [xp, Mo.zero, Mo.mk.injEq]
   refine ⟨if_neg (by omega), if_neg (by omega), if_neg (by omega), if_neg (by omega)⟩
  rw [h0, h0, h0]
  have h1 : Mo.zero.get k = 0 := by simp only [Mo.get, Mo.zero]; repeat (first | rfl | split)
  omega
theorem poly_up (L k : Nat) (c : List Tm) (G : Nat → List Tm) : ∀ n, Sim (pmul (shift (xp L (k : Int)) c) (poly L n G)) (poly L (k + n) fun i => if k ≤ i then pmul c (G (i - k)) else [])
 | 0 => by
  rw [poly_zero, pmul_nil]
  exact (poly_nil fun i hi => by rw [if_neg (by omega)]; exact Sim.refl _).symm
 | n + 1 => by
  rw [poly_succ, show k + (n + 1) = (k + n) + 1 by omega, poly_succ, if_pos (by omega), show k + n - k = n by omega]
  refine (Sim.pmul_append_right _ _ _).trans ((poly_up L k c G n).append ?_)
  refine (pmul_shift_left _ _ _).trans (((pmul_shift_right _ _ _).shift _).trans ?_)
  rw [shift_shift, xp_add_xp]
  exact Sim.refl _
end Go.Proofs.YtpclggidcmmemaaGreat

namespace Go.Proofs.YtpclggidcmmemaaGreat
open Go.RowKit

end Go.Proofs.YtpclggidcmmemaaGreat
