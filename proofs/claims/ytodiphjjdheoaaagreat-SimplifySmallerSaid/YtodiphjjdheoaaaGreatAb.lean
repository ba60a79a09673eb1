/- recpoly.degree. -/
import Derived.Test.YtodiphjjdheoaaaGreatMi
import Derived.Test.YtodiphjjdheoaaaGreatAa
set_option linter.unusedVariables false
set_option linter.unusedSimpArgs false

namespace Go.Proofs.YtodiphjjdheoaaaGreat
open Go.RowKit

def DgR (L : Nat) (l : List Tm) (n : Nat) : Prop := (∀ m, coefAt l m ≠ 0 → m.get L ≤ n) ∧ (n = 0 ∨ ∃ m, coefAt l m ≠ 0 ∧ m.get L = n)
theorem DgR.sim {L n : Nat} {l r : List Tm} (h : DgR L l n) (hs : Sim l r) : DgR L r n :=
 ⟨fun m hm => h.1 m (by rw [hs m]; exact hm), h.2.imp id fun ⟨m, h1, h2⟩ => ⟨m, by rw [← hs m]; exact h1, h2⟩⟩
theorem CRx.lowc {M : Nat → Prop} {w : World} {L : Nat} {x : PE} {l : List Tm} (h : CRx M w L x l) (m : Mo) (hm : coefAt l m ≠ 0) (k : Nat) (hk : x.lv < k) (hk4 : k ≤ 4) : m.get k = 0 := by
 obtain ⟨t, h1, h2, h3, h4⟩ := h
 obtain ⟨e0, _⟩ := h1.form
 simp only [Value.int.injEq, true_and] at e0
 have hl := can_low _ t h2
 have h0 := can_lev h2
 refine Classical.byContradiction fun hc => hm ?_
 rw [← h4 m]
 exact hl.coef (k := k) (by show t.1.toNat < k; omega) hk4 hc
def MxR (L : Nat) (P : Nat → List Tm) (k n : Nat) : Prop := (∀ i, i < k → ∀ m, coefAt (P i) m ≠ 0 → m.get L ≤ n) ∧ (n = 0 ∨ ∃ i m, i < k ∧ coefAt (P i) m ≠ 0 ∧ m.get L = n)
theorem MxR.step {L : Nat} {P : Nat → List Tm} {k n j : Nat} (h : MxR L P k n) (hj : DgR L (P k) j) : MxR L P (k + 1) (max n j) := by
 refine ⟨fun i hi m hm => ?_, ?_⟩
 ·by_cases h1 : i = k
  ·subst h1; have := hj.1 m hm; omega
  ·have := h.1 i (by omega) m hm; omega
 ·by_cases h1 : n ≤ j
  ·rw [Nat.max_eq_right h1]
   exact hj.2.imp id fun ⟨m, h2, h3⟩ => ⟨k, m, by omega, h2, h3⟩
  ·rw [Nat.max_eq_left (by omega)]
   exact h.2.imp id fun ⟨i, m, h2, h3, h4⟩ => ⟨i, m, by omega, h3, h4⟩
theorem poly_coef_ex {D n : Nat} {P : Nat → List Tm} (hD : D + 1 ≤ 4) (hlow : ∀ i, i < n → Low D (P i)) {m : Mo} (hm : coefAt (poly (D + 1) n P) m ≠ 0) : ∃ e : Nat, e < n ∧ m.get (D + 1) = e ∧ coefAt (P e) (Mo.sub m (xp (D + 1) (e : Int))) ≠ 0 := by
 have h0 : 0 ≤ m.get (D + 1) := Classical.byContradiction fun hc => hm (coef_poly_neg (D + 1) n P (by omega) hD hlow m (by omega))
 obtain ⟨e, he⟩ : ∃ e : Nat, m.get (D + 1) = e := ⟨(m.get (D + 1)).toNat, by omega⟩
 rw [coef_poly (D + 1) n P (by omega) hD hlow m e he] at hm
 by_cases hen : e < n
 ·rw [if_pos hen] at hm; exact ⟨e, hen, he, hm⟩
 ·rw [if_neg hen] at hm; exact absurd rfl hm
theorem kid_coef {D n : Nat} {P : Nat → List Tm} (hD : D + 1 ≤ 4) (hlow : ∀ i, i < n → Low D (P i)) {i : Nat} (hi : i < n) {m : Mo} (hm : coefAt (P i) m ≠ 0) : coefAt (poly (D + 1) n P) (Mo.add m (xp (D + 1) (i : Int))) ≠ 0 := by
 have h0 : m.get (D + 1) = 0 := Classical.byContradiction fun hc => hm ((hlow i hi).coef (k := D + 1) (by omega) hD hc)
 rw [coef_kid (by omega) hD hlow i hi m h0]; exact hm
theorem dg_top {D n : Nat} {P : Nat → List Tm} (hD : D + 1 ≤ 4) (hn : 1 ≤ n) (hlow : ∀ i, i < n → Low D (P i)) (hnz : ¬ Sim (P (n - 1)) []) : DgR (D + 1) (poly (D + 1) n P) (n - 1) := by
 refine ⟨fun m hm => ?_, .inr ?_⟩
 ·obtain ⟨e, he, h1, _⟩ := poly_coef_ex hD hlow hm
  omega
 ·obtain ⟨m, hm⟩ := not_sim_nil hnz
  have h0 : m.get (D + 1) = 0 := Classical.byContradiction fun hc => hm ((hlow (n - 1) (by omega)).coef (k := D + 1) (by omega) hD hc)
  refine ⟨_, kid_coef hD hlow (by omega) hm, ?_⟩
  rw [get_add, get_xp _ _ _ (by omega) hD, if_pos rfl, h0]; omega
theorem Kids.krow {M M' : Nat → Prop} {w : World} {D g N : Nat} {P : Nat → List Tm} (h : Kids M w D g N P) (hm : ∀ g, M' g → M g ∨ w.heap.size ≤ g) (hg : ¬ M' g) (hN : N ≤ 1099511627776) : KRow M' w D (.slice (some ⟨g, 0, none⟩) N N) N P := by
 have hlt : g < w.heap.size := by
  obtain ⟨f, hB, _⟩ := h
  exact hB.lt
 exact ⟨hN, .inr ⟨g, 0, N, rfl, Nat.le_refl _, by unfold maxLen; omega, ⟨hlt, hg⟩, fun i hi => h.kid hm i hi⟩⟩
end Go.Proofs.YtodiphjjdheoaaaGreat
