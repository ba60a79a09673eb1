/- mainvar.Lead, Reductum. -/
import Derived.Test.YtodiphjjdheoaaaGreatDe
set_option linter.unusedVariables false
set_option linter.unusedSimpArgs false

namespace Go.Proofs.YtodiphjjdheoaaaGreat
open Go.RowKit

theorem ck_deg {k B : Nat} (h1 : 1 ≤ k) (h4 : k ≤ 4) {e : Int} {l : List Tm} (h : Deg B l) : Deg B (ck k e l) := fun m hm j => by
 rw [ck_coef h1 h4] at hm
 split at hm
 ·rename_i h0
  have := h _ hm j
  rw [get_add, get_xp _ _ _ h1 h4] at this
  by_cases hj : j = k
  ·rw [hj, h0]; omega
  ·rw [if_neg hj] at this; omega
 ·exact absurd rfl hm
theorem ck_nrm (k : Nat) (e : Int) (l : List Tm) : nrm (ck k e l) ≤ nrm l := by
 have := lin_nrm (f := ckF k e) (K := 1) (l := l) fun t _ => by
  unfold ckF; simp only; split <;> decide
 unfold ck; omega
theorem dg_le {k n B : Nat} {l : List Tm} (h : DgR k l n) (hB : Deg B l) : n ≤ B := by
 rcases h.2 with h0 | ⟨m, hm, hg⟩
 ·omega
 ·have := hB m hm k; omega
theorem Kids.take {M M' : Nat → Prop} {w : World} {D g N n : Nat} {P : Nat → List Tm} (h : Kids M w D g N P) (hm : ∀ g, M' g → M g ∨ w.heap.size ≤ g) (hg : ¬ M' g) (hn : n ≤ N) (hN : N ≤ 1099511627776) : KRow M' w D (.slice (some ⟨g, 0, none⟩) n N) n P :=
 ⟨by omega, .inr ⟨g, 0, N, rfl, hn, by unfold maxLen; omega, ⟨h.lt, hg⟩, fun i hi => h.kid hm i (by omega)⟩⟩
def LeadR (l : List Tm) (L : Int) (s : List Tm) : Prop := (Sim l [] ∧ s = []) ∨ (¬ Sim l [] ∧ ¬ (1 ≤ L ∧ L ≤ 4) ∧ s = l) ∨ (¬ Sim l [] ∧ ∃ K n : Nat, L = K ∧ 1 ≤ K ∧ K ≤ 4 ∧ DgR K l n ∧ s = ck K (n : Int) l)
end Go.Proofs.YtodiphjjdheoaaaGreat
