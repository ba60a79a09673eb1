/- recpoly.degree. -/
import Derived.Test.YtodiphjjdheoaaaGreatMi
import Derived.Test.YtodiphjjdheoaaaGreatAa
set_option linter.unusedVariables false
set_option linter.unusedSimpArgs false

namespace Go.Proofs.YtodiphjjdheoaaaGreat
open Go.RowKit

def DgR (L : Nat) (l : List Tm) (n : Nat) : Prop := (∀ m, coefAt l m ≠ 0 → m.get L ≤ n) ∧ (n = 0 ∨ ∃ m, coefAt l m ≠ 0 ∧ m.get L = n)
theorem DgR.sim {L n : Nat} {l r : List Tm} (h : DgR L l n) (hs : Sim l r) : DgR L r n :=
 ⟨fun m hm => h.1 m (by rw [hs m]; exact hm), h.2.imp id fun ⟨m, h1, h2⟩ => ⟨m, by rw [← hs m]; exact h1, h2⟩⟩
def MxR (L : Nat) (P : Nat → List Tm) (k n : Nat) : Prop := (∀ i, i < k → ∀ m, coefAt (P i) m ≠ 0 → m.get L ≤ n) ∧ (n = 0 ∨ ∃ i m, i < k ∧ coefAt (P i) m ≠ 0 ∧ m.get L = n)
theorem MxR.step {L : Nat} {P : Nat → List Tm} {k n j : Nat} (h : MxR L P k n) (hj : DgR L (P k) j) : MxR L P (k + 1) (max n j) := by
 refine ⟨fun i hi m hm => ?_, ?_⟩
 ·by_cases h1 : i = k
  ·subst h1; have := hj.1 m hm; omega
  ·have := h.1 i (by omega) m hm; omega
 ·by_cases h1 : n ≤ j
  ·rw [Nat.max_eq_right h1]
   exact hj.2.imp id fun ⟨m, h2, h3⟩ => ⟨k, m, by omega, h2, h3⟩
  ·rw [Nat.max_eq_left (by omega)]
   exact h.2.imp id fun ⟨i, m, h2, h3, h4⟩ => ⟨i, m, by omega, h3, h4⟩
end Go.Proofs.YtodiphjjdheoaaaGreat
