/- cylinderref22.Build again: a polynomial of n nodes has degrees below n. -/
import Derived.Test.YtpclggidcmmemaaGreatMj
import Derived.Test.YtpclggidcmmemaaGreatBk
set_option linter.unusedVariables false
set_option linter.unusedSimpArgs false

namespace Go.Proofs.YtpclggidcmmemaaGreat
open Go.RowKit

def CnL (c : Nat) (l : List Tm) : Prop := ∀ s ∈ l, s.1 ≠ 0 → 1 ≤ c ∧ ∀ k, s.2.get k ≤ (c : Int) - 1
def CntI (D k n1 n' : Nat) (P : Nat → List Tm) : Prop := ∃ cs : Nat → Nat, (∀ i, i < k → CnL (cs i) (P i) ∧ (1 ≤ cs i → i ≤ nsum cs i)) ∧ nsum cs k + n' = n1 ∧ (1 ≤ n' → D ≠ 0 → k ≤ nsum cs k)
theorem CntI.congr {D k n1 n' : Nat} {P Q : Nat → List Tm} (h : CntI D k n1 n' P) (hp : ∀ i, i < k → P i = Q i) : CntI D k n1 n' Q := by
 obtain ⟨cs, h1, h2⟩ := h
 exact ⟨cs, fun i hi => by rw [← hp i hi]; exact h1 i hi, h2⟩
def BT2 (n : Nat) (M : Nat → Prop) (w : World) (x : PE) (l : List Tm) : Prop := BT M w x l ∧ CnL n l
end Go.Proofs.YtpclggidcmmemaaGreat
