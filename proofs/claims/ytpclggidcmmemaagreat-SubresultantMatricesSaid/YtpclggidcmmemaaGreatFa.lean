/- cylinderref22.Build again: a polynomial of n nodes has degrees below n. -/
import Derived.Test.YtpclggidcmmemaaGreatMj
import Derived.Test.YtpclggidcmmemaaGreatBk
set_option linter.unusedVariables false
set_option linter.unusedSimpArgs false

namespace Go.Proofs.YtpclggidcmmemaaGreat
open Go.RowKit

def CnL (c : Nat) (l : List Tm) : Prop := ∀ s ∈ l, s.1 ≠ 0 → 1 ≤ c ∧ ∀ k, s.2.get k ≤ (c : Int) - 1
def BT2 (n : Nat) (M : Nat → Prop) (w : World) (x : PE) (l : List Tm) : Prop := BT M w x l ∧ CnL n l
end Go.Proofs.YtpclggidcmmemaaGreat
