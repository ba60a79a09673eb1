/- Plain facts on rational numbers: their sizes; the values of polynomials. -/
import Derived.Test.YtjhhekmfdhfjpaaGreatMj
set_option linter.unusedVariables false
set_option linter.unusedSimpArgs false

namespace Go.Proofs.YtjhhekmfdhfjpaaGreat

def rb (n : Nat) (q : Rat) : Prop := dlen q.num.natAbs ≤ n ∧ dlen q.den ≤ n
def ps (x : Rat) (P : Nat → Rat) : Nat → Rat
 | 0 => 0
 | n + 1 => ps x P n + x ^ n * P n
def hv (x : Rat) (P : Nat → Rat) (n : Nat) : Nat → Rat
 | 0 => 0
 | j + 1 => hv x P n j * x + P (n - 1 - j)
end Go.Proofs.YtjhhekmfdhfjpaaGreat
