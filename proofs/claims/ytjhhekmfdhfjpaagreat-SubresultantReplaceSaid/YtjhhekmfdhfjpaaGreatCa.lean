/- Plain facts on division, second part: sign normal forms of multiples, inexact divisions, degrees of products, the lemma of Gauss. The lemma of Gauss: a primitive polynomial that divides a multiple by a number divides the polynomial. -/
import Derived.Test.YtjhhekmfdhfjpaaGreatBj
set_option linter.unusedVariables false
set_option linter.unusedSimpArgs false

namespace Go.Proofs.YtjhhekmfdhfjpaaGreat



def nd (p : Int) (l : List Tm) : List Tm:=l.filter fun t=>!decide (p ∣ t.1)
end Go.Proofs.YtjhhekmfdhfjpaaGreat
