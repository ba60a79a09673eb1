/- cylinderref22.Build again: a polynomial of n nodes has degrees below n. -/
import Derived.Test.YtjhhekmfdhfjpaaGreatMj
import Derived.Test.YtjhhekmfdhfjpaaGreatBk
set_option linter.unusedVariables false
set_option linter.unusedSimpArgs false

namespace Go.Proofs.YtjhhekmfdhfjpaaGreat
open Go.RowKit

end Go.Proofs.YtjhhekmfdhfjpaaGreat
