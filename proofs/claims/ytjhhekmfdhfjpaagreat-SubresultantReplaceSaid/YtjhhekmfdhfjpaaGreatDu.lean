/- mainvar.Derivative. -/
import Derived.Test.YtjhhekmfdhfjpaaGreatDh
set_option linter.unusedVariables false
set_option linter.unusedSimpArgs false

namespace Go.Proofs.YtjhhekmfdhfjpaaGreat
open Go.RowKit

end Go.Proofs.YtjhhekmfdhfjpaaGreat
