/- PseudoDivide: the walk. -/
import Derived.Test.YtjhhekmfdhfjpaaGreatEe
set_option linter.unusedVariables false
set_option linter.unusedSimpArgs false

namespace Go.Proofs.YtjhhekmfdhfjpaaGreat
open Go.RowKit

end Go.Proofs.YtjhhekmfdhfjpaaGreat
