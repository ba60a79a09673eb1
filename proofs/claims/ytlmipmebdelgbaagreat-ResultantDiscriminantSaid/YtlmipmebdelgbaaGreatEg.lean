/- PseudoDivide: the walk. -/
import Derived.Test.YtlmipmebdelgbaaGreatEe
set_option linter.unusedVariables false
set_option linter.unusedSimpArgs false

namespace Go.Proofs.YtlmipmebdelgbaaGreat
open Go.RowKit

end Go.Proofs.YtlmipmebdelgbaaGreat
