/- mainvar.Derivative. -/
import Derived.Test.YtjcceddloogiiaaGreatDh
set_option linter.unusedVariables false
set_option linter.unusedSimpArgs false

namespace Go.Proofs.YtjcceddloogiiaaGreat
open Go.RowKit

end Go.Proofs.YtjcceddloogiiaaGreat
