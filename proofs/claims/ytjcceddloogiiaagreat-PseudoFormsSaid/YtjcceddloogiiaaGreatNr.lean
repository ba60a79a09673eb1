/- Plain facts on rational numbers: their sizes; the values of polynomials. -/
import Derived.Test.YtjcceddloogiiaaGreatMj
set_option linter.unusedVariables false
set_option linter.unusedSimpArgs false

namespace Go.Proofs.YtjcceddloogiiaaGreat

end Go.Proofs.YtjcceddloogiiaaGreat
