/- Plain facts on rational numbers: their sizes; the values of polynomials. -/
import Derived.Test.YtlmipmebdelgbaaGreatMi
set_option linter.unusedVariables false
set_option linter.unusedSimpArgs false

namespace Go.Proofs.YtlmipmebdelgbaaGreat

end Go.Proofs.YtlmipmebdelgbaaGreat
