/- pseudo.divideOut. pseudo.Multiplicity, pseudo.Without; the law's own times. Multiplicities: plain facts; small arguments. -/
import Derived.Test.YtlmipmebdelgbaaGreatCb
import Derived.Test.YtlmipmebdelgbaaGreatBj
import Derived.Test.YtlmipmebdelgbaaGreatCa
set_option linter.unusedVariables false
set_option linter.unusedSimpArgs false

namespace Go.Proofs.YtlmipmebdelgbaaGreat
open Go.RowKit





end Go.Proofs.YtlmipmebdelgbaaGreat
