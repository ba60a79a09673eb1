/- pseudo.divideOut. pseudo.Multiplicity, pseudo.Without; the law's own times. Multiplicities: plain facts; small arguments. -/
import Derived.Test.YtjhhekmfdhfjpaaGreatCb
import Derived.Test.YtjhhekmfdhfjpaaGreatBj
import Derived.Test.YtjhhekmfdhfjpaaGreatCa
set_option linter.unusedVariables false
set_option linter.unusedSimpArgs false

namespace Go.Proofs.YtjhhekmfdhfjpaaGreat
open Go.RowKit





end Go.Proofs.YtjhhekmfdhfjpaaGreat
