/- subresultant.down. subresultant.rows. append of a whole matrix. subresultant.Sylvester. subresultant.Sylvester and Minor where check answers an error. subresultant.Minor. subresultant.Minor where the indices are refused; mainvar.Coef at any exponent. cylinderref25.Rows. cylinderref25.Sylvester. cylinderref25.Minor. cylinderlaw25: inner, degrees, equal. -/
import Derived.Test.YtmcfpnmoklnhoaaGreatQb
import Derived.Laws.AppendOwnNone
import Derived.Deep.Upon
import Derived.Deep.AppendLies
set_option linter.unusedVariables false
set_option linter.unusedSimpArgs false

namespace Go.Proofs.YtmcfpnmoklnhoaaGreat
open Go.RowKit





















end Go.Proofs.YtmcfpnmoklnhoaaGreat
