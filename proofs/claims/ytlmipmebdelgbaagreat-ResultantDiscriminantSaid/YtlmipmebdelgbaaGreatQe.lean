/- cylinderref25.Rows. cylinderref25.Sylvester. cylinderref25.Minor. cylinderlaw25: inner, degrees, equal. -/
import Derived.Test.YtlmipmebdelgbaaGreatQd
import Derived.Deep.Upon
import Derived.Deep.AppendLies
set_option linter.unusedVariables false
set_option linter.unusedSimpArgs false

namespace Go.Proofs.YtlmipmebdelgbaaGreat
open Go.RowKit







end Go.Proofs.YtlmipmebdelgbaaGreat
