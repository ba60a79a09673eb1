/- RecpolyArithmetic: the walk. The law RecpolyArithmetic returns true at every input, without a panic, and leaves its arguments as they were; no conditions. -/
import Derived.Test.YtodiphjjdheoaaaGreatMj
import Derived.Test.YtodiphjjdheoaaaGreatMm
import Derived.Test.YtodiphjjdheoaaaGreatMq
set_option linter.unusedVariables false
set_option linter.unusedSimpArgs false

namespace Go.Proofs.YtodiphjjdheoaaaGreat
open Go.RowKit

end Go.Proofs.YtodiphjjdheoaaaGreat

namespace Go.Proofs.YtodiphjjdheoaaaGreat
open Go.ChangeShapes Go.WideShapes Go.ChangeAt Go.RowKit Go.Deep

namespace recpolyArithmetic
end recpolyArithmetic
end Go.Proofs.YtodiphjjdheoaaaGreat
