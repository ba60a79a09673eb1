/- RecpolyArithmetic: the walk. The law RecpolyArithmetic returns true at every input, without a panic, and leaves its arguments as they were; no conditions. -/
import Derived.Test.YtgppogaoilijcaaGreatMj
import Derived.Test.YtgppogaoilijcaaGreatMm
import Derived.Test.YtgppogaoilijcaaGreatMq
set_option linter.unusedVariables false
set_option linter.unusedSimpArgs false

namespace Go.Proofs.YtgppogaoilijcaaGreat
open Go.RowKit

end Go.Proofs.YtgppogaoilijcaaGreat

namespace Go.Proofs.YtgppogaoilijcaaGreat
open Go.ChangeShapes Go.WideShapes Go.ChangeAt Go.RowKit Go.Deep

namespace recpolyArithmetic
theorem own : ownKnob Tryz.prog.godebug = none := by kernel_rfl
end recpolyArithmetic
end Go.Proofs.YtgppogaoilijcaaGreat
