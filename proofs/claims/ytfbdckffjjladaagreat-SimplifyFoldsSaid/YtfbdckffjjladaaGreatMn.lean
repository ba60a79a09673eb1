/- RecpolyArithmetic: the walk. The law RecpolyArithmetic returns true at every input, without a panic, and leaves its arguments as they were; no conditions. -/
import Derived.Test.YtfbdckffjjladaaGreatMj
import Derived.Test.YtfbdckffjjladaaGreatMm
import Derived.Test.YtfbdckffjjladaaGreatMq
set_option linter.unusedVariables false
set_option linter.unusedSimpArgs false

namespace Go.Proofs.YtfbdckffjjladaaGreat
open Go.RowKit

end Go.Proofs.YtfbdckffjjladaaGreat

namespace Go.Proofs.YtfbdckffjjladaaGreat
open Go.ChangeShapes Go.WideShapes Go.ChangeAt Go.RowKit Go.Deep

namespace recpolyArithmetic
theorem own : ownKnob Tryz.prog.godebug = none := by kernel_rfl
end recpolyArithmetic
end Go.Proofs.YtfbdckffjjladaaGreat
