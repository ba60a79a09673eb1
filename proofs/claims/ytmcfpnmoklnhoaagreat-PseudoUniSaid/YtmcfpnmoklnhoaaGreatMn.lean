/- RecpolyArithmetic: the walk. The law RecpolyArithmetic returns true at every input, without a panic, and leaves its arguments as they were; no conditions. -/
import Derived.Test.YtmcfpnmoklnhoaaGreatMi
import Derived.Test.YtmcfpnmoklnhoaaGreatMm
import Derived.Test.YtmcfpnmoklnhoaaGreatMq
set_option linter.unusedVariables false
set_option linter.unusedSimpArgs false

namespace Go.Proofs.YtmcfpnmoklnhoaaGreat
open Go.RowKit

end Go.Proofs.YtmcfpnmoklnhoaaGreat

namespace Go.Proofs.YtmcfpnmoklnhoaaGreat
open Go.ChangeShapes Go.WideShapes Go.ChangeAt Go.RowKit Go.Deep

namespace recpolyArithmetic
theorem own:ownKnob Tryz.prog.godebug=none:=by kernel_rfl
end recpolyArithmetic
end Go.Proofs.YtmcfpnmoklnhoaaGreat
