/- RecpolyArithmetic: the walk. The law RecpolyArithmetic returns true at every input, without a panic, and leaves its arguments as they were; no conditions. Regions that draw their order and hold a call of yield (an iterator's body). sparse: Terms, as an iterator. sparse: Level. sparse: Total. -/
import Derived.Test.YtmcfpnmoklnhoaaGreatMi
import Derived.Test.YtmcfpnmoklnhoaaGreatMm
import Derived.Test.YtmcfpnmoklnhoaaGreatMq
import Derived.RangeFuncNested
import Derived.RangeFuncBound
import Derived.RangeFuncCalls
import Derived.RangeFuncLeaves
import Derived.Shelf.Abstract
import Derived.Shelf.RegionOpen
import Derived.OwnWalkIn
import Derived.TacticsInMore
import Derived.LoopNIn
import Derived.LoopIn
set_option linter.unusedVariables false
set_option linter.unusedSimpArgs false

namespace Go.Proofs.YtmcfpnmoklnhoaaGreat
open Go.RowKit

end Go.Proofs.YtmcfpnmoklnhoaaGreat

namespace Go.Proofs.YtmcfpnmoklnhoaaGreat
open Go.ChangeShapes Go.WideShapes Go.ChangeAt Go.RowKit Go.Deep

namespace recpolyArithmetic
end recpolyArithmetic
end Go.Proofs.YtmcfpnmoklnhoaaGreat

namespace Go.Proofs.YtmcfpnmoklnhoaaGreat
open Go.RowKit

section
variable {P:Program} {ops:Array Oper} {Q:Exit->Act->World->Prop} {md:Region.Mode} {S:World->Prop} {y:Nat}
end



attribute [local go_sem] Oper.semAt_some

end Go.Proofs.YtmcfpnmoklnhoaaGreat

namespace Go.Proofs.YtmcfpnmoklnhoaaGreat
open Go.RowKit
attribute [local go_sem] Oper.semAt_some

end Go.Proofs.YtmcfpnmoklnhoaaGreat
