/- mainvar.OfLevel; cylinderlaw23.equal. MainvarOfLevel: the walk. -/
import Derived.Test.YtodiphjjdheoaaaGreatDl
set_option linter.unusedVariables false
set_option linter.unusedSimpArgs false

namespace Go.Proofs.YtodiphjjdheoaaaGreat
open Go.RowKit

def SK2 (b1 o1 b2 o2 : Nat) (x y : PE) (w : World) : Prop := KCell w b1 o1 x ∧ KCell w b2 o2 y
theorem SK2.ext {b1 o1 b2 o2 : Nat} {x y : PE} {w w' : World} (h : SK2 b1 o1 b2 o2 x y w) (he : Ext w w') : SK2 b1 o1 b2 o2 x y w' := ⟨h.1.ext (World.block_lt_of_cell? _ _ h.1.1) he, h.2.ext (World.block_lt_of_cell? _ _ h.2.1) he⟩
end Go.Proofs.YtodiphjjdheoaaaGreat

namespace Go.Proofs.YtodiphjjdheoaaaGreat
open Go.RowKit

end Go.Proofs.YtodiphjjdheoaaaGreat
