/- MainvarFamily: the walk. -/
import Derived.Test.YtodiphjjdheoaaaGreatGa
set_option linter.unusedVariables false
set_option linter.unusedSimpArgs false

namespace Go.Proofs.YtodiphjjdheoaaaGreat
open Go.RowKit

def SBK (b : Nat) (x : PE) (bf o : Nat) (y : PE) (w : World) : Prop := P4 w b x ∧ KCell w bf o y
theorem SBK.ext {b bf o : Nat} {x y : PE} {w w' : World} (h : SBK b x bf o y w) (he : Ext w w') : SBK b x bf o y w' := ⟨h.1.ext he, h.2.ext (World.block_lt_of_cell? _ _ h.2.1) he⟩
def SKC (b o : Nat) (x : PE) (w : World) : Prop := KCell w b o x
theorem SKC.ext {b o : Nat} {x : PE} {w w' : World} (h : SKC b o x w) (he : Ext w w') : SKC b o x w' := KCell.ext h (World.block_lt_of_cell? _ _ h.1) he
end Go.Proofs.YtodiphjjdheoaaaGreat
