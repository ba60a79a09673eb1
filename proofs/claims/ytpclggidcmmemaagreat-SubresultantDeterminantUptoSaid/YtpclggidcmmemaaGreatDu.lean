/- mainvar.Derivative. -/
import Derived.Test.YtpclggidcmmemaaGreatDh
set_option linter.unusedVariables false
set_option linter.unusedSimpArgs false

namespace Go.Proofs.YtpclggidcmmemaaGreat
open Go.RowKit

def SKd (g o : Nat) (y : PE) (w : World) : Prop := KCell w g o y ∧ g < w.heap.size
theorem SKd.ext {g o : Nat} {y : PE} {w w' : World} (h : SKd g o y w) (he : Ext w w') : SKd g o y w' := ⟨h.1.ext h.2 he, Nat.lt_of_lt_of_le h.2 he.size⟩
end Go.Proofs.YtpclggidcmmemaaGreat
