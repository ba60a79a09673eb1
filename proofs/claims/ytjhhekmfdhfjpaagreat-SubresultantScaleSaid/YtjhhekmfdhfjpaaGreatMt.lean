/- The level of a canonical polynomial is that of its monomials. The law RecpolyOf returns true at every input, without a panic, and leaves its arguments as they were; no conditions. sparse: IsZero, Const; recpoly.Constant; cylinderref20: Valid, CompareMono. cylinderref20: CompareMono, Canonical. cylinderref20.Canonical at canonical polynomials. recpoly.Constant. The law RecpolyTo returns true at every input, without a panic, and leaves its arguments as they were; no conditions. -/
import Derived.Test.YtjhhekmfdhfjpaaGreatMp
import Derived.Test.YtjhhekmfdhfjpaaGreatMr
import Derived.Test.YtjhhekmfdhfjpaaGreatMi
import Derived.Test.YtjhhekmfdhfjpaaGreatMn
set_option linter.unusedVariables false
set_option linter.unusedSimpArgs false

namespace Go.Proofs.YtjhhekmfdhfjpaaGreat
open Go.RowKit

end Go.Proofs.YtjhhekmfdhfjpaaGreat

namespace Go.Proofs.YtjhhekmfdhfjpaaGreat
open Go.ChangeShapes Go.WideShapes Go.ChangeAt Go.RowKit Go.Deep

theorem deg_of_exp {l : List Tm} {B : Nat} (h : ∀ s ∈ l, ∀ k, s.2.get k ≤ (B : Int)) : Deg B (norm l) := by
 intro m hm k
 refine Classical.byContradiction fun hc => hm (coefAt_zero fun s hs e => ?_)
 obtain ⟨t, ht, e2⟩ := norm_mem hs
 have := h t ht k
 rw [e2, e] at this
 omega
namespace recpolyOf
end recpolyOf
end Go.Proofs.YtjhhekmfdhfjpaaGreat

namespace Go.Proofs.YtjhhekmfdhfjpaaGreat
open Go.RowKit







end Go.Proofs.YtjhhekmfdhfjpaaGreat

namespace Go.Proofs.YtjhhekmfdhfjpaaGreat
open Go.ChangeShapes Go.WideShapes Go.ChangeAt Go.RowKit Go.Deep

namespace recpolyTo
end recpolyTo
end Go.Proofs.YtjhhekmfdhfjpaaGreat
