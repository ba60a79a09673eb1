/- The level of a canonical polynomial is that of its monomials. The law RecpolyOf returns true at every input, without a panic, and leaves its arguments as they were; no conditions. -/
import Derived.Test.YtjcceddloogiiaaGreatMp
import Derived.Test.YtjcceddloogiiaaGreatMr
import Derived.Test.YtjcceddloogiiaaGreatMi
set_option linter.unusedVariables false
set_option linter.unusedSimpArgs false

namespace Go.Proofs.YtjcceddloogiiaaGreat
open Go.RowKit

end Go.Proofs.YtjcceddloogiiaaGreat

namespace Go.Proofs.YtjcceddloogiiaaGreat
open Go.ChangeShapes Go.WideShapes Go.ChangeAt Go.RowKit Go.Deep

theorem deg_of_exp {l : List Tm} {B : Nat} (h : ∀ s ∈ l, ∀ k, s.2.get k ≤ (B : Int)) : Deg B (norm l) := by
 intro m hm k
 refine Classical.byContradiction fun hc => hm (coefAt_zero fun s hs e => ?_)
 obtain ⟨t, ht, e2⟩ := norm_mem hs
 have := h t ht k
 rw [e2, e] at this
 omega
namespace recpolyOf
end recpolyOf
end Go.Proofs.YtjcceddloogiiaaGreat
