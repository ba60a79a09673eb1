/- Arguments of the type []sparse.Poly, opened. cylinderlaw23.list. -/
import Derived.Test.YtodiphjjdheoaaaGreatMr
import Derived.Test.YtodiphjjdheoaaaGreatDe
import Derived.Test.YtodiphjjdheoaaaGreatDi
set_option linter.unusedVariables false
set_option linter.unusedSimpArgs false

namespace Go.Proofs.YtodiphjjdheoaaaGreat
open Go.ChangeShapes Go.WideShapes Go.ChangeAt Go.RowKit Go.Deep

section
variable {H : Type} {enc : TypeId × Value → H} {W : World}
def PsRaw (W : World) (a : Option Addr) (n cap : Nat) (Y : Nat → SE) : Prop := n ≤ cap ∧ cap ≤ maxLen ∧ ∀ i, i < n → ∃ b off, a = some ⟨b, off, none⟩ ∧ b < W.heap.size ∧ W.cell? ⟨b, off + i, none⟩ = some (.slice (Y i).a (Y i).n (Y i).p) ∧ ∃ X, PRaw W (Y i).a (Y i).n (Y i).p X
end
end Go.Proofs.YtodiphjjdheoaaaGreat

namespace Go.Proofs.YtodiphjjdheoaaaGreat
open Go.RowKit

theorem PsRaw.ext {W W' : World} {a : Option Addr} {n cap : Nat} {Y : Nat → SE} (h : PsRaw W a n cap Y) (he : Ext W W') (i : Nat) (hi : i < n) : ∃ b off, a = some ⟨b, off, none⟩ ∧ b < W'.heap.size ∧ W'.cell? ⟨b, off + i, none⟩ = some (.slice (Y i).a (Y i).n (Y i).p) ∧ ∃ X, TRaw W' (Y i).a (Y i).n (Y i).p X ∧ PRaw W (Y i).a (Y i).n (Y i).p X := by
 obtain ⟨b, off, h1, h2, h3, X, h4⟩ := h.2.2 i hi
 exact ⟨b, off, h1, Nat.lt_of_lt_of_le h2 he.size, by rw [he.cell h2]; exact h3, X, h4.1.ext he, h4⟩
end Go.Proofs.YtodiphjjdheoaaaGreat
