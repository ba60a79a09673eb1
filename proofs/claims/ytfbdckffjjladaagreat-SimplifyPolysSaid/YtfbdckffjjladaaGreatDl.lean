/- Arguments of the type []sparse.Poly, opened. cylinderlaw23.list. -/
import Derived.Test.YtfbdckffjjladaaGreatMr
import Derived.Test.YtfbdckffjjladaaGreatDe
import Derived.Test.YtfbdckffjjladaaGreatDi
set_option linter.unusedVariables false
set_option linter.unusedSimpArgs false

namespace Go.Proofs.YtfbdckffjjladaaGreat
open Go.ChangeShapes Go.WideShapes Go.ChangeAt Go.RowKit Go.Deep

section
variable {H : Type} {enc : TypeId × Value → H} {W : World}
def PsRaw (W : World) (a : Option Addr) (n cap : Nat) (Y : Nat → SE) : Prop := n ≤ cap ∧ cap ≤ maxLen ∧ ∀ i, i < n → ∃ b off, a = some ⟨b, off, none⟩ ∧ b < W.heap.size ∧ W.cell? ⟨b, off + i, none⟩ = some (.slice (Y i).a (Y i).n (Y i).p) ∧ ∃ X, PRaw W (Y i).a (Y i).n (Y i).p X
end
end Go.Proofs.YtfbdckffjjladaaGreat

namespace Go.Proofs.YtfbdckffjjladaaGreat
open Go.RowKit

def LsP (w : World) (y : SE) (l : List Tm) : Prop := PolyV M0 w (sv y) l ∧ Sm23 (norm l) ∧ dlen (nrm l) ≤ 7 ∧ (∀ s ∈ l, ∀ k, s.2.get k ≤ 1073741824) ∧ l.length ≤ 8
theorem PsRaw.ext {W W' : World} {a : Option Addr} {n cap : Nat} {Y : Nat → SE} (h : PsRaw W a n cap Y) (he : Ext W W') (i : Nat) (hi : i < n) : ∃ b off, a = some ⟨b, off, none⟩ ∧ b < W'.heap.size ∧ W'.cell? ⟨b, off + i, none⟩ = some (.slice (Y i).a (Y i).n (Y i).p) ∧ ∃ X, TRaw W' (Y i).a (Y i).n (Y i).p X ∧ PRaw W (Y i).a (Y i).n (Y i).p X := by
 obtain ⟨b, off, h1, h2, h3, X, h4⟩ := h.2.2 i hi
 exact ⟨b, off, h1, Nat.lt_of_lt_of_le h2 he.size, by rw [he.cell h2]; exact h3, X, h4.1.ext he, h4⟩
def RetLs (w : World) (n most : Nat) (Y : Nat → SE) (e : Ending) (w' : World) : Prop :=
 (e = .returned (.tuple #[.slice none 0 0, .bool false]) ∨ ∃ (a : Option Addr) (p : Nat) (P : Nat → List Tm), e = .returned (.tuple #[.slice a n p, .bool true]) ∧ n ≤ most ∧ (∀ i, i < n → LsP w (Y i) (P i)) ∧ KRow M0 w' 4 (.slice a n p) n fun i => norm (P i)) ∧ Ext w w'
end Go.Proofs.YtfbdckffjjladaaGreat
