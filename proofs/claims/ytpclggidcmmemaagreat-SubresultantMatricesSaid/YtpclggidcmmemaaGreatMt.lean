/- The level of a canonical polynomial is that of its monomials. The law RecpolyOf returns true at every input, without a panic, and leaves its arguments as they were; no conditions. sparse: IsZero, Const; recpoly.Constant; cylinderref20: Valid, CompareMono. cylinderref20: CompareMono, Canonical. cylinderref20.Canonical at canonical polynomials. recpoly.Constant. The law RecpolyTo returns true at every input, without a panic, and leaves its arguments as they were; no conditions. -/
import Derived.Test.YtpclggidcmmemaaGreatMp
import Derived.Test.YtpclggidcmmemaaGreatMr
import Derived.Test.YtpclggidcmmemaaGreatMi
import Derived.Test.YtpclggidcmmemaaGreatMn
set_option linter.unusedVariables false
set_option linter.unusedSimpArgs false

namespace Go.Proofs.YtpclggidcmmemaaGreat
open Go.RowKit

end Go.Proofs.YtpclggidcmmemaaGreat

namespace Go.Proofs.YtpclggidcmmemaaGreat
open Go.ChangeShapes Go.WideShapes Go.ChangeAt Go.RowKit Go.Deep

theorem deg_of_exp {l : List Tm} {B : Nat} (h : ∀ s ∈ l, ∀ k, s.2.get k ≤ (B : Int)) : Deg B (norm l) := by
 intro m hm k
 refine Classical.byContradiction fun hc => hm (coefAt_zero fun s hs e => ?_)
 obtain ⟨t, ht, e2⟩ := norm_mem hs
 have := h t ht k
 rw [e2, e] at this
 omega
namespace recpolyOf
end recpolyOf
end Go.Proofs.YtpclggidcmmemaaGreat

namespace Go.Proofs.YtpclggidcmmemaaGreat
open Go.RowKit

def constL (c : Int) : List Tm := if c = 0 then [] else [(c, Mo.zero)]
end Go.Proofs.YtpclggidcmmemaaGreat

namespace Go.Proofs.YtpclggidcmmemaaGreat
open Go.RowKit

end Go.Proofs.YtpclggidcmmemaaGreat

namespace Go.Proofs.YtpclggidcmmemaaGreat
open Go.RowKit

def SCn (b o1 o2 : Nat) (m m' : Mo) (w : World) : Prop := (w.cell? ⟨b, o1, none⟩ = some (.int .i64 m.a) ∧ w.cell? ⟨b, o1 + 1, none⟩ = some (.int .i64 m.b) ∧ w.cell? ⟨b, o1 + 2, none⟩ = some (.int .i64 m.c) ∧ w.cell? ⟨b, o1 + 3, none⟩ = some (.int .i64 m.d)) ∧
 (w.cell? ⟨b, o2, none⟩ = some (.int .i64 m'.a) ∧ w.cell? ⟨b, o2 + 1, none⟩ = some (.int .i64 m'.b) ∧ w.cell? ⟨b, o2 + 2, none⟩ = some (.int .i64 m'.c) ∧ w.cell? ⟨b, o2 + 3, none⟩ = some (.int .i64 m'.d))
theorem SCn.ext {b o1 o2 : Nat} {m m' : Mo} {w w' : World} (h : SCn b o1 o2 m m' w) (he : Ext w w') : SCn b o1 o2 m m' w' := by
 have h1 := World.block_lt_of_cell? _ _ h.1.1
 unfold SCn; rw [he.cell h1, he.cell h1, he.cell h1, he.cell h1, he.cell h1, he.cell h1, he.cell h1, he.cell h1]; exact h
end Go.Proofs.YtpclggidcmmemaaGreat

namespace Go.Proofs.YtpclggidcmmemaaGreat
open Go.RowKit

end Go.Proofs.YtpclggidcmmemaaGreat

namespace Go.Proofs.YtpclggidcmmemaaGreat
open Go.ChangeShapes Go.WideShapes Go.ChangeAt Go.RowKit Go.Deep

theorem PolyO.ext {M : Nat → Prop} {B : Nat} {w w' : World} {v : Value} {l : List Tm} (h : PolyO M B w v l) (he : Ext w w') : PolyO M B w' v l := by
 obtain ⟨n, z, x, h1, h2, h3⟩ := h
 exact ⟨n, z, x, h1.ext he, fun i hi => (h2 i hi).ext he, h3⟩
namespace recpolyTo
end recpolyTo
end Go.Proofs.YtpclggidcmmemaaGreat
