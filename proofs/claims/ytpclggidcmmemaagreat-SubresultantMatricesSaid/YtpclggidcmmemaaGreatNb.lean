/- division.divide: plain facts of one round. division.divide: the walk. division.divide by two digits and more. division: divide, isZero, Quo. division.Gcd. The cells of integers. -/
import Derived.Test.YtpclggidcmmemaaGreatNa
import Derived.Scope
set_option linter.unusedVariables false
set_option linter.unusedSimpArgs false

namespace Go.Proofs.YtpclggidcmmemaaGreat
open Go.RowKit

end Go.Proofs.YtpclggidcmmemaaGreat

namespace Go.Proofs.YtpclggidcmmemaaGreat
open Go.RowKit

end Go.Proofs.YtpclggidcmmemaaGreat

namespace Go.Proofs.YtpclggidcmmemaaGreat
open Go.RowKit

structure DvS (gu j n bV oV : Nat) (U V : Nat → Nat) (w : World) : Prop where
 a : w.cell? ⟨gu, j + n, none⟩ = some (.int .u32 (U (j + n)))
 b : w.cell? ⟨gu, j + (n - 1), none⟩ = some (.int .u32 (U (j + (n - 1))))
 c : w.cell? ⟨gu, j + (n - 2), none⟩ = some (.int .u32 (U (j + (n - 2))))
 d : w.cell? ⟨bV, oV + (n - 1), none⟩ = some (.int .u32 (V (n - 1)))
 e : w.cell? ⟨bV, oV + (n - 2), none⟩ = some (.int .u32 (V (n - 2)))
theorem DvS.ext {gu j n bV oV : Nat} {U V : Nat → Nat} {w w' : World} (h : DvS gu j n bV oV U V w) (he : Ext w w') : DvS gu j n bV oV U V w' := by
 have h1 := World.block_lt_of_cell? _ _ h.a
 have h2 := World.block_lt_of_cell? _ _ h.d
 exact ⟨by rw [he.cell h1]; exact h.a, by rw [he.cell h1]; exact h.b, by rw [he.cell h1]; exact h.c, by rw [he.cell h2]; exact h.d, by rw [he.cell h2]; exact h.e⟩
end Go.Proofs.YtpclggidcmmemaaGreat

namespace Go.Proofs.YtpclggidcmmemaaGreat
open Go.RowKit

def SSgn (g h : Nat) (b b' : Bool) (w : World) : Prop := w.cell? ⟨g, 0, none⟩ = some (.bool b) ∧ w.cell? ⟨h, 0, none⟩ = some (.bool b')
theorem SSgn.ext {g h : Nat} {b b' : Bool} {w w' : World} (k : SSgn g h b b' w) (he : Ext w w') : SSgn g h b b' w' := by
 have h1 := World.block_lt_of_cell? _ _ k.1
 have h2 := World.block_lt_of_cell? _ _ k.2
 exact ⟨by rw [he.cell h1]; exact k.1, by rw [he.cell h2]; exact k.2⟩
end Go.Proofs.YtpclggidcmmemaaGreat

namespace Go.Proofs.YtpclggidcmmemaaGreat
open Go.RowKit

def SAbs (g h : Nat) (v v' : Value) (w : World) : Prop := w.cell? ⟨g, 1, none⟩ = some v ∧ w.cell? ⟨h, 1, none⟩ = some v'
theorem SAbs.ext {g h : Nat} {v v' : Value} {w w' : World} (k : SAbs g h v v' w) (he : Ext w w') : SAbs g h v v' w' := by
 have h1 := World.block_lt_of_cell? _ _ k.1
 have h2 := World.block_lt_of_cell? _ _ k.2
 exact ⟨by rw [he.cell h1]; exact k.1, by rw [he.cell h2]; exact k.2⟩
theorem NatC.slice {M : Nat → Prop} {w : World} {v : Value} {x : Nat} (h : NatC M w v x) : ∃ a p, v = .slice a (dlen x) p := by
 obtain ⟨d, h1, _⟩ := h.len
 obtain ⟨a, p, rfl⟩ := natr_slice h1
 exact ⟨a, p, rfl⟩
end Go.Proofs.YtpclggidcmmemaaGreat

namespace Go.Proofs.YtpclggidcmmemaaGreat
open Go.RowKit

structure I4 where
 b : Bool
 a : Option Addr
 n : Nat
 p : Nat
def C2 (g : Nat) (x : I4) (w : World) : Prop := w.cell? ⟨g, 0, none⟩ = some (.bool x.b) ∧ w.cell? ⟨g, 1, none⟩ = some (.slice x.a x.n x.p)
theorem C2.ext {g : Nat} {x : I4} {w w' : World} (k : C2 g x w) (he : Ext w w') : C2 g x w' := by
 have h1 := World.block_lt_of_cell? _ _ k.1
 exact ⟨by rw [he.cell h1]; exact k.1, by rw [he.cell h1]; exact k.2⟩
end Go.Proofs.YtpclggidcmmemaaGreat
