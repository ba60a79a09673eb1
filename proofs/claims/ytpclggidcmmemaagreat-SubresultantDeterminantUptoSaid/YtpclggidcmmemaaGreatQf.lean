/- cylinderlaw25: inner, degrees, equal. -/
import Derived.Test.YtpclggidcmmemaaGreatQe
set_option linter.unusedVariables false
set_option linter.unusedSimpArgs false

namespace Go.Proofs.YtpclggidcmmemaaGreat
open Go.RowKit

def MatV (M : Nat → Prop) (w : World) (v : Value) (S N : Nat) (P : Nat → Nat → List Tm) : Prop := ∃ (gs cs : Nat → Nat) (a : Option Addr) (cap : Nat), v = .slice a S cap ∧ S ≤ cap ∧ ∀ k, k < S → ∃ g, a = some ⟨g, 0, none⟩ ∧ g < w.heap.size ∧ w.cell? ⟨g, k, none⟩ = some (.slice (some ⟨gs k, 0, none⟩) N (cs k)) ∧ KidC M w (gs k) N (cs k) (P k)
theorem MatV.ext {M : Nat → Prop} {w w' : World} {v : Value} {S N : Nat} {P : Nat → Nat → List Tm} (h : MatV M w v S N P) (he : Ext w w') : MatV M w' v S N P := by
 obtain ⟨gs, cs, a, cap, rfl, hc, h⟩ := h
 refine ⟨gs, cs, a, cap, rfl, hc, fun k hk => ?_⟩
 obtain ⟨g, h1, h2, h3, h4⟩ := h k hk
 exact ⟨g, h1, Nat.lt_of_lt_of_le h2 he.size, by rw [he.cell h2]; exact h3, h4.ext he⟩
def SE2 (ga gb k : Nat) (u v : Value) (w : World) : Prop := (w.cell? ⟨ga, k, none⟩ = some u ∧ ga < w.heap.size) ∧ w.cell? ⟨gb, k, none⟩ = some v ∧ gb < w.heap.size
theorem SE2.ext {ga gb k : Nat} {u v : Value} {w w' : World} (h : SE2 ga gb k u v w) (he : Ext w w') : SE2 ga gb k u v w' := ⟨⟨by rw [he.cell h.1.2]; exact h.1.1, Nat.lt_of_lt_of_le h.1.2 he.size⟩, by rw [he.cell h.2.2]; exact h.2.1, Nat.lt_of_lt_of_le h.2.2 he.size⟩
def SE4 (ga gb k : Nat) (u v : Value) (g1 g2 o : Nat) (x y : PE) (w : World) : Prop := SE2 ga gb k u v w ∧ (KCell w g1 o x ∧ g1 < w.heap.size) ∧ KCell w g2 o y ∧ g2 < w.heap.size
theorem SE4.ext {ga gb k : Nat} {u v : Value} {g1 g2 o : Nat} {x y : PE} {w w' : World} (h : SE4 ga gb k u v g1 g2 o x y w) (he : Ext w w') : SE4 ga gb k u v g1 g2 o x y w' := ⟨h.1.ext he, ⟨h.2.1.1.ext h.2.1.2 he, Nat.lt_of_lt_of_le h.2.1.2 he.size⟩, h.2.2.1.ext h.2.2.2 he, Nat.lt_of_lt_of_le h.2.2.2 he.size⟩
end Go.Proofs.YtpclggidcmmemaaGreat
