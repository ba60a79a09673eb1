/- cylinderlaw23.fit: the fixed example. -/
import Derived.Test.YtpclggidcmmemaaGreatDd
set_option linter.unusedVariables false
set_option linter.unusedSimpArgs false

namespace Go.Proofs.YtpclggidcmmemaaGreat
open Go.RowKit

def f23 : List Tm := [(1, ⟨1, 1, 0, 0⟩), (3, ⟨0, 0, 0, 0⟩)]
theorem Kids.cel {M : Nat → Prop} {w : World} {D g N : Nat} {P : Nat → List Tm} (h : Kids M w D g N P) (i : Nat) (hi : i < N) : ∃ y : PE, KCell w g (i * 4) y ∧ CRx M w D y (P i) := by
 obtain ⟨f, hB, hc⟩ := h
 obtain ⟨x, e0, e1, e2, e3, hx, _⟩ := (hc i hi).pe
 refine ⟨x, ⟨?_, ?_, ?_, ?_⟩, hx⟩
 ·rw [hB.cell (by omega), e0]
 ·rw [hB.cell (by omega), e1]
 ·rw [hB.cell (by omega), e2]
 ·rw [hB.cell (by omega), e3]
theorem Kids.lt {M : Nat → Prop} {w : World} {D g N : Nat} {P : Nat → List Tm} (h : Kids M w D g N P) : g < w.heap.size := by
 obtain ⟨f, hB, _⟩ := h; exact hB.lt
def S23 (g b : Nat) (z p : PE) (w : World) : Prop := KCell w g 4 z ∧ P4 w b p
theorem S23.ext {g b : Nat} {z p : PE} {w w' : World} (h : S23 g b z p w) (he : Ext w w') : S23 g b z p w' := ⟨h.1.ext (World.block_lt_of_cell? _ _ h.1.1) he, h.2.ext he⟩
end Go.Proofs.YtpclggidcmmemaaGreat
