/- mainvar.OfLevel; cylinderlaw23.equal. MainvarOfLevel: the walk. -/
import Derived.Test.YtfbdckffjjladaaGreatDl
set_option linter.unusedVariables false
set_option linter.unusedSimpArgs false

namespace Go.Proofs.YtfbdckffjjladaaGreat
open Go.RowKit

def SK2 (b1 o1 b2 o2 : Nat) (x y : PE) (w : World) : Prop := KCell w b1 o1 x ∧ KCell w b2 o2 y
theorem SK2.ext {b1 o1 b2 o2 : Nat} {x y : PE} {w w' : World} (h : SK2 b1 o1 b2 o2 x y w) (he : Ext w w') : SK2 b1 o1 b2 o2 x y w' := ⟨h.1.ext (World.block_lt_of_cell? _ _ h.1.1) he, h.2.ext (World.block_lt_of_cell? _ _ h.2.1) he⟩
def lvl (l : List Tm) : Nat := lvM (l.map (·.2))
def RetOl (M : Nat → Prop) (w : World) (N : Nat) (P : Nat → List Tm) (L : Int) (e : Ending) (w' : World) : Prop := ∃ (a : Option Addr) (c p : Nat) (σ : Nat → Nat), e = .returned (.slice a c p) ∧ Sel (fun i => decide ((lvl (norm (P i)) : Int) = L)) N c σ ∧ KRow M w' 4 (.slice a c p) c (fun i => norm (P (σ i))) ∧ Ext w w'
end Go.Proofs.YtfbdckffjjladaaGreat

namespace Go.Proofs.YtfbdckffjjladaaGreat
open Go.RowKit

theorem Sel.cnt {nz : Nat → Bool} {k c : Nat} {σ : Nat → Nat} (h : Sel nz k c σ) : c = ((List.range k).filter nz).length := by
 have := congrArg List.length h
 simpa using this
theorem Sel.uniq {nz : Nat → Bool} {k c c' : Nat} {σ σ' : Nat → Nat} (h : Sel nz k c σ) (h' : Sel nz k c' σ') : c = c' ∧ ∀ i, i < c → σ i = σ' i := by
 have hc : c = c' := by rw [h.cnt, h'.cnt]
 subst hc
 refine ⟨rfl, fun i hi => ?_⟩
 have e : (List.range c).map σ = (List.range c).map σ' := by unfold Sel at h h'; rw [h, h']
 have := congrArg (fun l => l[i]?) e
 simpa [hi] using this
def cntLt (P : Nat → Nat) (n k : Nat) : Nat := ((List.range n).filter fun i => decide (P i < k)).length
end Go.Proofs.YtfbdckffjjladaaGreat
