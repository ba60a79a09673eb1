/- cylinderref25.Rows. cylinderref25.Sylvester. cylinderref25.Minor. -/
import Derived.Test.YtjhhekmfdhfjpaaGreatQd
import Derived.Deep.Upon
import Derived.Deep.AppendLies
set_option linter.unusedVariables false
set_option linter.unusedSimpArgs false

namespace Go.Proofs.YtjhhekmfdhfjpaaGreat
open Go.RowKit

def PRowF (M : Nat → Prop) (base : Nat) (w : World) (v : Value) (n : Nat) (P : Nat → List Tm) : Prop := ∃ xx, Own w base 32 4 v n (px xx) ∧ ∀ j, j < n → CRx (MR M v) w 4 (xx j) (P j)
theorem PRowF.nil (M : Nat → Prop) (base : Nat) (w : World) (P : Nat → List Tm) : PRowF M base w (.slice none 0 0) 0 P := ⟨fun _ => PE.z, Own.nil _ _ _ _ _, fun j hj => absurd hj (Nat.not_lt_zero _)⟩
theorem Mat.low {M : Nat → Prop} {w : World} {base base' : Nat} {v : Value} {S N : Nat} {P : Nat → Nat → List Tm} (h : Mat M w base v S N P) (hb : base' ≤ base) : Mat M w base' v S N P := by
 obtain ⟨gs, cs, hO, h0, h2⟩ := h
 refine ⟨gs, cs, ?_, h0, fun k hk => ⟨Nat.le_trans hb (h2 k hk).1, (h2 k hk).2⟩⟩
 rcases hO with h | ⟨g, cap, F, h3, h4, h5⟩
 ·exact .inl h
 ·exact .inr ⟨g, cap, F, h3, Nat.le_trans hb h4, h5⟩
def SPwR (g : Nat) (x : PE) (gp t : Nat) (q : Int) (w : World) : Prop := P4 w g x ∧ w.cell? ⟨gp, t, none⟩ = some (.int .i64 q) ∧ gp < w.heap.size
theorem SPwR.ext {g : Nat} {x : PE} {gp t : Nat} {q : Int} {w w' : World} (h : SPwR g x gp t q w) (he : Ext w w') : SPwR g x gp t q w' := ⟨h.1.ext he, by rw [he.cell h.2.2]; exact h.2.1, Nat.lt_of_lt_of_le h.2.2 he.size⟩




end Go.Proofs.YtjhhekmfdhfjpaaGreat
