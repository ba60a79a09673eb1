/- cylinderref25.Rows. cylinderref25.Sylvester. cylinderref25.Minor. -/
import Derived.Test.YtpclggidcmmemaaGreatQd
import Derived.Deep.Upon
import Derived.Deep.AppendLies
set_option linter.unusedVariables false
set_option linter.unusedSimpArgs false

namespace Go.Proofs.YtpclggidcmmemaaGreat
open Go.RowKit

def PRowF (M : Nat → Prop) (base : Nat) (w : World) (v : Value) (n : Nat) (P : Nat → List Tm) : Prop := ∃ xx, Own w base 33 4 v n (px xx) ∧ ∀ j, j < n → CRx (MR M v) w 4 (xx j) (P j)
theorem PRowF.nil (M : Nat → Prop) (base : Nat) (w : World) (P : Nat → List Tm) : PRowF M base w (.slice none 0 0) 0 P := ⟨fun _ => PE.z, Own.nil _ _ _ _ _, fun j hj => absurd hj (Nat.not_lt_zero _)⟩
theorem PRowF.push {M : Nat → Prop} {base : Nat} {w w' : World} {va : Option Addr} {vc n : Nat} {P : Nat → List Tm} {xx : Nat → PE} {y : PE} {g cap : Nat} (hx : ∀ j, j < n → CRx (MR M (.slice va n vc)) w 4 (xx j) (P j)) (hy : CRx (MR M (.slice va n vc)) w 4 y (P n))
  (hO : Own w' base 33 4 (.slice (some ⟨g, 0, none⟩) (n + 1) cap) (n + 1) (app (px xx) (n * 4) (arr (peA y)))) (hg : w.grownBy w' (Value.slice va n vc).ownBlock) (hat : (Value.slice va n vc).ownBlock = some g ∨ w.heap.size ≤ g) :
  PRowF M base w' (.slice (some ⟨g, 0, none⟩) (n + 1) cap) (n + 1) P := by
 refine ⟨snoc xx n y, hO.congr fun j hj => px_app xx n y j hj, fun j hj => ?_⟩
 by_cases hjn : j = n
 ·subst hjn
  rw [snoc_at]
  exact keep_grownC hy hg hat
 ·rw [snoc_lt _ _ _ _ (by omega)]
  exact keep_grownC (hx j (by omega)) hg hat
theorem PRowF.kidC {M : Nat → Prop} {base : Nat} {w : World} {v : Value} {n : Nat} {P : Nat → List Tm} (h : PRowF M base w v n P) (h0 : 0 < n) : ∃ g c, v = .slice (some ⟨g, 0, none⟩) n c ∧ base ≤ g ∧ KidC M w g n c P := by
 obtain ⟨xx, hO, hX⟩ := h
 obtain ⟨g, c, F, rfl, hb, hB, hc, hm, hF⟩ := hO.some h0
 refine ⟨g, c, rfl, hb, ⟨hc, hm⟩, F, hB, fun i hi => ?_⟩
 rw [hF _ (by omega), hF _ (by omega), hF _ (by omega), hF _ (by omega), px0, px1, px2, px3]
 exact (hX i hi).more fun b hb => .inl (.inl hb)
def SPwR (g : Nat) (x : PE) (gp t : Nat) (q : Int) (w : World) : Prop := P4 w g x ∧ w.cell? ⟨gp, t, none⟩ = some (.int .i64 q) ∧ gp < w.heap.size
theorem SPwR.ext {g : Nat} {x : PE} {gp t : Nat} {q : Int} {w w' : World} (h : SPwR g x gp t q w) (he : Ext w w') : SPwR g x gp t q w' := ⟨h.1.ext he, by rw [he.cell h.2.2]; exact h.2.1, Nat.lt_of_lt_of_le h.2.2 he.size⟩
end Go.Proofs.YtpclggidcmmemaaGreat

namespace Go.Proofs.YtpclggidcmmemaaGreat
open Go.RowKit

end Go.Proofs.YtpclggidcmmemaaGreat

namespace Go.Proofs.YtpclggidcmmemaaGreat
open Go.RowKit

end Go.Proofs.YtpclggidcmmemaaGreat
