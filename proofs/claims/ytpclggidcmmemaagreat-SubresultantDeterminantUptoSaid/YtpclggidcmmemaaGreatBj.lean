/- the fixed example of cylinderlaw24: plain facts. cylinderlaw24.fit: the walk. -/
import Derived.Test.YtpclggidcmmemaaGreatBh
import Derived.Test.YtpclggidcmmemaaGreatMu
import Derived.Test.YtpclggidcmmemaaGreatMt
set_option linter.unusedVariables false
set_option linter.unusedSimpArgs false

namespace Go.Proofs.YtpclggidcmmemaaGreat
open Go.RowKit

theorem sim_of_norm {l r : List Tm} (hl : NN l) (hr : NN r) (h : norm l = norm r) : Sim l r := by
 have h1 := nn_norm_sim hl
 have h2 := nn_norm_sim hr
 rw [← h] at h2
 exact h1.symm.trans h2
theorem deg_list {l : List Tm} {B : Nat} (hl : NN l) (h : ∀ s ∈ l, s.2.a ≤ B ∧ s.2.b ≤ B ∧ s.2.c ≤ B ∧ s.2.d ≤ B) : Deg B l := by
 refine (deg_of_exp (B := B) fun s hs k => ?_).sim (nn_norm_sim hl)
 obtain ⟨h1, h2, h3, h4⟩ := h s hs
 unfold Mo.get
 repeat' split
 all_goals omega
theorem cancel {q p g : List Tm} (hq : NN q) (hp : NN p) (hg : NN g) (hz : ¬ Sim g []) (h : Sim (pmul q g) (pmul p g)) : Sim q p := by
 have hN : NN (q ++ negL p) := hq.append (negL_nn hp)
 have h1 : Sim (pmul (q ++ negL p) g) [] := fun m => by
  rw [pmul_append_left, coefAt_append]
  have a1 := h m
  have a2 := (Sim.pmul_assoc p [(-1, Mo.zero)] g) m
  have a3 := ((Sim.pmul_comm [(-1, Mo.zero)] g).pmul_right p) m
  have a4 := (Sim.pmul_assoc p g [(-1, Mo.zero)]) m
  have a5 := negL_coef (pmul p g) m
  show _ = (0 : Int)
  simp only [negL] at a5 ⊢
  omega
 have h2 : Sim (q ++ negL p) [] := Classical.byContradiction fun hc => pmul_ne hN hg hc hz h1
 exact fun m => by
  have := h2 m
  rw [coefAt_append, negL_coef] at this
  have e : coefAt [] m = 0 := rfl
  omega
end Go.Proofs.YtpclggidcmmemaaGreat

namespace Go.Proofs.YtpclggidcmmemaaGreat
open Go.RowKit

def SFt (g1 g2 : Nat) (x y : PE) (w : World) : Prop := P4 w g1 x ∧ P4 w g2 y
theorem SFt.ext {g1 g2 : Nat} {x y : PE} {w w' : World} (h : SFt g1 g2 x y w) (he : Ext w w') : SFt g1 g2 x y w' := ⟨h.1.ext he, h.2.ext he⟩
def SF3 (g1 g2 g3 : Nat) (x y v : PE) (w : World) : Prop := P4 w g1 x ∧ P4 w g2 y ∧ P4 w g3 v
theorem SF3.ext {g1 g2 g3 : Nat} {x y v : PE} {w w' : World} (h : SF3 g1 g2 g3 x y v w) (he : Ext w w') : SF3 g1 g2 g3 x y v w' := ⟨h.1.ext he, h.2.1.ext he, h.2.2.ext he⟩
end Go.Proofs.YtpclggidcmmemaaGreat
