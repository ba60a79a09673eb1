/- the fixed example of cylinderlaw24: plain facts. cylinderlaw24.fit: the walk. -/
import Derived.Test.YtpclggidcmmemaaGreatBh
import Derived.Test.YtpclggidcmmemaaGreatMu
import Derived.Test.YtpclggidcmmemaaGreatMt
set_option linter.unusedVariables false
set_option linter.unusedSimpArgs false

namespace Go.Proofs.YtpclggidcmmemaaGreat
open Go.RowKit

theorem sim_of_norm {l r : List Tm} (hl : NN l) (hr : NN r) (h : norm l = norm r) : Sim l r := by
 have h1 := nn_norm_sim hl
 have h2 := nn_norm_sim hr
 rw [← h] at h2
 exact h1.symm.trans h2
theorem deg_list {l : List Tm} {B : Nat} (hl : NN l) (h : ∀ s ∈ l, s.2.a ≤ B ∧ s.2.b ≤ B ∧ s.2.c ≤ B ∧ s.2.d ≤ B) : Deg B l := by
 refine (deg_of_exp (B := B) fun s hs k => ?_).sim (nn_norm_sim hl)
 obtain ⟨h1, h2, h3, h4⟩ := h s hs
 unfold Mo.get
 repeat' split
 all_goals omega
end Go.Proofs.YtpclggidcmmemaaGreat

namespace Go.Proofs.YtpclggidcmmemaaGreat
open Go.RowKit

def SFt (g1 g2 : Nat) (x y : PE) (w : World) : Prop := P4 w g1 x ∧ P4 w g2 y
theorem SFt.ext {g1 g2 : Nat} {x y : PE} {w w' : World} (h : SFt g1 g2 x y w) (he : Ext w w') : SFt g1 g2 x y w' := ⟨h.1.ext he, h.2.ext he⟩
def SF3 (g1 g2 g3 : Nat) (x y v : PE) (w : World) : Prop := P4 w g1 x ∧ P4 w g2 y ∧ P4 w g3 v
theorem SF3.ext {g1 g2 g3 : Nat} {x y v : PE} {w w' : World} (h : SF3 g1 g2 g3 x y v w) (he : Ext w w') : SF3 g1 g2 g3 x y v w' := ⟨h.1.ext he, h.2.1.ext he, h.2.2.ext he⟩
end Go.Proofs.YtpclggidcmmemaaGreat
