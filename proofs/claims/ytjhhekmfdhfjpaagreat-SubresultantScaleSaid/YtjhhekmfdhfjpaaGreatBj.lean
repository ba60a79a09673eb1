/- the fixed example of cylinderlaw24: plain facts. cylinderlaw24.fit: the walk. -/
import Derived.Test.YtjhhekmfdhfjpaaGreatBh
import Derived.Test.YtjhhekmfdhfjpaaGreatMu
import Derived.Test.YtjhhekmfdhfjpaaGreatMt
set_option linter.unusedVariables false
set_option linter.unusedSimpArgs false

namespace Go.Proofs.YtjhhekmfdhfjpaaGreat
open Go.RowKit

theorem sim_of_norm {l r : List Tm} (hl : NN l) (hr : NN r) (h : norm l = norm r) : Sim l r := by
 have h1 := nn_norm_sim hl
 have h2 := nn_norm_sim hr
 rw [← h] at h2
 exact h1.symm.trans h2
theorem deg_list {l : List Tm} {B : Nat} (hl : NN l) (h : ∀ s ∈ l, s.2.a ≤ B ∧ s.2.b ≤ B ∧ s.2.c ≤ B ∧ s.2.d ≤ B) : Deg B l := by
 refine (deg_of_exp (B := B) fun s hs k => ?_).sim (nn_norm_sim hl)
 obtain ⟨h1, h2, h3, h4⟩ := h s hs
 unfold Mo.get
 repeat' split
 all_goals omega


end Go.Proofs.YtjhhekmfdhfjpaaGreat
