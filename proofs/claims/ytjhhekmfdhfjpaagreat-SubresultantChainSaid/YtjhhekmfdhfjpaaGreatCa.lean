/- Plain facts on division, second part: sign normal forms of multiples, inexact divisions, degrees of products, the lemma of Gauss. The lemma of Gauss: a primitive polynomial that divides a multiple by a number divides the polynomial. -/
import Derived.Test.YtjhhekmfdhfjpaaGreatBj
set_option linter.unusedVariables false
set_option linter.unusedSimpArgs false

namespace Go.Proofs.YtjhhekmfdhfjpaaGreat

theorem dgr_ex {k : Nat} {l : List Tm} (hl : NN l) : ∃ n, DgR k l n := by
 have hs := nn_norm_sim hl
 by_cases hn : norm l = []
 ·refine ⟨0, fun m hm => absurd ?_ hm, .inl rfl⟩
  rw [← hs m, hn]; rfl
 obtain ⟨e, he, hx⟩ := max_exp k (all_nn_norm l)
 refine ⟨e, fun m hm => ?_, .inr ?_⟩
 ·rw [← hs m] at hm
  obtain ⟨s, hs', e2⟩ : ∃ s ∈ norm l, s.2 = m := Classical.byContradiction fun hcc => hm (coefAt_zero fun t ht e => hcc ⟨t, ht, e⟩)
  rw [← e2]; exact he s hs'
 ·obtain ⟨s, hs', e2⟩ := hx.resolve_left hn
  exact ⟨s.2, by rw [← hs s.2]; exact canon_coef_ne (norm_canon l) hs', e2⟩


def nd (p : Int) (l : List Tm) : List Tm := l.filter fun t => !decide (p ∣ t.1)
end Go.Proofs.YtjhhekmfdhfjpaaGreat
