/- Plain facts: degrees, leading coefficients and levels of products; the small functions of cylinderlaw23. MainvarProduct: the walk. -/
import Derived.Test.YtjhhekmfdhfjpaaGreatDh
import Derived.Test.YtjhhekmfdhfjpaaGreatMt
set_option linter.unusedVariables false
set_option linter.unusedSimpArgs false

namespace Go.Proofs.YtjhhekmfdhfjpaaGreat
open Go.RowKit

theorem dgr_att {k n : Nat} {l : List Tm} (hl : NN l) (hz : ¬ Sim l []) (h : DgR k l n) : ∃ m, coefAt l m ≠ 0 ∧ m.get k = n := by
 rcases h.2 with h0 | h0
 ·obtain ⟨m, hm⟩ := not_sim_nil hz
  refine ⟨m, hm, ?_⟩
  have h1 := h.1 m hm
  have h2 : m.nn = true := by
   cases hc : m.nn with
   | true => rfl
   | false => exact absurd (hl m hc) hm
  have h3 := nn_get h2 k
  omega
 ·exact h0
theorem dgr_uniq {k a b : Nat} {l : List Tm} (hl : NN l) (hz : ¬ Sim l []) (ha : DgR k l a) (hb : DgR k l b) : a = b := by
 obtain ⟨m, h1, h2⟩ := dgr_att hl hz ha
 obtain ⟨m', h3, h4⟩ := dgr_att hl hz hb
 have e1 := hb.1 m h1
 have e2 := ha.1 m' h3
 omega


end Go.Proofs.YtjhhekmfdhfjpaaGreat
