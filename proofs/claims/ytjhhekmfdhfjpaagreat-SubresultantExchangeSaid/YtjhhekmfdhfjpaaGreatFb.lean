/- cylinderref22.Build again: a polynomial of n nodes has degrees below n. PseudoForms: plain facts. PseudoForms: the walk. -/
import Derived.Test.YtjhhekmfdhfjpaaGreatMj
import Derived.Test.YtjhhekmfdhfjpaaGreatBk
import Derived.Test.YtjhhekmfdhfjpaaGreatEc
import Derived.Test.YtjhhekmfdhfjpaaGreatBh
set_option linter.unusedVariables false
set_option linter.unusedSimpArgs false

namespace Go.Proofs.YtjhhekmfdhfjpaaGreat
open Go.RowKit



theorem pmul_sub (a b r : List Tm) (m : Mo) : coefAt (pmul (a ++ smul (-1) b) r) m = coefAt (pmul a r) m - coefAt (pmul b r) m := by
 rw [pmul_append_left, coefAt_append]
 have : ∀ C : List Tm, coefAt (pmul (smul (-1) C) r) m = - coefAt (pmul C r) m := by
  intro C
  induction C with
  | nil => rfl
  | cons s C ih =>
   show coefAt (pmul ((-1 * s.1, s.2) :: smul (-1) C) r) m = _
   rw [coefAt_pmul_cons, coefAt_pmul_cons, ih]
   simp only
   rw [Int.mul_assoc]
   omega
 rw [this]; omega
theorem pmul_cancel {a b r : List Tm} (ha : NN a) (hb : NN b) (hr : NN r) (hz : ¬ Sim r []) (h : Sim (pmul a r) (pmul b r)) : Sim a b := fun m => by
 refine Classical.byContradiction fun hc => ?_
 have hn : NN (a ++ smul (-1) b) := fun q hq => by rw [coefAt_append, coefAt_smul, ha q hq, hb q hq]; rfl
 refine pmul_ne hn hr (fun hs => hc ?_) hz fun q => ?_
 ·have := hs m
  rw [coefAt_append, coefAt_smul] at this
  have h0 : coefAt ([] : List Tm) m = 0 := rfl
  omega
 ·rw [pmul_sub, h q]
  show _ = (0 : Int)
  omega


end Go.Proofs.YtjhhekmfdhfjpaaGreat
