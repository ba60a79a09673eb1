/- Folds of And and Or (plain). -/
import Derived.Test.YtodiphjjdheoaaaGreatIa
import Derived.Test.YtodiphjjdheoaaaGreatGs
set_option linter.unusedVariables false
set_option linter.unusedSimpArgs false

namespace Go.Proofs.YtodiphjjdheoaaaGreat

def compl (r : Int) : Int := if r = 1 then 5 else if r = 2 then 6 else if r = 4 then 3 else if r = 5 then 1 else if r = 6 then 2 else 4
theorem perm_compl (r : Int) {s : Int} (hs : s = -1 ∨ s = 0 ∨ s = 1) : perm (compl r) s = !perm r s := by
 have e : sg (compl r) = 7 - sg r := by unfold compl sg; repeat' split
                                        all_goals omega
 rw [← sg3 hs, ← sg3 hs, e]
 rcases sg_cases r with hr | hr | hr | hr | hr | hr <;> rw [hr] <;> rcases hs with rfl | rfl | rfl <;> decide
end Go.Proofs.YtodiphjjdheoaaaGreat
