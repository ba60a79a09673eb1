/- RecpolyArithmetic: the walk. The law RecpolyArithmetic returns true at every input, without a panic, and leaves its arguments as they were; no conditions. -/
import Derived.Test.YtikkilnheafleaaGreatMj
import Derived.Test.YtikkilnheafleaaGreatMm
import Derived.Test.YtikkilnheafleaaGreatMq
set_option linter.unusedVariables false
set_option linter.unusedSimpArgs false

namespace Go.Proofs.YtikkilnheafleaaGreat
open Go.RowKit

theorem sim_neg (l : List Tm) : Sim (pmul l [(-1, Mo.zero)]) (smul (-1) l) := by
  have h := pmul_single l (-1, Mo.zero)
  rw [shift_zero] at h
  exact h
theorem nrm_neg (l : List Tm) : nrm (pmul l [(-1, Mo.zero)]) = nrm l := by
  rw [nrm_pmul, nrm_one]; simp
theorem sub_norm (l m : List Tm) : norm (norm (l ++ smul (-1) m)) = norm (l ++ pmul m [(-1, Mo.zero)]) := by
  rw [norm_norm]
  exact ((Sim.refl l).append (sim_neg m).symm).norm
theorem neg_norm (l : List Tm) : norm (norm (smul (-1) l)) = norm (pmul l [(-1, Mo.zero)]) := by
  rw [norm_norm]; exact (sim_neg l).symm.norm
theorem mul_norm {l m : List Tm} (hl : ∀ s ∈ l, s.2.nn = true) (hm : ∀ s ∈ m, s.2.nn = true) : norm (norm (pmul (norm l) (norm m))) = norm (pmul l m) := by
  rw [norm_norm]; exact ((sim_norm hl).pmul (sim_norm hm)).norm
theorem deg_neg {B : Nat} {l : List Tm} (h : Deg B l) : Deg B (pmul l [(-1, Mo.zero)]) := by
  refine Deg.sim (l := smul (-1) l) (fun m hm k => h m (fun e => hm ?_) k) (sim_neg l).symm
  rw [coefAt_smul, e]; rfl
end Go.Proofs.YtikkilnheafleaaGreat

namespace Go.Proofs.YtikkilnheafleaaGreat
open Go.ChangeShapes Go.WideShapes Go.ChangeAt Go.RowKit Go.Deep

namespace recpolyArithmetic
theorem own : ownKnob Tryz.prog.godebug = none := by kernel_rfl
end recpolyArithmetic
end Go.Proofs.YtikkilnheafleaaGreat
