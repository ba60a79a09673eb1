/- the fixed example of cylinderlaw24: plain facts. -/
import Derived.Test.YtjcceddloogiiaaGreatBh
import Derived.Test.YtjcceddloogiiaaGreatMu
import Derived.Test.YtjcceddloogiiaaGreatMs
set_option linter.unusedVariables false
set_option linter.unusedSimpArgs false

namespace Go.Proofs.YtjcceddloogiiaaGreat
open Go.RowKit

theorem sim_of_norm {l r : List Tm} (hl : NN l) (hr : NN r) (h : norm l = norm r) : Sim l r := by
 have h1 := nn_norm_sim hl
 have h2 := nn_norm_sim hr
 rw [← h] at h2
 exact h1.symm.trans h2
theorem deg_list {l : List Tm} {B : Nat} (hl : NN l) (h : ∀ s ∈ l, s.2.a ≤ B ∧ s.2.b ≤ B ∧ s.2.c ≤ B ∧ s.2.d ≤ B) : Deg B l := by
 refine (deg_of_exp (B := B) fun s hs k => ?_).sim (nn_norm_sim hl)
 obtain ⟨h1, h2, h3, h4⟩ := h s hs
 unfold Mo.get
 repeat' split
 all_goals omega
theorem cancel {q p g : List Tm} (hq : NN q) (hp : NN p) (hg : NN g) (hz : ¬ Sim g []) (h : Sim (pmul q g) (pmul p g)) : Sim q p := by
 have hN : NN (q ++ negL p) := hq.append (negL_nn hp)
 have h1 : Sim (pmul (q ++ negL p) g) [] := fun m => by
  rw [pmul_append_left, coefAt_append]
  have a1 := h m
  have a2 := (Sim.pmul_assoc p [(-1, Mo.zero)] g) m
  have a3 := ((Sim.pmul_comm [(-1, Mo.zero)] g).pmul_right p) m
  have a4 := (Sim.pmul_assoc p g [(-1, Mo.zero)]) m
  have a5 := negL_coef (pmul p g) m
  show _ = (0 : Int)
  simp only [negL] at a5 ⊢
  omega
 have h2 : Sim (q ++ negL p) [] := Classical.byContradiction fun hc => pmul_ne hN hg hc hz h1
 exact fun m => by
  have := h2 m
  rw [coefAt_append, negL_coef] at this
  have e : coefAt [] m = 0 := rfl
  omega
def fP : List Tm := ppow (varL 1) 2 ++ negL (ppow (varL 2) 2)
def fS : List Tm := varL 1 ++ varL 2
def fQ : List Tm := varL 1 ++ negL (varL 2)
theorem fP_nn : NN fP := nn_of_all (by decide)
theorem fS_nn : NN fS := nn_of_all (by decide)
theorem fQ_nn : NN fQ := nn_of_all (by decide)
theorem fP_deg : Deg 2 fP := deg_list fP_nn (by decide)
theorem fS_deg : Deg 1 fS := deg_list fS_nn (by decide)
theorem f_prod : Sim (pmul fQ fS) fP := sim_of_norm (nn_of_all (by decide)) fP_nn (by decide)
theorem fS_ne : ¬ Sim fS [] := fun h => by
 have := h ⟨1, 0, 0, 0⟩
 revert this; decide
theorem f_quot {q : List Tm} (hq : NN q) (h : Sim (pmul q fS) fP) : Sim q fQ := cancel hq fQ_nn fS_nn fS_ne (h.trans f_prod.symm)
theorem f_dv : Dv fS fP := ⟨fQ, fQ_nn, f_prod⟩
theorem var_nn (i : Int) : NN (varL i) := by
 unfold varL
 split
 ·exact nn_of_all fun t ht => by
   simp only [List.mem_singleton] at ht
   subst ht
   rw [Mo.nn_iff]
   refine ⟨?_, ?_, ?_, ?_⟩ <;> (simp only [xp]; split <;> omega)
 ·exact NN.nil
theorem x_snorm : snorm (varL 1) = varL 1 := by decide
theorem x_ne : ¬ Sim (varL 1) [] := fun h => by
 have := h ⟨1, 0, 0, 0⟩
 revert this; decide
theorem f_xy : Dv (varL 1) (pmul (varL 1) (varL 2)) := ⟨varL 2, var_nn 2, Sim.pmul_comm _ _⟩
theorem f_not : ¬ Dv (varL 1) (varL 2) := by
 rintro ⟨q, hq, h⟩
 have h1 := h ⟨0, 1, 0, 0⟩
 have h2 := (pmul_single q (1, ⟨1, 0, 0, 0⟩)) ⟨0, 1, 0, 0⟩
 have e : varL 1 = [(1, ⟨1, 0, 0, 0⟩)] := by decide
 rw [e] at h1
 rw [h2, coefAt_shift, coefAt_smul, hq _ (by decide)] at h1
 revert h1; decide
theorem f_ok : OkB 1 4 2 := by
 simp only [OkB, inB]
 decide
theorem f_num : 2 + qX 1 4 2 * (2 + 2) ≤ 549755813888 := by
 simp only [qX, inB]
 decide
end Go.Proofs.YtjcceddloogiiaaGreat
