/- pseudo.divideOut. pseudo.Multiplicity, pseudo.Without; the law's own times. Multiplicities: plain facts; small arguments. -/
import Derived.Test.YtpclggidcmmemaaGreatCb
import Derived.Test.YtpclggidcmmemaaGreatBk
import Derived.Test.YtpclggidcmmemaaGreatCa
set_option linter.unusedVariables false
set_option linter.unusedSimpArgs false

namespace Go.Proofs.YtpclggidcmmemaaGreat
open Go.RowKit

def NC (l : List Tm) : Prop := ∃ m k, coefAt l m ≠ 0 ∧ 1 ≤ k ∧ k ≤ 4 ∧ 0 < m.get k
theorem NC.ne {l : List Tm} (h : NC l) : ¬ Sim l [] := fun hs => by
 obtain ⟨m, k, h1, _⟩ := h
 exact h1 (hs m)
theorem deg_rest {r s l : List Tm} {k B : Nat} (hr : NN r) (hs : NN s) (zs : ¬ Sim s []) (h : Sim (pmul r (ppow s k)) l) (hB : Deg B l) : Deg B r :=
 deg_factor hr (nn_ppow hs k) (ppow_ne hs zs k) h hB
theorem rest_ne {r s l : List Tm} {k : Nat} (hz : ¬ Sim l []) (h : Sim (pmul r (ppow s k)) l) : ¬ Sim r [] := fun hs => hz (h.symm.trans (hs.pmul_left _))
theorem rest_step {r q s l : List Tm} {k : Nat} (h : Sim (pmul r (ppow s k)) l) (hq : Sim (pmul q s) r) : Sim (pmul q (ppow s (k + 1))) l :=
 ((Sim.pmul_comm (ppow s k) s).pmul_right q).trans ((Sim.pmul_assoc q s (ppow s k)).symm.trans ((hq.pmul_left _).trans h))
end Go.Proofs.YtpclggidcmmemaaGreat

namespace Go.Proofs.YtpclggidcmmemaaGreat
open Go.RowKit

end Go.Proofs.YtpclggidcmmemaaGreat

namespace Go.Proofs.YtpclggidcmmemaaGreat
open Go.RowKit

theorem NC.snorm {g : List Tm} (hg : NN g) (h : NC g) : NC (Go.Proofs.YtpclggidcmmemaaGreat.snorm g) := by
 obtain ⟨m, k, h1, h2⟩ := h
 refine ⟨m, k, fun h0 => h1 ?_, h2⟩
 rw [← sim_smul_snorm hg m, coefAt_smul, h0, Int.mul_zero]
theorem NC.lv {g : List Tm} {k : Nat} (h : NC g) (hk : LvR g k) : k ≠ 0 := fun h0 => by
 obtain ⟨m, j, h1, h2, h3, h4⟩ := h
 have := hk.2.1 m h1 j (by omega) h3
 omega
end Go.Proofs.YtpclggidcmmemaaGreat
