/- mainvar.degree, Level, Degree. -/
import Derived.Test.YtodiphjjdheoaaaGreatBb
import Derived.Test.YtodiphjjdheoaaaGreatMt
set_option linter.unusedVariables false
set_option linter.unusedSimpArgs false

namespace Go.Proofs.YtodiphjjdheoaaaGreat
open Go.RowKit

def LvR (l : List Tm) (k : Nat) : Prop := k ≤ 4 ∧ (∀ m, coefAt l m ≠ 0 → ∀ j, k < j → j ≤ 4 → m.get j = 0) ∧ (k = 0 ∨ ∃ m, coefAt l m ≠ 0 ∧ 0 < m.get k)
theorem LvR.sim {l r : List Tm} {k : Nat} (h : LvR l k) (hs : Sim l r) : LvR r k :=
 ⟨h.1, fun m hm => h.2.1 m (by rw [hs m]; exact hm), h.2.2.imp id fun ⟨m, h1, h2⟩ => ⟨m, by rw [← hs m]; exact h1, h2⟩⟩
theorem CRx.lvR {M : Nat → Prop} {w : World} {x : PE} {l : List Tm} (h : CRx M w 4 x l) : ∃ k : Nat, x.lv = (k : Int) ∧ LvR l k := by
 have hl := h.lev
 refine ⟨x.lv.toNat, by omega, by omega, fun m hm j hj hj4 => h.lowc m hm j (by omega) hj4, ?_⟩
 obtain ⟨t, h1, h2, h3, h4⟩ := h
 obtain ⟨e0, _⟩ := h1.form
 simp only [Value.int.injEq, true_and] at e0
 by_cases h0 : t.1 = 0
 ·left; rw [e0, h0]; rfl
 ·right
  obtain ⟨m, hm, hp⟩ := can_top h2 h1.ok h0
  exact ⟨m, by rw [← h4]; exact hm, by rw [e0]; exact hp⟩
end Go.Proofs.YtodiphjjdheoaaaGreat
