/- PseudoMultiplicity: the walk. -/
import Derived.Test.YtgppogaoilijcaaGreatCg
set_option linter.unusedVariables false
set_option linter.unusedSimpArgs false

namespace Go.Proofs.YtgppogaoilijcaaGreat
open Go.RowKit

theorem NC.not_const {g : List Tm} {z : Int} (h : NC g) (hs : Sim g [(z, Mo.zero)]) : False := by
  obtain ⟨m, k, h1, h2, h3, h4⟩ := h
  rw [hs m] at h1
  by_cases e : Mo.zero = m
  · subst e; rw [get_zero] at h4; omega
  · exact h1 (by simp [coefAt, e])
theorem FewP.le2 {n T T' D : Nat} {E E' : Int} {X : Nat → TE} (h : FewP n X T D E) (hT : T ≤ T') (hE : E ≤ E') : FewP n X T' D E' :=
  ⟨Nat.le_trans h.1 hT, fun i hi => ⟨(h.2 i hi).1, fun j hj => ⟨((h.2 i hi).2 j hj).1, Int.le_trans ((h.2 i hi).2 j hj).2 hE⟩⟩⟩
abbrev A6 : Nat := 5 + (6 + 1) * (qX 3 4 6 * (5 + 2))
def MuWi (W : World) (l g : List Tm) (k : Nat) (er xr : Int) (v : PE) : Prop :=
  (er = 2 ∧ xr = 2 ∧ Sim l [] ∧ k = 0 ∧ v = PE.z) ∨ (er = 12 ∧ xr = 12 ∧ ¬ Sim l [] ∧ (∃ z, Sim g [(z, Mo.zero)]) ∧ k = 0 ∧ v = PE.z) ∨ (er = 0 ∧ xr = 0 ∧ ¬ Sim l [] ∧ NC g ∧ ∃ r, NN r ∧ Sim (pmul r (ppow (snorm g) k)) l ∧ ¬ Dv (snorm g) r ∧ dlen (nrm r) ≤ A6 ∧ CRx M0 W 4 v (snorm r))
theorem MuWi.ext {W W' : World} {l g : List Tm} {k : Nat} {er xr : Int} {v : PE} (h : MuWi W l g k er xr v) (he : Ext W W') : MuWi W' l g k er xr v :=
  h.imp id (Or.imp id fun ⟨a1, a2, a3, a4, r, a5, a6, a7, a8, a9⟩ => ⟨a1, a2, a3, a4, r, a5, a6, a7, a8, a9.ext he⟩)
theorem muwi {w w5 w6 : World} {l g : List Tm} {k : Nat} {er xr : Int} {v0 v : PE} {e : Ending} (hg : NN g) (h1 : OutO M0 w5 l g (snorm g) A6 v0 k er) (h2 : RetWi M0 w l g (snorm g) A6 e w6) (he : e = .returned (.tuple #[.agg (peA v), .int .i64 xr])) : MuWi w6 l g k er xr v ∧ Ext w w6 := by
  obtain ⟨v', xr', e1, h2, h3⟩ := h2
  rw [he] at e1
  simp only [Ending.returned.injEq, Value.tuple.injEq, Array.mk.injEq, List.cons.injEq, Value.agg.injEq, Value.int.injEq, Value.bool.injEq, Value.slice.injEq, and_true, true_and] at e1
  obtain ⟨⟨e2, e3, ⟨e4, e5, e6⟩, e7, e8, e9⟩, rfl⟩ := e1
  obtain rfl : v = v' := by
    cases v; cases v'; simp_all
  refine ⟨?_, h3⟩
  rcases h1 with ⟨rfl, a1, rfl, _⟩ | ⟨rfl, a1, ⟨z, a2⟩, rfl, _⟩ | ⟨rfl, a1, a2, r, a3, a4, a5, a6⟩
  · rcases h2 with ⟨rfl, _, b1⟩ | ⟨_, b1, _⟩ | ⟨_, b1, _⟩
    · exact .inl ⟨rfl, rfl, a1, rfl, b1⟩
    · exact absurd a1 b1
    · exact absurd a1 b1
  · rcases h2 with ⟨_, b1, _⟩ | ⟨rfl, b1, b2, b3⟩ | ⟨_, _, b2, _⟩
    · exact absurd b1 a1
    · exact .inr (.inl ⟨rfl, rfl, b1, b2, rfl, b3⟩)
    · exact absurd a2 (fun h => b2.not_const h)
  · rcases h2 with ⟨_, b1, _⟩ | ⟨_, _, ⟨z, b2⟩, _⟩ | ⟨rfl, _, _, k', r', b3, b4, b5, b6, b7⟩
    · exact absurd b1 a1
    · exact absurd b2 (fun h => a2.not_const h)
    · obtain ⟨rfl, _⟩ := mult_eq a3.nn b4 (snorm_nn g) (a2.snorm hg).ne a4 b5 a5 b6
      exact .inr (.inr ⟨rfl, rfl, a1, a2, r', b4, b5, b6, b7, b3⟩)
def PCut2 (l : List Tm) (W : World) (s11 : Value) (wx : World) : Prop := ∃ (g : Nat) (v : PE), s11 = .pointer (some ⟨g, 0, none⟩) ∧ P4 wx g v ∧ CRx M0 wx 4 v l ∧ Ext W wx
end Go.Proofs.YtgppogaoilijcaaGreat
