/- The sort (slices.SortFunc at []sparse.Poly), laid out of the shelf; written by the kit's lay-plain.mjs, then made a template. The sort of sparse polynomials, of any length. -/
import Derived.Shelf.SlSortCmp.Whole1
import Derived.Ground.SlsfProg
import Derived.Test.YtodiphjjdheoaaaGreatProg
import Derived.Test.YtodiphjjdheoaaaGreatDd
import Derived.Test.YtodiphjjdheoaaaGreatEs
set_option linter.unusedVariables false
set_option linter.unusedSimpArgs false

namespace Go.Proofs
open Go.Shelf
end Go.Proofs

namespace Go.Proofs.YtodiphjjdheoaaaGreat
open Go.RowKit

theorem Gr.of_ext {w w' : World} (h : Ext w w') (hd : w.drawn ≤ w'.drawn) : Gr w w' := by
 refine ⟨w'.drawn - w.drawn, w'.heap.extract w.heap.size w'.heap.size, ?_⟩
 have h1 : w'.heap = w.heap ++ w'.heap.extract w.heap.size w'.heap.size := by
  have hs := h.size
  apply Array.ext_getElem?
  intro k
  rw [Array.getElem?_append]
  by_cases hk : k < w.heap.size
  ·rw [if_pos hk]; exact h.heap hk
  ·rw [if_neg hk, Array.getElem?_extract]
   by_cases hk2 : k < w'.heap.size
   ·rw [if_pos (by omega)]; congr 1; omega
   ·rw [if_neg (by omega)]; exact Array.getElem?_eq_none (by omega)
 obtain ⟨hp, dr⟩ : ∃ q, q = w'.drawn - w.drawn := ⟨_, rfl⟩
 have h2 := Below.os h
 have h3 := Below.tape h
 have h4 := Below.output h
 unfold Go.Sort.grow World.drewN
 cases w'
 cases w
 simp only at h1 h2 h3 h4 hd ⊢
 subst h2 h3 h4
 rw [World.mk.injEq]
 exact ⟨h1, rfl, by omega, rfl, rfl⟩
theorem cmpP_tri : ∀ a b : List Tm, cmpP a b < 0 ∨ a = b ∨ cmpP b a < 0
 | [], [] => .inr (.inl rfl)
 | [], _ :: _ => .inl (by simp [cmpP])
 | _ :: _, [] => .inr (.inr (by simp [cmpP]))
 | s :: a, t :: b => by
  simp only [cmpP]
  by_cases h0 : cmpT s t = 0
  ·obtain rfl := (cmpT_zero s t).1 h0
   rw [if_pos h0, if_pos h0]
   rcases cmpP_tri a b with h | rfl | h
   ·exact .inl h
   ·exact .inr (.inl rfl)
   ·exact .inr (.inr h)
  ·have h1 : cmpT t s ≠ 0 := fun e => h0 ((cmpT_zero s t).2 ((cmpT_zero t s).1 e).symm)
   rw [if_neg h0, if_neg h1, cmpT_neg, cmpT_neg]
   have hne : s ≠ t := fun e => h0 ((cmpT_zero s t).2 e)
   unfold ltT
   rcases Mo.lt_tri s.2 t.2 with h | h | h
   ·exact .inl (.inl h)
   ·rcases Int.lt_trichotomy s.1 t.1 with k | k | k
    ·exact .inl (.inr ⟨h, k⟩)
    ·exact absurd (Prod.ext k h) hne
    ·exact .inr (.inr (.inr ⟨h.symm, k⟩))
   ·exact .inr (.inr (.inl h))
end Go.Proofs.YtodiphjjdheoaaaGreat
