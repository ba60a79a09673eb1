/- The level of a canonical polynomial is that of its monomials. The law RecpolyOf returns true at every input, without a panic, and leaves its arguments as they were; no conditions. -/
import Derived.Test.YtodiphjjdheoaaaGreatMp
import Derived.Test.YtodiphjjdheoaaaGreatMr
import Derived.Test.YtodiphjjdheoaaaGreatMi
set_option linter.unusedVariables false
set_option linter.unusedSimpArgs false

namespace Go.Proofs.YtodiphjjdheoaaaGreat
open Go.RowKit

theorem le_hiU {m : Mo} {j : Nat} (h1 : 1 ≤ j) (hp : 0 < m.get j) : ∀ {k : Nat}, j ≤ k → j ≤ hiU m k
 | 0, h => by omega
 | k + 1, h => by
  unfold hiU
  split
  ·exact h
  ·rename_i hn
   have : j ≠ k + 1 := fun e => hn (e ▸ hp)
   exact le_hiU h1 hp (by omega)
theorem hiU_le_of {m : Mo} {j : Nat} (h : ∀ k, j < k → k ≤ 4 → m.get k ≤ 0) : ∀ {k : Nat}, k ≤ 4 → hiU m k ≤ j
 | 0, _ => Nat.zero_le _
 | k + 1, hk => by
  unfold hiU
  split
  ·rename_i hp
   refine Classical.byContradiction fun hc => ?_
   have := h (k + 1) (by omega) hk
   omega
  ·exact hiU_le_of h (by omega)
theorem lvM_le_of {j : Nat} (l : List Mo) (h : ∀ m ∈ l, hiU m 4 ≤ j) : lvM l ≤ j := by
 suffices g : ∀ (l : List Mo) (k : Nat), k ≤ j → (∀ m ∈ l, hiU m 4 ≤ j) → l.foldl (fun h m => max h (hiU m 4)) k ≤ j from g l 0 (Nat.zero_le _) h
 intro l
 induction l with
 | nil => intro k hk _; exact hk
 | cons m l ih => intro k hk hm; exact ih _ (by have := hm m (List.mem_cons_self ..); show max k (hiU m 4) ≤ j; omega) (fun m hm' => hm m (List.mem_cons_of_mem _ hm'))
theorem le_lvM {l : List Mo} {m : Mo} (h : m ∈ l) : hiU m 4 ≤ lvM l := by
 suffices g : ∀ (l : List Mo) (k : Nat), k ≤ l.foldl (fun h m => max h (hiU m 4)) k ∧ ∀ m ∈ l, hiU m 4 ≤ l.foldl (fun h m => max h (hiU m 4)) k from (g l 0).2 m h
 intro l
 induction l with
 | nil => intro k; exact ⟨Nat.le_refl _, fun m hm => by cases hm⟩
 | cons m l ih =>
  intro k
  have h1 := ih (max k (hiU m 4))
  have h2 : max k (hiU m 4) ≤ (m :: l).foldl (fun h m => max h (hiU m 4)) k := h1.1
  refine ⟨by omega, fun q hq => ?_⟩
  rcases List.mem_cons.1 hq with rfl | hq
  ·omega
  ·exact h1.2 q hq
theorem can_top {d : Nat} {t : RT (d + 1)} (h : isCan (d + 1) t = true) (ho : okT (d + 1) t) (hl : t.1 ≠ 0) : ∃ m, coefAt (terms (d + 1) t) m ≠ 0 ∧ 0 < m.get t.1.toNat := by
 obtain ⟨g1, g2, g3, g4, g5, g6⟩ := can_node h hl
 rw [terms_node g1.1 g1.2]
 have hlow : ∀ i, i < t.2.2.1 → Low (t.1.toNat - 1) (terms d (t.2.2.2 i)) := fun i hi => kid_low h hl i hi
 obtain ⟨m, hm⟩ := can_zero _ _ (g5 (t.2.2.1 - 1) (by omega)).2 (ho.2 _ (by omega)) g6
 have hm0 : m.get t.1.toNat = 0 := Classical.byContradiction fun hc => hm ((hlow _ (by omega)).coef (k := t.1.toNat) (by omega) (by omega) hc)
 refine ⟨Mo.add m (xp t.1.toNat ((t.2.2.1 - 1 : Nat) : Int)), ?_, ?_⟩
 ·rw [coef_kid (by omega) (by omega) hlow _ (by omega) m hm0]; exact hm
 ·rw [get_add, get_xp _ _ _ (by omega) (by omega), if_pos rfl, hm0]; omega
theorem coefAt_of_mem : ∀ {l : List Tm}, Canon l → ∀ {s : Tm}, s ∈ l → coefAt l s.2 = s.1
 | t :: l, h, s, hs => by
  rcases List.mem_cons.1 hs with rfl | hs
  ·exact h.coef_head
  ·have h1 := coefAt_of_mem h.tail hs
   have h2 := Mo.lt_ne (h.head s hs)
   simp only [coefAt]
   rw [if_neg (fun e => h2 e.symm), h1]; omega
theorem CRx.level {M : Nat → Prop} {w : World} {x : PE} {l : List Tm} (h : CRx M w 4 x (norm l)) : x.lv = (lvM ((norm l).map (·.2)) : Nat) := by
 obtain ⟨t, h1, h2, h3, h4⟩ := h
 obtain ⟨e0, _⟩ := h1.form
 simp only [Value.int.injEq, true_and] at e0
 have hlv := can_lev h2
 have hlow := can_low 5 t h2
 have hcan := norm_canon l
 suffices hs : lvM ((norm l).map (·.2)) = t.1.toNat by rw [e0, hs]; omega
 refine Nat.le_antisymm (lvM_le_of _ fun m hm => ?_) ?_
 ·obtain ⟨s, hs, rfl⟩ := List.mem_map.1 hm
  refine hiU_le_of (fun k hk hk4 => ?_) (Nat.le_refl _)
  refine Classical.byContradiction fun hc => ?_
  have hne : coefAt (terms 5 t) s.2 ≠ 0 := by
   rw [h4]
   have := coefAt_of_mem hcan hs
   rw [this]
   exact (hcan.2 s hs).1
  exact hne (hlow.coef (k := k) hk hk4 (by omega))
 ·by_cases h0 : t.1 = 0
  ·rw [h0]; exact Nat.zero_le _
  ·obtain ⟨m, hm, hp⟩ := can_top h2 h1.ok h0
   rw [h4] at hm
   have hmem : m ∈ (norm l).map (·.2) := by
    refine Classical.byContradiction fun hc => hm (coefAt_zero fun s hs e => hc (List.mem_map.2 ⟨s, hs, e⟩))
   exact Nat.le_trans (le_hiU (by omega) hp (by omega)) (le_lvM hmem)
end Go.Proofs.YtodiphjjdheoaaaGreat

namespace Go.Proofs.YtodiphjjdheoaaaGreat
open Go.ChangeShapes Go.WideShapes Go.ChangeAt Go.RowKit Go.Deep

theorem deg_of_exp {l : List Tm} {B : Nat} (h : ∀ s ∈ l, ∀ k, s.2.get k ≤ (B : Int)) : Deg B (norm l) := by
 intro m hm k
 refine Classical.byContradiction fun hc => hm (coefAt_zero fun s hs e => ?_)
 obtain ⟨t, ht, e2⟩ := norm_mem hs
 have := h t ht k
 rw [e2, e] at this
 omega
namespace recpolyOf
end recpolyOf
end Go.Proofs.YtodiphjjdheoaaaGreat
