/- The sort (slices.SortFunc at []sparse.Poly), laid out of the shelf; written by the kit's lay-plain.mjs, then made a template. The sort of sparse polynomials, of any length. -/
import Derived.Shelf.SlSortCmp.Whole1
import Derived.Ground.SlsfProg
import Derived.Test.YtjcceddloogiiaaGreatProg
import Derived.Test.YtjcceddloogiiaaGreatDd
import Derived.Test.YtjcceddloogiiaaGreatEs
set_option linter.unusedVariables false
set_option linter.unusedSimpArgs false

namespace Go.Proofs
open Go.Shelf
def Tryz.sortPoly_ren : Go.Shelf.Ren := ⟨fun | 6 => 87 | 15 => 148 | 14 => 147 | 28 => 193 | 29 => 194 | 20 => 185 | 21 => 186 | 22 => 187 | 23 => 188 | 24 => 189 | 25 => 190 | 26 => 191 | 27 => 192 | 46 => 207 | 47 => 208 | 48 => 209 | 49 => 210 | 50 => 211 | 57 => 229 | n => n, fun | 22 => 22 | 24 => 37 | 25 => 123 | 3 => 3 | 39 => 180 | 0 => 0 | 53 => 160 | 55 => 136 | 4 => 4 | 46 => 213 | 45 => 212 | 50 => 217 | 5 => 5 | 9 => 9 | 66 => 234 | 70 => 238 | 76 => 251 | 77 => 252 | n => n, fun | n => n⟩
theorem Tryz.sortPoly : Go.Proofs.SlLaysF.n6 Tryz.prog Tryz.sortPoly_ren := {
 mixed := by kernel_rfl
 f6 := ⟨Tryz.f87.name, by decide, Tryz.func87.trans (congrArg some (by kernel_rfl))⟩
 f14 := ⟨Tryz.f147.name, by decide, Tryz.func147.trans (congrArg some (by kernel_rfl))⟩
 f15 := Tryz.func148.trans (congrArg some (by kernel_rfl))
 f20 := ⟨Tryz.f185.name, by decide, Tryz.func185.trans (congrArg some (by kernel_rfl))⟩
 f21 := ⟨Tryz.f186.name, by decide, Tryz.func186.trans (congrArg some (by kernel_rfl))⟩
 f22 := ⟨Tryz.f187.name, by decide, Tryz.func187.trans (congrArg some (by kernel_rfl))⟩
 f23 := ⟨Tryz.f188.name, by decide, Tryz.func188.trans (congrArg some (by kernel_rfl))⟩
 f24 := ⟨Tryz.f189.name, by decide, Tryz.func189.trans (congrArg some (by kernel_rfl))⟩
 f25 := ⟨Tryz.f190.name, by decide, Tryz.func190.trans (congrArg some (by kernel_rfl))⟩
 f26 := ⟨Tryz.f191.name, by decide, Tryz.func191.trans (congrArg some (by kernel_rfl))⟩
 f27 := ⟨Tryz.f192.name, by decide, Tryz.func192.trans (congrArg some (by kernel_rfl))⟩
 f28 := Tryz.func193.trans (congrArg some (by kernel_rfl))
 f29 := Tryz.func194.trans (congrArg some (by kernel_rfl))
 f46 := ⟨Tryz.f207.name, by decide, Tryz.func207.trans (congrArg some (by kernel_rfl))⟩
 f47 := Tryz.func208.trans (congrArg some (by kernel_rfl))
 f48 := Tryz.func209.trans (congrArg some (by kernel_rfl))
 f49 := ⟨Tryz.f210.name, by decide, Tryz.func210.trans (congrArg some (by kernel_rfl))⟩
 f50 := ⟨Tryz.f211.name, by decide, Tryz.func211.trans (congrArg some (by kernel_rfl))⟩
 f57 := ⟨Tryz.f229.name, by decide, Tryz.func229.trans (congrArg some (by kernel_rfl))⟩
 t0 := Tryz.underlying0
 a0 := Tryz.isAgg0
 z0 := Tryz.sizeOf0
 v0 := Tryz.zeroValue0
 t3 := Tryz.underlying3
 a3 := Tryz.isAgg3
 z3 := Tryz.sizeOf3
 v3 := Tryz.zeroValue3
 t4 := Tryz.underlying4
 a4 := Tryz.isAgg4
 z4 := Tryz.sizeOf4
 v4 := Tryz.zeroValue4
 t5 := Tryz.underlying5
 a5 := Tryz.isAgg5
 z5 := Tryz.sizeOf5
 v5 := Tryz.zeroValue5
 t9 := Tryz.underlying9
 a9 := Tryz.isAgg9
 z9 := Tryz.sizeOf9
 v9 := Tryz.zeroValue9
 t22 := Tryz.underlying22
 a22 := Tryz.isAgg22
 z22 := Tryz.sizeOf22
 v22 := Tryz.zeroValue22
 a24 := Tryz.isAgg37
 z24 := Tryz.sizeOf37
 t25 := Tryz.underlying123
 a25 := Tryz.isAgg123
 z25 := Tryz.sizeOf123
 v25 := Tryz.zeroValue123
 t39 := Tryz.underlying180
 a39 := Tryz.isAgg180
 z39 := Tryz.sizeOf180
 v39 := Tryz.zeroValue180
 t45 := Tryz.underlying212
 a45 := Tryz.isAgg212
 z45 := Tryz.sizeOf212
 v45 := Tryz.zeroValue212
 t46 := Tryz.underlying213
 a46 := Tryz.isAgg213
 z46 := Tryz.sizeOf213
 v46 := Tryz.zeroValue213
 t50 := Tryz.underlying217
 a50 := Tryz.isAgg217
 z50 := Tryz.sizeOf217
 v50 := Tryz.zeroValue217
 t53 := Tryz.underlying160
 a53 := Tryz.isAgg160
 z53 := Tryz.sizeOf160
 v53 := Tryz.zeroValue160
 t55 := Tryz.underlying136
 a55 := Tryz.isAgg136
 z55 := Tryz.sizeOf136
 v55 := Tryz.zeroValue136
 t66 := Tryz.underlying234
 a66 := Tryz.isAgg234
 z66 := Tryz.sizeOf234
 v66 := Tryz.zeroValue234
 t70 := Tryz.underlying238
 a70 := Tryz.isAgg238
 z70 := Tryz.sizeOf238
 v70 := Tryz.zeroValue238
 t76 := Tryz.underlying251
 a76 := Tryz.isAgg251
 z76 := Tryz.sizeOf251
 v76 := Tryz.zeroValue251
 t77 := Tryz.underlying252
 a77 := Tryz.isAgg252
 z77 := Tryz.sizeOf252
 v77 := Tryz.zeroValue252 }
end Go.Proofs

namespace Go.Proofs.YtjcceddloogiiaaGreat
open Go.RowKit

theorem Gr.of_ext {w w' : World} (h : Ext w w') (hd : w.drawn ≤ w'.drawn) : Gr w w' := by
 refine ⟨w'.drawn - w.drawn, w'.heap.extract w.heap.size w'.heap.size, ?_⟩
 have h1 : w'.heap = w.heap ++ w'.heap.extract w.heap.size w'.heap.size := by
  have hs := h.size
  apply Array.ext_getElem?
  intro k
  rw [Array.getElem?_append]
  by_cases hk : k < w.heap.size
  ·rw [if_pos hk]; exact h.heap hk
  ·rw [if_neg hk, Array.getElem?_extract]
   by_cases hk2 : k < w'.heap.size
   ·rw [if_pos (by omega)]; congr 1; omega
   ·rw [if_neg (by omega)]; exact Array.getElem?_eq_none (by omega)
 obtain ⟨hp, dr⟩ : ∃ q, q = w'.drawn - w.drawn := ⟨_, rfl⟩
 have h2 := Below.os h
 have h3 := Below.tape h
 have h4 := Below.output h
 unfold Go.Sort.grow World.drewN
 cases w'
 cases w
 simp only at h1 h2 h3 h4 hd ⊢
 subst h2 h3 h4
 rw [World.mk.injEq]
 exact ⟨h1, rfl, by omega, rfl, rfl⟩
theorem cmpP_tri : ∀ a b : List Tm, cmpP a b < 0 ∨ a = b ∨ cmpP b a < 0
 | [], [] => .inr (.inl rfl)
 | [], _ :: _ => .inl (by simp [cmpP])
 | _ :: _, [] => .inr (.inr (by simp [cmpP]))
 | s :: a, t :: b => by
  simp only [cmpP]
  by_cases h0 : cmpT s t = 0
  ·obtain rfl := (cmpT_zero s t).1 h0
   rw [if_pos h0, if_pos h0]
   rcases cmpP_tri a b with h | rfl | h
   ·exact .inl h
   ·exact .inr (.inl rfl)
   ·exact .inr (.inr h)
  ·have h1 : cmpT t s ≠ 0 := fun e => h0 ((cmpT_zero s t).2 ((cmpT_zero t s).1 e).symm)
   rw [if_neg h0, if_neg h1, cmpT_neg, cmpT_neg]
   have hne : s ≠ t := fun e => h0 ((cmpT_zero s t).2 e)
   unfold ltT
   rcases Mo.lt_tri s.2 t.2 with h | h | h
   ·exact .inl (.inl h)
   ·rcases Int.lt_trichotomy s.1 t.1 with k | k | k
    ·exact .inl (.inr ⟨h, k⟩)
    ·exact absurd (Prod.ext k h) hne
    ·exact .inr (.inr (.inr ⟨h.symm, k⟩))
   ·exact .inr (.inr (.inl h))
def cfP {m : Nat} (y : Nat → SE) (i j : Fin (m + 1)) : Int := cmpP (norm (y i).l) (norm (y j).l)
theorem swoP {m : Nat} (y : Nat → SE) : Go.Sort.SWO (Go.Proofs.ltOf (cfP (m := m) y)) where
 irrefl x := by
  unfold Go.Proofs.ltOf cfP
  rw [(cmpP_zero _ _).2 rfl]; rfl
 trans a b c h1 h2 := by
  unfold Go.Proofs.ltOf cfP at *
  simp only [decide_eq_true_eq] at *
  exact cmpP_trans h1 h2
 ntrans a b c h1 h2 := by
  unfold Go.Proofs.ltOf cfP at *
  simp only [decide_eq_false_iff_not] at *
  intro h3
  rcases cmpP_tri (norm (y a).l) (norm (y b).l) with k | k | k
  ·exact h1 k
  ·rw [k] at h3; exact h2 h3
  ·exact h2 (cmpP_trans k h3)
theorem grown_sortWorld {α : Type} [Inhabited α] (enc : α → Value) {w : World} {g : Nat} (hg : g < w.heap.size) (q : Nat) (d : Array α) (os : Array Obj) : w.grownBy (Go.Proofs.sortWorld enc w g 0 q d os) (some g) := by
 refine ⟨rfl, rfl, rfl, ?_, fun k hk hne => ?_⟩
 ·unfold Go.Proofs.sortWorld
  rw [Go.Sort.size_grow, Go.Sort.size_putRow, Go.Sort.heap_ahead]; omega
 ·unfold Go.Proofs.sortWorld
  rw [Go.Sort.heap_grow_old _ _ (by rw [Go.Sort.size_putRow, Go.Sort.heap_ahead]; exact hk)]
  show (w.heap.modify g _)[k]? = _
  rw [Array.getElem?_modify, if_neg (fun e => hne (by rw [e]))]
theorem blk_sortWorld {α : Type} [Inhabited α] (enc : α → Value) {w : World} {g cap : Nat} {t : TypeId} {F : Nat → Value} (hB : Blk w g t cap F) (q : Nat) (d : Array α) (os : Array Obj) : Blk (Go.Proofs.sortWorld enc w g 0 q d os) g t cap (fun j => if j < d.size then enc d[j]! else F j) := by
 obtain ⟨cur, hg, hs, hc⟩ := hB
 have hlt : g < w.heap.size := (Array.getElem?_eq_some_iff.1 hg).1
 refine ⟨Go.Sort.putCells enc 0 d cur, ?_, by simp [Go.Sort.putCells, hs], fun i hi => ?_⟩
 ·unfold Go.Proofs.sortWorld
  rw [Go.Sort.heap_grow_old _ _ (by rw [Go.Sort.size_putRow, Go.Sort.heap_ahead]; exact hlt)]
  show (w.heap.modify g _)[g]? = _
  simp [Array.getElem?_modify, hg, Go.Sort.onCells]
 ·simp only [Go.Sort.putCells, Array.getElem?_mapIdx, hc i hi, Option.map_some, Nat.zero_le, true_and, Nat.zero_add, Nat.sub_zero]
theorem sort_on (T : List Tm → Prop) (n : Nat) (hn : n < 4611686018427387904) : SortOn T n := by
 cases n with
 | zero =>
  intro M w g cap y hM hMg hc hr hT
  exact sort_eq [] 0 (by omega) M w g cap y hM hMg hc hr (fun i hi => absurd hi (Nat.not_lt_zero _))
 | succ m =>
 intro M w g cap y hM hMg hc hr hT
 obtain ⟨F, hB, hF, hP⟩ := hr
 have hgl := hB.lt
 have hd : (Array.ofFn (n := m + 1) fun i => i).size = m + 1 := by simp
 have hget : ∀ j (hj : j < m + 1), (Array.ofFn (n := m + 1) fun i => i)[j]! = ⟨j, hj⟩ := fun j hj => by
  rw [Array.getElem!_eq_getD, Array.getD_eq_getD_getElem?]; simp [hj]
 have hcmp : Go.Proofs.CmpLays1 Tryz.prog 88 #[] (fun i : Fin (m + 1) => sv (y i)) (cfP y) g 0 (Array.ofFn (n := m + 1) fun i => i).size w := by
  intro q os dk _ i j
  have hgr := grown_sortWorld (fun i : Fin (m + 1) => sv (y i)) hgl q dk os
  have hk : Kp M w (Go.Proofs.sortWorld (fun i : Fin (m + 1) => sv (y i)) w g 0 q dk os) := Kp.grown hgr fun k hk => by cases hk; exact hMg
  have h1 := fm_cmp M (y i) (y j) _ (hM.size hk.1) ((hP i i.2).1.kp hk) ((hP j j.2).1.kp hk) (hP i i.2).2 (hP j j.2).2
  refine (calls_drawn h1 fun e w' h => by rw [h.1]; intro hh; cases hh).mono ?_
  rintro e w' ⟨⟨h2, h3⟩, h4⟩
  obtain ⟨q', os', h5⟩ := Gr.of_ext h3 h4
  exact ⟨h2, q', os', h5⟩
 have hH : Go.Sort.Holds (fun i : Fin (m + 1) => sv (y i)) w g 0 (Array.ofFn (n := m + 1) fun i => i) := fun j hj => by
  have hj' : j < m + 1 := by simpa using hj
  rw [Nat.zero_add, hB.cell (by omega), hF j hj', hget j hj']
  exact ⟨rfl, hB.frozen j⟩
 have hs := Go.Proofs.Any.slices_SortFunc Tryz.sortPoly (fun i : Fin (m + 1) => sv (y i)) (fun _ => rfl) (cfP y) (swoP y) 88 #[] g 0 cap (Array.ofFn (n := m + 1) fun i => i) w (fun args w => by kernel_rfl) hcmp hH hgl (by rw [hd]; exact hn)
 rw [hd] at hs
 refine hs.mono ?_
 rintro e w' ⟨rfl, d', q, os, hp, hso, rfl⟩
 have hds : d'.size = m + 1 := by rw [hp.1, hd]
 have hgr := grown_sortWorld (fun i : Fin (m + 1) => sv (y i)) hgl q d' os
 have hk : Kp M w (Go.Proofs.sortWorld (fun i : Fin (m + 1) => sv (y i)) w g 0 q d' os) := Kp.grown hgr fun k hk => by cases hk; exact hMg
 refine ⟨rfl, fun i => y d'[i]!, ⟨_, blk_sortWorld _ hB q d' os, fun j hj => by rw [if_pos (by omega)], fun i hi => ⟨(hP d'[i]! (d'[i]!).2).1.kp hk, (hP d'[i]! (d'[i]!).2).2⟩⟩, ⟨fun i hi => ⟨d'[i]!, (d'[i]!).2, rfl⟩, fun j hj => ?_⟩, fun i j hij hj => ?_, hgr⟩
 ·have hperm := hp.2.2
  rw [show (Array.ofFn (n := m + 1) fun i => i).extract 0 (m + 1) = Array.ofFn (n := m + 1) fun i => i by simp, show d'.extract 0 (m + 1) = d' by simp [← hds]] at hperm
  have hof : (Array.ofFn (n := m + 1) fun i => i).toList[j]? = some ⟨j, hj⟩ := by rw [Array.getElem?_toList, Array.getElem?_ofFn, dif_pos hj]
  have hmem : (⟨j, hj⟩ : Fin (m + 1)) ∈ d'.toList := hperm.mem_iff.2 (List.mem_of_getElem? hof)
  obtain ⟨i, hi, he⟩ := List.getElem_of_mem hmem
  have hi' : i < d'.size := by simpa using hi
  refine ⟨i, by omega, ?_⟩
  show y d'[i]! = y j
  rw [getElem!_pos d' i hi', show d'[i] = ⟨j, hj⟩ by simpa using he]
 ·have h1 := hso i j (Nat.zero_le _) hij hj
  unfold Go.Proofs.ltOf cfP at h1
  simp only [decide_eq_false_iff_not] at h1
  rcases cmpP_tri (norm (y d'[i]!).l) (norm (y d'[j]!).l) with k | k | k
  ·exact Int.le_of_lt k
  ·rw [k]; exact Int.le_of_eq ((cmpP_zero _ _).2 rfl)
  ·exact absurd k h1
end Go.Proofs.YtjcceddloogiiaaGreat
