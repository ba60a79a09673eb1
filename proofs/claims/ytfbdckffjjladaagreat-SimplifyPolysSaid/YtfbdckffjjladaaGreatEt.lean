/- The sort (slices.SortFunc at []sparse.Poly), laid out of the shelf; written by the kit's lay-plain.mjs, then made a template. The sort of sparse polynomials, of any length. -/
import Derived.Shelf.SlSortCmp.Whole1
import Derived.Ground.SlsfProg
import Derived.Test.YtfbdckffjjladaaGreatProg
import Derived.Test.YtfbdckffjjladaaGreatDd
import Derived.Test.YtfbdckffjjladaaGreatEs
set_option linter.unusedVariables false
set_option linter.unusedSimpArgs false

namespace Go.Proofs
open Go.Shelf
def Tryz.sortPoly_ren : Go.Shelf.Ren := ⟨fun | 6 => 139 | 15 => 176 | 14 => 175 | 28 => 206 | 29 => 207 | 20 => 198 | 21 => 199 | 22 => 200 | 23 => 201 | 24 => 202 | 25 => 203 | 26 => 204 | 27 => 205 | 46 => 225 | 47 => 226 | 48 => 227 | 49 => 228 | 50 => 229 | 57 => 241 | n => n, fun | 22 => 154 | 24 => 61 | 25 => 158 | 3 => 3 | 39 => 169 | 0 => 0 | 53 => 134 | 55 => 120 | 4 => 4 | 46 => 215 | 45 => 214 | 50 => 207 | 5 => 5 | 9 => 9 | 66 => 236 | 70 => 240 | 76 => 248 | 77 => 249 | n => n, fun | n => n⟩
theorem Tryz.sortPoly : Go.Proofs.SlLaysF.n6 Tryz.prog Tryz.sortPoly_ren := {
 mixed := by kernel_rfl
 f6 := ⟨Tryz.f139.name, by decide, Tryz.func139.trans (congrArg some (by kernel_rfl))⟩
 f14 := ⟨Tryz.f175.name, by decide, Tryz.func175.trans (congrArg some (by kernel_rfl))⟩
 f15 := Tryz.func176.trans (congrArg some (by kernel_rfl))
 f20 := ⟨Tryz.f198.name, by decide, Tryz.func198.trans (congrArg some (by kernel_rfl))⟩
 f21 := ⟨Tryz.f199.name, by decide, Tryz.func199.trans (congrArg some (by kernel_rfl))⟩
 f22 := ⟨Tryz.f200.name, by decide, Tryz.func200.trans (congrArg some (by kernel_rfl))⟩
 f23 := ⟨Tryz.f201.name, by decide, Tryz.func201.trans (congrArg some (by kernel_rfl))⟩
 f24 := ⟨Tryz.f202.name, by decide, Tryz.func202.trans (congrArg some (by kernel_rfl))⟩
 f25 := ⟨Tryz.f203.name, by decide, Tryz.func203.trans (congrArg some (by kernel_rfl))⟩
 f26 := ⟨Tryz.f204.name, by decide, Tryz.func204.trans (congrArg some (by kernel_rfl))⟩
 f27 := ⟨Tryz.f205.name, by decide, Tryz.func205.trans (congrArg some (by kernel_rfl))⟩
 f28 := Tryz.func206.trans (congrArg some (by kernel_rfl))
 f29 := Tryz.func207.trans (congrArg some (by kernel_rfl))
 f46 := ⟨Tryz.f225.name, by decide, Tryz.func225.trans (congrArg some (by kernel_rfl))⟩
 f47 := Tryz.func226.trans (congrArg some (by kernel_rfl))
 f48 := Tryz.func227.trans (congrArg some (by kernel_rfl))
 f49 := ⟨Tryz.f228.name, by decide, Tryz.func228.trans (congrArg some (by kernel_rfl))⟩
 f50 := ⟨Tryz.f229.name, by decide, Tryz.func229.trans (congrArg some (by kernel_rfl))⟩
 f57 := ⟨Tryz.f241.name, by decide, Tryz.func241.trans (congrArg some (by kernel_rfl))⟩
 t0 := Tryz.underlying0
 a0 := Tryz.isAgg0
 z0 := Tryz.sizeOf0
 v0 := Tryz.zeroValue0
 t3 := Tryz.underlying3
 a3 := Tryz.isAgg3
 z3 := Tryz.sizeOf3
 v3 := Tryz.zeroValue3
 t4 := Tryz.underlying4
 a4 := Tryz.isAgg4
 z4 := Tryz.sizeOf4
 v4 := Tryz.zeroValue4
 t5 := Tryz.underlying5
 a5 := Tryz.isAgg5
 z5 := Tryz.sizeOf5
 v5 := Tryz.zeroValue5
 t9 := Tryz.underlying9
 a9 := Tryz.isAgg9
 z9 := Tryz.sizeOf9
 v9 := Tryz.zeroValue9
 t22 := Tryz.underlying154
 a22 := Tryz.isAgg154
 z22 := Tryz.sizeOf154
 v22 := Tryz.zeroValue154
 a24 := Tryz.isAgg61
 z24 := Tryz.sizeOf61
 t25 := Tryz.underlying158
 a25 := Tryz.isAgg158
 z25 := Tryz.sizeOf158
 v25 := Tryz.zeroValue158
 t39 := Tryz.underlying169
 a39 := Tryz.isAgg169
 z39 := Tryz.sizeOf169
 v39 := Tryz.zeroValue169
 t45 := Tryz.underlying214
 a45 := Tryz.isAgg214
 z45 := Tryz.sizeOf214
 v45 := Tryz.zeroValue214
 t46 := Tryz.underlying215
 a46 := Tryz.isAgg215
 z46 := Tryz.sizeOf215
 v46 := Tryz.zeroValue215
 t50 := Tryz.underlying207
 a50 := Tryz.isAgg207
 z50 := Tryz.sizeOf207
 v50 := Tryz.zeroValue207
 t53 := Tryz.underlying134
 a53 := Tryz.isAgg134
 z53 := Tryz.sizeOf134
 v53 := Tryz.zeroValue134
 t55 := Tryz.underlying120
 a55 := Tryz.isAgg120
 z55 := Tryz.sizeOf120
 v55 := Tryz.zeroValue120
 t66 := Tryz.underlying236
 a66 := Tryz.isAgg236
 z66 := Tryz.sizeOf236
 v66 := Tryz.zeroValue236
 t70 := Tryz.underlying240
 a70 := Tryz.isAgg240
 z70 := Tryz.sizeOf240
 v70 := Tryz.zeroValue240
 t76 := Tryz.underlying248
 a76 := Tryz.isAgg248
 z76 := Tryz.sizeOf248
 v76 := Tryz.zeroValue248
 t77 := Tryz.underlying249
 a77 := Tryz.isAgg249
 z77 := Tryz.sizeOf249
 v77 := Tryz.zeroValue249 }
end Go.Proofs

namespace Go.Proofs.YtfbdckffjjladaaGreat
open Go.RowKit

theorem Gr.of_ext {w w' : World} (h : Ext w w') (hd : w.drawn ≤ w'.drawn) : Gr w w' := by
 refine ⟨w'.drawn - w.drawn, w'.heap.extract w.heap.size w'.heap.size, ?_⟩
 have h1 : w'.heap = w.heap ++ w'.heap.extract w.heap.size w'.heap.size := by
  have hs := h.size
  apply Array.ext_getElem?
  intro k
  rw [Array.getElem?_append]
  by_cases hk : k < w.heap.size
  ·rw [if_pos hk]; exact h.heap hk
  ·rw [if_neg hk, Array.getElem?_extract]
   by_cases hk2 : k < w'.heap.size
   ·rw [if_pos (by omega)]; congr 1; omega
   ·rw [if_neg (by omega)]; exact Array.getElem?_eq_none (by omega)
 obtain ⟨hp, dr⟩ : ∃ q, q = w'.drawn - w.drawn := ⟨_, rfl⟩
 have h2 := Below.os h
 have h3 := Below.tape h
 have h4 := Below.output h
 unfold Go.Sort.grow World.drewN
 cases w'
 cases w
 simp only at h1 h2 h3 h4 hd ⊢
 subst h2 h3 h4
 rw [World.mk.injEq]
 exact ⟨h1, rfl, by omega, rfl, rfl⟩
theorem cmpP_tri : ∀ a b : List Tm, cmpP a b < 0 ∨ a = b ∨ cmpP b a < 0
 | [], [] => .inr (.inl rfl)
 | [], _ :: _ => .inl (by simp [cmpP])
 | _ :: _, [] => .inr (.inr (by simp [cmpP]))
 | s :: a, t :: b => by
  simp only [cmpP]
  by_cases h0 : cmpT s t = 0
  ·obtain rfl := (cmpT_zero s t).1 h0
   rw [if_pos h0, if_pos h0]
   rcases cmpP_tri a b with h | rfl | h
   ·exact .inl h
   ·exact .inr (.inl rfl)
   ·exact .inr (.inr h)
  ·have h1 : cmpT t s ≠ 0 := fun e => h0 ((cmpT_zero s t).2 ((cmpT_zero t s).1 e).symm)
   rw [if_neg h0, if_neg h1, cmpT_neg, cmpT_neg]
   have hne : s ≠ t := fun e => h0 ((cmpT_zero s t).2 e)
   unfold ltT
   rcases Mo.lt_tri s.2 t.2 with h | h | h
   ·exact .inl (.inl h)
   ·rcases Int.lt_trichotomy s.1 t.1 with k | k | k
    ·exact .inl (.inr ⟨h, k⟩)
    ·exact absurd (Prod.ext k h) hne
    ·exact .inr (.inr (.inr ⟨h.symm, k⟩))
   ·exact .inr (.inr (.inl h))
def cfP {m : Nat} (y : Nat → SE) (i j : Fin (m + 1)) : Int := cmpP (norm (y i).l) (norm (y j).l)
theorem swoP {m : Nat} (y : Nat → SE) : Go.Sort.SWO (Go.Proofs.ltOf (cfP (m := m) y)) where
 irrefl x := by
  unfold Go.Proofs.ltOf cfP
  rw [(cmpP_zero _ _).2 rfl]; rfl
 trans a b c h1 h2 := by
  unfold Go.Proofs.ltOf cfP at *
  simp only [decide_eq_true_eq] at *
  exact cmpP_trans h1 h2
 ntrans a b c h1 h2 := by
  unfold Go.Proofs.ltOf cfP at *
  simp only [decide_eq_false_iff_not] at *
  intro h3
  rcases cmpP_tri (norm (y a).l) (norm (y b).l) with k | k | k
  ·exact h1 k
  ·rw [k] at h3; exact h2 h3
  ·exact h2 (cmpP_trans k h3)
theorem grown_sortWorld {α : Type} [Inhabited α] (enc : α → Value) {w : World} {g : Nat} (hg : g < w.heap.size) (q : Nat) (d : Array α) (os : Array Obj) : w.grownBy (Go.Proofs.sortWorld enc w g 0 q d os) (some g) := by
 refine ⟨rfl, rfl, rfl, ?_, fun k hk hne => ?_⟩
 ·unfold Go.Proofs.sortWorld
  rw [Go.Sort.size_grow, Go.Sort.size_putRow, Go.Sort.heap_ahead]; omega
 ·unfold Go.Proofs.sortWorld
  rw [Go.Sort.heap_grow_old _ _ (by rw [Go.Sort.size_putRow, Go.Sort.heap_ahead]; exact hk)]
  show (w.heap.modify g _)[k]? = _
  rw [Array.getElem?_modify, if_neg (fun e => hne (by rw [e]))]
theorem blk_sortWorld {α : Type} [Inhabited α] (enc : α → Value) {w : World} {g cap : Nat} {t : TypeId} {F : Nat → Value} (hB : Blk w g t cap F) (q : Nat) (d : Array α) (os : Array Obj) : Blk (Go.Proofs.sortWorld enc w g 0 q d os) g t cap (fun j => if j < d.size then enc d[j]! else F j) := by
 obtain ⟨cur, hg, hs, hc⟩ := hB
 have hlt : g < w.heap.size := (Array.getElem?_eq_some_iff.1 hg).1
 refine ⟨Go.Sort.putCells enc 0 d cur, ?_, by simp [Go.Sort.putCells, hs], fun i hi => ?_⟩
 ·unfold Go.Proofs.sortWorld
  rw [Go.Sort.heap_grow_old _ _ (by rw [Go.Sort.size_putRow, Go.Sort.heap_ahead]; exact hlt)]
  show (w.heap.modify g _)[g]? = _
  simp [Array.getElem?_modify, hg, Go.Sort.onCells]
 ·simp only [Go.Sort.putCells, Array.getElem?_mapIdx, hc i hi, Option.map_some, Nat.zero_le, true_and, Nat.zero_add, Nat.sub_zero]
theorem sort_on (T : List Tm → Prop) (n : Nat) (hn : n < 4611686018427387904) : SortOn T n := by
 cases n with
 | zero =>
  intro M w g cap y hM hMg hc hr hT
  exact sort_eq [] 0 (by omega) M w g cap y hM hMg hc hr (fun i hi => absurd hi (Nat.not_lt_zero _))
 | succ m =>
 intro M w g cap y hM hMg hc hr hT
 obtain ⟨F, hB, hF, hP⟩ := hr
 have hgl := hB.lt
 have hd : (Array.ofFn (n := m + 1) fun i => i).size = m + 1 := by simp
 have hget : ∀ j (hj : j < m + 1), (Array.ofFn (n := m + 1) fun i => i)[j]! = ⟨j, hj⟩ := fun j hj => by
  rw [Array.getElem!_eq_getD, Array.getD_eq_getD_getElem?]; simp [hj]
 have hcmp : Go.Proofs.CmpLays1 Tryz.prog 140 #[] (fun i : Fin (m + 1) => sv (y i)) (cfP y) g 0 (Array.ofFn (n := m + 1) fun i => i).size w := by
  intro q os dk _ i j
  have hgr := grown_sortWorld (fun i : Fin (m + 1) => sv (y i)) hgl q dk os
  have hk : Kp M w (Go.Proofs.sortWorld (fun i : Fin (m + 1) => sv (y i)) w g 0 q dk os) := Kp.grown hgr fun k hk => by cases hk; exact hMg
  have h1 := fm_cmp M (y i) (y j) _ (hM.size hk.1) ((hP i i.2).1.kp hk) ((hP j j.2).1.kp hk) (hP i i.2).2 (hP j j.2).2
  refine (calls_drawn h1 fun e w' h => by rw [h.1]; intro hh; cases hh).mono ?_
  rintro e w' ⟨⟨h2, h3⟩, h4⟩
  obtain ⟨q', os', h5⟩ := Gr.of_ext h3 h4
  exact ⟨h2, q', os', h5⟩
 have hH : Go.Sort.Holds (fun i : Fin (m + 1) => sv (y i)) w g 0 (Array.ofFn (n := m + 1) fun i => i) := fun j hj => by
  have hj' : j < m + 1 := by simpa using hj
  rw [Nat.zero_add, hB.cell (by omega), hF j hj', hget j hj']
  exact ⟨rfl, hB.frozen j⟩
 have hs := Go.Proofs.Any.slices_SortFunc Tryz.sortPoly (fun i : Fin (m + 1) => sv (y i)) (fun _ => rfl) (cfP y) (swoP y) 140 #[] g 0 cap (Array.ofFn (n := m + 1) fun i => i) w (fun args w => by kernel_rfl) hcmp hH hgl (by rw [hd]; exact hn)
 rw [hd] at hs
 refine hs.mono ?_
 rintro e w' ⟨rfl, d', q, os, hp, hso, rfl⟩
 have hds : d'.size = m + 1 := by rw [hp.1, hd]
 have hgr := grown_sortWorld (fun i : Fin (m + 1) => sv (y i)) hgl q d' os
 have hk : Kp M w (Go.Proofs.sortWorld (fun i : Fin (m + 1) => sv (y i)) w g 0 q d' os) := Kp.grown hgr fun k hk => by cases hk; exact hMg
 refine ⟨rfl, fun i => y d'[i]!, ⟨_, blk_sortWorld _ hB q d' os, fun j hj => by rw [if_pos (by omega)], fun i hi => ⟨(hP d'[i]! (d'[i]!).2).1.kp hk, (hP d'[i]! (d'[i]!).2).2⟩⟩, ⟨fun i hi => ⟨d'[i]!, (d'[i]!).2, rfl⟩, fun j hj => ?_⟩, fun i j hij hj => ?_, hgr⟩
 ·have hperm := hp.2.2
  rw [show (Array.ofFn (n := m + 1) fun i => i).extract 0 (m + 1) = Array.ofFn (n := m + 1) fun i => i by simp, show d'.extract 0 (m + 1) = d' by simp [← hds]] at hperm
  have hof : (Array.ofFn (n := m + 1) fun i => i).toList[j]? = some ⟨j, hj⟩ := by rw [Array.getElem?_toList, Array.getElem?_ofFn, dif_pos hj]
  have hmem : (⟨j, hj⟩ : Fin (m + 1)) ∈ d'.toList := hperm.mem_iff.2 (List.mem_of_getElem? hof)
  obtain ⟨i, hi, he⟩ := List.getElem_of_mem hmem
  have hi' : i < d'.size := by simpa using hi
  refine ⟨i, by omega, ?_⟩
  show y d'[i]! = y j
  rw [getElem!_pos d' i hi', show d'[i] = ⟨j, hj⟩ by simpa using he]
 ·have h1 := hso i j (Nat.zero_le _) hij hj
  unfold Go.Proofs.ltOf cfP at h1
  simp only [decide_eq_false_iff_not] at h1
  rcases cmpP_tri (norm (y d'[i]!).l) (norm (y d'[j]!).l) with k | k | k
  ·exact Int.le_of_lt k
  ·rw [k]; exact Int.le_of_eq ((cmpP_zero _ _).2 rfl)
  ·exact absurd k h1
end Go.Proofs.YtfbdckffjjladaaGreat
