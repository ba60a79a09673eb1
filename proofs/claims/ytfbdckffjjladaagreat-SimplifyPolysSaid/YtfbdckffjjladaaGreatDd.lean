/- Rows of sparse polynomials; the sort of at most two equal ones. Plain facts: the order of sparse polynomials; families. mainvar.Family. -/
import Derived.Test.YtfbdckffjjladaaGreatDc
import Derived.Test.YtfbdckffjjladaaGreatNe
import Derived.Test.YtfbdckffjjladaaGreatMi
import Derived.Test.YtfbdckffjjladaaGreatMp
import Derived.Scope
set_option linter.unusedVariables false
set_option linter.unusedSimpArgs false

namespace Go.Proofs.YtfbdckffjjladaaGreat
open Go.RowKit

structure SE where
 a : Option Addr
 n : Nat
 p : Nat
 l : List Tm
instance : Inhabited SE := ⟨⟨none, 0, 0, []⟩⟩
def sv (x : SE) : Value := .slice x.a x.n x.p
def sx (x : Nat → SE) : Nat → Value := fun i => sv (x i)
def SRow (M : Nat → Prop) (w : World) (g cap n : Nat) (y : Nat → SE) : Prop := ∃ F, Blk w g 61 cap F ∧ (∀ j, j < n → F j = sv (y j)) ∧ ∀ i, i < n → PolyV M w (sv (y i)) (y i).l ∧ dlen (nrm (y i).l) ≤ 1099511627776
theorem SRow.ext {M : Nat → Prop} {w w' : World} {g cap n : Nat} {y : Nat → SE} (h : SRow M w g cap n y) (he : Ext w w') : SRow M w' g cap n y := by
 obtain ⟨F, h1, h2, h3⟩ := h
 exact ⟨F, h1.ext he, h2, fun i hi => ⟨(h3 i hi).1.ext he, (h3 i hi).2⟩⟩
theorem SRow.cell {M : Nat → Prop} {w : World} {g cap n : Nat} {y : Nat → SE} (h : SRow M w g cap n y) (hn : n ≤ cap) (i : Nat) (hi : i < n) : w.cell? ⟨g, i, none⟩ = some (.slice (y i).a (y i).n (y i).p) := by
 obtain ⟨F, h1, h2, h3⟩ := h
 rw [h1.cell (by omega), h2 i hi]; rfl
def SameEl (n : Nat) (y x : Nat → SE) : Prop := (∀ i, i < n → ∃ j, j < n ∧ y i = x j) ∧ ∀ j, j < n → ∃ i, i < n ∧ y i = x j
theorem SameEl.refl (n : Nat) (y : Nat → SE) : SameEl n y y := ⟨fun i hi => ⟨i, hi, rfl⟩, fun i hi => ⟨i, hi, rfl⟩⟩
def SortOn (T : List Tm → Prop) (n : Nat) : Prop := ∀ (M : Nat → Prop) (w : World) (g cap : Nat) (y : Nat → SE), Mb M w → M g → n ≤ cap → SRow M w g cap n y → (∀ i, i < n → T (y i).l) →
 Calls Tryz.prog 139 #[.slice (some ⟨g, 0, none⟩) n cap, .func (.func 140) #[] #[]] w fun e w' => e = .returned (.tuple #[]) ∧
  ∃ y', SRow M w' g cap n y' ∧ SameEl n y' y ∧ (∀ i j, i < j → j < n → cmpP (norm (y' i).l) (norm (y' j).l) ≤ 0) ∧ w.grownBy w' (some g)
theorem fm_cmp (M : Nat → Prop) (x y : SE) (w : World) (hM : Mb M w) (h : PolyV M w (sv x) x.l) (h' : PolyV M w (sv y) y.l) (hL : dlen (nrm x.l) ≤ 1099511627776) (hL' : dlen (nrm y.l) ≤ 1099511627776) : Calls Tryz.prog 140 #[.slice x.a x.n x.p, .slice y.a y.n y.p] w fun e w' => e = .returned (.int .i64 (cmpP (norm x.l) (norm y.l))) ∧ Ext w w' := by
 have CT := Lib.hid (sp_compare M _ _ _ _ w hM h h' hL hL')
 clear h h'
 go_enter Tryz.func140, Tryz.ntmps140
 go_wp2_with (fail)
 refine CT.out.mono ?_
 rintro e w1 ⟨rfl, he1⟩
 go_wp2
 go_ret
 exact ⟨rfl, he1⟩
theorem insP_nil (fv : Value) (w : World) : Calls Tryz.prog 198 #[.slice none 0 0, .int .i64 0, .int .i64 0, fv] w fun e w' => e = .returned (.tuple #[]) ∧ w = w' := by
 go_enter Tryz.func198, Tryz.ntmps198
 go_wp2
 refine wp_loop_rounds 1 ?_
 rw [rounds_succ]
 go_wp2
 go_end0
 exact ⟨rfl, rfl⟩
set_option maxRecDepth 100000 in
set_option maxHeartbeats 2000000 in
theorem pdqP_nil (fv : Value) (w : World) : Calls Tryz.prog 175 #[.slice none 0 0, .int .i64 0, .int .i64 0, .int .i64 0, fv] w fun e w' => e = .returned (.tuple #[]) ∧ w = w' := by
 go_enter Tryz.func175, Tryz.ntmps175
 go_wp2
 refine wp_loop_rounds 1 ?_
 rw [rounds_succ]
 go_wp2_with (fail)
 refine (insP_nil fv w).mono ?_
 rintro e w1 ⟨rfl, rfl⟩
 go_wp2
 refine bodyPost_ret (results_none rfl _ _ _) rfl ?_
 exact ⟨rfl, rfl⟩
theorem fm_sort_nil (fv : Value) (w : World) : Calls Tryz.prog 139 #[.slice none 0 0, fv] w fun e w' => e = .returned (.tuple #[]) ∧ w = w' := by
 have hb := bits_len 0 w (by omega)
 have h0 : Lib.bitLen 0 = 0 := by decide
 rw [h0] at hb
 have hwr : IntKind.u64.wrap ((0 : Nat) : Int) = (0 : Nat) := wrap_u64_nat 0 (by omega)
 have HB := Lib.hid hb
 clear hb h0
 go_enter Tryz.func139, Tryz.ntmps139
 go_wp2_with (fail)
 refine HB.out.mono ?_
 rintro e w1 ⟨rfl, rfl⟩
 go_wp2_with (fail)
 refine (pdqP_nil fv _).mono ?_
 rintro e w2 ⟨rfl, rfl⟩
 go_wp2
 go_end0
 exact ⟨rfl, rfl⟩
def SC2 (g : Nat) (x y : SE) (w : World) : Prop := w.cell? ⟨g, 0, none⟩ = some (.slice x.a x.n x.p) ∧ w.cell? ⟨g, 1, none⟩ = some (.slice y.a y.n y.p)
theorem SC2.ext {g : Nat} {x y : SE} {w w' : World} (h : SC2 g x y w) (he : Ext w w') : SC2 g x y w' := by
 have hb := World.block_lt_of_cell? _ _ h.1
 unfold SC2; rw [he.cell hb, he.cell hb]; exact h
def Stay (M : Nat → Prop) (g cap n : Nat) (y : Nat → SE) (w : World) (e : Ending) (w' : World) : Prop := e = .returned (.tuple #[]) ∧ Ext w w'
set_option maxRecDepth 100000 in
set_option maxHeartbeats 4000000 in
theorem ins_one (g cap : Nat) (fv : Value) (w : World) : Calls Tryz.prog 198 #[.slice (some ⟨g, 0, none⟩) 1 cap, .int .i64 0, .int .i64 1, fv] w fun e w' => e = .returned (.tuple #[]) ∧ Ext w w' := by
 go_enter Tryz.func198, Tryz.ntmps198
 go_wp2
 refine wp_loop_rounds 1 ?_
 rw [rounds_succ]
 go_wp2
 go_end0
 exact ⟨rfl, Ext.refl _⟩
set_option maxRecDepth 100000 in
set_option maxHeartbeats 4000000 in
theorem ins_zero (g cap : Nat) (fv : Value) (w : World) : Calls Tryz.prog 198 #[.slice (some ⟨g, 0, none⟩) 0 cap, .int .i64 0, .int .i64 0, fv] w fun e w' => e = .returned (.tuple #[]) ∧ Ext w w' := by
 go_enter Tryz.func198, Tryz.ntmps198
 go_wp2
 refine wp_loop_rounds 1 ?_
 rw [rounds_succ]
 go_wp2
 go_end0
 exact ⟨rfl, Ext.refl _⟩
set_option maxRecDepth 100000 in
set_option maxHeartbeats 4000000 in
theorem ins_two (M : Nat → Prop) (g cap : Nat) (x y : SE) (w : World) (hM : Mb M w) (hS : SC2 g x y w) (h : PolyV M w (sv x) x.l) (h' : PolyV M w (sv y) y.l) (hL : dlen (nrm x.l) ≤ 1099511627776) (hL' : dlen (nrm y.l) ≤ 1099511627776) (he : norm x.l = norm y.l) :
  Calls Tryz.prog 198 #[.slice (some ⟨g, 0, none⟩) 2 cap, .int .i64 0, .int .i64 2, .func (.func 140) #[] #[]] w fun e w' => e = .returned (.tuple #[]) ∧ Ext w w' := by
 have hz : cmpP (norm y.l) (norm x.l) = 0 := (cmpP_zero _ _).2 he.symm
 have CT : Hid (∀ W, Ext w W → Calls Tryz.prog 140 #[.slice y.a y.n y.p, .slice x.a x.n x.p] W fun e w' => e = .returned (.int .i64 0) ∧ Ext W w') := fun W hW => by
  have := fm_cmp M y x W (hM.ext hW) (h'.ext hW) (h.ext hW) hL' hL
  rw [hz] at this; exact this
 have HS := Lib.hid hS
 clear hM hS h h' hL hL' he hz
 go_enter Tryz.func198, Tryz.ntmps198
 go_wp2
 refine wp_loop_rounds 2 ?_
 rw [rounds_succ]
 go_wp2
 refine wp_loop_rounds 1 ?_
 rw [rounds_succ]
 go_upto_region 4 with (fail)
 refine wp_region_u (SC2 g x y) 17 (by kernel_rfl) (HS.out.ext (Ext.refl w).drew) (fun hHeld => ?_)
 have hw0 : IntKind.i64.wrap 0 = 0 := by decide
 (refine tkB [0, 1, 2, 3, 4, 5, 6, 7, 8, 9, 10, 11, 12, 13] ?_; (iterate 14 (refine tk1 (oi := ?_) (v := ?_) (by kernel_rfl) (by first | exact hSn | exact hHeld) ?_ ?_ ?_ ?_ ?_; rotate_left 2; (simp only [xgA, xgB, xgC]; rfl); rfl; (intro wS hSw; obtain ⟨S1, S2⟩ := hSw; go_simp; try with_reducible rfl); (exact fun _ _ _ h => h); (try simp only [Act.put, xgD, xgE, xgF]))); refine tkE ?_)
 ((refine wpAnyU_one 14 (o := ?_) (by kernel_rfl) ?_ ?_; rotate_left 1; (simp only [xgA, xgB, xgC]; rfl); intro K hK); go_simp; (refine (CT.out _ (Ext.refl w).drew).mono ?_); rintro e_ wz ⟨rfl, e14⟩; go_wp2_with (fail); (try clear hSn); (have hSn := hHeld.ext e14); (refine hK.out _ _ (fun _ => hSn) ?_); clear hK K; (try simp only [Act.put, xgD, xgE, xgF]))
 (refine tkB [15, 16] ?_; (iterate 2 (refine tk1 (oi := ?_) (v := ?_) (by kernel_rfl) (by first | exact hSn | exact hHeld) ?_ ?_ ?_ ?_ ?_; rotate_left 2; (simp only [xgA, xgB, xgC]; rfl); rfl; (intro wS hSw; obtain ⟨S1, S2⟩ := hSw; go_simp; try with_reducible rfl); (exact fun _ _ _ h => h); (try simp only [Act.put, xgD, xgE, xgF]))); refine tkE ?_)
 refine wpAnyU_done (by kernel_rfl) ?_ _
 have HF := Lib.hid (((Ext.refl w).drew).trans e14)
 clear hHeld hSn e14 CT HS
 go_wp2
 rw [rounds_succ]
 go_wp2
 go_end0
 exact ⟨rfl, HF.out⟩
set_option maxRecDepth 100000 in
set_option maxHeartbeats 4000000 in
theorem pdqP_small (g n cap : Nat) (lim : Int) (fv : Value) (w : World) (hn : n ≤ 12) (h : ∀ W, Ext w W → Calls Tryz.prog 198 #[.slice (some ⟨g, 0, none⟩) n cap, .int .i64 0, .int .i64 n, fv] W fun e w' => e = .returned (.tuple #[]) ∧ Ext W w') :
  Calls Tryz.prog 175 #[.slice (some ⟨g, 0, none⟩) n cap, .int .i64 0, .int .i64 n, .int .i64 lim, fv] w fun e w' => e = .returned (.tuple #[]) ∧ Ext w w' := by
 have HC := Lib.hid h
 have hn2 : (n : Int) ≤ 12 := by omega
 have hn0 : (0 : Int) ≤ (n : Int) := Int.natCast_nonneg _
 clear h
 go_enter Tryz.func175, Tryz.ntmps175
 go_wp2
 refine wp_loop_rounds 1 ?_
 rw [rounds_succ]
 go_wp2_with (fail)
 refine (HC.out _ (Ext.refl w)).mono ?_
 rintro e w1 ⟨rfl, he1⟩
 have HF := Lib.hid he1
 clear he1 HC
 go_wp2
 refine bodyPost_ret (results_none rfl _ _ _) rfl ?_
 exact ⟨rfl, HF.out⟩
set_option maxRecDepth 100000 in
set_option maxHeartbeats 4000000 in
theorem fm_sort_small (g n cap : Nat) (fv : Value) (w : World) (hn : n ≤ 12) (h : ∀ W, Ext w W → Calls Tryz.prog 198 #[.slice (some ⟨g, 0, none⟩) n cap, .int .i64 0, .int .i64 n, fv] W fun e w' => e = .returned (.tuple #[]) ∧ Ext W w') :
  Calls Tryz.prog 139 #[.slice (some ⟨g, 0, none⟩) n cap, fv] w fun e w' => e = .returned (.tuple #[]) ∧ Ext w w' := by
 have hwr : IntKind.u64.wrap ((n : Nat) : Int) = (n : Nat) := wrap_u64_nat n (by omega)
 have HB := Lib.hid (bits_len n w (by omega))
 have HP := Lib.hid (fun lim => pdqP_small g n cap lim fv w hn h)
 clear h hn
 generalize Lib.bitLen n = bl at *
 go_enter Tryz.func139, Tryz.ntmps139
 go_wp2_with (fail)
 refine HB.out.mono ?_
 rintro e w1 ⟨rfl, rfl⟩
 go_wp2_with (fail)
 refine (HP.out _).mono ?_
 rintro e w2 ⟨rfl, he2⟩
 have HF := Lib.hid he2
 clear he2 HP HB
 go_wp2
 go_end0
 exact ⟨rfl, HF.out⟩
theorem sort_eq (s : List Tm) (n : Nat) (h2 : n ≤ 2) : SortOn (fun l => norm l = s) n := by
 intro M w g cap y hM hg hn hS hT
 refine (fm_sort_small g n cap _ w (by omega) fun W hW => ?_).mono fun e w' ⟨he, hE⟩ => ⟨he, y, hS.ext hE, SameEl.refl _ _, fun i j hij hj => ?_, hE.grownBy _⟩
 ·have hSW := hS.ext hW
  have hMW := hM.ext hW
  obtain ⟨F, _, _, hP⟩ := id hSW
  by_cases hn0 : n = 0
  ·subst hn0; exact ins_zero g cap _ W
  by_cases hn1 : n = 1
  ·subst hn1; exact ins_one g cap _ W
  ·obtain rfl : n = 2 := by omega
   exact ins_two M g cap (y 0) (y 1) W hMW ⟨hSW.cell hn 0 (by omega), hSW.cell hn 1 (by omega)⟩ (hP 0 (by omega)).1 (hP 1 (by omega)).1 (hP 0 (by omega)).2 (hP 1 (by omega)).2 ((hT 0 (by omega)).trans (hT 1 (by omega)).symm)
 ·rw [hT i (by omega), hT j hj, (cmpP_zero _ _).2 rfl]; exact Int.le_refl _
end Go.Proofs.YtfbdckffjjladaaGreat

namespace Go.Proofs.YtfbdckffjjladaaGreat
open Go.RowKit

def ltT (s t : Tm) : Prop := Mo.lt s.2 t.2 ∨ (s.2 = t.2 ∧ s.1 < t.1)
theorem cmpT_neg (s t : Tm) : cmpT s t < 0 ↔ ltT s t := by
 unfold cmpT ltT
 by_cases h : s.2 = t.2
 ·rw [if_pos h]
  have hn : ¬ Mo.lt s.2 t.2 := fun hl => Mo.lt_ne hl h
  unfold cmpZ
  by_cases h1 : s.1 < t.1
  ·rw [if_pos h1]; exact ⟨fun _ => .inr ⟨h, h1⟩, fun _ => by omega⟩
  ·rw [if_neg h1]
   constructor
   ·intro h2; split at h2 <;> omega
   ·rintro (h2 | h2)
    ·exact absurd h2 hn
    ·exact absurd h2.2 h1
 ·rw [if_neg h, cmpMo_neg]
  exact ⟨.inl, fun h2 => h2.elim id fun h3 => absurd h3.1 h⟩
theorem ltT_trans {a b c : Tm} (h : ltT a b) (k : ltT b c) : ltT a c := by
 unfold ltT at *
 rcases h with h | ⟨h1, h2⟩ <;> rcases k with k | ⟨k1, k2⟩
 ·exact .inl (Mo.lt_trans h k)
 ·rw [← k1]; exact .inl h
 ·rw [h1]; exact .inl k
 ·exact .inr ⟨h1.trans k1, by omega⟩
theorem cmpP_trans : ∀ {a b c : List Tm}, cmpP a b < 0 → cmpP b c < 0 → cmpP a c < 0
 | [], [], _, h, _ => by simp [cmpP] at h
 | [], _ :: _, [], _, k => by simp [cmpP] at k
 | [], _ :: _, _ :: _, _, _ => by simp [cmpP]
 | _ :: _, [], _, h, _ => by simp [cmpP] at h
 | _ :: _, _ :: _, [], _, k => by simp [cmpP] at k
 | s :: a, t :: b, u :: c, h, k => by
  simp only [cmpP] at h k ⊢
  by_cases h0 : cmpT s t = 0
  ·obtain rfl := (cmpT_zero s t).1 h0
   rw [if_pos h0] at h
   by_cases k0 : cmpT s u = 0
   ·rw [if_pos k0] at k ⊢; exact cmpP_trans h k
   ·rw [if_neg k0] at k ⊢; exact k
  ·rw [if_neg h0] at h
   have hs := (cmpT_neg s t).1 h
   by_cases k0 : cmpT t u = 0
   ·obtain rfl := (cmpT_zero t u).1 k0
    rw [if_neg h0]; exact h
   ·rw [if_neg k0] at k
    have hk := ltT_trans hs ((cmpT_neg t u).1 k)
    have hn : cmpT s u < 0 := (cmpT_neg s u).2 hk
    rw [if_neg (by omega)]; exact hn
def FamL (N : Nat) (P : Nat → List Tm) (c : Nat) (F : Nat → List Tm) : Prop :=
 (∀ i, i < c → ∃ j, j < N ∧ F i = snorm (P j) ∧ lvM ((F i).map (·.2)) ≠ 0) ∧ (∀ j, j < N → lvM ((snorm (P j)).map (·.2)) ≠ 0 → ∃ i, i < c ∧ F i = snorm (P j)) ∧ ∀ i j, i < j → j < c → cmpP (F i) (F j) < 0
def NrL (P : Nat → List Tm) (k c : Nat) (y : Nat → SE) : Prop :=
 (∀ i, i < c → ∃ j, j < k ∧ (y i).l = snorm (P j) ∧ lvM (((y i).l).map (·.2)) ≠ 0) ∧ ∀ j, j < k → lvM ((snorm (P j)).map (·.2)) ≠ 0 → ∃ i, i < c ∧ (y i).l = snorm (P j)
theorem NrL.start (P : Nat → List Tm) (y : Nat → SE) : NrL P 0 0 y := ⟨fun i hi => absurd hi (Nat.not_lt_zero _), fun i hi => absurd hi (Nat.not_lt_zero _)⟩
theorem NrL.skip {P : Nat → List Tm} {k c : Nat} {y : Nat → SE} (h : NrL P k c y) (h0 : lvM ((snorm (P k)).map (·.2)) = 0) : NrL P (k + 1) c y := by
 refine ⟨fun i hi => ?_, fun j hj hl => ?_⟩
 ·obtain ⟨j, hj, hr⟩ := h.1 i hi; exact ⟨j, by omega, hr⟩
 ·by_cases hk : j = k
  ·subst hk; exact absurd h0 hl
  ·exact h.2 j (by omega) hl
theorem NrL.take {P : Nat → List Tm} {k c : Nat} {y : Nat → SE} (h : NrL P k c y) {z : SE} (hz : z.l = snorm (P k)) (h0 : lvM ((snorm (P k)).map (·.2)) ≠ 0) : NrL P (k + 1) (c + 1) (snoc y c z) := by
 refine ⟨fun i hi => ?_, fun j hj hl => ?_⟩
 ·by_cases hic : i = c
  ·subst hic; rw [snoc_at]; exact ⟨k, by omega, hz, by rw [hz]; exact h0⟩
  ·rw [snoc_lt _ _ _ _ (by omega)]
   obtain ⟨j, hj, hr⟩ := h.1 i (by omega); exact ⟨j, by omega, hr⟩
 ·by_cases hk : j = k
  ·subst hk; exact ⟨c, by omega, by rw [snoc_at]; exact hz⟩
  ·obtain ⟨i, hi, hr⟩ := h.2 j (by omega) hl
   exact ⟨i, by omega, by rw [snoc_lt _ _ _ _ hi]; exact hr⟩
def DdL (y : Nat → SE) (k m : Nat) (F : Nat → List Tm) : Prop :=
 (∀ i, i < m → ∃ j, j < k ∧ F i = (y j).l) ∧ (∀ j, j < k → ∃ i, i < m ∧ F i = (y j).l) ∧ (∀ i j, i < j → j < m → cmpP (F i) (F j) < 0) ∧ (0 < k → 0 < m ∧ F (m - 1) = (y (k - 1)).l) ∧ m ≤ k
theorem DdL.start (y : Nat → SE) (F : Nat → List Tm) : DdL y 0 0 F := ⟨fun i hi => absurd hi (Nat.not_lt_zero _), fun i hi => absurd hi (Nat.not_lt_zero _), fun i j _ hj => absurd hj (Nat.not_lt_zero _), fun h => absurd h (Nat.not_lt_zero _), Nat.le_refl _⟩
theorem DdL.skip {y : Nat → SE} {k m : Nat} {F : Nat → List Tm} (h : DdL y k m F) (hk : 0 < k) (he : (y (k - 1)).l = (y k).l) : DdL y (k + 1) m F := by
 obtain ⟨h1, h2, h3, h4, h5⟩ := h
 refine ⟨fun i hi => ?_, fun j hj => ?_, h3, fun _ => ⟨(h4 hk).1, ?_⟩, by omega⟩
 ·obtain ⟨j, hj, hr⟩ := h1 i hi; exact ⟨j, by omega, hr⟩
 ·by_cases hjk : j = k
  ·subst hjk; exact ⟨m - 1, by have := (h4 hk).1; omega, (h4 hk).2.trans he⟩
  ·exact h2 j (by omega)
 ·rw [Nat.add_sub_cancel, ← he]; exact (h4 hk).2
theorem DdL.take {y : Nat → SE} {k m n : Nat} {F : Nat → List Tm} (h : DdL y k m F) (hkn : k < n) (hs : ∀ i j, i < j → j < n → cmpP (y i).l (y j).l ≤ 0) (hne : 0 < k → (y (k - 1)).l ≠ (y k).l) : DdL y (k + 1) (m + 1) (snoc F m (y k).l) := by
 obtain ⟨h1, h2, h3, h4, h5⟩ := h
 refine ⟨fun i hi => ?_, fun j hj => ?_, fun i j hij hj => ?_, fun _ => ⟨by omega, ?_⟩, by omega⟩
 ·by_cases him : i = m
  ·subst him; rw [snoc_at]; exact ⟨k, by omega, rfl⟩
  ·rw [snoc_lt _ _ _ _ (by omega)]
   obtain ⟨j, hj, hr⟩ := h1 i (by omega); exact ⟨j, by omega, hr⟩
 ·by_cases hjk : j = k
  ·subst hjk; exact ⟨m, by omega, snoc_at _ _ _⟩
  ·obtain ⟨i, hi, hr⟩ := h2 j (by omega)
   exact ⟨i, by omega, by rw [snoc_lt _ _ _ _ hi]; exact hr⟩
 ·by_cases hjm : j = m
  ·subst hjm
   rw [snoc_at, snoc_lt _ _ _ _ hij]
   have hk : 0 < k := by omega
   have hl : cmpP (y (k - 1)).l (y k).l < 0 := by
    have e1 := hs (k - 1) k (by omega) hkn
    have e2 : cmpP (y (k - 1)).l (y k).l ≠ 0 := fun e => hne hk ((cmpP_zero _ _).1 e)
    omega
   by_cases hi1 : i = j - 1
   ·subst hi1; rw [(h4 hk).2]; exact hl
   ·refine cmpP_trans (h3 i (j - 1) (by omega) (by omega)) ?_
    rw [(h4 hk).2]; exact hl
  ·rw [snoc_lt _ _ _ _ (by omega), snoc_lt _ _ _ _ (by omega)]; exact h3 i j hij (by omega)
 ·rw [Nat.add_sub_cancel, Nat.add_sub_cancel, snoc_at]
theorem fam_done {N : Nat} {P : Nat → List Tm} {n m : Nat} {x y : Nat → SE} {F : Nat → List Tm} (h : NrL P N n x) (hs : SameEl n y x) (hd : DdL y n m F) : FamL N P m F := by
 refine ⟨fun i hi => ?_, fun j hj hl => ?_, hd.2.2.1⟩
 ·obtain ⟨j, hj, e1⟩ := hd.1 i hi
  obtain ⟨q, hq, e2⟩ := hs.1 j hj
  obtain ⟨r, hr, e3, e4⟩ := h.1 q hq
  rw [e1, e2]; exact ⟨r, hr, e3, e4⟩
 ·obtain ⟨q, hq, e1⟩ := h.2 j hj hl
  obtain ⟨r, hr, e2⟩ := hs.2 q hq
  obtain ⟨i, hi, e3⟩ := hd.2.1 r hr
  exact ⟨i, hi, by rw [e3, e2, e1]⟩
theorem FamL.sim {N c : Nat} {P Q : Nat → List Tm} {F : Nat → List Tm} (h : FamL N P c F) (hs : ∀ j, j < N → snorm (P j) = snorm (Q j)) : FamL N Q c F := by
 refine ⟨fun i hi => ?_, fun j hj hl => ?_, h.2.2⟩
 ·obtain ⟨j, hj, e1, e2⟩ := h.1 i hi; exact ⟨j, hj, by rw [← hs j hj]; exact e1, e2⟩
 ·rw [← hs j hj] at hl ⊢; exact h.2.1 j hj hl
end Go.Proofs.YtfbdckffjjladaaGreat

namespace Go.Proofs.YtfbdckffjjladaaGreat
open Go.RowKit

theorem Tryz.info61 : (Tryz.prog.info? 61).map (fun i => (i.zero, i.size, i.bytes)) = some (some (.slice none 0 0), 1, 24) := by kernel_rfl
theorem sx_app (x : Nat → SE) (n : Nat) (t : SE) (j : Nat) (hj : j < n + 1) : app (sx x) n (fun _ => sv t) j = sx (snoc x n t) j := by
 unfold app sx
 by_cases h : j < n
 ·rw [if_pos h, snoc_lt _ _ _ _ h]
 ·rw [if_neg h, show j = n by omega, snoc_at]
theorem mr_own {M : Nat → Prop} {w wr : World} {base : Nat} {E : TypeId} {k n : Nat} {v : Value} {f : Nat → Value} (hM : Mb M w) (he : Ext w wr) (hO : Own wr base E k v n f) : Mb (MR M v) wr := fun g hg => hg.elim (fun h => hM.ext he g h) (fun h => (hO.lt g h).2)
theorem keep_grown {M : Nat → Prop} {wa wb : World} {v : Value} {gg : Nat} {x : SE} {n cap : Nat} (hP : PolyV (MR M v) wa (sv x) x.l) (hg : wa.grownBy wb v.ownBlock) (hat : v.ownBlock = some gg ∨ wa.heap.size ≤ gg) : PolyV (MR M (.slice (some ⟨gg, 0, none⟩) n cap)) wb (sv x) x.l := by
 have h1 := hP.more (M' := fun b => MR M v b ∨ b = gg) (fun b hb => hb.elim .inl fun e => by
  rcases hat with h | h
  ·exact .inl (.inr (by rw [h, e]))
  ·exact .inr (by omega))
 have h2 := h1.kp (Kp.grown hg fun k hk => .inl (.inr hk))
 exact h2.more fun b hb => .inl (hb.elim (fun h => .inl (.inl h)) fun h => .inr (by simp only [Value.ownBlock, Option.some.injEq] at h; exact h.symm))
theorem keep_grownC {M : Nat → Prop} {wa wb : World} {v : Value} {gg : Nat} {x : PE} {l : List Tm} {n cap : Nat} (hP : CRx (MR M v) wa 4 x l) (hg : wa.grownBy wb v.ownBlock) (hat : v.ownBlock = some gg ∨ wa.heap.size ≤ gg) : CRx (MR M (.slice (some ⟨gg, 0, none⟩) n cap)) wb 4 x l := by
 have h1 := hP.more (M' := fun b => MR M v b ∨ b = gg) (fun b hb => hb.elim .inl fun e => by
  rcases hat with h | h
  ·exact .inl (.inr (by rw [h, e]))
  ·exact .inr (by omega))
 have h2 := h1.kp (Kp.grown hg fun k hk => .inl (.inr hk))
 exact h2.more fun b hb => .inl (hb.elim (fun h => .inl (.inl h)) fun h => .inr (by simp only [Value.ownBlock, Option.some.injEq] at h; exact h.symm))
def RetFm (M : Nat → Prop) (w : World) (N : Nat) (P : Nat → List Tm) (e : Ending) (w' : World) : Prop := ∃ (a : Option Addr) (c p : Nat) (F : Nat → List Tm), e = .returned (.slice a c p) ∧ KRow M w' 4 (.slice a c p) c F ∧ FamL N P c F ∧ Ext w w'
set_option maxRecDepth 100000 in
set_option maxHeartbeats 16000000 in
theorem mv_Family (T : List Tm → Prop) (M : Nat → Prop) (a : Option Addr) (N cap B : Nat) (P : Nat → List Tm) (w : World) (hM : Mb M w) (h : KRow M w 4 (.slice a N cap) N P) (hB : ∀ i, i < N → Deg B (P i)) (hB4 : (B + 1) ^ 4 ≤ 1099511627776) (hB2 : B + 1 ≤ 1073741824) (hA : ∀ i, i < N → dlen (nrm (P i)) + 1 ≤ 1099511627776) (hT : ∀ i, i < N → T (snorm (P i))) (hs : ∀ n, n ≤ N → SortOn T n) :
  Calls Tryz.prog 74 #[.slice a N cap] w (RetFm M w N P) := by
 obtain ⟨i0, hi, hz0, hz1, hz2⟩ := info_parts Tryz.info61
 obtain ⟨j0, ji, jz0, jz1, jz2⟩ := info_parts Tryz.info29
 have hNL : N ≤ 1099511627776 := h.1
 have HROW := Lib.hid h
 have HM := Lib.hid hM
 have HB := Lib.hid hB
 have HA := Lib.hid hA
 have HT := Lib.hid hT
 have HS := Lib.hid hs
 have HB4 := Lib.hid hB4
 have HB2 := Lib.hid hB2
 clear h hM hB hA hT hs hB4 hB2
 go_enter Tryz.func74, Tryz.ntmps74
 go_wp2
 refine wp_scope_straight ?_
 go_wp2
 go_loopw [12, 3] (fun i v wr => ∃ (k c : Nat) (y : Nat → SE), k ≤ N ∧ c ≤ k ∧ i = .int .i64 k ∧ Own wr w.heap.size 61 1 v c (sx y) ∧ Hid (∀ i, i < c → PolyV (MR M v) wr (sv (y i)) (y i).l) ∧ Hid (NrL P k c y) ∧ Hid (Ext w wr)) (fun i _ _ => N - (intOf i).toNat)
 case atStart => exact ⟨0, 0, fun _ => default, Nat.zero_le _, Nat.le_refl _, rfl, Own.nil _ _ _ _ _, fun i hi => absurd hi (Nat.not_lt_zero _), NrL.start _ _, Ext.refl _⟩
 case round =>
  obtain ⟨k, c, y, hk, hck, rfl, hO, HP, HN, HE⟩ := hrel
  obtain ⟨va, vc, rfl⟩ := hO.form
  have hsz := HE.out.size
  by_cases hlt : k < N
  ·obtain ⟨b, off, hab, hNc, hcm, hb, hMb, e0, e1, e2, e3, c0, c1, c2, c3, hcr⟩ := HROW.out.at k hlt
   obtain ⟨x, rfl, rfl, rfl, rfl, hx, hx0, hx1, hx2⟩ := CR.pe hcr
   subst hab
   have hltI : (k : Int) < (N : Int) := by omega
   have HLT := Lib.hid hlt
   rw [← HE.out.cell hb] at c0 c1 c2 c3
   have hbw : b < wr.heap.size := Nat.lt_of_lt_of_le hb hsz
   have HMR := Lib.hid (mr_own HM.out HE.out hO)
   have hEa := (Ext.refl wr).alloc (.cells (peA x) 29)
   have hxM : CRx (MR M (.slice va c vc)) (wr.alloc (.cells (peA x) 29)) 4 x (P k) := (((hx : CRx M w 4 x (P k)).more (M' := MR M (.slice va c vc)) (fun b hb => hb.imp id fun h => (hO.lt b h).1)).ext HE.out).ext hEa
   obtain ⟨t, hRR, hTB, hSim⟩ := hxM.tb (B := B) (Nat.le_refl _) (by have := HA.out k hlt; omega) (HB.out k hlt) HB4.out
   have CT1 := Lib.hid (rp_To _ 5 t x _ (HMR.out.ext hEa) hRR hTB)
   have HNM : Hid (norm (terms 5 t) = norm (P k)) := hSim.norm
   have HEA := Lib.hid hEa
   have HO := Lib.hid hO
   clear hx hxM hRR hTB hSim hcr hEa hO hx0 hx1 hx2
   go_wp2_with (fail)
   refine CT1.out.mono ?_
   rintro e w1 ⟨u, rfl, hu, he1⟩
   rw [HNM.out] at hu
   have CT2 := Lib.hid (sp_snorm _ u (norm (P k)) w1 ((HMR.out.ext HEA.out).ext he1) hu.toV (by have := dlen_mono (norm_nrm (P k)); have := HA.out k hlt; omega))
   rw [snorm_norm] at CT2
   have HE1 := Lib.hid (HEA.out.trans he1)
   clear hu he1 CT1 c0 c1 c2 c3
   go_wp2_with (fail)
   refine CT2.out.mono ?_
   rintro e w2 ⟨s, rfl, hs0, he2⟩
   have hsV := hs0.toV
   obtain ⟨sa, sp, rfl⟩ := hsV.form
   have HE2 := Lib.hid (HE1.out.trans he2)
   have hsD : dlen (nrm (snorm (P k))) ≤ 1099511627776 := by have := dlen_mono (snorm_nrm (P k)); have := HA.out k hlt; omega
   have CT3 := Lib.hid (sp_level _ _ (snorm (P k)) w2 (HMR.out.ext HE2.out) hsV hsD)
   rw [norm_snorm] at CT3
   have HSV := Lib.hid hsV
   clear hs0 hsV hsD he2 CT2 HE1 HEA
   go_wp2_with (fail)
   refine CT3.out.mono ?_
   rintro e w3 ⟨rfl, he3⟩
   have HE3 := Lib.hid (HE2.out.trans he3)
   have HSV3 := Lib.hid (HSV.out.ext he3)
   clear he3 CT3 HE2 HSV
   by_cases hl0 : lvM ((snorm (P k)).map (·.2)) = 0
   ·have HN2 := Lib.hid (HN.out.skip hl0)
    rw [hl0]
    have hO2 := HO.out.ext HE3.out
    have HP2 : Hid (∀ i, i < c → PolyV (MR M (.slice va c vc)) w3 (sv (y i)) (y i).l) := fun i hi => (HP.out i hi).ext HE3.out
    have HEE := Lib.hid (HE.out.trans HE3.out)
    clear HP HN HE HSV3 HO hl0 HE3
    go_wp2
    go_roundw
    case rel => exact ⟨k + 1, c, y, HLT.out, by omega, by go_num, hO2, HP2, HN2, HEE⟩
    case measure => have := HLT.out; simp [intOf]; omega
   ·have hlp : (0 : Int) < (lvM ((snorm (P k)).map (·.2)) : Nat) := by omega
    have HN2 := Lib.hid (HN.out.take (z := ⟨sa, (snorm (P k)).length, sp, snorm (P k)⟩) rfl hl0)
    have hO5 := (HO.out.ext HE3.out).ext ((Ext.refl w3).alloc (.cells #[.slice sa (snorm (P k)).length sp] 61))
    have hB5 := Blk.of_alloc1 w3 (.slice sa (snorm (P k)).length sp) 61
    have hsz5 : w.heap.size ≤ (w3.alloc (.cells #[.slice sa (snorm (P k)).length sp] 61)).heap.size := by have := HE3.out.size; simp; omega
    have HP5 : Hid (∀ i, i < c → PolyV (MR M (.slice va c vc)) (w3.alloc (.cells #[.slice sa (snorm (P k)).length sp] 61)) (sv (y i)) (y i).l) := fun i hi => ((HP.out i hi).ext HE3.out).ext ((Ext.refl w3).alloc _)
    have HSV5 := Lib.hid (HSV3.out.ext ((Ext.refl w3).alloc (.cells #[.slice sa (snorm (P k)).length sp] 61)))
    have HE5 := Lib.hid ((HE.out.trans HE3.out).trans ((Ext.refl w3).alloc (.cells #[.slice sa (snorm (P k)).length sp] 61)))
    have HLT5 := Lib.hid (HO.out.lt)
    have hck2 := Lib.hid hck
    clear HP HN HE HSV3 HO hl0 HE3 HMR
    generalize (snorm (P k)).length = sn at *
    go_wp2_with (at_builtin; refine wpList_append_fn _ rfl (.tmp 22) (.tmp 24) _ rfl w.heap.size 61 i0 _ 1 24 Tryz.underlying154 hi hz0 hz1 hz2 rfl (by omega) (.slice va c vc) c (sx y) rfl hO5 w3.heap.size 61 1 (fun _ => .slice sa sn sp) rfl hB5 (fun _ _ => rfl) ?s1 ?s2 ?s3 ?_)
    case s1 => unfold maxLen; omega
    case s2 => omega
    case s3 => exact hsz5
    intro gg cap2 w4 hO6 hg6 hat hlt6
    replace hat : (Value.slice va c vc).ownBlock = some gg ∨ (w3.alloc (.cells #[.slice sa sn sp] 61)).heap.size ≤ gg := by rw [World.size_alloc]; exact hat
    have HF : Hid (∃ (k' c' : Nat) (y' : Nat → SE), k' ≤ N ∧ c' ≤ k' ∧ Value.int .i64 ((k : Int) + 1) = .int .i64 k' ∧ Own w4 w.heap.size 61 1 (.slice (some ⟨gg, 0, none⟩) (c + 1) cap2) c' (sx y') ∧ Hid (∀ i, i < c' → PolyV (MR M (.slice (some ⟨gg, 0, none⟩) (c + 1) cap2)) w4 (sv (y' i)) (y' i).l) ∧ Hid (NrL P k' c' y') ∧ Hid (Ext w w4)) := by
     refine ⟨k + 1, c + 1, snoc y c ⟨sa, sn, sp, snorm (P k)⟩, HLT.out, by have := hck2.out; omega, by simp, hO6.congr fun j hj => ?_, fun i hi => ?_, HN2.out, HE5.out.grown hg6 (fun q hq => (HLT5.out q hq).1)⟩
     ·exact sx_app y c ⟨sa, sn, sp, snorm (P k)⟩ j (by omega)
     ·by_cases hic : i = c
      ·subst hic; rw [snoc_at]; exact keep_grown (x := ⟨sa, sn, sp, snorm (P k)⟩) HSV5.out hg6 hat
      ·rw [snoc_lt _ _ _ _ (by omega)]; exact keep_grown (HP5.out i (by omega)) hg6 hat
    clear hO6 hg6 hat hO5 hB5 HP5 HSV5 HE5 HN2 hlp
    go_wp2
    go_roundw
    case rel => exact HF.out
    case measure => have := HLT.out; simp [intOf]; omega
  ·obtain rfl : N = k := by omega
   -- the sort
   have HSORT : Hid (Calls Tryz.prog 139 #[.slice va c vc, .func (.func 140) #[] #[]] wr fun e w' => e = .returned (.tuple #[]) ∧ ∃ y', (∀ i, i < c → ∃ g, va = some ⟨g, 0, none⟩ ∧ w'.cell? ⟨g, i, none⟩ = some (.slice (y' i).a (y' i).n (y' i).p) ∧ g < w'.heap.size) ∧ (∀ i, i < c → PolyV (MR M (.slice va c vc)) w' (sv (y' i)) (y' i).l ∧ dlen (nrm (y' i).l) ≤ 1099511627776) ∧ SameEl c y' y ∧ (∀ i j, i < j → j < c → cmpP (norm (y' i).l) (norm (y' j).l) ≤ 0) ∧ Ext w w') := by
    have hMR := mr_own HM.out HE.out hO
    have hdl : ∀ i, i < c → dlen (nrm (y i).l) ≤ 1099511627776 ∧ T (y i).l := fun i hi => by
     obtain ⟨j, hj, e1, _⟩ := HN.out.1 i hi
     rw [e1]
     exact ⟨by have := dlen_mono (snorm_nrm (P j)); have := HA.out j hj; omega, HT.out j hj⟩
    rcases hO with ⟨hv, h0⟩ | ⟨g, cap, F, hv, hg, hBk, hcc, hcm', hF⟩
    ·simp only [Value.slice.injEq] at hv
     obtain ⟨rfl, rfl, rfl⟩ := hv
     exact (fm_sort_nil _ _).mono fun e w' ⟨he, hw⟩ => ⟨he, y, fun i hi => absurd hi (Nat.not_lt_zero _), fun i hi => absurd hi (Nat.not_lt_zero _), SameEl.refl _ _, fun i j _ hj => absurd hj (Nat.not_lt_zero _), by rw [← hw]; exact HE.out⟩
    ·simp only [Value.slice.injEq, true_and] at hv
     obtain ⟨rfl, rfl⟩ := hv
     rw [Nat.mul_one] at hBk hF
     refine (HS.out c (by omega) (MR M (.slice (some ⟨g, 0, none⟩) c vc)) wr g vc y hMR (.inr rfl) hcc ⟨F, hBk, hF, fun i hi => ⟨HP.out i hi, (hdl i hi).1⟩⟩ fun i hi => (hdl i hi).2).mono fun e w' ⟨he, y', h1, h2, h3, h4⟩ => ⟨he, y', fun i hi => ⟨g, rfl, h1.cell hcc i hi, ?_⟩, ?_, h2, h3, HE.out.grown h4 (fun q hq => by cases hq; exact hg)⟩
     ·obtain ⟨F', hB', _⟩ := h1; exact hB'.lt
     ·obtain ⟨F', hB', _, hP'⟩ := h1; exact hP'
   have HNN := Lib.hid HN.out
   have HEX : Hid (∀ j, j < N → ∀ s ∈ snorm (P j), ∀ q, s.2.get q ≤ 1073741824) := fun j hj s hs q => by
    obtain ⟨b', off', _, _, _, _, _, e0, e1, e2, e3, _, _, _, _, hcr⟩ := HROW.out.at j hj
    obtain ⟨x, rfl, rfl, rfl, rfl, hx, _⟩ := CR.pe hcr
    have hnn := nn_norm_sim (CRx.nn (hx : CRx M w 4 x (P j)))
    unfold snorm at hs
    obtain ⟨t, ht, rfl⟩ := List.mem_map.1 hs
    have h1 := canon_coef_ne (norm_canon (P j)) ht
    rw [hnn t.2] at h1
    have := HB.out j hj t.2 h1 q
    have := HB2.out
    show t.2.get q ≤ _
    omega
   have hcL : c ≤ 1099511627776 := by omega
   clear HP hO HN HE HA HT HS HROW hNL hlt hsz HB HB4 hck
   go_wp2_with (fail)
   refine HSORT.out.mono ?_
   rintro e w2 ⟨rfl, y2, hcell, hP2, hse, hso, he2⟩
   have HC2 := Lib.hid hcell
   have HP2 := Lib.hid hP2
   have HSE := Lib.hid hse
   have HSO := Lib.hid hso
   have HE2 := Lib.hid he2
   clear hcell hP2 hse hso he2 HSORT
   go_wp2
   refine wp_label ?_
   go_wp2
   go_loopw [31, 7] (fun i v wr => ∃ (k m : Nat) (xx : Nat → PE) (F : Nat → List Tm), k ≤ c ∧ m ≤ k ∧ i = .int .i64 k ∧ Own wr w2.heap.size 29 4 v m (px xx) ∧ Hid (∀ i, i < m → CRx (MR M v) wr 4 (xx i) (F i)) ∧ Hid (DdL y2 k m F) ∧ Hid (Ext w2 wr)) (fun i _ _ => c - (intOf i).toNat)
   case atStart => exact ⟨0, 0, fun _ => PE.z, fun _ => [], Nat.zero_le _, Nat.le_refl _, rfl, Own.nil _ _ _ _ _, fun i hi => absurd hi (Nat.not_lt_zero _), DdL.start _ _, Ext.refl _⟩
   case round =>
    obtain ⟨k, m, xx, F, hk, hmk, rfl, hO, HX, HD, HE⟩ := hrel
    obtain ⟨fa, fc, rfl⟩ := hO.form
    have hsz := HE.out.size
    by_cases hlt : k < c
    ·obtain ⟨g, rfl, c0, hg⟩ := HC2.out k hlt
     have hltI : (k : Int) < (c : Int) := by omega
     have HLT := Lib.hid hlt
     rw [← HE.out.cell hg] at c0
     have hgw : g < wr.heap.size := Nat.lt_of_lt_of_le hg hsz
     have HMS : Hid (Mb (MR M (.slice (some ⟨g, 0, none⟩) c vc)) wr) := fun q hq => hq.elim (fun h => HM.out.ext (HE2.out.trans HE.out) q h) (fun h => by simp only [Value.ownBlock, Option.some.injEq] at h; rw [← h]; exact hgw)
     have HPk := Lib.hid ((HP2.out k hlt).1.ext HE.out)
     have HDk := Lib.hid (HP2.out k hlt).2
     have HCN : Hid (∀ j, j < c → norm (y2 j).l = (y2 j).l ∧ ∀ s ∈ (y2 j).l, ∀ q, s.2.get q ≤ 1073741824) := fun j hj => by
      obtain ⟨q, hq, e1⟩ := HSE.out.1 j hj
      obtain ⟨r, hr, e2, _⟩ := HNN.out.1 q hq
      rw [e1, e2]; exact ⟨norm_snorm _, HEX.out r hr⟩
     -- the element is taken
     have HTK : Hid (∀ W, Ext wr W → Calls Tryz.prog 40 #[.slice (y2 k).a (y2 k).n (y2 k).p] W (RetX (MR M (.slice fa m fc)) W 4 (y2 k).l)) := fun W hW => by
      have h1 := rp_Of (MR M (.slice fa m fc)) (sv (y2 k)) (y2 k).l W (fun q hq => hq.elim (fun h => HM.out.ext ((HE2.out.trans HE.out).trans hW) q h) (fun h => Nat.lt_of_lt_of_le (hO.lt q h).2 hW.size)) (((HP2.out k hlt).1.more (M' := MR M (.slice fa m fc)) (fun b hb => hb.elim (fun h => .inl (.inl h)) (fun h => .inr (hO.lt b h).1))).ext (HE.out.trans hW)) HDk.out (HCN.out k hlt).2
      rw [(HCN.out k hlt).1] at h1
      exact h1
     have HO := Lib.hid hO
     clear hO
     by_cases hk0 : k = 0
     ·have hk0b : decide ((0 : Int) < (k : Int)) = false := decide_eq_false (by omega)
      have HK0 := Lib.hid hk0
      have hk0c : ¬ (0 : Int) < (k : Int) := by omega
      clear hk0
      go_wp2_with (fail)
      refine (HTK.out _ (Ext.refl wr)).mono ?_
      rintro e w5 ⟨z, rfl, hz, he5⟩
      have HEz := Lib.hid ((Ext.refl wr).trans he5)
      have HD2 := Lib.hid (HD.out.take hlt (fun i j hij hj => by have := HSO.out i j hij hj; rwa [(HCN.out i (by omega)).1, (HCN.out j hj).1] at this) (fun h => absurd HK0.out (by omega)))
      have hO5 := (HO.out.ext HEz.out).ext ((Ext.refl w5).alloc (.cells (peA z) 29))
      have hB5 := Blk.of_arr w5 (peA z) 29 4 rfl
      have hsz5 : w2.heap.size ≤ (w5.alloc (.cells (peA z) 29)).heap.size := by have := HE.out.size; have := HEz.out.size; simp; omega
      have HX5 : Hid (∀ i, i < m → CRx (MR M (.slice fa m fc)) (w5.alloc (.cells (peA z) 29)) 4 (xx i) (F i)) := fun i hi => ((HX.out i hi).ext HEz.out).ext ((Ext.refl w5).alloc _)
      have HZ5 := Lib.hid (hz.ext ((Ext.refl w5).alloc (.cells (peA z) 29)))
      have HE5 := Lib.hid ((HE.out.trans HEz.out).trans ((Ext.refl w5).alloc (.cells (peA z) 29)))
      have HLT5 := Lib.hid (HO.out.lt)
      have HMK := Lib.hid hmk
      have HONE : Hid (∀ j, j < 4 → (arr (peA z) j).oneCell' = true) := pe_one z
      clear hz he5 HTK HX HD HE HO HEz HMS HPk HDk c0
      go_wp2_with (at_builtin; refine wpList_append_fn _ rfl (.tmp 47) (.tmp 50) _ rfl w2.heap.size 29 j0 _ 4 64 Tryz.underlying27 ji jz0 jz1 jz2 rfl (by omega) (.slice fa m fc) m (px xx) rfl hO5 w5.heap.size 29 1 (arr (peA z)) rfl hB5 HONE.out ?s1 ?s2 ?s3 ?_)
      case s1 => unfold maxLen; omega
      case s2 => omega
      case s3 => exact hsz5
      intro gg cap2 w6 hO6 hg6 hat hlt6
      replace hat : (Value.slice fa m fc).ownBlock = some gg ∨ (w5.alloc (.cells (peA z) 29)).heap.size ≤ gg := by rw [World.size_alloc]; exact hat
      have HF : Hid (∃ (k' m' : Nat) (xx' : Nat → PE) (F' : Nat → List Tm), k' ≤ c ∧ m' ≤ k' ∧ Value.int .i64 ((k : Int) + 1) = .int .i64 k' ∧ Own w6 w2.heap.size 29 4 (.slice (some ⟨gg, 0, none⟩) (m + 1) cap2) m' (px xx') ∧ Hid (∀ i, i < m' → CRx (MR M (.slice (some ⟨gg, 0, none⟩) (m + 1) cap2)) w6 4 (xx' i) (F' i)) ∧ Hid (DdL y2 k' m' F') ∧ Hid (Ext w2 w6)) := by
       refine ⟨k + 1, m + 1, snoc xx m z, snoc F m (y2 k).l, HLT.out, by have := HMK.out; omega, by simp, hO6.congr fun j hj => px_app xx m z j hj, fun i hi => ?_, HD2.out, HE5.out.grown hg6 (fun q hq => (HLT5.out q hq).1)⟩
       by_cases him : i = m
       ·subst him; rw [snoc_at, snoc_at]; exact keep_grownC HZ5.out hg6 hat
       ·rw [snoc_lt _ _ _ _ (by omega), snoc_lt _ _ _ _ (by omega)]; exact keep_grownC (HX5.out i (by omega)) hg6 hat
      clear hO6 hg6 hat hO5 hB5 HX5 HZ5 HE5 HD2
      go_wp2
      go_roundw
      case rel => exact HF.out
      case measure => have := HLT.out; simp [intOf]; omega
     ·have hk0b : decide ((0 : Int) < (k : Int)) = true := decide_eq_true (by omega)
      obtain ⟨q, rfl⟩ : ∃ q, k = q + 1 := ⟨k - 1, by omega⟩
      obtain ⟨g', hgg, c1, _⟩ := HC2.out q (by omega)
      simp only [Option.some.injEq, Addr.mk.injEq, and_true] at hgg
      subst hgg
      rw [← HE.out.cell hg] at c1
      have CS := Lib.hid (sp_same _ _ _ _ _ wr HMS.out ((HP2.out q (by omega)).1.ext HE.out) HPk.out (HP2.out q (by omega)).2 HDk.out)
      rw [(HCN.out q (by omega)).1, (HCN.out (q + 1) hlt).1] at CS
      have hqc : (q : Int) < (c : Int) := by omega
      have hq1 : IntKind.i64.wrap ((q : Int) + 1 - 1) = (q : Int) := by rw [IntKind.wrap_i64]; omega
      go_wp2_with (fail)
      refine CS.out.mono ?_
      rintro e ws ⟨rfl, heS⟩
      have HES := Lib.hid heS
      clear heS CS c1
      by_cases heq : (y2 q).l = (y2 (q + 1)).l
      ·have hd : decide ((y2 q).l = (y2 (q + 1)).l) = true := decide_eq_true heq
       have HD2 := Lib.hid (HD.out.skip (Nat.succ_pos q) (by rw [Nat.add_sub_cancel]; exact heq))
       have hO2 := HO.out.ext HES.out
       have HX2 : Hid (∀ i, i < m → CRx (MR M (.slice fa m fc)) ws 4 (xx i) (F i)) := fun i hi => (HX.out i hi).ext HES.out
       have HEE := Lib.hid (HE.out.trans HES.out)
       clear HX HD HE HO HTK HMS HPk HDk c0 heq HES
       go_wp2
       go_roundw
       case rel => exact ⟨q + 1 + 1, m, xx, F, HLT.out, by omega, by go_num, hO2, HX2, HD2, HEE⟩
       case measure => have := HLT.out; simp [intOf]; omega
      ·have hd : decide ((y2 q).l = (y2 (q + 1)).l) = false := decide_eq_false heq
       have HNE : Hid ((y2 (q + 1 - 1)).l ≠ (y2 (q + 1)).l) := by rw [Nat.add_sub_cancel]; exact heq
       clear heq
       go_wp2_with (fail)
       refine (HTK.out _ HES.out).mono ?_
       rintro e w5 ⟨z, rfl, hz, he5⟩
       have HEz := Lib.hid (HES.out.trans he5)
       have HD2 := Lib.hid (HD.out.take hlt (fun i j hij hj => by have := HSO.out i j hij hj; rwa [(HCN.out i (by omega)).1, (HCN.out j hj).1] at this) (fun _ => HNE.out))
       have hO5 := (HO.out.ext HEz.out).ext ((Ext.refl w5).alloc (.cells (peA z) 29))
       have hB5 := Blk.of_arr w5 (peA z) 29 4 rfl
       have hsz5 : w2.heap.size ≤ (w5.alloc (.cells (peA z) 29)).heap.size := by have := HE.out.size; have := HEz.out.size; simp; omega
       have HX5 : Hid (∀ i, i < m → CRx (MR M (.slice fa m fc)) (w5.alloc (.cells (peA z) 29)) 4 (xx i) (F i)) := fun i hi => ((HX.out i hi).ext HEz.out).ext ((Ext.refl w5).alloc _)
       have HZ5 := Lib.hid (hz.ext ((Ext.refl w5).alloc (.cells (peA z) 29)))
       have HE5 := Lib.hid ((HE.out.trans HEz.out).trans ((Ext.refl w5).alloc (.cells (peA z) 29)))
       have HLT5 := Lib.hid (HO.out.lt)
       have HMK := Lib.hid hmk
       have HONE : Hid (∀ j, j < 4 → (arr (peA z) j).oneCell' = true) := pe_one z
       clear hz he5 HTK HX HD HE HO HEz HMS HPk HDk c0
       go_wp2_with (at_builtin; refine wpList_append_fn _ rfl (.tmp 47) (.tmp 50) _ rfl w2.heap.size 29 j0 _ 4 64 Tryz.underlying27 ji jz0 jz1 jz2 rfl (by omega) (.slice fa m fc) m (px xx) rfl hO5 w5.heap.size 29 1 (arr (peA z)) rfl hB5 HONE.out ?s1 ?s2 ?s3 ?_)
       case s1 => unfold maxLen; omega
       case s2 => omega
       case s3 => exact hsz5
       intro gg cap2 w6 hO6 hg6 hat hlt6
       replace hat : (Value.slice fa m fc).ownBlock = some gg ∨ (w5.alloc (.cells (peA z) 29)).heap.size ≤ gg := by rw [World.size_alloc]; exact hat
       have HF : Hid (∃ (k' m' : Nat) (xx' : Nat → PE) (F' : Nat → List Tm), k' ≤ c ∧ m' ≤ k' ∧ Value.int .i64 (((q + 1 : Nat) : Int) + 1) = .int .i64 k' ∧ Own w6 w2.heap.size 29 4 (.slice (some ⟨gg, 0, none⟩) (m + 1) cap2) m' (px xx') ∧ Hid (∀ i, i < m' → CRx (MR M (.slice (some ⟨gg, 0, none⟩) (m + 1) cap2)) w6 4 (xx' i) (F' i)) ∧ Hid (DdL y2 k' m' F') ∧ Hid (Ext w2 w6)) := by
        refine ⟨q + 1 + 1, m + 1, snoc xx m z, snoc F m (y2 (q + 1)).l, HLT.out, by have := HMK.out; omega, by simp, hO6.congr fun j hj => px_app xx m z j hj, fun i hi => ?_, HD2.out, HE5.out.grown hg6 (fun q hq => (HLT5.out q hq).1)⟩
        by_cases him : i = m
        ·subst him; rw [snoc_at, snoc_at]; exact keep_grownC HZ5.out hg6 hat
        ·rw [snoc_lt _ _ _ _ (by omega), snoc_lt _ _ _ _ (by omega)]; exact keep_grownC (HX5.out i (by omega)) hg6 hat
       clear hO6 hg6 hat hO5 hB5 HX5 HZ5 HE5 HD2
       go_wp2
       go_roundw
       case rel => exact HF.out
       case measure => have := HLT.out; simp [intOf]; omega
    ·have hkc : k = c := by omega
     have hge : ¬ (k : Int) < (c : Int) := by omega
     have HF : Hid (RetFm M w N P (.returned (.slice fa m fc)) wr) := by
      refine ⟨fa, m, fc, F, rfl, Own.toK hO (fun i hi => ((HX.out i hi).more fun b hb => .inl (.inl hb))) (fun g hg hm => ?_) (by omega), fam_done HNN.out HSE.out (hkc ▸ HD.out), HE2.out.trans HE.out⟩
      have := HM.out g hm
      have := HE2.out.size
      omega
     clear HX HD HE hO HC2 HP2 HSE HSO HE2 HNN HEX hkc
     go_wp2
     exact bodyPost_ret (v := .slice fa m fc) (by simp [results, Tryz.results74, go_sem]) rfl HF.out
end Go.Proofs.YtfbdckffjjladaaGreat
