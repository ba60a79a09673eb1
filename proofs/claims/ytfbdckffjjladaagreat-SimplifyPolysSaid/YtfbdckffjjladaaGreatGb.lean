/- MainvarFamily: the walk. -/
import Derived.Test.YtfbdckffjjladaaGreatGa
import Derived.Test.YtfbdckffjjladaaGreatDl
import Derived.Test.YtfbdckffjjladaaGreatDm
import Derived.Test.YtfbdckffjjladaaGreatCb
set_option linter.unusedVariables false
set_option linter.unusedSimpArgs false

namespace Go.Proofs.YtfbdckffjjladaaGreat
open Go.RowKit

theorem gcF_smulF (c : Int) : ∀ (l : List Tm) (a : Nat), (smul c l).foldl (fun g t => Nat.gcd g t.1.natAbs) (c.natAbs * a) = c.natAbs * l.foldl (fun g t => Nat.gcd g t.1.natAbs) a
 | [], _ => rfl
 | t :: l, a => by
  show (smul c l).foldl (fun g t => Nat.gcd g t.1.natAbs) (Nat.gcd (c.natAbs * a) (c * t.1).natAbs) = _
  rw [Int.natAbs_mul, Nat.gcd_mul_left, gcF_smulF c l]
  rfl
theorem gcL_smulF (c : Int) (l : List Tm) : gcL (smul c l) = c.natAbs * gcL l := gcF_smulF c l 0
theorem sgnN_smulF {c : Int} (hc : c ≠ 0) {l : List Tm} (hl : Canon l) (hn : l ≠ []) : sgnN (smul c l) = c * sgnN l := by
 cases l with
 | nil => exact absurd rfl hn
 | cons t l =>
  have h0 := (hl.2 t List.mem_cons_self).1
  have hg := gcL_smulF c (t :: l)
  show (if c * t.1 < 0 then -((gcL (smul c (t :: l)) : Nat) : Int) else ((gcL (smul c (t :: l)) : Nat) : Int)) = c * (if t.1 < 0 then -((gcL (t :: l) : Nat) : Int) else ((gcL (t :: l) : Nat) : Int))
  rw [hg, Int.natCast_mul]
  generalize ((gcL (t :: l) : Nat) : Int) = G
  rcases Int.lt_or_gt_of_ne hc with h1 | h1
  ·rw [show ((c.natAbs : Nat) : Int) = -c by omega]
   rcases Int.lt_or_gt_of_ne h0 with h2 | h2
   ·rw [if_neg (by have := Int.mul_pos_of_neg_of_neg h1 h2; omega), if_pos h2, Int.neg_mul, Int.mul_neg]
   ·rw [if_pos (Int.mul_neg_of_neg_of_pos h1 h2), if_neg (by omega), Int.neg_mul, Int.neg_neg]
  ·rw [show ((c.natAbs : Nat) : Int) = c by omega]
   rcases Int.lt_or_gt_of_ne h0 with h2 | h2
   ·rw [if_pos (Int.mul_neg_of_pos_of_neg h1 h2), if_pos h2, Int.mul_neg]
   ·rw [if_neg (by have := Int.mul_pos h1 h2; omega), if_neg (by omega)]
theorem snorm_smulF {c : Int} (hc : c ≠ 0) (l : List Tm) : snorm (smul c l) = snorm l := by
 unfold snorm
 rw [← norm_smul hc]
 have hcan := norm_canon l
 by_cases hn : norm l = []
 ·rw [hn]; rfl
 rw [sgnN_smulF hc hcan hn]
 have hs0 := sgnN_ne hcan
 generalize hS : sgnN (norm l) = S at *
 unfold smul
 rw [List.map_map]
 apply List.map_congr_left
 intro t ht
 obtain ⟨k, hk⟩ := sgnN_dvd ht
 rw [hS] at hk
 show ((c * t.1).tdiv (c * S), t.2) = (t.1.tdiv S, t.2)
 rw [hk, ← Int.mul_assoc, Int.mul_tdiv_cancel_left _ (Int.mul_ne_zero hc hs0), Int.mul_tdiv_cancel_left _ hs0]
theorem snorm_idemF (l : List Tm) : snorm (snorm l) = snorm l := by
 rw [← snorm_smulF (sgnN_ne (norm_canon l)) (snorm l), smul_snorm, snorm_norm]
theorem lv_lvF {l : List Tm} {k : Nat} (hl : NN l) (h : LvR l k) : k = lvM ((norm l).map (·.2)) := by
 have hs := nn_norm_sim hl
 refine Nat.le_antisymm ?_ (lvM_le_of _ fun m hm => ?_)
 ·rcases h.2.2 with h0 | ⟨m, hm, hp⟩
  ·omega
  ·by_cases h1 : k = 0
   ·omega
   have hmem : m ∈ (norm l).map (·.2) := by
    refine Classical.byContradiction fun hc => ?_
    rw [← hs m] at hm
    exact hm (coefAt_zero fun s hs e => hc (List.mem_map.2 ⟨s, hs, e⟩))
   exact Nat.le_trans (le_hiU (by omega) hp h.1) (le_lvM hmem)
 ·obtain ⟨s, hs', rfl⟩ := List.mem_map.1 hm
  refine hiU_le_of (fun j hj h4 => ?_) (Nat.le_refl _)
  have hne : coefAt l s.2 ≠ 0 := by rw [← hs s.2]; exact canon_coef_ne (norm_canon l) hs'
  have := h.2.1 s.2 hne j hj h4
  omega
def appF {T : Type} (n : Nat) (x y : Nat → T) : Nat → T := fun i => if i < n then x i else y (i - n)
theorem lvM_sn (l : List Tm) : lvM ((snorm l).map (·.2)) = lvM ((norm l).map (·.2)) := by
 unfold snorm
 rw [List.map_map]
 rfl
theorem snorm_degF {l : List Tm} {B : Nat} (hl : NN l) (h : Deg B l) : Deg B (snorm l) := fun m hm k => by
 refine h m (fun h0 => ?_) k
 have h1 : coefAt (norm l) m = 0 := by rw [nn_norm_sim hl m]; exact h0
 rw [← smul_snorm l, coefAt_smul] at h1
 rcases Int.mul_eq_zero.1 h1 with h2 | h2
 ·have hz : Sim l [] := (nn_norm_sim hl).symm.trans fun m => by
   rw [← smul_snorm l, coefAt_smul, h2, Int.zero_mul]; rfl
  have hn : norm l = [] := hz.norm
  have h3 : snorm l = [] := by unfold snorm; rw [hn]; rfl
  rw [h3] at hm; exact hm rfl
 ·exact hm h2
theorem SmC.sn {l : List Tm} (h : SmC l) : SmC (snorm l) := ⟨nn_of_all fun t ht => by
 have := all_nn_norm (snorm l) t (by rw [norm_snorm]; exact ht)
 exact this, snorm_degF h.1 h.2.1, Nat.le_trans (dlen_mono (snorm_nrm l)) h.2.2⟩
theorem FamL.sn {N c : Nat} {P F : Nat → List Tm} (h : FamL N P c F) (i : Nat) (hi : i < c) : snorm (F i) = F i ∧ norm (F i) = F i := by
 obtain ⟨j, _, e, _⟩ := h.1 i hi
 rw [e]
 exact ⟨snorm_idemF _, norm_snorm _⟩
def gS (n : Nat) (P : Nat → List Tm) (j : Nat) : List Tm := pmul (P (n - 1 - j)) [(-((n - 1 - j : Nat) : Int) - 1, Mo.zero)]
theorem px_rows (x y : Nat → PE) (n : Nat) (j : Nat) : app (px x) (n * 4) (px y) j = px (appF n x y) j := by
 unfold app px appF
 by_cases h : j < n * 4
 ·rw [if_pos h]
  have h2 : j / 4 < n := by omega
  simp only [if_pos h2]
 ·rw [if_neg h]
  have h2 : ¬ j / 4 < n := by omega
  have h3 : (j - n * 4) % 4 = j % 4 := by omega
  have h4 : (j - n * 4) / 4 = j / 4 - n := by omega
  simp only [if_neg h2, h3, h4]
theorem px_each (x : Nat → PE) (j : Nat) : (px x j).oneCell' = true := by
 unfold px
 split
 ·rfl
 ·split
  ·rfl
  ·split <;> rfl
theorem wpList_wanted {P : Program} {ops : Array Oper} {rest : List Oper} {o : Oper} {a : Act} {w : World} {Q : Exit → Act → World → Prop} (hw : Region.wanted o (yielded ops a.tmps) = true) (h : Oper.wp P o a w (wpList P ops Q rest) Q) : wpList P ops Q (o :: rest) a w := by
 unfold wpList
 rw [if_pos hw]
 exact .inl h
section
variable {P : Program} {ops : Array Oper} {Q : Exit → Act → World → Prop} {md : Region.Mode} {S : World → Prop} {last : Nat}
theorem ts1F {i : Nat} {is : List Nat} {oi : Oper} {fuel : Nat} {listed : Array Bool} {a : Act} {w : World}
  (hc : (Region.noSelect ops && Region.free md ops listed i && (Region.ready md ops listed).contains i && waits md ops last i) = true) (hS : S w)
  (hi : ops[i]? = some oi) (hwd : Region.wanted oi (yielded ops a.tmps) = false) (hQ : ∀ c a w, Q (.panic c) (a.put oi.dst undef) w → Q (.panic c) a w)
  (h : TkG P md ops Q S last is fuel (listed.setIfInBounds i true) (a.put oi.dst undef) w) : TkG P md ops Q S last (i :: is) (fuel + 1) listed a w := by
 simp only [Bool.and_eq_true] at hc
 exact ⟨wpAnyU_first hi (Region.noSelect_spec hc.1.1.1) hQ hc.2 fuel listed a w (Region.free_spec hi hc.1.1.2) (by simpa using hc.1.2) (.inr ⟨hwd, rfl⟩) hS h.out⟩
end
def RetLs2 (w : World) (n : Nat) (Y : Nat → SE) (e : Ending) (w' : World) : Prop :=
 (e = .returned (.tuple #[.slice none 0 0, .bool false]) ∨ ∃ (a : Option Addr) (p : Nat) (P : Nat → List Tm), e = .returned (.tuple #[.slice a n p, .bool true]) ∧ (n = 0 → a = none ∧ p = 0) ∧ n ≤ 8 ∧ (∀ i, i < n → LsP w (Y i) (P i)) ∧ KRow M0 w' 4 (.slice a n p) n fun i => norm (P i)) ∧ Ext w w'
end Go.Proofs.YtfbdckffjjladaaGreat
