/- MainvarFamily: plain facts; cylinderlaw23.in. -/
import Derived.Test.YtfbdckffjjladaaGreatEt
import Derived.Test.YtfbdckffjjladaaGreatDf
set_option linter.unusedVariables false
set_option linter.unusedSimpArgs false

namespace Go.Proofs.YtfbdckffjjladaaGreat
open Go.RowKit

theorem asc_eq : ∀ (c c' : Nat) (F F' : Nat → List Tm), (∀ i j, i < j → j < c → cmpP (F i) (F j) < 0) → (∀ i j, i < j → j < c' → cmpP (F' i) (F' j) < 0) → (∀ i, i < c → ∃ j, j < c' ∧ F i = F' j) → (∀ j, j < c' → ∃ i, i < c ∧ F' j = F i) → c = c' ∧ ∀ i, i < c → F i = F' i
 | 0, c', _, _, _, _, _, h => by
  refine ⟨?_, fun i hi => absurd hi (Nat.not_lt_zero _)⟩
  cases c' with
  | zero => rfl
  | succ c' => obtain ⟨i, hi, _⟩ := h 0 (Nat.succ_pos _); exact absurd hi (Nat.not_lt_zero _)
 | c + 1, c', F, F', h1, h2, h3, h4 => by
  have irr : ∀ l : List Tm, ¬ cmpP l l < 0 := fun l hh => by rw [(cmpP_zero l l).2 rfl] at hh; omega
  obtain ⟨j, hj, hFj⟩ := h3 c (Nat.lt_succ_self c)
  obtain ⟨d, rfl⟩ : ∃ d, c' = d + 1 := ⟨c' - 1, by omega⟩
  obtain ⟨i, hi, hFi⟩ := h4 d (Nat.lt_succ_self d)
  have hid : F' d = F c := by
   by_cases hic : i = c
   ·rw [hFi, hic]
   ·exfalso
    have e1 := h1 i c (by omega) (Nat.lt_succ_self c)
    by_cases hjd : j = d
    ·rw [hFj, hjd, ← hFi] at e1; exact irr _ e1
    ·have e2 := h2 j d (by omega) (Nat.lt_succ_self d)
     rw [← hFj, hFi] at e2
     exact irr _ (cmpP_trans e1 e2)
  obtain ⟨r1, r2⟩ := asc_eq c d F F' (fun i j hij hj => h1 i j hij (by omega)) (fun i j hij hj => h2 i j hij (by omega)) (fun i hi => by
   obtain ⟨j, hj, e⟩ := h3 i (by omega)
   refine ⟨j, ?_, e⟩
   by_cases hjd : j = d
   ·exfalso
    have e1 := h1 i c hi (Nat.lt_succ_self c)
    rw [e, hjd, hid] at e1
    exact irr _ e1
   ·omega) (fun j hj => by
   obtain ⟨i, hi, e⟩ := h4 j (by omega)
   refine ⟨i, ?_, e⟩
   by_cases hic : i = c
   ·exfalso
    have e1 := h2 j d hj (Nat.lt_succ_self d)
    rw [e, hic, hid] at e1
    exact irr _ e1
   ·omega)
  subst r1
  refine ⟨rfl, fun i hi => ?_⟩
  by_cases hic : i = c
  ·rw [hic, hid]
  ·exact r2 i (by omega)
theorem fam_uniq {N N' c c' : Nat} {P P' F F' : Nat → List Tm} (h : FamL N P c F) (k : FamL N' P' c' F') (h1 : ∀ j, j < N → lvM ((snorm (P j)).map (·.2)) ≠ 0 → ∃ i, i < N' ∧ snorm (P j) = snorm (P' i)) (h2 : ∀ j, j < N' → lvM ((snorm (P' j)).map (·.2)) ≠ 0 → ∃ i, i < N ∧ snorm (P' j) = snorm (P i)) : c = c' ∧ ∀ i, i < c → F i = F' i := by
 refine asc_eq c c' F F' h.2.2 k.2.2 (fun i hi => ?_) (fun j hj => ?_)
 ·obtain ⟨j, hj, e, hl⟩ := h.1 i hi
  rw [e] at hl
  obtain ⟨i', hi', e'⟩ := h1 j hj hl
  rw [e'] at hl
  obtain ⟨q, hq, eq⟩ := k.2.1 i' hi' hl
  exact ⟨q, hq, by rw [e, e', eq]⟩
 ·obtain ⟨i, hi, e, hl⟩ := k.1 j hj
  rw [e] at hl
  obtain ⟨i', hi', e'⟩ := h2 i hi hl
  rw [e'] at hl
  obtain ⟨q, hq, eq⟩ := h.2.1 i' hi' hl
  exact ⟨q, hq, by rw [e, e', eq]⟩
def SmC (l : List Tm) : Prop := NN l ∧ Deg 12 l ∧ dlen (nrm l) ≤ 20
theorem CRx.tbM {M : Nat → Prop} {w : World} {L : Nat} {x : PE} {l : List Tm} {B : Nat} (h : CRx M w L x l) (hL4 : L ≤ 4) (hL : dlen (nrm l) ≤ 1099511627776) (hB : Deg B l) (hB4 : (B + 1) ^ 4 ≤ 1099511627776) : ∃ t : RT (L + 1), RR M w (L + 1) t (.int .i64 x.lv) (.bool x.b) (.slice x.a x.n x.p) (.slice x.ka x.kn x.kp) ∧ TB (L + 1) t ∧ Sim (terms (L + 1) t) l ∧ nrm (terms (L + 1) t) ≤ nrm l := by
 obtain ⟨t, h1, h2, h3, h4⟩ := h
 have hlv := can_lev h2
 have hlen := can_len B (L + 1) t h2 h1.ok (sim_deg h4 hB)
 have hpow : (B + 1) ^ (Go.Proofs.YtfbdckffjjladaaGreat.lev (L + 1) t).toNat ≤ (B + 1) ^ 4 := Nat.pow_le_pow_right (by omega) (by show t.1.toNat ≤ 4; omega)
 have hB1 : B + 1 ≤ (B + 1) ^ 4 := by
  have h5 := Nat.pow_le_pow_right (show 0 < B + 1 by omega) (show 1 ≤ 4 by omega)
  rwa [Nat.pow_one] at h5
 have hBs : B ≤ 1073741824 := by
  refine Classical.byContradiction fun hc => ?_
  have h6 : (1073741825 : Nat) ^ 2 ≤ (B + 1) ^ 4 := Nat.le_trans (Nat.pow_le_pow_left (show 1073741825 ≤ B + 1 by omega) 2) (Nat.pow_le_pow_right (by omega) (by omega))
  omega
 refine ⟨t, h1, ⟨by omega, by omega, Nat.le_trans (dlen_mono (can_nrm h2 h4)) hL, fun s hs k => ?_⟩, h4, can_nrm h2 h4⟩
 have := can_exp B (L + 1) t h2 h1.ok (sim_deg h4 hB) s hs k
 omega
def RetIn (w : World) (l : List Tm) (N : Nat) (P : Nat → List Tm) (e : Ending) (w' : World) : Prop := ∃ b : Bool, e = .returned (.bool b) ∧ (b = true ↔ ∃ j, j < N ∧ snorm l = snorm (P j)) ∧ Ext w w'
def SL2i (b c : Nat) (x y : PE) (w : World) : Prop := P4 w b x ∧ P4 w c y
theorem SL2i.ext {b c : Nat} {x y : PE} {w w' : World} (h : SL2i b c x y w) (he : Ext w w') : SL2i b c x y w' := ⟨h.1.ext he, h.2.ext he⟩
end Go.Proofs.YtfbdckffjjladaaGreat
