/- MainvarFamily: plain facts; cylinderlaw23.in. MainvarFamily: the walk. -/
import Derived.Test.YtodiphjjdheoaaaGreatEt
import Derived.Test.YtodiphjjdheoaaaGreatDf
import Derived.Test.YtodiphjjdheoaaaGreatGs
import Derived.Test.YtodiphjjdheoaaaGreatDl
import Derived.Test.YtodiphjjdheoaaaGreatDm
import Derived.Test.YtodiphjjdheoaaaGreatCb
set_option linter.unusedVariables false
set_option linter.unusedSimpArgs false

namespace Go.Proofs.YtodiphjjdheoaaaGreat
open Go.RowKit

def SmC (l : List Tm) : Prop := NN l ∧ Deg 12 l ∧ dlen (nrm l) ≤ 20
theorem CRx.tbM {M : Nat → Prop} {w : World} {L : Nat} {x : PE} {l : List Tm} {B : Nat} (h : CRx M w L x l) (hL4 : L ≤ 4) (hL : dlen (nrm l) ≤ 1099511627776) (hB : Deg B l) (hB4 : (B + 1) ^ 4 ≤ 1099511627776) : ∃ t : RT (L + 1), RR M w (L + 1) t (.int .i64 x.lv) (.bool x.b) (.slice x.a x.n x.p) (.slice x.ka x.kn x.kp) ∧ TB (L + 1) t ∧ Sim (terms (L + 1) t) l ∧ nrm (terms (L + 1) t) ≤ nrm l := by
 obtain ⟨t, h1, h2, h3, h4⟩ := h
 have hlv := can_lev h2
 have hlen := can_len B (L + 1) t h2 h1.ok (sim_deg h4 hB)
 have hpow : (B + 1) ^ (Go.Proofs.YtodiphjjdheoaaaGreat.lev (L + 1) t).toNat ≤ (B + 1) ^ 4 := Nat.pow_le_pow_right (by omega) (by show t.1.toNat ≤ 4; omega)
 have hB1 : B + 1 ≤ (B + 1) ^ 4 := by
  have h5 := Nat.pow_le_pow_right (show 0 < B + 1 by omega) (show 1 ≤ 4 by omega)
  rwa [Nat.pow_one] at h5
 have hBs : B ≤ 1073741824 := by
  refine Classical.byContradiction fun hc => ?_
  have h6 : (1073741825 : Nat) ^ 2 ≤ (B + 1) ^ 4 := Nat.le_trans (Nat.pow_le_pow_left (show 1073741825 ≤ B + 1 by omega) 2) (Nat.pow_le_pow_right (by omega) (by omega))
  omega
 refine ⟨t, h1, ⟨by omega, by omega, Nat.le_trans (dlen_mono (can_nrm h2 h4)) hL, fun s hs k => ?_⟩, h4, can_nrm h2 h4⟩
 have := can_exp B (L + 1) t h2 h1.ok (sim_deg h4 hB) s hs k
 omega
def SL2i (b c : Nat) (x y : PE) (w : World) : Prop := P4 w b x ∧ P4 w c y
theorem SL2i.ext {b c : Nat} {x y : PE} {w w' : World} (h : SL2i b c x y w) (he : Ext w w') : SL2i b c x y w' := ⟨h.1.ext he, h.2.ext he⟩
end Go.Proofs.YtodiphjjdheoaaaGreat

namespace Go.Proofs.YtodiphjjdheoaaaGreat
open Go.RowKit

theorem lv_lvF {l : List Tm} {k : Nat} (hl : NN l) (h : LvR l k) : k = lvM ((norm l).map (·.2)) := by
 have hs := nn_norm_sim hl
 refine Nat.le_antisymm ?_ (lvM_le_of _ fun m hm => ?_)
 ·rcases h.2.2 with h0 | ⟨m, hm, hp⟩
  ·omega
  ·by_cases h1 : k = 0
   ·omega
   have hmem : m ∈ (norm l).map (·.2) := by
    refine Classical.byContradiction fun hc => ?_
    rw [← hs m] at hm
    exact hm (coefAt_zero fun s hs e => hc (List.mem_map.2 ⟨s, hs, e⟩))
   exact Nat.le_trans (le_hiU (by omega) hp h.1) (le_lvM hmem)
 ·obtain ⟨s, hs', rfl⟩ := List.mem_map.1 hm
  refine hiU_le_of (fun j hj h4 => ?_) (Nat.le_refl _)
  have hne : coefAt l s.2 ≠ 0 := by rw [← hs s.2]; exact canon_coef_ne (norm_canon l) hs'
  have := h.2.1 s.2 hne j hj h4
  omega
def appF {T : Type} (n : Nat) (x y : Nat → T) : Nat → T := fun i => if i < n then x i else y (i - n)
theorem lvM_sn (l : List Tm) : lvM ((snorm l).map (·.2)) = lvM ((norm l).map (·.2)) := by
 unfold snorm
 rw [List.map_map]
 rfl
theorem SmC.sn {l : List Tm} (h : SmC l) : SmC (snorm l) := ⟨nn_of_all fun t ht => by
 have := all_nn_norm (snorm l) t (by rw [norm_snorm]; exact ht)
 exact this, snorm_degF h.1 h.2.1, Nat.le_trans (dlen_mono (snorm_nrm l)) h.2.2⟩
theorem FamL.sn {N c : Nat} {P F : Nat → List Tm} (h : FamL N P c F) (i : Nat) (hi : i < c) : snorm (F i) = F i ∧ norm (F i) = F i := by
 obtain ⟨j, _, e, _⟩ := h.1 i hi
 rw [e]
 exact ⟨snorm_idemF _, norm_snorm _⟩
def gS (n : Nat) (P : Nat → List Tm) (j : Nat) : List Tm := pmul (P (n - 1 - j)) [(-((n - 1 - j : Nat) : Int) - 1, Mo.zero)]
theorem px_rows (x y : Nat → PE) (n : Nat) (j : Nat) : app (px x) (n * 4) (px y) j = px (appF n x y) j := by
 unfold app px appF
 by_cases h : j < n * 4
 ·rw [if_pos h]
  have h2 : j / 4 < n := by omega
  simp only [if_pos h2]
 ·rw [if_neg h]
  have h2 : ¬ j / 4 < n := by omega
  have h3 : (j - n * 4) % 4 = j % 4 := by omega
  have h4 : (j - n * 4) / 4 = j / 4 - n := by omega
  simp only [if_neg h2, h3, h4]
theorem px_each (x : Nat → PE) (j : Nat) : (px x j).oneCell' = true := by
 unfold px
 split
 ·rfl
 ·split
  ·rfl
  ·split <;> rfl
theorem wpList_wanted {P : Program} {ops : Array Oper} {rest : List Oper} {o : Oper} {a : Act} {w : World} {Q : Exit → Act → World → Prop} (hw : Region.wanted o (yielded ops a.tmps) = true) (h : Oper.wp P o a w (wpList P ops Q rest) Q) : wpList P ops Q (o :: rest) a w := by
 unfold wpList
 rw [if_pos hw]
 exact .inl h
end Go.Proofs.YtodiphjjdheoaaaGreat
