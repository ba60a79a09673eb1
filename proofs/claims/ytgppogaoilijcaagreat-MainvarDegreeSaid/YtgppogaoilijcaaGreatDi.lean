/- Plain facts: degrees, leading coefficients and levels of products; the small functions of cylinderlaw23. MainvarProduct: the walk. -/
import Derived.Test.YtgppogaoilijcaaGreatDh
import Derived.Test.YtgppogaoilijcaaGreatMs
set_option linter.unusedVariables false
set_option linter.unusedSimpArgs false

namespace Go.Proofs.YtgppogaoilijcaaGreat
open Go.RowKit

theorem dgr_exi {k : Nat} {l : List Tm} (hl : NN l) : ∃ n, DgR k l n := by
  have hs := nn_norm_sim hl
  by_cases hn : norm l = []
  · refine ⟨0, fun m hm => absurd ?_ hm, .inl rfl⟩
    rw [← hs m, hn]; rfl
  obtain ⟨e, he, hx⟩ := max_exp k (all_nn_norm l)
  refine ⟨e, fun m hm => ?_, .inr ?_⟩
  · rw [← hs m] at hm
    obtain ⟨s, hs', e2⟩ : ∃ s ∈ norm l, s.2 = m := Classical.byContradiction fun hcc => hm (coefAt_zero fun t ht e => hcc ⟨t, ht, e⟩)
    rw [← e2]; exact he s hs'
  · obtain ⟨s, hs', e2⟩ := hx.resolve_left hn
    exact ⟨s.2, by rw [← hs s.2]; exact canon_coef_ne (norm_canon l) hs', e2⟩
theorem dgr_att {k n : Nat} {l : List Tm} (hl : NN l) (hz : ¬ Sim l []) (h : DgR k l n) : ∃ m, coefAt l m ≠ 0 ∧ m.get k = n := by
  rcases h.2 with h0 | h0
  · obtain ⟨m, hm⟩ := not_sim_nil hz
    refine ⟨m, hm, ?_⟩
    have h1 := h.1 m hm
    have h2 : m.nn = true := by
      cases hc : m.nn with
      | true => rfl
      | false => exact absurd (hl m hc) hm
    have h3 := nn_get h2 k
    omega
  · exact h0
theorem dgr_prod {k : Nat} (h1 : 1 ≤ k) (h4 : k ≤ 4) {q s : List Tm} (hq : NN q) (hs : NN s) (zq : ¬ Sim q []) (zs : ¬ Sim s []) {a b : Nat} (ha : DgR k q a) (hb : DgR k s b) : DgR k (pmul q s) (a + b) := by
  have sq := nn_norm_sim hq
  have ss := nn_norm_sim hs
  have hp : Sim (pmul (norm q) (norm s)) (pmul q s) := sq.pmul ss
  have hle : ∀ {l : List Tm} {n : Nat}, NN l → DgR k l n → ∀ t ∈ norm l, t.2.get k ≤ (n : Int) := fun {l n} hl hd t ht => hd.1 t.2 (by
    rw [← nn_norm_sim hl t.2]; exact canon_coef_ne (norm_canon l) ht)
  refine ⟨fun m hm => ?_, .inr ?_⟩
  · rw [← hp m] at hm
    obtain ⟨m1, g1, g2⟩ := coef_pmul_ne' (canon_dist (norm_canon q)) hm
    rw [sq m1] at g1
    rw [ss] at g2
    have e1 := ha.1 m1 g1
    have e2 := hb.1 _ g2
    rw [get_sub] at e2
    omega
  · obtain ⟨m1, g1, e1⟩ := dgr_att hq zq ha
    obtain ⟨m2, g2, e2⟩ := dgr_att hs zs hb
    rw [← sq m1] at g1
    rw [← ss m2] at g2
    have c1 := ck_ne h1 h4 g1
    have c2 := ck_ne h1 h4 g2
    rw [e1] at c1
    rw [e2] at c2
    have h6 := ck_pmul h1 h4 (e := (a : Int)) (e' := (b : Int)) (hle hs hb) (norm q) (hle hq ha)
    have h7 := pmul_ne (ck_nn h1 h4 (nn_of_all (all_nn_norm q))) (ck_nn h1 h4 (nn_of_all (all_nn_norm s))) c1 c2
    rw [← h6] at h7
    obtain ⟨m, hm, hg⟩ := ck_ex h1 h4 h7
    exact ⟨m, by rw [← hp m]; exact hm, by omega⟩
theorem dgr_uniq {k a b : Nat} {l : List Tm} (hl : NN l) (hz : ¬ Sim l []) (ha : DgR k l a) (hb : DgR k l b) : a = b := by
  obtain ⟨m, h1, h2⟩ := dgr_att hl hz ha
  obtain ⟨m', h3, h4⟩ := dgr_att hl hz hb
  have e1 := hb.1 m h1
  have e2 := ha.1 m' h3
  omega
theorem nn_nrm (l : List Tm) : NN (norm l) := nn_of_all (all_nn_norm l)
theorem dgr_mem {k n : Nat} {l : List Tm} (h : DgR k (norm l) n) : ∀ t ∈ norm l, t.2.get k ≤ (n : Int) := fun t ht => h.1 t.2 (canon_coef_ne (norm_canon l) ht)
theorem lead_prod {k a b : Nat} (h1 : 1 ≤ k) (h4 : k ≤ 4) {l r : List Tm} (ha : DgR k (norm l) a) (hb : DgR k (norm r) b) : ck k ((a + b : Nat) : Int) (pmul (norm l) (norm r)) = pmul (ck k (a : Int) (norm l)) (ck k (b : Int) (norm r)) := by
  have := ck_pmul h1 h4 (e := (a : Int)) (e' := (b : Int)) (dgr_mem hb) (norm l) (dgr_mem ha)
  rw [← this]; rfl
def Occ (l : List Tm) (j : Nat) : Prop := ∃ m, coefAt l m ≠ 0 ∧ 0 < m.get j
theorem LvR.no {l : List Tm} {k j : Nat} (h : LvR l k) (hj : k < j) (h4 : j ≤ 4) : ¬ Occ l j := fun ⟨m, hm, hp⟩ => by have := h.2.1 m hm j hj h4; omega
theorem LvR.yes {l : List Tm} {k : Nat} (h : LvR l k) (hk : k ≠ 0) : Occ l k := (h.2.2.resolve_left hk)
theorem occ_prod {f g : List Tm} (hf : NN f) (hg : NN g) (zf : ¬ Sim f []) (zg : ¬ Sim g []) {j : Nat} (h1 : 1 ≤ j) (h4 : j ≤ 4) : Occ (pmul f g) j ↔ Occ f j ∨ Occ g j := by
  obtain ⟨a, ha⟩ := dgr_exi (k := j) hf
  obtain ⟨b, hb⟩ := dgr_exi (k := j) hg
  have hp := dgr_prod h1 h4 hf hg zf zg ha hb
  have key : ∀ {l : List Tm} {n : Nat}, NN l → ¬ Sim l [] → DgR j l n → (Occ l j ↔ 0 < n) := fun {l n} hl hz hd => by
    constructor
    · rintro ⟨m, hm, hpos⟩
      have := hd.1 m hm; omega
    · intro hn
      obtain ⟨m, hm, hg⟩ := dgr_att hl hz hd
      exact ⟨m, hm, by omega⟩
  rw [key (nn_pmul hf hg) (pmul_ne hf hg zf zg) hp, key hf zf ha, key hg zg hb]
  omega
theorem lv_prod {f g : List Tm} (hf : NN f) (hg : NN g) (zf : ¬ Sim f []) (zg : ¬ Sim g []) {k a b : Nat} (hk : LvR (pmul f g) k) (ha : LvR f a) (hb : LvR g b) : k = max a b := by
  have hk4 := hk.1
  have ha4 := ha.1
  have hb4 := hb.1
  rcases Nat.lt_trichotomy k (max a b) with h | h | h
  · exfalso
    refine hk.no h (by omega) ((occ_prod hf hg zf zg (by omega) (by omega)).2 ?_)
    rcases Nat.le_total a b with hab | hab
    · rw [Nat.max_eq_right hab] at h ⊢; exact .inr (hb.yes (by omega))
    · rw [Nat.max_eq_left hab] at h ⊢; exact .inl (ha.yes (by omega))
  · exact h
  · exfalso
    rcases (occ_prod hf hg zf zg (by omega) hk4).1 (hk.yes (by omega)) with h2 | h2
    · exact ha.no (by omega) hk4 h2
    · exact hb.no (by omega) hk4 h2
theorem law_few23 (a : Option Addr) (n cap : Nat) (X : Nat → TE) (w : World) (h : TRaw w a n cap X) (hX : ∀ i, i < n → (X i).n ≤ 9223372036854775807) : Calls Tryz.prog 45 #[.slice a n cap] w (RetB (FewP n X 8 6 6) w) := by
  have ctr := rf_fewp a n cap X 8 6 6 w h hX
  rw [show ((8 : Nat) : Int) = 8 from rfl, show ((6 : Nat) : Int) = 6 from rfl] at ctr
  have CTR := Lib.hid ctr
  clear ctr h hX
  go_enter Tryz.func45, Tryz.ntmps45
  go_wp2_with (fail)
  refine CTR.out.mono ?_
  rintro e w1 ⟨b, rfl, hb, rfl⟩
  have HB := Lib.hid hb
  clear hb
  go_wp2
  go_ret
  exact ⟨b, rfl, HB.out, rfl⟩
theorem law_inner23 (l : Int) (w : World) : Calls Tryz.prog 36 #[.int .i64 l] w fun e w' => e = .returned (.bool (isLevB l)) ∧ w = w' := by
  by_cases h1 : 1 ≤ l
  · by_cases h2 : l ≤ 4
    · have H : Hid (isLevB l = true) := by show _ = _; unfold isLevB; simp [h1, h2]
      go_enter Tryz.func36, Tryz.ntmps36
      go_wp2
      go_ret
      exact ⟨by rw [H.out]; rfl, rfl⟩
    · have H : Hid (isLevB l = false) := by show _ = _; unfold isLevB; simp [h2]
      go_enter Tryz.func36, Tryz.ntmps36
      go_wp2
      go_ret
      exact ⟨by rw [H.out]; rfl, rfl⟩
  · have H : Hid (isLevB l = false) := by show _ = _; unfold isLevB; simp [h1]
    go_enter Tryz.func36, Tryz.ntmps36
    go_wp2
    go_ret
    exact ⟨by rw [H.out]; rfl, rfl⟩
structure Sm23 (f : List Tm) : Prop where
  nn : NN f
  deg : Deg 6 f
  dl : dlen (nrm f) ≤ 7
theorem PRaw.sm23 {w : World} {a : Option Addr} {n cap : Nat} {X : Nat → TE} (h : PRaw w a n cap X) (hf : FewP n X 8 6 6) : ∃ l, PolyV M0 w (.slice a n cap) l ∧ Sm23 (norm l) ∧ dlen (nrm l) ≤ 7 ∧ (∀ s ∈ l, ∀ k, s.2.get k ≤ 1073741824) ∧ l.length ≤ 8 := by
  obtain ⟨l, h1, h2, h3, h4⟩ := h.poly hf (by omega) (by omega)
  refine ⟨l, h1, ⟨nn_nrm l, deg_of_exp fun s hs k => ?_, Nat.le_trans (dlen_mono (norm_nrm l)) h3⟩, h3, fun s hs k => ?_, h2⟩
  · have := (h4 s hs k).1; omega
  · have := (h4 s hs k).1; omega
end Go.Proofs.YtgppogaoilijcaaGreat

namespace Go.Proofs.YtgppogaoilijcaaGreat
open Go.RowKit

def SP3 (a b c : Nat) (x y m : PE) (w : World) : Prop := P4 w a x ∧ P4 w b y ∧ P4 w c m
theorem SP3.ext {a b c : Nat} {x y m : PE} {w w' : World} (h : SP3 a b c x y m w) (he : Ext w w') : SP3 a b c x y m w' := ⟨h.1.ext he, h.2.1.ext he, h.2.2.ext he⟩
theorem LeadR.nn {l s : List Tm} {L : Int} (h : LeadR l L s) (hl : NN l) : NN s := by
  rcases h with ⟨_, rfl⟩ | ⟨_, _, rfl⟩ | ⟨_, K, n, rfl, k1, k4, _, rfl⟩
  · exact fun _ _ => rfl
  · exact hl
  · exact ck_nn k1 k4 hl
theorem LeadR.deg {l s : List Tm} {L : Int} {B : Nat} (h : LeadR l L s) (hl : Deg B l) : Deg B s := by
  rcases h with ⟨_, rfl⟩ | ⟨_, _, rfl⟩ | ⟨_, K, n, rfl, k1, k4, _, rfl⟩
  · exact fun m hm => absurd rfl hm
  · exact hl
  · exact ck_deg k1 k4 hl
theorem LeadR.nrm {l s : List Tm} {L : Int} (h : LeadR l L s) : Go.Proofs.YtgppogaoilijcaaGreat.nrm s ≤ Go.Proofs.YtgppogaoilijcaaGreat.nrm l := by
  rcases h with ⟨_, rfl⟩ | ⟨_, _, rfl⟩ | ⟨_, K, n, rfl, k1, k4, _, rfl⟩
  · exact Nat.zero_le _
  · exact Nat.le_refl _
  · exact ck_nrm _ _ _
end Go.Proofs.YtgppogaoilijcaaGreat
