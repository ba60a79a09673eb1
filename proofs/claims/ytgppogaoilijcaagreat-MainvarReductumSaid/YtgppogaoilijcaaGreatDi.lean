/- Plain facts: degrees, leading coefficients and levels of products; the small functions of cylinderlaw23. MainvarProduct: the walk. -/
import Derived.Test.YtgppogaoilijcaaGreatDh
import Derived.Test.YtgppogaoilijcaaGreatMs
set_option linter.unusedVariables false
set_option linter.unusedSimpArgs false

namespace Go.Proofs.YtgppogaoilijcaaGreat
open Go.RowKit

theorem dgr_exi {k : Nat} {l : List Tm} (hl : NN l) : ∃ n, DgR k l n := by
  have hs := nn_norm_sim hl
  by_cases hn : norm l = []
  · refine ⟨0, fun m hm => absurd ?_ hm, .inl rfl⟩
    rw [← hs m, hn]; rfl
  obtain ⟨e, he, hx⟩ := max_exp k (all_nn_norm l)
  refine ⟨e, fun m hm => ?_, .inr ?_⟩
  · rw [← hs m] at hm
    obtain ⟨s, hs', e2⟩ : ∃ s ∈ norm l, s.2 = m := Classical.byContradiction fun hcc => hm (coefAt_zero fun t ht e => hcc ⟨t, ht, e⟩)
    rw [← e2]; exact he s hs'
  · obtain ⟨s, hs', e2⟩ := hx.resolve_left hn
    exact ⟨s.2, by rw [← hs s.2]; exact canon_coef_ne (norm_canon l) hs', e2⟩
theorem dgr_att {k n : Nat} {l : List Tm} (hl : NN l) (hz : ¬ Sim l []) (h : DgR k l n) : ∃ m, coefAt l m ≠ 0 ∧ m.get k = n := by
  rcases h.2 with h0 | h0
  · obtain ⟨m, hm⟩ := not_sim_nil hz
    refine ⟨m, hm, ?_⟩
    have h1 := h.1 m hm
    have h2 : m.nn = true := by
      cases hc : m.nn with
      | true => rfl
      | false => exact absurd (hl m hc) hm
    have h3 := nn_get h2 k
    omega
  · exact h0
theorem dgr_prod {k : Nat} (h1 : 1 ≤ k) (h4 : k ≤ 4) {q s : List Tm} (hq : NN q) (hs : NN s) (zq : ¬ Sim q []) (zs : ¬ Sim s []) {a b : Nat} (ha : DgR k q a) (hb : DgR k s b) : DgR k (pmul q s) (a + b) := by
  have sq := nn_norm_sim hq
  have ss := nn_norm_sim hs
  have hp : Sim (pmul (norm q) (norm s)) (pmul q s) := sq.pmul ss
  have hle : ∀ {l : List Tm} {n : Nat}, NN l → DgR k l n → ∀ t ∈ norm l, t.2.get k ≤ (n : Int) := fun {l n} hl hd t ht => hd.1 t.2 (by
    rw [← nn_norm_sim hl t.2]; exact canon_coef_ne (norm_canon l) ht)
  refine ⟨fun m hm => ?_, .inr ?_⟩
  · rw [← hp m] at hm
    obtain ⟨m1, g1, g2⟩ := coef_pmul_ne' (canon_dist (norm_canon q)) hm
    rw [sq m1] at g1
    rw [ss] at g2
    have e1 := ha.1 m1 g1
    have e2 := hb.1 _ g2
    rw [get_sub] at e2
    omega
  · obtain ⟨m1, g1, e1⟩ := dgr_att hq zq ha
    obtain ⟨m2, g2, e2⟩ := dgr_att hs zs hb
    rw [← sq m1] at g1
    rw [← ss m2] at g2
    have c1 := ck_ne h1 h4 g1
    have c2 := ck_ne h1 h4 g2
    rw [e1] at c1
    rw [e2] at c2
    have h6 := ck_pmul h1 h4 (e := (a : Int)) (e' := (b : Int)) (hle hs hb) (norm q) (hle hq ha)
    have h7 := pmul_ne (ck_nn h1 h4 (nn_of_all (all_nn_norm q))) (ck_nn h1 h4 (nn_of_all (all_nn_norm s))) c1 c2
    rw [← h6] at h7
    obtain ⟨m, hm, hg⟩ := ck_ex h1 h4 h7
    exact ⟨m, by rw [← hp m]; exact hm, by omega⟩
theorem dgr_uniq {k a b : Nat} {l : List Tm} (hl : NN l) (hz : ¬ Sim l []) (ha : DgR k l a) (hb : DgR k l b) : a = b := by
  obtain ⟨m, h1, h2⟩ := dgr_att hl hz ha
  obtain ⟨m', h3, h4⟩ := dgr_att hl hz hb
  have e1 := hb.1 m h1
  have e2 := ha.1 m' h3
  omega
theorem nn_nrm (l : List Tm) : NN (norm l) := nn_of_all (all_nn_norm l)
theorem dgr_mem {k n : Nat} {l : List Tm} (h : DgR k (norm l) n) : ∀ t ∈ norm l, t.2.get k ≤ (n : Int) := fun t ht => h.1 t.2 (canon_coef_ne (norm_canon l) ht)
theorem lead_prod {k a b : Nat} (h1 : 1 ≤ k) (h4 : k ≤ 4) {l r : List Tm} (ha : DgR k (norm l) a) (hb : DgR k (norm r) b) : ck k ((a + b : Nat) : Int) (pmul (norm l) (norm r)) = pmul (ck k (a : Int) (norm l)) (ck k (b : Int) (norm r)) := by
  have := ck_pmul h1 h4 (e := (a : Int)) (e' := (b : Int)) (dgr_mem hb) (norm l) (dgr_mem ha)
  rw [← this]; rfl
def Occ (l : List Tm) (j : Nat) : Prop := ∃ m, coefAt l m ≠ 0 ∧ 0 < m.get j
theorem LvR.no {l : List Tm} {k j : Nat} (h : LvR l k) (hj : k < j) (h4 : j ≤ 4) : ¬ Occ l j := fun ⟨m, hm, hp⟩ => by have := h.2.1 m hm j hj h4; omega
theorem LvR.yes {l : List Tm} {k : Nat} (h : LvR l k) (hk : k ≠ 0) : Occ l k := (h.2.2.resolve_left hk)
theorem occ_prod {f g : List Tm} (hf : NN f) (hg : NN g) (zf : ¬ Sim f []) (zg : ¬ Sim g []) {j : Nat} (h1 : 1 ≤ j) (h4 : j ≤ 4) : Occ (pmul f g) j ↔ Occ f j ∨ Occ g j := by
  obtain ⟨a, ha⟩ := dgr_exi (k := j) hf
  obtain ⟨b, hb⟩ := dgr_exi (k := j) hg
  have hp := dgr_prod h1 h4 hf hg zf zg ha hb
  have key : ∀ {l : List Tm} {n : Nat}, NN l → ¬ Sim l [] → DgR j l n → (Occ l j ↔ 0 < n) := fun {l n} hl hz hd => by
    constructor
    · rintro ⟨m, hm, hpos⟩
      have := hd.1 m hm; omega
    · intro hn
      obtain ⟨m, hm, hg⟩ := dgr_att hl hz hd
      exact ⟨m, hm, by omega⟩
  rw [key (nn_pmul hf hg) (pmul_ne hf hg zf zg) hp, key hf zf ha, key hg zg hb]
  omega
theorem lv_prod {f g : List Tm} (hf : NN f) (hg : NN g) (zf : ¬ Sim f []) (zg : ¬ Sim g []) {k a b : Nat} (hk : LvR (pmul f g) k) (ha : LvR f a) (hb : LvR g b) : k = max a b := by
  have hk4 := hk.1
  have ha4 := ha.1
  have hb4 := hb.1
  rcases Nat.lt_trichotomy k (max a b) with h | h | h
  · exfalso
    refine hk.no h (by omega) ((occ_prod hf hg zf zg (by omega) (by omega)).2 ?_)
    rcases Nat.le_total a b with hab | hab
    · rw [Nat.max_eq_right hab] at h ⊢; exact .inr (hb.yes (by omega))
    · rw [Nat.max_eq_left hab] at h ⊢; exact .inl (ha.yes (by omega))
  · exact h
  · exfalso
    rcases (occ_prod hf hg zf zg (by omega) hk4).1 (hk.yes (by omega)) with h2 | h2
    · exact ha.no (by omega) hk4 h2
    · exact hb.no (by omega) hk4 h2
theorem law_few23 (a : Option Addr) (n cap : Nat) (X : Nat → TE) (w : World) (h : TRaw w a n cap X) (hX : ∀ i, i < n → (X i).n ≤ 9223372036854775807) : Calls Tryz.prog 45 #[.slice a n cap] w (RetB (FewP n X 8 6 6) w) := by
  have ctr := rf_fewp a n cap X 8 6 6 w h hX
  rw [show ((8 : Nat) : Int) = 8 from rfl, show ((6 : Nat) : Int) = 6 from rfl] at ctr
  have CTR := Lib.hid ctr
  clear ctr h hX
  go_enter Tryz.func45, Tryz.ntmps45
  go_wp2_with (fail)
  refine CTR.out.mono ?_
  rintro e w1 ⟨b, rfl, hb, rfl⟩
  have HB := Lib.hid hb
  clear hb
  go_wp2
  go_ret
  exact ⟨b, rfl, HB.out, rfl⟩
theorem law_inner23 (l : Int) (w : World) : Calls Tryz.prog 36 #[.int .i64 l] w fun e w' => e = .returned (.bool (isLevB l)) ∧ w = w' := by
  by_cases h1 : 1 ≤ l
  · by_cases h2 : l ≤ 4
    · have H : Hid (isLevB l = true) := by show _ = _; unfold isLevB; simp [h1, h2]
      go_enter Tryz.func36, Tryz.ntmps36
      go_wp2
      go_ret
      exact ⟨by rw [H.out]; rfl, rfl⟩
    · have H : Hid (isLevB l = false) := by show _ = _; unfold isLevB; simp [h2]
      go_enter Tryz.func36, Tryz.ntmps36
      go_wp2
      go_ret
      exact ⟨by rw [H.out]; rfl, rfl⟩
  · have H : Hid (isLevB l = false) := by show _ = _; unfold isLevB; simp [h1]
    go_enter Tryz.func36, Tryz.ntmps36
    go_wp2
    go_ret
    exact ⟨by rw [H.out]; rfl, rfl⟩
structure Sm23 (f : List Tm) : Prop where
  nn : NN f
  deg : Deg 6 f
  dl : dlen (nrm f) ≤ 7
theorem PRaw.sm23 {w : World} {a : Option Addr} {n cap : Nat} {X : Nat → TE} (h : PRaw w a n cap X) (hf : FewP n X 8 6 6) : ∃ l, PolyV M0 w (.slice a n cap) l ∧ Sm23 (norm l) ∧ dlen (nrm l) ≤ 7 ∧ (∀ s ∈ l, ∀ k, s.2.get k ≤ 1073741824) ∧ l.length ≤ 8 := by
  obtain ⟨l, h1, h2, h3, h4⟩ := h.poly hf (by omega) (by omega)
  refine ⟨l, h1, ⟨nn_nrm l, deg_of_exp fun s hs k => ?_, Nat.le_trans (dlen_mono (norm_nrm l)) h3⟩, h3, fun s hs k => ?_, h2⟩
  · have := (h4 s hs k).1; omega
  · have := (h4 s hs k).1; omega
end Go.Proofs.YtgppogaoilijcaaGreat

namespace Go.Proofs.YtgppogaoilijcaaGreat
open Go.RowKit

def SP3 (a b c : Nat) (x y m : PE) (w : World) : Prop := P4 w a x ∧ P4 w b y ∧ P4 w c m
theorem SP3.ext {a b c : Nat} {x y m : PE} {w w' : World} (h : SP3 a b c x y m w) (he : Ext w w') : SP3 a b c x y m w' := ⟨h.1.ext he, h.2.1.ext he, h.2.2.ext he⟩
theorem degs_prod {f g : List Tm} {L : Int} {w1 w2 w3 w1' w2' w3' : World} {e1 e2 e3 : Ending} (hf : NN f) (hg : NN g) (zf : ¬ Sim f []) (zg : ¬ Sim g []) (h : RetDg w1 (pmul f g) L e1 w1') (hx : RetDg w2 f L e2 w2') (hy : RetDg w3 g L e3 w3') :
    ∃ a b : Int, e2 = .returned (.int .i64 a) ∧ e3 = .returned (.int .i64 b) ∧ e1 = .returned (.int .i64 (a + b)) ∧ 0 ≤ a ∧ a ≤ 1099511627776 ∧ 0 ≤ b ∧ b ≤ 1099511627776 := by
  obtain ⟨z, hz, h1, _⟩ := h
  obtain ⟨a, ha, h2, _⟩ := hx
  obtain ⟨b, hb, h3, _⟩ := hy
  refine ⟨a, b, ha, hb, ?_⟩
  rcases h2 with ⟨h, _⟩ | ⟨_, hl, rfl⟩ | ⟨_, K, n, rfl, k1, k4, rfl, hd2, hn2⟩
  · exact absurd h zf
  · rcases h3 with ⟨h, _⟩ | ⟨_, _, rfl⟩ | ⟨_, K, n, rfl, k1, k4, _⟩
    · exact absurd h zg
    · rcases h1 with ⟨h, _⟩ | ⟨_, _, rfl⟩ | ⟨_, K, n, rfl, k1, k4, _⟩
      · exact absurd h (pmul_ne hf hg zf zg)
      · exact ⟨hz, by omega, by omega, by omega, by omega⟩
      · exact absurd ⟨by omega, by omega⟩ hl
    · exact absurd ⟨by omega, by omega⟩ hl
  · rcases h3 with ⟨h, _⟩ | ⟨_, hl, rfl⟩ | ⟨_, K', n', hK, _, _, rfl, hd3, hn3⟩
    · exact absurd h zg
    · exact absurd ⟨by omega, by omega⟩ hl
    · obtain rfl : K = K' := by omega
      rcases h1 with ⟨h, _⟩ | ⟨_, hl, rfl⟩ | ⟨_, K'', n'', hK2, _, _, rfl, hd1, hn1⟩
      · exact absurd h (pmul_ne hf hg zf zg)
      · exact absurd ⟨by omega, by omega⟩ hl
      · obtain rfl : K = K'' := by omega
        have := dgr_uniq (nn_pmul hf hg) (pmul_ne hf hg zf zg) hd1 (dgr_prod k1 k4 hf hg zf zg hd2 hd3)
        subst this
        exact ⟨by rw [hz]; simp, by omega, by omega, by omega, by omega⟩
theorem leads_prod {l r s t u : List Tm} {L : Int} (zf : ¬ Sim (norm l) []) (zg : ¬ Sim (norm r) []) (h : LeadR (pmul (norm l) (norm r)) L s) (hx : LeadR (norm l) L t) (hy : LeadR (norm r) L u) : Sim s (pmul t u) := by
  have hf := nn_nrm l
  have hg := nn_nrm r
  rcases hx with ⟨h, _⟩ | ⟨_, hl, rfl⟩ | ⟨_, K, n, rfl, k1, k4, hd2, rfl⟩
  · exact absurd h zf
  · rcases hy with ⟨h, _⟩ | ⟨_, _, rfl⟩ | ⟨_, K, n, rfl, k1, k4, _⟩
    · exact absurd h zg
    · rcases h with ⟨h, _⟩ | ⟨_, _, rfl⟩ | ⟨_, K, n, rfl, k1, k4, _⟩
      · exact absurd h (pmul_ne hf hg zf zg)
      · exact Sim.refl _
      · exact absurd ⟨by omega, by omega⟩ hl
    · exact absurd ⟨by omega, by omega⟩ hl
  · rcases hy with ⟨h, _⟩ | ⟨_, hl, rfl⟩ | ⟨_, K', n', hK, _, _, hd3, rfl⟩
    · exact absurd h zg
    · exact absurd ⟨by omega, by omega⟩ hl
    · obtain rfl : K = K' := by omega
      rcases h with ⟨h, _⟩ | ⟨_, hl, rfl⟩ | ⟨_, K'', n'', hK2, _, _, hd1, rfl⟩
      · exact absurd h (pmul_ne hf hg zf zg)
      · exact absurd ⟨by omega, by omega⟩ hl
      · obtain rfl : K = K'' := by omega
        have := dgr_uniq (nn_pmul hf hg) (pmul_ne hf hg zf zg) hd1 (dgr_prod k1 k4 hf hg zf zg hd2 hd3)
        subst this
        rw [lead_prod k1 k4 hd2 hd3]; exact Sim.refl _
theorem LeadR.nn {l s : List Tm} {L : Int} (h : LeadR l L s) (hl : NN l) : NN s := by
  rcases h with ⟨_, rfl⟩ | ⟨_, _, rfl⟩ | ⟨_, K, n, rfl, k1, k4, _, rfl⟩
  · exact fun _ _ => rfl
  · exact hl
  · exact ck_nn k1 k4 hl
theorem LeadR.deg {l s : List Tm} {L : Int} {B : Nat} (h : LeadR l L s) (hl : Deg B l) : Deg B s := by
  rcases h with ⟨_, rfl⟩ | ⟨_, _, rfl⟩ | ⟨_, K, n, rfl, k1, k4, _, rfl⟩
  · exact fun m hm => absurd rfl hm
  · exact hl
  · exact ck_deg k1 k4 hl
theorem LeadR.nrm {l s : List Tm} {L : Int} (h : LeadR l L s) : Go.Proofs.YtgppogaoilijcaaGreat.nrm s ≤ Go.Proofs.YtgppogaoilijcaaGreat.nrm l := by
  rcases h with ⟨_, rfl⟩ | ⟨_, _, rfl⟩ | ⟨_, K, n, rfl, k1, k4, _, rfl⟩
  · exact Nat.zero_le _
  · exact Nat.le_refl _
  · exact ck_nrm _ _ _
set_option maxRecDepth 100000 in
set_option maxHeartbeats 16000000 in
theorem law_product (a1 : Option Addr) (n1 p1 : Nat) (X1 : Nat → TE) (a2 : Option Addr) (n2 p2 : Nat) (X2 : Nat → TE) (L : Int) (w : World) (h1 : PRaw w a1 n1 p1 X1) (h2 : PRaw w a2 n2 p2 X2) :
    Calls Tryz.prog 7 #[.slice a1 n1 p1, .slice a2 n2 p2, .int .i64 L] w fun e w' => e = .returned (.bool true) ∧ Ext w w' := by
  have HR1 := Lib.hid h1
  have HR2 := Lib.hid h2
  clear h1 h2
  go_enter Tryz.func7, Tryz.ntmps7
  go_wp2_with (fail)
  refine (law_fit23 _).mono ?_
  rintro e w1 ⟨rfl, he1⟩
  have HE1 := Lib.hid he1
  have CF1 := Lib.hid (law_few23 a1 n1 p1 X1 w1 (HR1.out.1.ext he1) HR1.out.2.1)
  have CF2 := Lib.hid (law_few23 a2 n2 p2 X2 w1 (HR2.out.1.ext he1) HR2.out.2.1)
  clear he1
  go_wp2_with (fail)
  refine CF1.out.mono ?_
  rintro e w2 ⟨b, rfl, hb1, rfl⟩
  cases b with
  | false =>
    clear hb1 CF1 CF2
    go_wp2
    go_ret
    exact ⟨rfl, HE1.out⟩
  | true =>
  have HF1 := Lib.hid (hb1.1 rfl)
  clear hb1 CF1
  go_wp2_with (fail)
  refine CF2.out.mono ?_
  rintro e w2 ⟨b, rfl, hb2, rfl⟩
  cases b with
  | false =>
    clear hb2 CF2
    go_wp2
    go_ret
    exact ⟨rfl, HE1.out⟩
  | true =>
  have HF2 := Lib.hid (hb2.1 rfl)
  clear hb2 CF2
  obtain ⟨l1, hl1, hs1, hd1', hx1, _⟩ := HR1.out.sm23 HF1.out
  have hd1 : dlen (nrm l1) ≤ 1099511627776 := Nat.le_trans hd1' (by omega)
  obtain ⟨l2, hl2, hs2, hd2', hx2, _⟩ := HR2.out.sm23 HF2.out
  have hd2 : dlen (nrm l2) ≤ 1099511627776 := Nat.le_trans hd2' (by omega)
  have CO1 := Lib.hid (fun W he => rp_Of M0 _ l1 W (mb0 _) (hl1.ext he) hd1 hx1)
  have CO2 := Lib.hid (fun W he => rp_Of M0 _ l2 W (mb0 _) (hl2.ext he) hd2 hx2)
  have HS1 := Lib.hid hs1
  have HS2 := Lib.hid hs2
  clear hl1 hd1 hx1 hl2 hd2 hx2 HF1 HF2 HR1 HR2 hs1 hs2
  go_wp2_with (fail)
  refine (CO1.out _ HE1.out).mono ?_
  rintro e w2 ⟨x, rfl, hx, he2⟩
  have HE2 := Lib.hid (HE1.out.trans he2)
  go_wp2_with (fail)
  refine (CO2.out _ HE2.out).mono ?_
  rintro e w3 ⟨y, rfl, hy, he3⟩
  have hb1 := Blk.of_arr w3 (peA x) 34 4 rfl
  have hb2 := Blk.of_arr (w3.alloc (.cells (peA x) 34)) (peA y) 34 4 rfl
  simp only [World.size_alloc] at hb2
  have hEa : Ext w3 ((w3.alloc (.cells (peA x) 34)).alloc (.cells (peA y) 34)) := ((Ext.refl w3).alloc _).alloc _
  have HP0 : Hid (SP2 w3.heap.size x y ((w3.alloc (.cells (peA x) 34)).alloc (.cells (peA y) 34))) := ⟨(hb1.alloc _).p4, hb2.p4⟩
  have HX := Lib.hid ((hx.ext he3).ext hEa)
  have HY := Lib.hid (hy.ext hEa)
  have HE := Lib.hid ((HE2.out.trans he3).trans hEa)
  clear hb1 hb2 hEa hx hy he2 he3 CO1 CO2 HE1 HE2
  go_upto_region 6 with (fail)
  generalize hbx : w3.heap.size = bx at *
  generalize (w3.alloc (.cells (peA x) 34)).alloc (.cells (peA y) 34) = W at *
  clear hbx
  obtain ⟨⟨x0, x1, x2, x3⟩, y0, y1, y2, y3⟩ := HP0.out
  have HDM : Hid (Deg 12 (pmul (norm l1) (norm l2))) := HS1.out.deg.pmul HS2.out.deg HS1.out.nn
  have HDL : Hid (dlen (nrm (pmul (norm l1) (norm l2))) ≤ 14) := by
    show _ ≤ _
    rw [nrm_pmul]
    have := dlen_mul (nrm (norm l1)) (nrm (norm l2))
    have := HS1.out.dl
    have := HS2.out.dl
    omega
  have CM := Lib.hid (rp_Mul M0 x y (norm l1) (norm l2) 6 6 W (mb0 _) HX.out.pi HY.out.pi (by have := HS1.out.dl; have := HS2.out.dl; omega) HS1.out.deg HS2.out.deg (by decide))
  go_wp2_with (fail)
  refine CM.out.mono ?_
  rintro e w4 ⟨m, rfl, hm, he4⟩
  have hb4 := Blk.of_arr w4 (peA m) 34 4 rfl
  have hEb := (Ext.refl w4).alloc (.cells (peA m) 34)
  have he5 := he4.trans hEb
  have HS3 : Hid (SP3 bx (bx + 1) w4.heap.size x y m (w4.alloc (.cells (peA m) 34))) := ⟨(HP0.out.1).ext he5, (HP0.out.2).ext he5, hb4.p4⟩
  have HX5 := Lib.hid (HX.out.ext he5)
  have HY5 := Lib.hid (HY.out.ext he5)
  have HM5 := Lib.hid (hm.ext hEb)
  have HE5 := Lib.hid (HE.out.trans he5)
  clear hm he4 hb4 hEb he5 CM HX HY HE HP0 x0 x1 x2 x3 y0 y1 y2 y3
  go_upto_region 7 with (fail)
  generalize hbm : w4.heap.size = bm at *
  generalize w4.alloc (.cells (peA m) 34) = W5 at *
  clear hbm
  have CZ := Lib.hid (rp_IsZero M0 m _ W5 (mb0 _) HM5.out.pi)
  obtain ⟨_, _, m0, m1, m2, m3⟩ := HS3.out
  go_wp2_with (fail)
  refine CZ.out.mono ?_
  rintro e w6 ⟨bz, rfl, hbz, he6⟩
  have HS6 := Lib.hid (HS3.out.ext he6)
  have HX6 := Lib.hid (HX5.out.ext he6)
  have HY6 := Lib.hid (HY5.out.ext he6)
  have HM6 := Lib.hid (HM5.out.ext he6)
  have HE6 := Lib.hid (HE5.out.trans he6)
  have HBZ := Lib.hid hbz
  clear hbz he6 CZ HS3 HX5 HY5 HM5 HE5 m0 m1 m2 m3
  cases bz with
  | true =>
    have HZ : Hid (Sim (pmul (norm l1) (norm l2)) []) := HBZ.out.1 rfl
    clear HBZ HX6 HY6
    obtain ⟨_, _, m0, m1, m2, m3⟩ := HS6.out
    have CD := Lib.hid (mv_Degree M0 m _ L w6 (mb0 _) HM6.out.pi)
    go_wp2_with (fail)
    refine CD.out.mono ?_
    rintro e w7 ⟨z, rfl, hz, he7⟩
    obtain rfl : z = -1 := by
      rcases hz with ⟨_, h⟩ | ⟨h, _⟩ | ⟨h, _⟩
      · exact h
      · exact absurd HZ.out h
      · exact absurd HZ.out h
    have HM7 := Lib.hid (HM6.out.ext he7)
    have HE7 := Lib.hid (HE6.out.trans he7)
    have HS7 := Lib.hid (HS6.out.ext he7)
    clear hz he7 CD HM6 HE6 HS6 m0 m1 m2 m3
    obtain ⟨_, _, m0, m1, m2, m3⟩ := HS7.out
    have CL := Lib.hid (mv_Lead M0 m _ L 12 w7 (mb0 _) HM7.out.pi HDM.out (by decide) (by decide) (by have := HDL.out; omega))
    go_wp2_with (fail)
    refine CL.out.mono ?_
    rintro e w8 ⟨v, s, rfl, hv, hs, he8⟩
    obtain rfl : s = [] := by
      rcases hs with ⟨_, h⟩ | ⟨h, _⟩ | ⟨h, _⟩
      · exact h
      · exact absurd HZ.out h
      · exact absurd HZ.out h
    have CZ2 := Lib.hid (rp_IsZero M0 v [] w8 (mb0 _) hv.pi)
    have HM8 := Lib.hid (HM7.out.ext he8)
    have HE8 := Lib.hid (HE7.out.trans he8)
    have HS8 := Lib.hid (HS7.out.ext he8)
    clear hs hv he8 CL HM7 HE7 HS7 m0 m1 m2 m3
    go_wp2_with (fail)
    refine CZ2.out.mono ?_
    rintro e w9 ⟨b9, rfl, hb9, he9⟩
    obtain rfl : b9 = true := hb9.2 (Sim.refl _)
    have HM9 := Lib.hid (HM8.out.ext he9)
    have HE9 := Lib.hid (HE8.out.trans he9)
    have HS9 := Lib.hid (HS8.out.ext he9)
    clear hb9 he9 CZ2 HM8 HE8 HS8
    obtain ⟨_, _, m0, m1, m2, m3⟩ := HS9.out
    have CC := Lib.hid (mv_Coefs M0 m _ L 12 w9 (mb0 _) HM9.out.pi HDM.out (by decide) (by decide) (by have := HDL.out; omega))
    go_wp2_with (fail)
    refine CC.out.mono ?_
    rintro e w10 ⟨hr, he10⟩
    obtain rfl : e = .returned (.slice none 0 0) := by
      rcases hr with ⟨_, h⟩ | ⟨h, _⟩ | ⟨h, _⟩
      · exact h
      · exact absurd HZ.out h
      · exact absurd HZ.out h
    have HF := Lib.hid (HE9.out.trans he10)
    clear hr he10 CC HM9 HE9 HS9 m0 m1 m2 m3
    go_wp2
    go_ret
    exact ⟨rfl, HF.out⟩
  | false =>
    have HZ : Hid (¬ Sim (pmul (norm l1) (norm l2)) []) := fun hs => by have := HBZ.out.2 hs; cases this
    clear HBZ
    have HZF : Hid (¬ Sim (norm l1) []) := fun h => HZ.out ((h.pmul_left _).trans (Sim.refl _))
    have HZG : Hid (¬ Sim (norm l2) []) := fun h => HZ.out ((h.pmul_right _).trans (by rw [pmul_nil]; exact Sim.refl _))
    have HX := Lib.hid (HX6.out.ext (Ext.refl w6).drew)
    have HY := Lib.hid (HY6.out.ext (Ext.refl w6).drew)
    have HM := Lib.hid (HM6.out.ext (Ext.refl w6).drew)
    have HE := Lib.hid (HE6.out.trans (Ext.refl w6).drew)
    have hS := HS6.out.ext (Ext.refl w6).drew
    clear HX6 HY6 HM6 HE6 HS6
    go_upto_region 9 with (fail)
    refine wp_region_u (SP3 bx (bx + 1) bm x y m) 35 (by kernel_rfl) hS (fun hHeld => ?_)
    clear hS
    generalize w6.drew = wd at *
    (refine tkB [0, 1, 3, 4, 6, 7] ?_; (iterate 6 (refine tk1 (oi := ?_) (v := ?_) (by kernel_rfl) (by first | exact hSn | exact hHeld) ?_ ?_ ?_ ?_ ?_; rotate_left 2; (simp only [List.getElem?_toArray, List.getElem?_cons_succ, List.getElem?_cons_zero]; rfl); rfl; (intro wS hSw; obtain ⟨⟨S1, S2, S3, S4⟩, ⟨S5, S6, S7, S8⟩, S9, S10, S11, S12⟩ := hSw; go_simp; try with_reducible rfl); (exact fun _ _ _ h => h); (try simp only [Act.put, List.setIfInBounds_toArray, List.set_cons_zero, List.set_cons_succ]))); refine tkE ?_)
    ((refine wpAnyU_one 2 (o := ?_) (by kernel_rfl) ?_ ?_; rotate_left 1; (simp only [List.getElem?_toArray, List.getElem?_cons_succ, List.getElem?_cons_zero]; rfl); intro K hK); go_simp; (refine (mv_Degree M0 m _ L _ (mb0 _) HM.out.pi).mono ?_); rintro e_ q1 ⟨z1, rfl, hz1, e1⟩; go_wp2_with (fail); (try clear hSn); (have hSn := hHeld.ext e1); (refine hK.out _ _ (fun _ => hSn) ?_); clear hK K; (try simp only [Act.put, List.setIfInBounds_toArray, List.set_cons_zero, List.set_cons_succ]))
    ((refine wpAnyU_one 5 (o := ?_) (by kernel_rfl) ?_ ?_; rotate_left 1; (simp only [List.getElem?_toArray, List.getElem?_cons_succ, List.getElem?_cons_zero]; rfl); intro K hK); go_simp; (refine (mv_Degree M0 x _ L _ (mb0 _) (HX.out.ext e1).pi).mono ?_); rintro e_ q2 ⟨z2, rfl, hz2, e2⟩; go_wp2_with (fail); (try clear hSn); (have hSn := hHeld.ext (e1.trans e2)); (refine hK.out _ _ (fun _ => hSn) ?_); clear hK K; (try simp only [Act.put, List.setIfInBounds_toArray, List.set_cons_zero, List.set_cons_succ]))
    ((refine wpAnyU_one 8 (o := ?_) (by kernel_rfl) ?_ ?_; rotate_left 1; (simp only [List.getElem?_toArray, List.getElem?_cons_succ, List.getElem?_cons_zero]; rfl); intro K hK); go_simp; (refine (mv_Degree M0 y _ L _ (mb0 _) (HY.out.ext (e1.trans e2)).pi).mono ?_); rintro e_ q3 ⟨z3, rfl, hz3, e3⟩; go_wp2_with (fail); (try clear hSn); (have hSn := hHeld.ext ((e1.trans e2).trans e3)); (refine hK.out _ _ (fun _ => hSn) ?_); clear hK K; (try simp only [Act.put, List.setIfInBounds_toArray, List.set_cons_zero, List.set_cons_succ]))
    obtain ⟨da, db, g2, g3, g1, ga0, gaL, gb0, gbL⟩ := degs_prod HS1.out.nn HS2.out.nn HZF.out HZG.out ⟨z1, rfl, hz1, e1⟩ ⟨z2, rfl, hz2, e2⟩ ⟨z3, rfl, hz3, e3⟩
    simp only [Ending.returned.injEq, Value.int.injEq, true_and] at g1 g2 g3
    subst g2 g3 g1
    have E3 := Lib.hid ((e1.trans e2).trans e3)
    have hwr : IntKind.i64.wrap (z2 + z3) = z2 + z3 := by rw [IntKind.wrap_i64]; omega
    clear hz1 hz2 hz3 e1 e2 e3
    (refine tkB [9, 10, 11, 12, 13, 15, 16, 18, 19] ?_; (iterate 9 (refine tk1 (oi := ?_) (v := ?_) (by kernel_rfl) (by first | exact hSn | exact hHeld) ?_ ?_ ?_ ?_ ?_; rotate_left 2; (simp only [List.getElem?_toArray, List.getElem?_cons_succ, List.getElem?_cons_zero]; rfl); rfl; (intro wS hSw; obtain ⟨⟨S1, S2, S3, S4⟩, ⟨S5, S6, S7, S8⟩, S9, S10, S11, S12⟩ := hSw; go_simp; try with_reducible rfl); (exact fun _ _ _ h => h); (try simp only [Act.put, List.setIfInBounds_toArray, List.set_cons_zero, List.set_cons_succ]))); refine tkE ?_)
    ((refine wpAnyU_one 14 (o := ?_) (by kernel_rfl) ?_ ?_; rotate_left 1; (simp only [List.getElem?_toArray, List.getElem?_cons_succ, List.getElem?_cons_zero]; rfl); intro K hK); go_simp; (refine (mv_Lead M0 m _ L 12 _ (mb0 _) (HM.out.ext E3.out).pi HDM.out (by decide) (by decide) (by have := HDL.out; omega)).mono ?_); rintro e_ q4 ⟨vm, sm, rfl, hvm, hsm, e1⟩; go_wp2_with (fail); (try clear hSn); (have hSn := hHeld.ext (E3.out.trans e1)); (refine hK.out _ _ (fun _ => hSn) ?_); clear hK K; (try simp only [Act.put, List.setIfInBounds_toArray, List.set_cons_zero, List.set_cons_succ]))
    ((refine wpAnyU_one 17 (o := ?_) (by kernel_rfl) ?_ ?_; rotate_left 1; (simp only [List.getElem?_toArray, List.getElem?_cons_succ, List.getElem?_cons_zero]; rfl); intro K hK); go_simp; (refine (mv_Lead M0 x _ L 6 _ (mb0 _) (HX.out.ext (E3.out.trans e1)).pi HS1.out.deg (by decide) (by decide) (by have := HS1.out.dl; omega)).mono ?_); rintro e_ q5 ⟨vx, sx, rfl, hvx, hsx, e2⟩; go_wp2_with (fail); (try clear hSn); (have hSn := hHeld.ext ((E3.out.trans e1).trans e2)); (refine hK.out _ _ (fun _ => hSn) ?_); clear hK K; (try simp only [Act.put, List.setIfInBounds_toArray, List.set_cons_zero, List.set_cons_succ]))
    ((refine wpAnyU_one 20 (o := ?_) (by kernel_rfl) ?_ ?_; rotate_left 1; (simp only [List.getElem?_toArray, List.getElem?_cons_succ, List.getElem?_cons_zero]; rfl); intro K hK); go_simp; (refine (mv_Lead M0 y _ L 6 _ (mb0 _) (HY.out.ext ((E3.out.trans e1).trans e2)).pi HS2.out.deg (by decide) (by decide) (by have := HS2.out.dl; omega)).mono ?_); rintro e_ q6 ⟨vy, sy, rfl, hvy, hsy, e3⟩; go_wp2_with (fail); (try clear hSn); (have hSn := hHeld.ext (((E3.out.trans e1).trans e2).trans e3)); (refine hK.out _ _ (fun _ => hSn) ?_); clear hK K; (try simp only [Act.put, List.setIfInBounds_toArray, List.set_cons_zero, List.set_cons_succ]))
    ((refine wpAnyU_one 21 (o := ?_) (by kernel_rfl) ?_ ?_; rotate_left 1; (simp only [List.getElem?_toArray, List.getElem?_cons_succ, List.getElem?_cons_zero]; rfl); intro K hK); go_simp; (refine (rp_Mul M0 vx vy sx sy 6 6 _ (mb0 _) (hvx.ext e3).pi hvy.pi (by have := dlen_mono hsx.nrm; have := dlen_mono hsy.nrm; have := HS1.out.dl; have := HS2.out.dl; omega) (hsx.deg HS1.out.deg) (hsy.deg HS2.out.deg) (by decide)).mono ?_); rintro e_ q7 ⟨vp, rfl, hvp, e4⟩; go_wp2_with (fail); (try clear hSn); (have hSn := hHeld.ext ((((E3.out.trans e1).trans e2).trans e3).trans e4)); (refine hK.out _ _ (fun _ => hSn) ?_); clear hK K; (try simp only [Act.put, List.setIfInBounds_toArray, List.set_cons_zero, List.set_cons_succ]))
    ((refine wpAnyU_one 22 (o := ?_) (by kernel_rfl) ?_ ?_; rotate_left 1; (simp only [List.getElem?_toArray, List.getElem?_cons_succ, List.getElem?_cons_zero]; rfl); intro K hK); go_simp; (refine (rp_Same M0 vm vp sm (pmul sx sy) _ (mb0 _) (((hvm.ext e2).ext e3).ext e4).pi hvp.pi).mono ?_); rintro e_ q8 ⟨b22, rfl, hb22, e5⟩; go_wp2_with (fail); (try clear hSn); (have hSn := hHeld.ext (((((E3.out.trans e1).trans e2).trans e3).trans e4).trans e5)); (refine hK.out _ _ (fun _ => hSn) ?_); clear hK K; (try simp only [Act.put, List.setIfInBounds_toArray, List.set_cons_zero, List.set_cons_succ]))
    obtain rfl : b22 = true := hb22.2 (leads_prod HZF.out HZG.out hsm hsx hsy)
    have E8 := Lib.hid (((((E3.out.trans e1).trans e2).trans e3).trans e4).trans e5)
    clear hb22 hvm hvx hvy hvp hsm hsx hsy e1 e2 e3 e4 e5 E3
    (refine tkB [23, 24, 25, 27, 29] ?_; (iterate 5 (refine tk1 (oi := ?_) (v := ?_) (by kernel_rfl) (by first | exact hSn | exact hHeld) ?_ ?_ ?_ ?_ ?_; rotate_left 2; (simp only [List.getElem?_toArray, List.getElem?_cons_succ, List.getElem?_cons_zero]; rfl); rfl; (intro wS hSw; obtain ⟨⟨S1, S2, S3, S4⟩, ⟨S5, S6, S7, S8⟩, S9, S10, S11, S12⟩ := hSw; go_simp; try with_reducible rfl); (exact fun _ _ _ h => h); (try simp only [Act.put, List.setIfInBounds_toArray, List.set_cons_zero, List.set_cons_succ]))); refine tkE ?_)
    ((refine wpAnyU_one 26 (o := ?_) (by kernel_rfl) ?_ ?_; rotate_left 1; (simp only [List.getElem?_toArray, List.getElem?_cons_succ, List.getElem?_cons_zero]; rfl); intro K hK); go_simp; (refine (mv_Level M0 m _ _ (mb0 _) (HM.out.ext E8.out).pi).mono ?_); rintro e_ q9 ⟨k1, rfl, hk1, e1⟩; go_wp2_with (fail); (try clear hSn); (have hSn := hHeld.ext (E8.out.trans e1)); (refine hK.out _ _ (fun _ => hSn) ?_); clear hK K; (try simp only [Act.put, List.setIfInBounds_toArray, List.set_cons_zero, List.set_cons_succ]))
    ((refine wpAnyU_one 28 (o := ?_) (by kernel_rfl) ?_ ?_; rotate_left 1; (simp only [List.getElem?_toArray, List.getElem?_cons_succ, List.getElem?_cons_zero]; rfl); intro K hK); go_simp; (refine (mv_Level M0 x _ _ (mb0 _) (HX.out.ext (E8.out.trans e1)).pi).mono ?_); rintro e_ q10 ⟨k2, rfl, hk2, e2⟩; go_wp2_with (fail); (try clear hSn); (have hSn := hHeld.ext ((E8.out.trans e1).trans e2)); (refine hK.out _ _ (fun _ => hSn) ?_); clear hK K; (try simp only [Act.put, List.setIfInBounds_toArray, List.set_cons_zero, List.set_cons_succ]))
    ((refine wpAnyU_one 30 (o := ?_) (by kernel_rfl) ?_ ?_; rotate_left 1; (simp only [List.getElem?_toArray, List.getElem?_cons_succ, List.getElem?_cons_zero]; rfl); intro K hK); go_simp; (refine (mv_Level M0 y _ _ (mb0 _) (HY.out.ext ((E8.out.trans e1).trans e2)).pi).mono ?_); rintro e_ q11 ⟨k3, rfl, hk3, e3⟩; go_wp2_with (fail); (try clear hSn); (have hSn := hHeld.ext (((E8.out.trans e1).trans e2).trans e3)); (refine hK.out _ _ (fun _ => hSn) ?_); clear hK K; (try simp only [Act.put, List.setIfInBounds_toArray, List.set_cons_zero, List.set_cons_succ]))
    have hk : k1 = max k2 k3 := lv_prod HS1.out.nn HS2.out.nn HZF.out HZG.out hk1 hk2 hk3
    have hmx : max (k2 : Int) (k3 : Int) = (k1 : Int) := by omega
    have HF := Lib.hid (HE.out.trans (((E8.out.trans e1).trans e2).trans e3))
    clear hk1 hk2 hk3 hk e1 e2 e3 E8
    (refine tkB [31, 32, 33, 34] ?_; (iterate 4 (refine tk1 (oi := ?_) (v := ?_) (by kernel_rfl) (by first | exact hSn | exact hHeld) ?_ ?_ ?_ ?_ ?_; rotate_left 2; (simp only [List.getElem?_toArray, List.getElem?_cons_succ, List.getElem?_cons_zero]; rfl); rfl; (intro wS hSw; obtain ⟨⟨S1, S2, S3, S4⟩, ⟨S5, S6, S7, S8⟩, S9, S10, S11, S12⟩ := hSw; go_simp; try with_reducible rfl); (exact fun _ _ _ h => h); (try simp only [Act.put, List.setIfInBounds_toArray, List.set_cons_zero, List.set_cons_succ]))); refine tkE ?_)
    refine wpAnyU_done (by kernel_rfl) ?_ _
    clear hHeld hSn HX HY HE HM
    go_wp2
    go_ret
    exact ⟨rfl, HF.out⟩
end Go.Proofs.YtgppogaoilijcaaGreat
