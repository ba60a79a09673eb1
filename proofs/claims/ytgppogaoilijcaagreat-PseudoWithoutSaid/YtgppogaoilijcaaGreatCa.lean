/- Plain facts on division, second part: sign normal forms of multiples, inexact divisions, degrees of products, the lemma of Gauss. The lemma of Gauss: a primitive polynomial that divides a multiple by a number divides the polynomial. -/
import Derived.Test.YtgppogaoilijcaaGreatBi
set_option linter.unusedVariables false
set_option linter.unusedSimpArgs false

namespace Go.Proofs.YtgppogaoilijcaaGreat

theorem gcF_smul (c : Int) : ∀ (l : List Tm) (a : Nat), (smul c l).foldl (fun g t => Nat.gcd g t.1.natAbs) (c.natAbs * a) = c.natAbs * l.foldl (fun g t => Nat.gcd g t.1.natAbs) a
  | [], _ => rfl
  | t :: l, a => by
    show (smul c l).foldl (fun g t => Nat.gcd g t.1.natAbs) (Nat.gcd (c.natAbs * a) (c * t.1).natAbs) = _
    rw [Int.natAbs_mul, Nat.gcd_mul_left, gcF_smul c l]
    rfl
theorem gcL_smul (c : Int) (l : List Tm) : gcL (smul c l) = c.natAbs * gcL l := gcF_smul c l 0
theorem sgnN_smul {c : Int} (hc : c ≠ 0) {l : List Tm} (hl : Canon l) (hn : l ≠ []) : sgnN (smul c l) = c * sgnN l := by
  cases l with
  | nil => exact absurd rfl hn
  | cons t l =>
    have h0 := (hl.2 t List.mem_cons_self).1
    have hg := gcL_smul c (t :: l)
    show (if c * t.1 < 0 then -((gcL (smul c (t :: l)) : Nat) : Int) else ((gcL (smul c (t :: l)) : Nat) : Int)) = c * (if t.1 < 0 then -((gcL (t :: l) : Nat) : Int) else ((gcL (t :: l) : Nat) : Int))
    rw [hg, Int.natCast_mul]
    generalize ((gcL (t :: l) : Nat) : Int) = G
    rcases Int.lt_or_gt_of_ne hc with h1 | h1
    · rw [show ((c.natAbs : Nat) : Int) = -c by omega]
      rcases Int.lt_or_gt_of_ne h0 with h2 | h2
      · rw [if_neg (by have := Int.mul_pos_of_neg_of_neg h1 h2; omega), if_pos h2, Int.neg_mul, Int.mul_neg]
      · rw [if_pos (Int.mul_neg_of_neg_of_pos h1 h2), if_neg (by omega), Int.neg_mul, Int.neg_neg]
    · rw [show ((c.natAbs : Nat) : Int) = c by omega]
      rcases Int.lt_or_gt_of_ne h0 with h2 | h2
      · rw [if_pos (Int.mul_neg_of_pos_of_neg h1 h2), if_pos h2, Int.mul_neg]
      · rw [if_neg (by have := Int.mul_pos h1 h2; omega), if_neg (by omega)]
theorem snorm_smul {c : Int} (hc : c ≠ 0) (l : List Tm) : snorm (smul c l) = snorm l := by
  unfold snorm
  rw [← norm_smul hc]
  have hcan := norm_canon l
  by_cases hn : norm l = []
  · rw [hn]; rfl
  rw [sgnN_smul hc hcan hn]
  have hs0 := sgnN_ne hcan
  generalize hS : sgnN (norm l) = S at *
  unfold smul
  rw [List.map_map]
  apply List.map_congr_left
  intro t ht
  obtain ⟨k, hk⟩ := sgnN_dvd ht
  rw [hS] at hk
  show ((c * t.1).tdiv (c * S), t.2) = (t.1.tdiv S, t.2)
  rw [hk, ← Int.mul_assoc, Int.mul_tdiv_cancel_left _ (Int.mul_ne_zero hc hs0), Int.mul_tdiv_cancel_left _ hs0]
theorem snorm_eq {a b : Int} (ha : a ≠ 0) (hb : b ≠ 0) {l r : List Tm} (h : Sim (smul a l) (smul b r)) : snorm l = snorm r := by
  rw [← snorm_smul ha l, ← snorm_smul hb r]
  exact h.snorm
theorem sim_smul_snorm {l : List Tm} (h : NN l) : Sim (smul (sgnN (norm l)) (snorm l)) l := by
  rw [smul_snorm]; exact nn_norm_sim h
theorem snorm_nn (l : List Tm) : NN (snorm l) := nn_of_all fun t ht => ((snorm_canon l).2 t ht).2
theorem smul_one (l : List Tm) : smul 1 l = l := by simp [smul]
theorem smul_smul (a b : Int) (l : List Tm) : smul a (smul b l) = smul (a * b) l := by simp [smul, List.map_map, Function.comp_def, Int.mul_assoc]
theorem snorm_snorm (l : List Tm) (hl : NN l) : snorm (snorm l) = snorm l := by
  refine snorm_eq (a := sgnN (norm l)) (b := 1) (sgnN_ne (norm_canon l)) (by omega) ?_
  rw [smul_one]; exact sim_smul_snorm hl
theorem smul_nn {c : Int} {l : List Tm} (h : NN l) : NN (smul c l) := fun m hm => by rw [coefAt_smul, h m hm, Int.mul_zero]
theorem pmul_smul_left (c : Int) (l r : List Tm) : Sim (pmul (smul c l) r) (smul c (pmul l r)) := fun m => by
  rw [coefAt_smul]
  induction l with
  | nil => exact (Int.mul_zero c).symm
  | cons s l ih =>
    show coefAt (pmul ((c * s.1, s.2) :: smul c l) r) m = _
    rw [coefAt_pmul_cons, coefAt_pmul_cons, ih, Int.mul_add, Int.mul_assoc]
theorem pmul_smul_right (c : Int) (l r : List Tm) : Sim (pmul l (smul c r)) (smul c (pmul l r)) :=
  (Sim.pmul_comm _ _).trans ((pmul_smul_left c r l).trans ((Sim.pmul_comm r l).smul c))
theorem smul_cancel {c : Int} (hc : c ≠ 0) {l r : List Tm} (h : Sim (smul c l) (smul c r)) : Sim l r := fun m => by
  have := h m
  rw [coefAt_smul, coefAt_smul] at this
  exact Int.eq_of_mul_eq_mul_left hc this
theorem pmul_const (c : Int) (l : List Tm) : Sim (pmul l [(c, Mo.zero)]) (smul c l) := by
  have := pmul_single l (c, Mo.zero)
  rw [shift_zero] at this
  exact this
theorem not_dv_rest {k : Nat} (h1 : 1 ≤ k) (h4 : k ≤ 4) {f g h : List Tm} (hf : NN f) (hg : NN g) (hh : NN h) (hz : ¬ Sim h []) {n m : Nat} (hgn : DgR k g n) (hm : ∀ q, coefAt h q ≠ 0 → q.get k ≤ m) (hmn : m < n) : ¬ Dv g (pmul f g ++ h) := fun hd => by
  obtain ⟨q, hq, hs⟩ := hd.rest hf (Sim.refl _)
  have hzq : ¬ Sim q [] := fun hx => hz (hs.symm.trans (hx.pmul_left _))
  obtain ⟨t, ht1, ht2⟩ := hgn.2.resolve_left (by omega)
  have hsg := nn_norm_sim hg
  have hc : coefAt (norm g) t ≠ 0 := by rw [hsg t]; exact ht1
  have h5 := ck_ne h1 h4 hc
  rw [ht2] at h5
  have hle : ∀ s ∈ norm g, s.2.get k ≤ (n : Int) := fun s hs' => hgn.1 s.2 (by
    rw [← hsg s.2]; exact canon_coef_ne (norm_canon g) hs')
  obtain ⟨e, he, hx⟩ := top_ne h1 h4 hq hzq (nn_of_all (all_nn_norm g)) hle h5
  have h6 : Sim (pmul q (norm g)) h := (hsg.pmul_right q).trans hs
  obtain ⟨m', hm', hg'⟩ := ck_ex h1 h4 (fun hy => hx ((ck_sim h6).trans hy))
  have := hm m' hm'
  omega
theorem DgR.smul {k n : Nat} {c : Int} {l : List Tm} (hc : c ≠ 0) (h : DgR k (smul c l) n) : DgR k l n := by
  refine ⟨fun m hm => h.1 m (by rw [coefAt_smul]; exact Int.mul_ne_zero hc hm), h.2.imp id fun ⟨m, hm, e⟩ => ⟨m, fun h0 => hm (by rw [coefAt_smul, h0, Int.mul_zero]), e⟩⟩
theorem DgR.snorm {k n : Nat} {l : List Tm} (hl : NN l) (h : DgR k l n) : DgR k (Go.Proofs.YtgppogaoilijcaaGreat.snorm l) n :=
  DgR.smul (sgnN_ne (norm_canon l)) (h.sim (sim_smul_snorm hl).symm)
theorem not_dv_rest_snorm {k : Nat} (h1 : 1 ≤ k) (h4 : k ≤ 4) {f g h : List Tm} (hf : NN f) (hg : NN g) (hh : NN h) (hz : ¬ Sim h []) {n m : Nat} (hgn : DgR k g n) (hm : ∀ q, coefAt h q ≠ 0 → q.get k ≤ m) (hmn : m < n) : ¬ Dv (snorm g) (pmul f g ++ h) := fun hd => by
  refine not_dv_rest h1 h4 (smul_nn (c := sgnN (norm g)) hf) (snorm_nn g) hh hz (hgn.snorm hg) hm hmn (hd.sim (Sim.refl _) ?_)
  refine Sim.append ?_ (Sim.refl _)
  exact ((sim_smul_snorm hg).symm.pmul_right f).trans ((pmul_smul_right _ _ _).trans (pmul_smul_left _ _ _).symm)
theorem dgr_ex {k : Nat} {l : List Tm} (hl : NN l) : ∃ n, DgR k l n := by
  have hs := nn_norm_sim hl
  by_cases hn : norm l = []
  · refine ⟨0, fun m hm => absurd ?_ hm, .inl rfl⟩
    rw [← hs m, hn]; rfl
  obtain ⟨e, he, hx⟩ := max_exp k (all_nn_norm l)
  refine ⟨e, fun m hm => ?_, .inr ?_⟩
  · rw [← hs m] at hm
    obtain ⟨s, hs', e2⟩ : ∃ s ∈ norm l, s.2 = m := Classical.byContradiction fun hcc => hm (coefAt_zero fun t ht e => hcc ⟨t, ht, e⟩)
    rw [← e2]; exact he s hs'
  · obtain ⟨s, hs', e2⟩ := hx.resolve_left hn
    exact ⟨s.2, by rw [← hs s.2]; exact canon_coef_ne (norm_canon l) hs', e2⟩
theorem DgR.att {k n : Nat} {l : List Tm} (hl : NN l) (hz : ¬ Sim l []) (h : DgR k l n) : ∃ m, coefAt l m ≠ 0 ∧ m.get k = n := by
  rcases h.2 with h0 | h0
  · obtain ⟨m, hm⟩ := not_sim_nil hz
    refine ⟨m, hm, ?_⟩
    have h1 := h.1 m hm
    have h2 : m.nn = true := by
      cases hc : m.nn with
      | true => rfl
      | false => exact absurd (hl m hc) hm
    have h3 := nn_get h2 k
    omega
  · exact h0
theorem dgr_mul {k : Nat} (h1 : 1 ≤ k) (h4 : k ≤ 4) {q s : List Tm} (hq : NN q) (hs : NN s) (zq : ¬ Sim q []) (zs : ¬ Sim s []) {a b : Nat} (ha : DgR k q a) (hb : DgR k s b) : DgR k (pmul q s) (a + b) := by
  have sq := nn_norm_sim hq
  have ss := nn_norm_sim hs
  have hp : Sim (pmul (norm q) (norm s)) (pmul q s) := sq.pmul ss
  have hle : ∀ {l : List Tm} {n : Nat}, NN l → DgR k l n → ∀ t ∈ norm l, t.2.get k ≤ (n : Int) := fun {l n} hl hd t ht => hd.1 t.2 (by
    rw [← nn_norm_sim hl t.2]; exact canon_coef_ne (norm_canon l) ht)
  refine ⟨fun m hm => ?_, .inr ?_⟩
  · rw [← hp m] at hm
    obtain ⟨m1, g1, g2⟩ := coef_pmul_ne' (canon_dist (norm_canon q)) hm
    rw [sq m1] at g1
    rw [ss] at g2
    have e1 := ha.1 m1 g1
    have e2 := hb.1 _ g2
    rw [get_sub] at e2
    omega
  · obtain ⟨m1, g1, e1⟩ := ha.att hq zq
    obtain ⟨m2, g2, e2⟩ := hb.att hs zs
    rw [← sq m1] at g1
    rw [← ss m2] at g2
    have c1 := ck_ne h1 h4 g1
    have c2 := ck_ne h1 h4 g2
    rw [e1] at c1
    rw [e2] at c2
    have h6 := ck_pmul h1 h4 (e := (a : Int)) (e' := (b : Int)) (hle hs hb) (norm q) (hle hq ha)
    have h7 := pmul_ne (ck_nn h1 h4 (nn_of_all (all_nn_norm q))) (ck_nn h1 h4 (nn_of_all (all_nn_norm s))) c1 c2
    rw [← h6] at h7
    obtain ⟨m, hm, hg⟩ := ck_ex h1 h4 h7
    exact ⟨m, by rw [← hp m]; exact hm, by omega⟩
theorem one_nn : NN [(1, Mo.zero)] := nn_of_all (by decide)
theorem one_ne : ¬ Sim [(1, Mo.zero)] [] := fun h => by
  have := h Mo.zero
  simp [coefAt] at this
theorem dgr_one (k : Nat) : DgR k [(1, Mo.zero)] 0 := by
  refine ⟨fun m hm => ?_, .inl rfl⟩
  by_cases e : Mo.zero = m
  · subst e; rw [get_zero]; exact Int.le_refl _
  · exact absurd (by simp [coefAt, e]) hm
theorem ppow_ne {s : List Tm} (hs : NN s) (zs : ¬ Sim s []) : ∀ n, ¬ Sim (ppow s n) []
  | 0 => one_ne
  | n + 1 => pmul_ne (nn_ppow hs n) hs (ppow_ne hs zs n) zs
theorem dgr_pow {k : Nat} (h1 : 1 ≤ k) (h4 : k ≤ 4) {s : List Tm} (hs : NN s) (zs : ¬ Sim s []) {b : Nat} (hb : DgR k s b) : ∀ n, DgR k (ppow s n) (n * b)
  | 0 => by rw [Nat.zero_mul]; exact dgr_one k
  | n + 1 => by
    rw [Nat.succ_mul]
    exact dgr_mul h1 h4 (nn_ppow hs n) hs (ppow_ne hs zs n) zs (dgr_pow h1 h4 hs zs hb n) hb
theorem pow_le {k : Nat} (h1 : 1 ≤ k) (h4 : k ≤ 4) {r s f : List Tm} (hr : NN r) (hs : NN s) (zr : ¬ Sim r []) (zs : ¬ Sim s []) {m : Mo} (hm : coefAt s m ≠ 0) (hp : 0 < m.get k) {n B : Nat} (h : Sim (pmul r (ppow s n)) f) (hB : Deg B f) : n ≤ B := by
  obtain ⟨a, ha⟩ := dgr_ex (k := k) hr
  obtain ⟨b, hb⟩ := dgr_ex (k := k) hs
  have hb1 := hb.1 m hm
  have hd := dgr_mul h1 h4 hr (nn_ppow hs n) zr (ppow_ne hs zs n) ha (dgr_pow h1 h4 hs zs hb n)
  obtain ⟨m', hm', e⟩ := hd.att (nn_pmul hr (nn_ppow hs n)) (pmul_ne hr (nn_ppow hs n) zr (ppow_ne hs zs n))
  rw [h m'] at hm'
  have h5 := hB m' hm' k
  have h6 : n * 1 ≤ n * b := Nat.mul_le_mul_left n (by omega)
  omega
end Go.Proofs.YtgppogaoilijcaaGreat

namespace Go.Proofs.YtgppogaoilijcaaGreat

def IsPr (p : Nat) : Prop := 2 ≤ p ∧ ∀ a b : Nat, p ∣ a * b → p ∣ a ∨ p ∣ b
theorem pr_ex (c : Nat) (h : 2 ≤ c) : ∃ p, IsPr p ∧ p ∣ c := by
  induction c using Nat.strongRecOn with
  | _ c ih =>
    by_cases hx : ∃ d, 2 ≤ d ∧ d < c ∧ d ∣ c
    · obtain ⟨d, h1, h2, h3⟩ := hx
      obtain ⟨p, hp, hd⟩ := ih d h2 h1
      exact ⟨p, hp, Nat.dvd_trans hd h3⟩
    · refine ⟨c, ⟨h, fun a b hab => ?_⟩, Nat.dvd_refl _⟩
      have hg := Nat.gcd_dvd_left c a
      have hg2 := Nat.gcd_dvd_right c a
      have hle := Nat.le_of_dvd (by omega) hg
      by_cases hc : Nat.gcd c a = c
      · left; rw [hc] at hg2; exact hg2
      · right
        have h0 : Nat.gcd c a ≠ 0 := fun e => by rw [e, Nat.zero_dvd] at hg; omega
        have h1 : Nat.gcd c a = 1 := Classical.byContradiction fun hn => hx ⟨Nat.gcd c a, by omega, by omega, hg⟩
        exact Nat.Coprime.dvd_of_dvd_mul_left h1 hab
def Al (p : Int) (l : List Tm) : Prop := ∀ m, p ∣ coefAt l m
theorem Al.sim {p : Int} {l r : List Tm} (h : Al p l) (hs : Sim l r) : Al p r := fun m => by rw [← hs m]; exact h m
theorem al_of_all {p : Int} : ∀ {l : List Tm}, (∀ t ∈ l, p ∣ t.1) → Al p l
  | [], _, _ => Int.dvd_zero p
  | t :: l, h, m => by
    have ih := al_of_all (l := l) (fun s hs => h s (List.mem_cons_of_mem _ hs)) m
    show p ∣ (if t.2 = m then t.1 else 0) + coefAt l m
    refine Int.dvd_add ?_ ih
    split
    · exact h t List.mem_cons_self
    · exact Int.dvd_zero p
theorem al_pmul_left {p : Int} : ∀ {l : List Tm} (r : List Tm), (∀ t ∈ l, p ∣ t.1) → Al p (pmul l r)
  | [], _, _, _ => Int.dvd_zero p
  | t :: l, r, h, m => by
    rw [coefAt_pmul_cons]
    exact Int.dvd_add (Int.dvd_trans (h t List.mem_cons_self) (Int.dvd_mul_right _ _)) (al_pmul_left r (fun s hs => h s (List.mem_cons_of_mem _ hs)) m)
def nd (p : Int) (l : List Tm) : List Tm := l.filter fun t => !decide (p ∣ t.1)
def pdd (p : Int) (l : List Tm) : List Tm := l.filter fun t => decide (p ∣ t.1)
theorem pdd_nd (p : Int) (l : List Tm) : Sim (pdd p l ++ nd p l) l := Sim.perm (List.filter_append_perm (fun t : Tm => decide (p ∣ t.1)) l)
theorem pdd_all {p : Int} {l : List Tm} : ∀ t ∈ pdd p l, p ∣ t.1 := fun t ht => by simpa using (List.mem_filter.1 ht).2
theorem nd_all {p : Int} {l : List Tm} : ∀ t ∈ nd p l, ¬ p ∣ t.1 := fun t ht => by simpa using (List.mem_filter.1 ht).2
theorem nd_canon {p : Int} {l : List Tm} (h : Canon l) : Canon (nd p l) := ⟨h.1.filter _, fun t ht => h.2 t (List.mem_filter.1 ht).1⟩
theorem al_nd {p : Int} {l r : List Tm} (h : Al p (pmul l r)) : Al p (pmul (nd p l) (nd p r)) := by
  have h1 : Al p (pmul (nd p l) r) := fun m => by
    have e := (pdd_nd p l).pmul_left r m
    rw [pmul_append_left, coefAt_append] at e
    have a := al_pmul_left (p := p) (l := pdd p l) r pdd_all m
    have b := h m
    rw [← e] at b
    exact (Int.dvd_add_right a).1 b
  have h2 : Al p (pmul r (nd p l)) := h1.sim (Sim.pmul_comm _ _)
  have h3 : Al p (pmul (nd p r) (nd p l)) := fun m => by
    have e := (pdd_nd p r).pmul_left (nd p l) m
    rw [pmul_append_left, coefAt_append] at e
    have a := al_pmul_left (p := p) (l := pdd p r) (nd p l) pdd_all m
    have b := h2 m
    rw [← e] at b
    exact (Int.dvd_add_right a).1 b
  exact h3.sim (Sim.pmul_comm _ _)
theorem ncd {p : Nat} {a : Int} : (p : Int) ∣ a ↔ p ∣ a.natAbs := by rw [← Int.natAbs_dvd_natAbs, Int.natAbs_natCast]
theorem IsPr.int {p : Nat} (hp : IsPr p) {a b : Int} (h : (p : Int) ∣ a * b) : (p : Int) ∣ a ∨ (p : Int) ∣ b := by
  have h1 : p ∣ a.natAbs * b.natAbs := by rw [← Int.natAbs_mul]; exact ncd.1 h
  exact (hp.2 _ _ h1).imp (fun h => ncd.2 h) (fun h => ncd.2 h)
theorem gauss_pr {p : Nat} (hp : IsPr p) {l r : List Tm} (hl : Canon l) (hr : Canon r) (hn : ¬ Al (p : Int) l) (h : Al (p : Int) (pmul l r)) : Al (p : Int) r := by
  have h1 := al_nd h
  have c1 := nd_canon (p := (p : Int)) hl
  have c2 := nd_canon (p := (p : Int)) hr
  have a1 := nd_all (p := (p : Int)) (l := l)
  have a2 := nd_all (p := (p : Int)) (l := r)
  have s1 := pdd_nd (p : Int) l
  have s2 := pdd_nd (p : Int) r
  have d1 := al_of_all (pdd_all (p := (p : Int)) (l := l))
  have d2 := al_of_all (pdd_all (p := (p : Int)) (l := r))
  cases e2 : nd (p : Int) r with
  | nil => rw [e2, List.append_nil] at s2; exact d2.sim s2
  | cons t r' =>
    cases e1 : nd (p : Int) l with
    | nil => rw [e1, List.append_nil] at s1; exact absurd (d1.sim s1) hn
    | cons s l' =>
      rw [e1] at h1 c1 a1
      rw [e2] at h1 c2 a2
      have h3 := h1 (Mo.add s.2 t.2)
      rw [canon_pmul_lead c1 c2] at h3
      rcases hp.int h3 with h4 | h4
      · exact absurd h4 (a1 s List.mem_cons_self)
      · exact absurd h4 (a2 t List.mem_cons_self)
def Prim (s : List Tm) : Prop := ∀ d : Nat, Al (d : Int) s → d = 1
theorem dvd_gcF {k : Nat} : ∀ (l : List Tm) (a : Nat), k ∣ a → (∀ t ∈ l, k ∣ t.1.natAbs) → k ∣ l.foldl (fun g t => Nat.gcd g t.1.natAbs) a
  | [], _, ha, _ => ha
  | t :: l, a, ha, h => dvd_gcF l _ (Nat.dvd_gcd ha (h t List.mem_cons_self)) fun s hs => h s (List.mem_cons_of_mem _ hs)
theorem snorm_prim {l : List Tm} (hl : NN l) (hz : ¬ Sim l []) : Prim (snorm l) := fun d hd => by
  have hcan := norm_canon l
  have hne : norm l ≠ [] := fun e => hz (by have := nn_norm_sim hl; rw [e] at this; exact this.symm)
  have hs0 := sgnN_ne hcan
  have h1 : (sgnN (norm l)).natAbs * d ∣ gcL (norm l) := by
    refine dvd_gcF (norm l) 0 (Nat.dvd_zero _) fun t ht => ?_
    have e := coefAt_of_mem hcan ht
    rw [← smul_snorm l, coefAt_smul] at e
    rw [← e, Int.natAbs_mul]
    exact Nat.mul_dvd_mul_left _ (ncd.1 (hd t.2))
  rw [← sgnN_natAbs hne] at h1
  have h2 : 0 < (sgnN (norm l)).natAbs := by omega
  have h3 : (sgnN (norm l)).natAbs * d ∣ (sgnN (norm l)).natAbs * 1 := by rw [Nat.mul_one]; exact h1
  exact Nat.dvd_one.1 (Nat.dvd_of_mul_dvd_mul_left h2 h3)
theorem al_quot {p : Int} (hp : p ≠ 0) {l : List Tm} (hl : NN l) (h : Al p l) : ∃ q, NN q ∧ Sim (smul p q) l := by
  refine ⟨(norm l).map fun t => (t.1.tdiv p, t.2), nn_of_all fun t ht => ?_, ?_⟩
  · obtain ⟨s, hs, rfl⟩ := List.mem_map.1 ht
    exact all_nn_norm l s hs
  · refine Sim.trans ?_ (nn_norm_sim hl)
    have : smul p ((norm l).map fun t => (t.1.tdiv p, t.2)) = norm l := by
      unfold smul
      rw [List.map_map]
      conv => rhs; rw [← List.map_id (norm l)]
      apply List.map_congr_left
      intro t ht
      have h1 : p ∣ t.1 := by
        have := h t.2
        rw [← nn_norm_sim hl t.2, coefAt_of_mem (norm_canon l) ht] at this
        exact this
      have := Int.tdiv_mul_cancel h1
      rw [Int.mul_comm] at this
      show (p * t.1.tdiv p, t.2) = t
      rw [this]
    rw [this]; exact Sim.refl _
theorem gauss {s : List Tm} (hs : NN s) (hP : Prim s) {q : List Tm} (hq : NN q) : ∀ (n : Nat) (c : Int), c ≠ 0 → c.natAbs ≤ n → Dv s (smul c q) → Dv s q
  | 0, c, h0, hn, _ => absurd hn (by omega)
  | n + 1, c, h0, hn, ⟨h, hh, hd⟩ => by
    by_cases h1 : c.natAbs = 1
    · refine ⟨smul c h, smul_nn hh, (pmul_smul_left _ _ _).trans ((hd.smul c).trans ?_)⟩
      rw [smul_smul, show c * c = 1 by
        have : c = 1 ∨ c = -1 := by omega
        rcases this with rfl | rfl <;> rfl, smul_one]
      exact Sim.refl _
    · obtain ⟨p, hp, hpc⟩ := pr_ex c.natAbs (by omega)
      obtain ⟨e, he⟩ := ncd.2 hpc
      have hp2 := hp.1
      have hp0 : (p : Int) ≠ 0 := by omega
      have he0 : e ≠ 0 := fun h => h0 (by rw [he, h, Int.mul_zero])
      have hal : Al (p : Int) (pmul (norm s) (norm h)) := Al.sim (l := smul c q) (fun m => by
        rw [coefAt_smul, he, Int.mul_assoc]; exact Int.dvd_mul_right _ _) (hd.symm.trans ((Sim.pmul_comm _ _).trans ((nn_norm_sim hs).pmul (nn_norm_sim hh)).symm))
      have hns : ¬ Al (p : Int) (norm s) := fun ha => by
        have := hP p (ha.sim (nn_norm_sim hs))
        omega
      have hal2 := (gauss_pr hp (norm_canon s) (norm_canon h) hns hal).sim (nn_norm_sim hh)
      obtain ⟨h', hh', hs'⟩ := al_quot hp0 hh hal2
      have hlt : e.natAbs ≤ n := by
        have : c.natAbs = p * e.natAbs := by rw [he, Int.natAbs_mul, Int.natAbs_natCast]
        have h3 : 2 * e.natAbs ≤ p * e.natAbs := Nat.mul_le_mul_right _ hp2
        omega
      refine gauss hs hP hq n e he0 hlt ⟨h', hh', smul_cancel hp0 ?_⟩
      rw [smul_smul, ← he]
      exact (pmul_smul_left _ _ _).symm.trans ((hs'.pmul_left s).trans hd)
theorem dv_smul {s q : List Tm} (hs : NN s) (hP : Prim s) (hq : NN q) {c : Int} (hc : c ≠ 0) (h : Dv s (smul c q)) : Dv s q := gauss hs hP hq c.natAbs c hc (Nat.le_refl _) h
end Go.Proofs.YtgppogaoilijcaaGreat
