/- Plain facts on division, second part: sign normal forms of multiples, inexact divisions, degrees of products, the lemma of Gauss. The lemma of Gauss: a primitive polynomial that divides a multiple by a number divides the polynomial. -/
import Derived.Test.YtpclggidcmmemaaGreatBj
set_option linter.unusedVariables false
set_option linter.unusedSimpArgs false

namespace Go.Proofs.YtpclggidcmmemaaGreat

theorem sim_smul_snorm {l : List Tm} (h : NN l) : Sim (smul (sgnN (norm l)) (snorm l)) l := by
 rw [smul_snorm]; exact nn_norm_sim h
theorem smul_one (l : List Tm) : smul 1 l = l := by simp [smul]
theorem pmul_const (c : Int) (l : List Tm) : Sim (pmul l [(c, Mo.zero)]) (smul c l) := by
 have := pmul_single l (c, Mo.zero)
 rw [shift_zero] at this
 exact this
theorem DgR.smul {k n : Nat} {c : Int} {l : List Tm} (hc : c ≠ 0) (h : DgR k (smul c l) n) : DgR k l n := by
 refine ⟨fun m hm => h.1 m (by rw [coefAt_smul]; exact Int.mul_ne_zero hc hm), h.2.imp id fun ⟨m, hm, e⟩ => ⟨m, fun h0 => hm (by rw [coefAt_smul, h0, Int.mul_zero]), e⟩⟩
theorem DgR.snorm {k n : Nat} {l : List Tm} (hl : NN l) (h : DgR k l n) : DgR k (Go.Proofs.YtpclggidcmmemaaGreat.snorm l) n :=
 DgR.smul (sgnN_ne (norm_canon l)) (h.sim (sim_smul_snorm hl).symm)
theorem dgr_ex {k : Nat} {l : List Tm} (hl : NN l) : ∃ n, DgR k l n := by
 have hs := nn_norm_sim hl
 by_cases hn : norm l = []
 ·refine ⟨0, fun m hm => absurd ?_ hm, .inl rfl⟩
  rw [← hs m, hn]; rfl
 obtain ⟨e, he, hx⟩ := max_exp k (all_nn_norm l)
 refine ⟨e, fun m hm => ?_, .inr ?_⟩
 ·rw [← hs m] at hm
  obtain ⟨s, hs', e2⟩ : ∃ s ∈ norm l, s.2 = m := Classical.byContradiction fun hcc => hm (coefAt_zero fun t ht e => hcc ⟨t, ht, e⟩)
  rw [← e2]; exact he s hs'
 ·obtain ⟨s, hs', e2⟩ := hx.resolve_left hn
  exact ⟨s.2, by rw [← hs s.2]; exact canon_coef_ne (norm_canon l) hs', e2⟩
theorem DgR.att {k n : Nat} {l : List Tm} (hl : NN l) (hz : ¬ Sim l []) (h : DgR k l n) : ∃ m, coefAt l m ≠ 0 ∧ m.get k = n := by
 rcases h.2 with h0 | h0
 ·obtain ⟨m, hm⟩ := not_sim_nil hz
  refine ⟨m, hm, ?_⟩
  have h1 := h.1 m hm
  have h2 : m.nn = true := by
   cases hc : m.nn with
   | true => rfl
   | false => exact absurd (hl m hc) hm
  have h3 := nn_get h2 k
  omega
 ·exact h0
theorem dgr_mul {k : Nat} (h1 : 1 ≤ k) (h4 : k ≤ 4) {q s : List Tm} (hq : NN q) (hs : NN s) (zq : ¬ Sim q []) (zs : ¬ Sim s []) {a b : Nat} (ha : DgR k q a) (hb : DgR k s b) : DgR k (pmul q s) (a + b) := by
 have sq := nn_norm_sim hq
 have ss := nn_norm_sim hs
 have hp : Sim (pmul (norm q) (norm s)) (pmul q s) := sq.pmul ss
 have hle : ∀ {l : List Tm} {n : Nat}, NN l → DgR k l n → ∀ t ∈ norm l, t.2.get k ≤ (n : Int) := fun {l n} hl hd t ht => hd.1 t.2 (by
  rw [← nn_norm_sim hl t.2]; exact canon_coef_ne (norm_canon l) ht)
 refine ⟨fun m hm => ?_, .inr ?_⟩
 ·rw [← hp m] at hm
  obtain ⟨m1, g1, g2⟩ := coef_pmul_ne' (canon_dist (norm_canon q)) hm
  rw [sq m1] at g1
  rw [ss] at g2
  have e1 := ha.1 m1 g1
  have e2 := hb.1 _ g2
  rw [get_sub] at e2
  omega
 ·obtain ⟨m1, g1, e1⟩ := ha.att hq zq
  obtain ⟨m2, g2, e2⟩ := hb.att hs zs
  rw [← sq m1] at g1
  rw [← ss m2] at g2
  have c1 := ck_ne h1 h4 g1
  have c2 := ck_ne h1 h4 g2
  rw [e1] at c1
  rw [e2] at c2
  have h6 := ck_pmul h1 h4 (e := (a : Int)) (e' := (b : Int)) (hle hs hb) (norm q) (hle hq ha)
  have h7 := pmul_ne (ck_nn h1 h4 (nn_of_all (all_nn_norm q))) (ck_nn h1 h4 (nn_of_all (all_nn_norm s))) c1 c2
  rw [← h6] at h7
  obtain ⟨m, hm, hg⟩ := ck_ex h1 h4 h7
  exact ⟨m, by rw [← hp m]; exact hm, by omega⟩
theorem one_ne : ¬ Sim [(1, Mo.zero)] [] := fun h => by
 have := h Mo.zero
 simp [coefAt] at this
theorem dgr_one (k : Nat) : DgR k [(1, Mo.zero)] 0 := by
 refine ⟨fun m hm => ?_, .inl rfl⟩
 by_cases e : Mo.zero = m
 ·subst e; rw [get_zero]; exact Int.le_refl _
 ·exact absurd (by simp [coefAt, e]) hm
theorem ppow_ne {s : List Tm} (hs : NN s) (zs : ¬ Sim s []) : ∀ n, ¬ Sim (ppow s n) []
 | 0 => one_ne
 | n + 1 => pmul_ne (nn_ppow hs n) hs (ppow_ne hs zs n) zs
theorem dgr_pow {k : Nat} (h1 : 1 ≤ k) (h4 : k ≤ 4) {s : List Tm} (hs : NN s) (zs : ¬ Sim s []) {b : Nat} (hb : DgR k s b) : ∀ n, DgR k (ppow s n) (n * b)
 | 0 => by rw [Nat.zero_mul]; exact dgr_one k
 | n + 1 => by
  rw [Nat.succ_mul]
  exact dgr_mul h1 h4 (nn_ppow hs n) hs (ppow_ne hs zs n) zs (dgr_pow h1 h4 hs zs hb n) hb
theorem pow_le {k : Nat} (h1 : 1 ≤ k) (h4 : k ≤ 4) {r s f : List Tm} (hr : NN r) (hs : NN s) (zr : ¬ Sim r []) (zs : ¬ Sim s []) {m : Mo} (hm : coefAt s m ≠ 0) (hp : 0 < m.get k) {n B : Nat} (h : Sim (pmul r (ppow s n)) f) (hB : Deg B f) : n ≤ B := by
 obtain ⟨a, ha⟩ := dgr_ex (k := k) hr
 obtain ⟨b, hb⟩ := dgr_ex (k := k) hs
 have hb1 := hb.1 m hm
 have hd := dgr_mul h1 h4 hr (nn_ppow hs n) zr (ppow_ne hs zs n) ha (dgr_pow h1 h4 hs zs hb n)
 obtain ⟨m', hm', e⟩ := hd.att (nn_pmul hr (nn_ppow hs n)) (pmul_ne hr (nn_ppow hs n) zr (ppow_ne hs zs n))
 rw [h m'] at hm'
 have h5 := hB m' hm' k
 have h6 : n * 1 ≤ n * b := Nat.mul_le_mul_left n (by omega)
 omega
end Go.Proofs.YtpclggidcmmemaaGreat

namespace Go.Proofs.YtpclggidcmmemaaGreat

def IsPr (p : Nat) : Prop := 2 ≤ p ∧ ∀ a b : Nat, p ∣ a * b → p ∣ a ∨ p ∣ b
def Al (p : Int) (l : List Tm) : Prop := ∀ m, p ∣ coefAt l m
theorem Al.sim {p : Int} {l r : List Tm} (h : Al p l) (hs : Sim l r) : Al p r := fun m => by rw [← hs m]; exact h m
def nd (p : Int) (l : List Tm) : List Tm := l.filter fun t => !decide (p ∣ t.1)
theorem ncd {p : Nat} {a : Int} : (p : Int) ∣ a ↔ p ∣ a.natAbs := by rw [← Int.natAbs_dvd_natAbs, Int.natAbs_natCast]
theorem IsPr.int {p : Nat} (hp : IsPr p) {a b : Int} (h : (p : Int) ∣ a * b) : (p : Int) ∣ a ∨ (p : Int) ∣ b := by
 have h1 : p ∣ a.natAbs * b.natAbs := by rw [← Int.natAbs_mul]; exact ncd.1 h
 exact (hp.2 _ _ h1).imp (fun h => ncd.2 h) (fun h => ncd.2 h)
end Go.Proofs.YtpclggidcmmemaaGreat
