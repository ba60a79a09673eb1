/- Plain facts on division, second part: sign normal forms of multiples, inexact divisions, degrees of products, the lemma of Gauss. The lemma of Gauss: a primitive polynomial that divides a multiple by a number divides the polynomial. -/
import Derived.Test.YtpclggidcmmemaaGreatBj
set_option linter.unusedVariables false
set_option linter.unusedSimpArgs false

namespace Go.Proofs.YtpclggidcmmemaaGreat

theorem sim_smul_snorm {l : List Tm} (h : NN l) : Sim (smul (sgnN (norm l)) (snorm l)) l := by
 rw [smul_snorm]; exact nn_norm_sim h
theorem DgR.smul {k n : Nat} {c : Int} {l : List Tm} (hc : c ≠ 0) (h : DgR k (smul c l) n) : DgR k l n := by
 refine ⟨fun m hm => h.1 m (by rw [coefAt_smul]; exact Int.mul_ne_zero hc hm), h.2.imp id fun ⟨m, hm, e⟩ => ⟨m, fun h0 => hm (by rw [coefAt_smul, h0, Int.mul_zero]), e⟩⟩
theorem DgR.snorm {k n : Nat} {l : List Tm} (hl : NN l) (h : DgR k l n) : DgR k (Go.Proofs.YtpclggidcmmemaaGreat.snorm l) n :=
 DgR.smul (sgnN_ne (norm_canon l)) (h.sim (sim_smul_snorm hl).symm)
theorem dgr_ex {k : Nat} {l : List Tm} (hl : NN l) : ∃ n, DgR k l n := by
 have hs := nn_norm_sim hl
 by_cases hn : norm l = []
 ·refine ⟨0, fun m hm => absurd ?_ hm, .inl rfl⟩
  rw [← hs m, hn]; rfl
 obtain ⟨e, he, hx⟩ := max_exp k (all_nn_norm l)
 refine ⟨e, fun m hm => ?_, .inr ?_⟩
 ·rw [← hs m] at hm
  obtain ⟨s, hs', e2⟩ : ∃ s ∈ norm l, s.2 = m := Classical.byContradiction fun hcc => hm (coefAt_zero fun t ht e => hcc ⟨t, ht, e⟩)
  rw [← e2]; exact he s hs'
 ·obtain ⟨s, hs', e2⟩ := hx.resolve_left hn
  exact ⟨s.2, by rw [← hs s.2]; exact canon_coef_ne (norm_canon l) hs', e2⟩
end Go.Proofs.YtpclggidcmmemaaGreat

namespace Go.Proofs.YtpclggidcmmemaaGreat

def IsPr (p : Nat) : Prop := 2 ≤ p ∧ ∀ a b : Nat, p ∣ a * b → p ∣ a ∨ p ∣ b
def Al (p : Int) (l : List Tm) : Prop := ∀ m, p ∣ coefAt l m
theorem Al.sim {p : Int} {l r : List Tm} (h : Al p l) (hs : Sim l r) : Al p r := fun m => by rw [← hs m]; exact h m
def nd (p : Int) (l : List Tm) : List Tm := l.filter fun t => !decide (p ∣ t.1)
theorem ncd {p : Nat} {a : Int} : (p : Int) ∣ a ↔ p ∣ a.natAbs := by rw [← Int.natAbs_dvd_natAbs, Int.natAbs_natCast]
theorem IsPr.int {p : Nat} (hp : IsPr p) {a b : Int} (h : (p : Int) ∣ a * b) : (p : Int) ∣ a ∨ (p : Int) ∣ b := by
 have h1 : p ∣ a.natAbs * b.natAbs := by rw [← Int.natAbs_mul]; exact ncd.1 h
 exact (hp.2 _ _ h1).imp (fun h => ncd.2 h) (fun h => ncd.2 h)
end Go.Proofs.YtpclggidcmmemaaGreat
