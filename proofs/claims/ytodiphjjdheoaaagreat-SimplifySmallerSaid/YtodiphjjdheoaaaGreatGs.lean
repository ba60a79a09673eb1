/- Small polynomials; multiples, sign normal forms (plain). -/
import Derived.Test.YtodiphjjdheoaaaGreatNj
import Derived.Test.YtodiphjjdheoaaaGreatBa
set_option linter.unusedVariables false
set_option linter.unusedSimpArgs false

namespace Go.Proofs.YtodiphjjdheoaaaGreat
open Go.RowKit

theorem gcF_smulF (c : Int) : ∀ (l : List Tm) (a : Nat), (smul c l).foldl (fun g t => Nat.gcd g t.1.natAbs) (c.natAbs * a) = c.natAbs * l.foldl (fun g t => Nat.gcd g t.1.natAbs) a
 | [], _ => rfl
 | t :: l, a => by
  show (smul c l).foldl (fun g t => Nat.gcd g t.1.natAbs) (Nat.gcd (c.natAbs * a) (c * t.1).natAbs) = _
  rw [Int.natAbs_mul, Nat.gcd_mul_left, gcF_smulF c l]
  rfl
theorem gcL_smulF (c : Int) (l : List Tm) : gcL (smul c l) = c.natAbs * gcL l := gcF_smulF c l 0
theorem sgnN_smulF {c : Int} (hc : c ≠ 0) {l : List Tm} (hl : Canon l) (hn : l ≠ []) : sgnN (smul c l) = c * sgnN l := by
 cases l with
 | nil => exact absurd rfl hn
 | cons t l =>
  have h0 := (hl.2 t List.mem_cons_self).1
  have hg := gcL_smulF c (t :: l)
  show (if c * t.1 < 0 then -((gcL (smul c (t :: l)) : Nat) : Int) else ((gcL (smul c (t :: l)) : Nat) : Int)) = c * (if t.1 < 0 then -((gcL (t :: l) : Nat) : Int) else ((gcL (t :: l) : Nat) : Int))
  rw [hg, Int.natCast_mul]
  generalize ((gcL (t :: l) : Nat) : Int) = G
  rcases Int.lt_or_gt_of_ne hc with h1 | h1
  ·rw [show ((c.natAbs : Nat) : Int) = -c by omega]
   rcases Int.lt_or_gt_of_ne h0 with h2 | h2
   ·rw [if_neg (by have := Int.mul_pos_of_neg_of_neg h1 h2; omega), if_pos h2, Int.neg_mul, Int.mul_neg]
   ·rw [if_pos (Int.mul_neg_of_neg_of_pos h1 h2), if_neg (by omega), Int.neg_mul, Int.neg_neg]
  ·rw [show ((c.natAbs : Nat) : Int) = c by omega]
   rcases Int.lt_or_gt_of_ne h0 with h2 | h2
   ·rw [if_pos (Int.mul_neg_of_pos_of_neg h1 h2), if_pos h2, Int.mul_neg]
   ·rw [if_neg (by have := Int.mul_pos h1 h2; omega), if_neg (by omega)]
theorem snorm_smulF {c : Int} (hc : c ≠ 0) (l : List Tm) : snorm (smul c l) = snorm l := by
 unfold snorm
 rw [← norm_smul hc]
 have hcan := norm_canon l
 by_cases hn : norm l = []
 ·rw [hn]; rfl
 rw [sgnN_smulF hc hcan hn]
 have hs0 := sgnN_ne hcan
 generalize hS : sgnN (norm l) = S at *
 unfold smul
 rw [List.map_map]
 apply List.map_congr_left
 intro t ht
 obtain ⟨k, hk⟩ := sgnN_dvd ht
 rw [hS] at hk
 show ((c * t.1).tdiv (c * S), t.2) = (t.1.tdiv S, t.2)
 rw [hk, ← Int.mul_assoc, Int.mul_tdiv_cancel_left _ (Int.mul_ne_zero hc hs0), Int.mul_tdiv_cancel_left _ hs0]
theorem snorm_idemF (l : List Tm) : snorm (snorm l) = snorm l := by
 rw [← snorm_smulF (sgnN_ne (norm_canon l)) (snorm l), smul_snorm, snorm_norm]
theorem snorm_degF {l : List Tm} {B : Nat} (hl : NN l) (h : Deg B l) : Deg B (snorm l) := fun m hm k => by
 refine h m (fun h0 => ?_) k
 have h1 : coefAt (norm l) m = 0 := by rw [nn_norm_sim hl m]; exact h0
 rw [← smul_snorm l, coefAt_smul] at h1
 rcases Int.mul_eq_zero.1 h1 with h2 | h2
 ·have hz : Sim l [] := (nn_norm_sim hl).symm.trans fun m => by
   rw [← smul_snorm l, coefAt_smul, h2, Int.zero_mul]; rfl
  have hn : norm l = [] := hz.norm
  have h3 : snorm l = [] := by unfold snorm; rw [hn]; rfl
  rw [h3] at hm; exact hm rfl
 ·exact hm h2
def SmF (l : List Tm) : Prop := NN l ∧ Deg 66 l ∧ dlen (nrm l) ≤ 5
theorem SmF.sn {l : List Tm} (h : SmF l) : SmF (snorm l) := ⟨nn_of_all fun t ht => all_nn_norm (snorm l) t (by rw [norm_snorm]; exact ht), snorm_degF h.1 h.2.1, Nat.le_trans (dlen_mono (snorm_nrm l)) h.2.2⟩
section
variable {P : Program} {ops : Array Oper} {Q : Exit → Act → World → Prop} {md : Region.Mode} {S : World → Prop} {last : Nat}
theorem ts1F {i : Nat} {is : List Nat} {oi : Oper} {fuel : Nat} {listed : Array Bool} {a : Act} {w : World}
  (hc : (Region.noSelect ops && Region.free md ops listed i && (Region.ready md ops listed).contains i && waits md ops last i) = true) (hS : S w)
  (hi : ops[i]? = some oi) (hwd : Region.wanted oi (yielded ops a.tmps) = false) (hQ : ∀ c a w, Q (.panic c) (a.put oi.dst undef) w → Q (.panic c) a w)
  (h : TkG P md ops Q S last is fuel (listed.setIfInBounds i true) (a.put oi.dst undef) w) : TkG P md ops Q S last (i :: is) (fuel + 1) listed a w := by
 simp only [Bool.and_eq_true] at hc
 exact ⟨wpAnyU_first hi (Region.noSelect_spec hc.1.1.1) hQ hc.2 fuel listed a w (Region.free_spec hi hc.1.1.2) (by simpa using hc.1.2) (.inr ⟨hwd, rfl⟩) hS h.out⟩
end
end Go.Proofs.YtodiphjjdheoaaaGreat
