/- Plain facts: the sizes of canonical trees. -/
import Derived.Test.YtodiphjjdheoaaaGreatNr
set_option linter.unusedVariables false
set_option linter.unusedSimpArgs false

namespace Go.Proofs.YtodiphjjdheoaaaGreat

theorem nsum_le (f : Nat → Nat) (c : Nat) : ∀ n, (∀ i, i < n → f i ≤ c) → nsum f n ≤ n * c
 | 0, _ => Nat.zero_le _
 | n + 1, h => by
  have h1 := nsum_le f c n fun i hi => h i (by omega)
  have h2 := h n (by omega)
  simp only [nsum, Nat.add_mul, Nat.one_mul]
  omega
def szB (A B C : Nat) : Nat → Nat
 | 0 => C + 1
 | d + 1 => 1 + (B + 1) * (szB A B C d + A + 1)
theorem szB_pos (A B C : Nat) : ∀ d, C + 1 ≤ szB A B C d
 | 0 => Nat.le_refl _
 | d + 1 => by
  have := szB_pos A B C d
  simp only [szB, Nat.add_mul, Nat.one_mul]
  omega
theorem szB_step (A B C d : Nat) : szB A B C d ≤ szB A B C (d + 1) := by
 simp only [szB, Nat.add_mul, Nat.one_mul]
 omega
theorem szB_mono (A B C : Nat) {d e : Nat} (h : d ≤ e) : szB A B C d ≤ szB A B C e := by
 obtain ⟨k, rfl⟩ : ∃ k, e = d + k := ⟨e - d, by omega⟩
 clear h
 induction k with
 | zero => exact Nat.le_refl _
 | succ k ih => exact Nat.le_trans ih (szB_step A B C (d + k))
theorem can_szE (A B C : Nat) : ∀ (d : Nat) (t : RT d), isCan d t = true → okT d t → Deg B (terms d t) → dlen (nrm (terms d t)) ≤ C → szE A d t ≤ szB A B C (lev d t).toNat
 | 0, _, h, _, _, _ => by unfold szE; exact Nat.le_trans (by omega) (szB_pos A B C _)
 | d + 1, t, h, ho, hB, hC => by
  show _ ≤ szB A B C t.1.toNat
  by_cases hl : t.1 = 0
  ·unfold szE
   rw [if_pos (by omega), hl]
   rw [terms_const (by omega)] at hC
   simp only [nrm, Nat.add_zero] at hC
   show _ ≤ C + 1
   omega
  ·obtain ⟨g1, g2, g3, g4, g5, g6⟩ := can_node h hl
   rw [terms_node g1.1 g1.2] at hB hC
   obtain ⟨D, hD⟩ : ∃ D : Nat, t.1.toNat = D + 1 := ⟨t.1.toNat - 1, by omega⟩
   rw [hD] at hB hC ⊢
   have hlow : ∀ i, i < t.2.2.1 → Low D (terms d (t.2.2.2 i)) := fun i hi => by
    have := kid_low h hl i hi
    rwa [hD, Nat.add_sub_cancel] at this
   cases d with
   | zero =>
    have := (g5 0 (by omega)).2
    simp [isCan] at this
   | succ d =>
    have hnz : ¬ Sim (terms (d + 1) (t.2.2.2 (t.2.2.1 - 1))) [] := fun hs => by
     obtain ⟨m, hm⟩ := can_zero _ _ (g5 (t.2.2.1 - 1) (by omega)).2 (ho.2 _ (by omega)) g6
     exact hm (hs m)
    obtain ⟨h1, h2⟩ := deg_node (by omega) (by omega) hlow hnz hB
    unfold szE
    rw [if_neg (by omega), if_neg (by omega)]
    have hk : ∀ i, i < t.2.2.1 → szE A (d + 1) (t.2.2.2 i) + A + 1 ≤ szB A B C D + A + 1 := fun i hi => by
     have h3 := can_szE A B C (d + 1) (t.2.2.2 i) (g5 i hi).2 (ho.2 i hi) (h2 i hi) (Nat.le_trans (dlen_mono (nrm_poly_kid (D + 1) t.2.2.1 (fun i => terms (d + 1) (t.2.2.2 i)) i hi)) hC)
     have h4 := szB_mono A B C (d := (lev (d + 1) (t.2.2.2 i)).toNat) (e := D) (by have := (g5 i hi).1; omega)
     omega
    have h5 := nsum_le _ (szB A B C D + A + 1) t.2.2.1 hk
    have h6 : t.2.2.1 * (szB A B C D + A + 1) ≤ (B + 1) * (szB A B C D + A + 1) := Nat.mul_le_mul_right _ (by omega)
    simp only [szB]
    omega
end Go.Proofs.YtodiphjjdheoaaaGreat
