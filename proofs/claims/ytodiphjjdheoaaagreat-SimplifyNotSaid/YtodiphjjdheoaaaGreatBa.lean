/- Plain facts on division: the coefficient of a power of one variable; degrees of products. -/
import Derived.Test.YtodiphjjdheoaaaGreatAb
set_option linter.unusedVariables false
set_option linter.unusedSimpArgs false

namespace Go.Proofs.YtodiphjjdheoaaaGreat

def NN (l : List Tm) : Prop := ∀ m : Mo, m.nn = false → coefAt l m = 0
theorem NN.sim {l r : List Tm} (h : NN l) (hs : Sim l r) : NN r := fun m hm => by rw [← hs m]; exact h m hm
theorem nn_of_all {l : List Tm} (h : ∀ t ∈ l, t.2.nn = true) : NN l := fun m hm => coefAt_zero fun t ht e => by rw [← e, h t ht] at hm; cases hm
theorem all_nn_norm (l : List Tm) : ∀ t ∈ norm l, t.2.nn = true := fun t ht => ((norm_canon l).2 t ht).2
def ckF (k : Nat) (e : Int) (m : Mo) : Int × Mo := (if m.get k = e then 1 else 0, wo k m)
def ck (k : Nat) (e : Int) (l : List Tm) : List Tm := lin (ckF k e) l
theorem wo_add_xp {k : Nat} (h1 : 1 ≤ k) (h4 : k ≤ 4) (m : Mo) : Mo.add (wo k m) (xp k (m.get k)) = m := Mo.ext_get fun j _ _ => by
 rw [get_add, get_wo h1 h4, get_xp k j _ h1 h4]
 split
 ·rename_i h; subst h; omega
 ·omega
theorem ck_coef {k : Nat} (h1 : 1 ≤ k) (h4 : k ≤ 4) (e : Int) (m : Mo) : ∀ l : List Tm, coefAt (ck k e l) m = if m.get k = 0 then coefAt l (Mo.add m (xp k e)) else 0
 | [] => by simp [ck, lin, coefAt]
 | t :: l => by
  have ih := ck_coef h1 h4 e m l
  show (if wo k t.2 = m then t.1 * (if t.2.get k = e then 1 else 0) else 0) + coefAt (ck k e l) m = _
  rw [ih]
  by_cases hm : m.get k = 0
  ·rw [if_pos hm, if_pos hm]
   show _ = (if t.2 = Mo.add m (xp k e) then t.1 else 0) + _
   congr 1
   by_cases ht : t.2 = Mo.add m (xp k e)
   ·have hg : t.2.get k = e := by rw [ht, get_add, hm, get_xp k k _ h1 h4, if_pos rfl]; omega
    have hw : wo k t.2 = m := by
     have := wo_add_xp h1 h4 t.2
     rw [hg] at this
     have h5 := (Mo.add_eq _ _ _).1 (this.trans ht)
     rw [h5]; exact ((Mo.add_eq _ _ _).1 rfl).symm
    rw [if_pos hw, if_pos hg, if_pos ht, Int.mul_one]
   ·rw [if_neg ht]
    by_cases hw : wo k t.2 = m
    ·rw [if_pos hw, if_neg, Int.mul_zero]
     intro hg
     exact ht (by rw [← wo_add_xp h1 h4 t.2, hw, hg])
    ·rw [if_neg hw]
  ·rw [if_neg hm, if_neg hm, if_neg]
   ·rfl
   ·intro hw
    exact hm (by rw [← hw, get_wo h1 h4, if_pos rfl])
theorem ck_nn {k : Nat} (h1 : 1 ≤ k) (h4 : k ≤ 4) {e : Int} {l : List Tm} (h : NN l) : NN (ck k e l) := fun m hm => by
 rw [ck_coef h1 h4]
 split
 ·rename_i h0
  refine h _ ?_
  cases hc : (Mo.add m (xp k e)).nn with
  | false => rfl
  | true =>
   rw [Mo.nn_iff] at hc
   have : m.nn = true := by
    rw [Mo.nn_iff]
    have g1 : (Mo.add m (xp k e)).a = m.a + (if k = 1 then e else 0) := rfl
    have g2 : (Mo.add m (xp k e)).b = m.b + (if k = 2 then e else 0) := rfl
    have g3 : (Mo.add m (xp k e)).c = m.c + (if k = 3 then e else 0) := rfl
    have g4 : (Mo.add m (xp k e)).d = m.d + (if k = 4 then e else 0) := rfl
    rw [g1, g2, g3, g4] at hc
    rcases lev_cases h1 h4 with rfl | rfl | rfl | rfl <;> simp [Mo.get] at h0 hc ⊢ <;> omega
   rw [hm] at this; cases this
 ·rfl
def Dv (r l : List Tm) : Prop := ∃ q, NN q ∧ Sim (pmul q r) l
section
variable {D n : Nat} {G : Nat → List Tm}
end
theorem Dv.sim {r r' l l' : List Tm} (h : Dv r l) (hr : Sim r r') (hl : Sim l l') : Dv r' l' := by
 obtain ⟨q, hq, hs⟩ := h
 exact ⟨q, hq, (hr.symm.pmul_right q).trans (hs.trans hl)⟩
theorem Dv.rest {r l C ρ : List Tm} (h : Dv r l) (hC : NN C) (hs : Sim l (pmul C r ++ ρ)) : ∃ q, NN q ∧ Sim (pmul q r) ρ := by
 obtain ⟨q, hq, hqs⟩ := h
 refine ⟨q ++ smul (-1) C, fun m hm => ?_, fun m => ?_⟩
 ·rw [coefAt_append, coefAt_smul, hq m hm, hC m hm]; rfl
 ·have h1 := hqs m
  have h2 := hs m
  rw [coefAt_append] at h2
  rw [pmul_append_left, coefAt_append]
  have h3 : coefAt (pmul (smul (-1) C) r) m = - coefAt (pmul C r) m := by
   clear h1 h2 hs hC
   induction C with
   | nil => rfl
   | cons s C ih =>
    show coefAt (pmul ((-1 * s.1, s.2) :: smul (-1) C) r) m = _
    rw [coefAt_pmul_cons, coefAt_pmul_cons, ih]
    simp only
    rw [Int.mul_assoc]
    omega
  omega
end Go.Proofs.YtodiphjjdheoaaaGreat
