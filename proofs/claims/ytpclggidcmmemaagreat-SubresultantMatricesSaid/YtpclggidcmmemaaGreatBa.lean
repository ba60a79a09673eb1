/- Plain facts on division: the coefficient of a power of one variable; degrees of products. -/
import Derived.Test.YtpclggidcmmemaaGreatAb
set_option linter.unusedVariables false
set_option linter.unusedSimpArgs false

namespace Go.Proofs.YtpclggidcmmemaaGreat

def NN (l : List Tm) : Prop := ∀ m : Mo, m.nn = false → coefAt l m = 0
theorem NN.sim {l r : List Tm} (h : NN l) (hs : Sim l r) : NN r := fun m hm => by rw [← hs m]; exact h m hm
theorem nn_of_all {l : List Tm} (h : ∀ t ∈ l, t.2.nn = true) : NN l := fun m hm => coefAt_zero fun t ht e => by rw [← e, h t ht] at hm; cases hm
theorem all_nn_norm (l : List Tm) : ∀ t ∈ norm l, t.2.nn = true := fun t ht => ((norm_canon l).2 t ht).2
def ckF (k : Nat) (e : Int) (m : Mo) : Int × Mo := (if m.get k = e then 1 else 0, wo k m)
def ck (k : Nat) (e : Int) (l : List Tm) : List Tm := lin (ckF k e) l
theorem ck_sim {k : Nat} {e : Int} {l r : List Tm} (h : Sim l r) : Sim (ck k e l) (ck k e r) := h.lin _
theorem wo_add_xp {k : Nat} (h1 : 1 ≤ k) (h4 : k ≤ 4) (m : Mo) : Mo.add (wo k m) (xp k (m.get k)) = m := Mo.ext_get fun j _ _ => by
 rw [get_add, get_wo h1 h4, get_xp k j _ h1 h4]
 split
 ·rename_i h; subst h; omega
 ·omega
theorem ck_coef {k : Nat} (h1 : 1 ≤ k) (h4 : k ≤ 4) (e : Int) (m : Mo) : ∀ l : List Tm, coefAt (ck k e l) m = if m.get k = 0 then coefAt l (Mo.add m (xp k e)) else 0
 | [] => by simp [ck, lin, coefAt]
 | t :: l => by
  have ih := ck_coef h1 h4 e m l
  show (if wo k t.2 = m then t.1 * (if t.2.get k = e then 1 else 0) else 0) + coefAt (ck k e l) m = _
  rw [ih]
  by_cases hm : m.get k = 0
  ·rw [if_pos hm, if_pos hm]
   show _ = (if t.2 = Mo.add m (xp k e) then t.1 else 0) + _
   congr 1
   by_cases ht : t.2 = Mo.add m (xp k e)
   ·have hg : t.2.get k = e := by rw [ht, get_add, hm, get_xp k k _ h1 h4, if_pos rfl]; omega
    have hw : wo k t.2 = m := by
     have := wo_add_xp h1 h4 t.2
     rw [hg] at this
     have h5 := (Mo.add_eq _ _ _).1 (this.trans ht)
     rw [h5]; exact ((Mo.add_eq _ _ _).1 rfl).symm
    rw [if_pos hw, if_pos hg, if_pos ht, Int.mul_one]
   ·rw [if_neg ht]
    by_cases hw : wo k t.2 = m
    ·rw [if_pos hw, if_neg, Int.mul_zero]
     intro hg
     exact ht (by rw [← wo_add_xp h1 h4 t.2, hw, hg])
    ·rw [if_neg hw]
  ·rw [if_neg hm, if_neg hm, if_neg]
   ·rfl
   ·intro hw
    exact hm (by rw [← hw, get_wo h1 h4, if_pos rfl])
theorem ck_nn {k : Nat} (h1 : 1 ≤ k) (h4 : k ≤ 4) {e : Int} {l : List Tm} (h : NN l) : NN (ck k e l) := fun m hm => by
 rw [ck_coef h1 h4]
 split
 ·rename_i h0
  refine h _ ?_
  cases hc : (Mo.add m (xp k e)).nn with
  | false => rfl
  | true =>
   rw [Mo.nn_iff] at hc
   have : m.nn = true := by
    rw [Mo.nn_iff]
    have g1 : (Mo.add m (xp k e)).a = m.a + (if k = 1 then e else 0) := rfl
    have g2 : (Mo.add m (xp k e)).b = m.b + (if k = 2 then e else 0) := rfl
    have g3 : (Mo.add m (xp k e)).c = m.c + (if k = 3 then e else 0) := rfl
    have g4 : (Mo.add m (xp k e)).d = m.d + (if k = 4 then e else 0) := rfl
    rw [g1, g2, g3, g4] at hc
    rcases lev_cases h1 h4 with rfl | rfl | rfl | rfl <;> simp [Mo.get] at h0 hc ⊢ <;> omega
   rw [hm] at this; cases this
 ·rfl
theorem ck_poly {D N : Nat} {P : Nat → List Tm} (hD : D + 1 ≤ 4) (hlow : ∀ i, i < N → Low D (P i)) (e : Nat) : Sim (ck (D + 1) (e : Int) (poly (D + 1) N P)) (if e < N then P e else []) := fun m => by
 rw [ck_coef (by omega) hD]
 by_cases hm : m.get (D + 1) = 0
 ·rw [if_pos hm, coef_poly (D + 1) N P (by omega) hD hlow _ e (by rw [get_add, hm, get_xp _ _ _ (by omega) hD, if_pos rfl]; omega)]
  by_cases he : e < N
  ·rw [if_pos he, if_pos he, ← (Mo.add_eq m _ _).1 rfl]
  ·rw [if_neg he, if_neg he]; rfl
 ·rw [if_neg hm]
  by_cases he : e < N
  ·rw [if_pos he]; exact ((hlow e he).coef (k := D + 1) (by omega) hD hm).symm
  ·rw [if_neg he]; rfl
theorem wo_add {k : Nat} (h1 : 1 ≤ k) (h4 : k ≤ 4) (x y : Mo) : wo k (Mo.add x y) = Mo.add (wo k x) (wo k y) := Mo.ext_get fun j _ _ => by
 rw [get_wo h1 h4, get_add, get_add, get_wo h1 h4, get_wo h1 h4]
 split <;> omega
theorem wo_id {k : Nat} (h1 : 1 ≤ k) (h4 : k ≤ 4) {x : Mo} (h : x.get k = 0) : wo k x = x := Mo.ext_get fun j _ _ => by
 rw [get_wo h1 h4]
 split
 ·rename_i hj; subst hj; omega
 ·rfl
theorem max_exp (k : Nat) : ∀ {l : List Tm}, (∀ t ∈ l, t.2.nn = true) → ∃ e : Nat, (∀ s ∈ l, s.2.get k ≤ e) ∧ (l = [] ∨ ∃ s ∈ l, s.2.get k = e)
 | [], _ => ⟨0, fun s hs => (by cases hs), .inl rfl⟩
 | t :: l, h => by
  obtain ⟨e, h1, h2⟩ := max_exp k fun s hs => h s (List.mem_cons_of_mem _ hs)
  have h0 := nn_get (h t List.mem_cons_self) k
  by_cases hc : t.2.get k ≤ e ∧ l ≠ []
  ·refine ⟨e, fun s hs => ?_, .inr ?_⟩
   ·rcases List.mem_cons.1 hs with rfl | hs
    ·exact hc.1
    ·exact h1 s hs
   ·obtain ⟨s, hs, he⟩ := h2.resolve_left hc.2
    exact ⟨s, List.mem_cons_of_mem _ hs, he⟩
  ·refine ⟨(t.2.get k).toNat, fun s hs => ?_, .inr ⟨t, List.mem_cons_self, by omega⟩⟩
   rcases List.mem_cons.1 hs with rfl | hs
   ·omega
   ·by_cases hl : l = []
    ·rw [hl] at hs; cases hs
    ·have := h1 s hs
     have : ¬ t.2.get k ≤ e := fun hx => hc ⟨hx, hl⟩
     omega
theorem canon_coef_ne : ∀ {l : List Tm}, Canon l → ∀ {t : Tm}, t ∈ l → coefAt l t.2 ≠ 0
 | s :: l, h, t, ht => by
  rcases List.mem_cons.1 ht with rfl | ht
  ·rw [h.coef_head]; exact (h.2 t List.mem_cons_self).1
  ·have h1 := canon_coef_ne h.tail ht
   have h2 := Mo.lt_ne (h.head t ht)
   simp only [coefAt]
   rw [if_neg (fun e => h2 e.symm), Int.zero_add]; exact h1
def Dv (r l : List Tm) : Prop := ∃ q, NN q ∧ Sim (pmul q r) l
section
variable {D n : Nat} {G : Nat → List Tm}
end
theorem Dv.sim {r r' l l' : List Tm} (h : Dv r l) (hr : Sim r r') (hl : Sim l l') : Dv r' l' := by
 obtain ⟨q, hq, hs⟩ := h
 exact ⟨q, hq, (hr.symm.pmul_right q).trans (hs.trans hl)⟩
end Go.Proofs.YtpclggidcmmemaaGreat
