/- Plain facts on the coefficients of a power; trees that hold a coefficient. mainvar.Join of polynomials of any levels. mainvar.coefs: laws of make and copy; the state of its loops. mainvar.coefs: the walk. mainvar.Coefs. -/
import Derived.Test.YtodiphjjdheoaaaGreatBb
import Derived.Test.YtodiphjjdheoaaaGreatCb
set_option linter.unusedVariables false
set_option linter.unusedSimpArgs false

namespace Go.Proofs.YtodiphjjdheoaaaGreat
open Go.RowKit

def CfT (M : Nat → Prop) (w : World) (d E B : Nat) (e0 e1 e2 e3 : Value) (S R : List Tm) : Prop :=
 ∃ u : RT (d + 1), RR M w (d + 1) u e0 e1 e2 e3 ∧ Sim (terms (d + 1) u) S ∧ Low E (terms (d + 1) u) ∧ (terms (d + 1) u).length ≤ (B + 1) ^ E ∧ nrm (terms (d + 1) u) ≤ nrm R ∧ ∀ s ∈ terms (d + 1) u, ∀ k, s.2.get k ≤ B
section
variable {M M' : Nat → Prop} {w w' : World} {d E B : Nat} {e0 e1 e2 e3 : Value} {S S' R : List Tm}
theorem CfT.kp (h : CfT M w d E B e0 e1 e2 e3 S R) (he : Kp M w w') : CfT M w' d E B e0 e1 e2 e3 S R := by
 obtain ⟨u, h1, h2⟩ := h; exact ⟨u, RR.kp he h1, h2⟩
theorem CfT.ext (h : CfT M w d E B e0 e1 e2 e3 S R) (he : Ext w w') : CfT M w' d E B e0 e1 e2 e3 S R := h.kp (Kp.of_ext he)
theorem CfT.more (h : CfT M w d E B e0 e1 e2 e3 S R) (hm : ∀ g, M' g → M g ∨ w.heap.size ≤ g) : CfT M' w d E B e0 e1 e2 e3 S R := by
 obtain ⟨u, h1, h2⟩ := h; exact ⟨u, RR.more hm h1, h2⟩
theorem CfT.sim (h : CfT M w d E B e0 e1 e2 e3 S R) (hs : Sim S S') : CfT M w d E B e0 e1 e2 e3 S' R := by
 obtain ⟨u, h1, h2, h3⟩ := h; exact ⟨u, h1, h2.trans hs, h3⟩
theorem CfT.zero (M : Nat → Prop) (w : World) (d E B : Nat) (R : List Tm) : CfT M w d E B (.int .i64 0) (.bool false) (.slice none 0 0) (.slice none 0 0) [] R := by
 refine ⟨mkT d 0 ⟨false, 0, fun _ => 0⟩ 0 (fun _ => dfl d), ⟨rfl, by show -9223372036854775808 ≤ (0 : Int) ∧ (0 : Int) ≤ 9223372036854775807; omega, ⟨rfl, natr_nil _ _ _⟩, Nat.zero_le _, .inl ⟨⟨none, 0, rfl, Nat.zero_le _, fun _ => rfl⟩, rfl⟩⟩, ?_, ?_, ?_, ?_, ?_⟩
 all_goals rw [terms_mkc _ _ _ _ (by omega)]
 ·exact sim_zero_const
 ·exact (low_const _).mono (Nat.zero_le _)
 ·exact Nat.pow_pos (Nat.succ_pos B)
 ·exact Nat.zero_le _
 ·intro s hs k
  simp only [List.mem_cons, List.not_mem_nil, or_false] at hs
  subst hs
  show Mo.zero.get k ≤ _
  rw [get_zero]; omega
theorem CfT.pe (h : CfT M w d E B e0 e1 e2 e3 S R) : ∃ x : PE, e0 = .int .i64 x.lv ∧ e1 = .bool x.b ∧ e2 = .slice x.a x.n x.p ∧ e3 = .slice x.ka x.kn x.kp := by
 obtain ⟨u, h1, _⟩ := h; exact h1.pe
end
theorem CfT.pi {M : Nat → Prop} {w : World} {d E B : Nat} {x : PE} {S R : List Tm} (h : CfT M w d E B (.int .i64 x.lv) (.bool x.b) (.slice x.a x.n x.p) (.slice x.ka x.kn x.kp) S R) (hd : d ≤ 100) (hB : (B + 1) ^ E ≤ 1099511627776) (hB2 : B ≤ 1073741824) (hR : dlen (nrm R) ≤ 1099511627776) : PI M w x S := by
 obtain ⟨u, h1, h2, _, h4, h5, h6⟩ := h
 exact ⟨_, u, h1, .inr ⟨by omega, Nat.le_trans h4 hB, Nat.le_trans (dlen_mono h5) hR, fun s hs k => by have := h6 s hs k; omega⟩, h2⟩
def CKids (M : Nat → Prop) (w : World) (d E B g N : Nat) (S R : Nat → List Tm) : Prop := ∃ f, Blk w g 29 (N * 4) f ∧ ∀ i, i < N → CfT M w d E B (f (i * 4)) (f (i * 4 + 1)) (f (i * 4 + 2)) (f (i * 4 + 3)) (S i) (R i)
section
variable {M M' : Nat → Prop} {w w' : World} {d E B g N : Nat} {S S' R : Nat → List Tm}
theorem CKids.kp (h : CKids M w d E B g N S R) (hg : w'.heap[g]? = w.heap[g]?) (hk : Kp M w w') : CKids M w' d E B g N S R := by
 obtain ⟨f, h1, h2⟩ := h
 exact ⟨f, h1.of_heap hg, fun i hi => (h2 i hi).kp hk⟩
theorem CKids.ext (h : CKids M w d E B g N S R) (he : Ext w w') : CKids M w' d E B g N S R := by
 obtain ⟨f, h1, h2⟩ := h
 exact ⟨f, h1.ext he, fun i hi => (h2 i hi).ext he⟩
theorem CKids.more (h : CKids M w d E B g N S R) (hm : ∀ g, M' g → M g ∨ w.heap.size ≤ g) : CKids M' w d E B g N S R := by
 obtain ⟨f, h1, h2⟩ := h
 exact ⟨f, h1, fun i hi => (h2 i hi).more hm⟩
theorem CKids.congr (h : CKids M w d E B g N S R) (hs : ∀ i, i < N → Sim (S i) (S' i)) : CKids M w d E B g N S' R := by
 obtain ⟨f, h1, h2⟩ := h
 exact ⟨f, h1, fun i hi => (h2 i hi).sim (hs i hi)⟩
theorem CKids.set (h : CKids M w d E B g N S R) (hg : M g) (j : Nat) (hj : j < N) {e0 e1 e2 e3 : Value} {l : List Tm} (hc : CfT M w d E B e0 e1 e2 e3 l (R j)) : CKids M (set4 w g (j * 4) e0 e1 e2 e3) d E B g N (fun i => if i = j then l else S i) R := by
 obtain ⟨f, h1, h2⟩ := h
 refine ⟨_, h1.set4 (j * 4) e0 e1 e2 e3, fun i hi => ?_⟩
 have hk : Kp M w (set4 w g (j * 4) e0 e1 e2 e3) := Kp.set4 hg _ _ _ _ _
 by_cases hij : i = j
 ·subst hij
  rw [upd4_0, upd4_1, upd4_2, upd4_3]; simp only [if_true]; exact hc.kp hk
 ·rw [upd4_ne _ _ _ _ _ _ _ (by omega), upd4_ne _ _ _ _ _ _ _ (by omega), upd4_ne _ _ _ _ _ _ _ (by omega), upd4_ne _ _ _ _ _ _ _ (by omega)]; simp only [if_neg hij]; exact (h2 i hi).kp hk
theorem CKids.at (h : CKids M w d E B g N S R) (j : Nat) (hj : j < N) : (∃ e, w.cell? ⟨g, j * 4, none⟩ = some e) ∧ (∃ e, w.cell? ⟨g, j * 4 + 1, none⟩ = some e) ∧ (∃ e, w.cell? ⟨g, j * 4 + 2, none⟩ = some e) ∧ (∃ e, w.cell? ⟨g, j * 4 + 3, none⟩ = some e) ∧ (∀ o, w.frozen? ⟨g, o, none⟩ = false) ∧ g < w.heap.size := by
 obtain ⟨f, h1, h2⟩ := h
 exact ⟨⟨_, h1.cell (by omega)⟩, ⟨_, h1.cell (by omega)⟩, ⟨_, h1.cell (by omega)⟩, ⟨_, h1.cell (by omega)⟩, h1.frozen, h1.lt⟩
theorem CKids.cells (h : CKids M w d E B g N S R) (i : Nat) (hi : i < N) : ∃ y : PE, KCell w g (i * 4) y ∧ CfT M w d E B (.int .i64 y.lv) (.bool y.b) (.slice y.a y.n y.p) (.slice y.ka y.kn y.kp) (S i) (R i) := by
 obtain ⟨f, hB, hc⟩ := h
 obtain ⟨x, e0, e1, e2, e3⟩ := (hc i hi).pe
 have hx := hc i hi
 rw [e0, e1, e2, e3] at hx
 refine ⟨x, ⟨?_, ?_, ?_, ?_⟩, hx⟩
 ·rw [hB.cell (by omega), e0]
 ·rw [hB.cell (by omega), e1]
 ·rw [hB.cell (by omega), e2]
 ·rw [hB.cell (by omega), e3]
theorem CKids.fresh (hB : Blk w g 29 (N * 4) zc4) : CKids M w d E B g N (fun _ => []) R := by
 refine ⟨zc4, hB, fun i hi => ?_⟩
 have h0 : zc4 (i * 4) = .int .i64 0 := by unfold zc4; rw [if_pos (by omega)]
 have h1 : zc4 (i * 4 + 1) = .bool false := by unfold zc4; rw [if_neg (by omega), if_pos (by omega)]
 have h2 : zc4 (i * 4 + 2) = .slice none 0 0 := by unfold zc4; rw [if_neg (by omega), if_neg (by omega)]
 have h3 : zc4 (i * 4 + 3) = .slice none 0 0 := by unfold zc4; rw [if_neg (by omega), if_neg (by omega)]
 rw [h0, h1, h2, h3]; exact CfT.zero _ _ _ _ _ _
theorem CKids.lt (h : CKids M w d E B g N S R) : g < w.heap.size := by
 obtain ⟨f, h1, _⟩ := h; exact h1.lt
theorem CKids.node {P : Nat → List Tm} {r : List Tm} (h : CKids M w d E B g N S P) (hm : ∀ b, M' b → M b ∨ w.heap.size ≤ b) (hg : ¬ M' g) (hE : E + 1 ≤ 4) (hN : N ≤ B + 1) (hL : N ≤ 1099511627776) (hr : nrm (poly (E + 1) N P) ≤ nrm r) :
  CfT M' w (d + 1) (E + 1) B (.int .i64 ((E : Int) + 1)) (.bool false) (.slice none 0 0) (.slice (some ⟨g, 0, none⟩) N N) (poly (E + 1) N S) r := by
 obtain ⟨f, hB, hc⟩ := h
 obtain ⟨kid, hkid⟩ := pick (dfl (d + 1)) (n := N) (Q := fun i u => RR M' w (d + 1) u (f (i * 4)) (f (i * 4 + 1)) (f (i * 4 + 2)) (f (i * 4 + 3)) ∧ Sim (terms (d + 1) u) (S i) ∧ Low E (terms (d + 1) u) ∧ (terms (d + 1) u).length ≤ (B + 1) ^ E ∧ nrm (terms (d + 1) u) ≤ nrm (P i) ∧ ∀ s ∈ terms (d + 1) u, ∀ k, s.2.get k ≤ B) (fun i hi => by
  obtain ⟨u, h1, h2⟩ := hc i hi
  exact ⟨u, RR.more hm h1, h2⟩)
 have hT : terms (d + 1 + 1) (mkT (d + 1) ((E : Int) + 1) ⟨false, 0, fun _ => 0⟩ N kid) = poly (E + 1) N (fun i => terms (d + 1) (kid i)) := by
  rw [terms_mkn _ _ _ _ _ (by omega) (by omega), show ((E : Int) + 1).toNat = E + 1 by omega]
 refine ⟨mkT _ ((E : Int) + 1) ⟨false, 0, fun _ => 0⟩ N kid, ⟨rfl, by show -9223372036854775808 ≤ (E : Int) + 1 ∧ (E : Int) + 1 ≤ 9223372036854775807; omega, ⟨rfl, natr_nil _ _ _⟩, hL, .inr ⟨g, 0, N, rfl, Nat.le_refl _, by unfold maxLen; omega, ⟨hB.lt, hg⟩, fun i hi => ?_⟩⟩, ?_, ?_, ?_, ?_, ?_⟩
 ·have hi' : i < N := hi
  rw [Nat.zero_add]
  exact ⟨_, _, _, _, hB.cell (i := i * 4) (by omega), hB.cell (i := i * 4 + 1) (by omega), hB.cell (i := i * 4 + 2) (by omega), hB.cell (i := i * 4 + 3) (by omega), (hkid i hi).1⟩
 ·rw [hT]; exact poly_congr _ _ _ _ fun i hi => (hkid i hi).2.1
 ·rw [hT]; exact poly_low _ _ _ (by omega) hE fun i hi => by rw [Nat.add_sub_cancel]; exact (hkid i hi).2.2.1
 ·rw [hT]
  refine Nat.le_trans (poly_len_c (c := (B + 1) ^ E) N fun i hi => (hkid i hi).2.2.2.1) ?_
  rw [Nat.pow_succ, Nat.mul_comm]
  exact Nat.mul_le_mul_left _ hN
 ·rw [hT]
  refine Nat.le_trans ?_ hr
  clear hr hT hB hc
  have : ∀ K, K ≤ N → nrm (poly (E + 1) K fun i => terms (d + 1) (kid i)) ≤ nrm (poly (E + 1) K P) := by
   intro K
   induction K with
   | zero => intro _; exact Nat.le_refl _
   | succ K ih =>
    intro hK
    rw [poly_succ, poly_succ, nrm_append, nrm_append, nrm_shift, nrm_shift]
    have h1 := ih (by omega)
    have h2 := (hkid K (by omega)).2.2.2.2.1
    omega
  exact this N (Nat.le_refl _)
 ·rw [hT]
  intro s hs k
  obtain ⟨i, hi, s', hs', rfl⟩ := poly_mem hs
  have h1 := (hkid i hi).2.2.2.2.2 s' hs' k
  show (Mo.add s'.2 (xp (E + 1) (i : Int))).get k ≤ _
  rw [get_add, get_xp _ k _ (by omega) hE]
  by_cases hk : k = E + 1
  ·rw [if_pos hk, hk, (hkid i hi).2.2.1 s' hs' (E + 1) (by omega) hE]; omega
  ·rw [if_neg hk]; omega
end
end Go.Proofs.YtodiphjjdheoaaaGreat

namespace Go.Proofs.YtodiphjjdheoaaaGreat
open Go.RowKit

end Go.Proofs.YtodiphjjdheoaaaGreat

namespace Go.Proofs.YtodiphjjdheoaaaGreat
open Go.RowKit

def LRow (w : World) (g m k : Nat) (h : Nat → Nat) (lv : Int) (N : Nat) : Prop := ∃ F, Blk w g 29 (m * 4) F ∧ ∀ i, i < k → F (i * 4) = .int .i64 lv ∧ F (i * 4 + 1) = .bool false ∧ F (i * 4 + 2) = .slice none 0 0 ∧ F (i * 4 + 3) = .slice (some ⟨h i, 0, none⟩) N N
theorem LRow.ext {w w' : World} {g m k : Nat} {h : Nat → Nat} {lv : Int} {N : Nat} (hr : LRow w g m k h lv N) (he : Ext w w') : LRow w' g m k h lv N := by
 obtain ⟨F, h1, h2⟩ := hr; exact ⟨F, h1.ext he, h2⟩
theorem LRow.heap {w w' : World} {g m k : Nat} {h : Nat → Nat} {lv : Int} {N : Nat} (hr : LRow w g m k h lv N) (he : w'.heap[g]? = w.heap[g]?) : LRow w' g m k h lv N := by
 obtain ⟨F, h1, h2⟩ := hr; exact ⟨F, h1.of_heap he, h2⟩
theorem LRow.set {w : World} {g m k : Nat} {h : Nat → Nat} {lv : Int} {N : Nat} (hr : LRow w g m k h lv N) : LRow (set4 w g (k * 4) (.int .i64 lv) (.bool false) (.slice none 0 0) (.slice (some ⟨h k, 0, none⟩) N N)) g m (k + 1) h lv N := by
 obtain ⟨F, h1, h2⟩ := hr
 refine ⟨_, h1.set4 _ _ _ _ _, fun i hi => ?_⟩
 by_cases hik : i = k
 ·subst hik; exact ⟨upd4_0 _ _ _ _ _ _, upd4_1 _ _ _ _ _ _, upd4_2 _ _ _ _ _ _, upd4_3 _ _ _ _ _ _⟩
 ·rw [upd4_ne _ _ _ _ _ _ _ (by omega), upd4_ne _ _ _ _ _ _ _ (by omega), upd4_ne _ _ _ _ _ _ _ (by omega), upd4_ne _ _ _ _ _ _ _ (by omega)]; exact h2 i (by omega)
theorem LRow.at {w : World} {g m k : Nat} {h : Nat → Nat} {lv : Int} {N : Nat} (hr : LRow w g m k h lv N) (j : Nat) (hj : j < m) : (∃ e, w.cell? ⟨g, j * 4, none⟩ = some e) ∧ (∃ e, w.cell? ⟨g, j * 4 + 1, none⟩ = some e) ∧ (∃ e, w.cell? ⟨g, j * 4 + 2, none⟩ = some e) ∧ (∃ e, w.cell? ⟨g, j * 4 + 3, none⟩ = some e) ∧ (∀ o, w.frozen? ⟨g, o, none⟩ = false) ∧ g < w.heap.size := by
 obtain ⟨F, h1, h2⟩ := hr
 exact ⟨⟨_, h1.cell (by omega)⟩, ⟨_, h1.cell (by omega)⟩, ⟨_, h1.cell (by omega)⟩, ⟨_, h1.cell (by omega)⟩, h1.frozen, h1.lt⟩
structure CoI (M : Nat → Prop) (w : World) (L d E B n N : Nat) (P : Nat → List Tm) (x : PE) (wr : World) (c : Nat → Nat) : Prop where
 sz : w.heap.size + 3 + n ≤ wr.heap.size
 ext : Ext w wr
 p4 : P4 wr w.heap.size x
 row : LRow wr (w.heap.size + 1) (n + 1) (n + 1) (fun i => w.heap.size + 2 + i) x.lv N
 kids : ∀ i, i < n + 1 → CKids (Mx M w.heap.size (w.heap.size + 3 + n)) wr d E B (w.heap.size + 2 + i) N (fun j => if j < c i then ck L (i : Int) (P j) else []) P
section
variable {M : Nat → Prop} {w wr w' : World} {L d E B n N : Nat} {P : Nat → List Tm} {x : PE} {c : Nat → Nat}
theorem CoI.grow (h : CoI M w L d E B n N P x wr c) (he : Ext wr w') : CoI M w L d E B n N P x w' c :=
 ⟨Nat.le_trans h.sz he.size, h.ext.trans he, h.p4.ext he, h.row.ext he, fun i hi => (h.kids i hi).ext he⟩
theorem CoI.mb (h : CoI M w L d E B n N P x wr c) (hM : Mb M w) : Mb (Mx M w.heap.size (w.heap.size + 3 + n)) wr := Mx.mb hM h.ext.size h.sz
theorem CoI.congr {c' : Nat → Nat} (h : CoI M w L d E B n N P x wr c) (hc : ∀ i, i < n + 1 → c i = c' i) : CoI M w L d E B n N P x wr c' :=
 ⟨h.sz, h.ext, h.p4, h.row, fun i hi => by rw [← hc i hi]; exact h.kids i hi⟩
end
end Go.Proofs.YtodiphjjdheoaaaGreat

namespace Go.Proofs.YtodiphjjdheoaaaGreat
open Go.RowKit

end Go.Proofs.YtodiphjjdheoaaaGreat

namespace Go.Proofs.YtodiphjjdheoaaaGreat
open Go.RowKit

def Mix (M : Nat → Prop) (w : World) (B g N k : Nat) (S : Nat → List Tm) (R : List Tm) : Prop := ∃ f, Blk w g 29 (N * 4) f ∧ ∀ i, i < N → (i < k → CR M w 4 (f (i * 4)) (f (i * 4 + 1)) (f (i * 4 + 2)) (f (i * 4 + 3)) (S i)) ∧ (k ≤ i → CfT M w 4 4 B (f (i * 4)) (f (i * 4 + 1)) (f (i * 4 + 2)) (f (i * 4 + 3)) (S i) R)
section
variable {M : Nat → Prop} {w w' : World} {B g N k : Nat} {S : Nat → List Tm} {R : List Tm}
theorem Mix.ext (h : Mix M w B g N k S R) (he : Ext w w') : Mix M w' B g N k S R := by
 obtain ⟨f, h1, h2⟩ := h
 exact ⟨f, h1.ext he, fun i hi => ⟨fun h => ((h2 i hi).1 h).ext he, fun h => ((h2 i hi).2 h).ext he⟩⟩
theorem Mix.start (h : CKids M w 4 4 B g N S (fun _ => R)) : Mix M w B g N 0 S R := by
 obtain ⟨f, h1, h2⟩ := h
 exact ⟨f, h1, fun i hi => ⟨fun h => absurd h (Nat.not_lt_zero _), fun _ => h2 i hi⟩⟩
theorem Mix.at (h : Mix M w B g N k S R) (j : Nat) (hj : j < N) : (∃ e, w.cell? ⟨g, j * 4, none⟩ = some e) ∧ (∃ e, w.cell? ⟨g, j * 4 + 1, none⟩ = some e) ∧ (∃ e, w.cell? ⟨g, j * 4 + 2, none⟩ = some e) ∧ (∃ e, w.cell? ⟨g, j * 4 + 3, none⟩ = some e) ∧ (∀ o, w.frozen? ⟨g, o, none⟩ = false) ∧ g < w.heap.size := by
 obtain ⟨f, h1, h2⟩ := h
 exact ⟨⟨_, h1.cell (by omega)⟩, ⟨_, h1.cell (by omega)⟩, ⟨_, h1.cell (by omega)⟩, ⟨_, h1.cell (by omega)⟩, h1.frozen, h1.lt⟩
theorem Mix.set (h : Mix M w B g N k S R) (hg : M g) (hk : k < N) {e0 e1 e2 e3 : Value} (hc : CR M w 4 e0 e1 e2 e3 (S k)) : Mix M (set4 w g (k * 4) e0 e1 e2 e3) B g N (k + 1) S R := by
 obtain ⟨f, h1, h2⟩ := h
 refine ⟨_, h1.set4 (k * 4) e0 e1 e2 e3, fun i hi => ?_⟩
 have hkp : Kp M w (set4 w g (k * 4) e0 e1 e2 e3) := Kp.set4 hg _ _ _ _ _
 by_cases hij : i = k
 ·subst hij
  rw [upd4_0, upd4_1, upd4_2, upd4_3]; exact ⟨fun _ => hc.kp hkp, fun h => by omega⟩
 ·rw [upd4_ne _ _ _ _ _ _ _ (by omega), upd4_ne _ _ _ _ _ _ _ (by omega), upd4_ne _ _ _ _ _ _ _ (by omega), upd4_ne _ _ _ _ _ _ _ (by omega)]
  exact ⟨fun h => ((h2 i hi).1 (by omega)).kp hkp, fun h => ((h2 i hi).2 (by omega)).kp hkp⟩
end
end Go.Proofs.YtodiphjjdheoaaaGreat
