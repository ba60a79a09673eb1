/- unipoly: rows of integers as polynomials; trim, Degree. Plain facts: polynomials in one variable among the polynomials in four. unipoly: transform (with integer.Normal), Normal, Compare, Same. recpoly: FromUni. -/
import Derived.Test.YtiopnmlohpmmiaaGreatMu
set_option linter.unusedVariables false
set_option linter.unusedSimpArgs false

namespace Go.Proofs.YtiopnmlohpmmiaaGreat
open Go.RowKit

/-- the cells of an integer -/
structure IE where
  b : Bool
  a : Option Addr
  n : Nat
  p : Nat
instance : Inhabited IE := ⟨⟨false, none, 0, 0⟩⟩
/-- a row of n integers -/
def URow (M : Nat → Prop) (w : World) (a : Option Addr) (n cap : Nat) (X : Nat → IE) (z : Nat → Int) : Prop :=
  n ≤ 1099511627776 ∧ n ≤ cap ∧ cap ≤ maxLen ∧ (a = none → cap = 0) ∧ ∀ i, i < n → ∃ b off, a = some ⟨b, off, none⟩ ∧ b < w.heap.size ∧ ¬ M b ∧ w.cell? ⟨b, off + i * 2, none⟩ = some (.bool (X i).b) ∧ w.cell? ⟨b, off + i * 2 + 1, none⟩ = some (.slice (X i).a (X i).n (X i).p) ∧ IntV M w (.bool (X i).b) (.slice (X i).a (X i).n (X i).p) (z i)
section
variable {M M' : Nat → Prop} {w w' : World} {a : Option Addr} {n cap : Nat} {X : Nat → IE} {z : Nat → Int}
theorem URow.kp (h : URow M w a n cap X z) (he : Kp M w w') : URow M w' a n cap X z := by
  obtain ⟨h1, h2, h3, h4, h5⟩ := h
  refine ⟨h1, h2, h3, h4, fun i hi => ?_⟩
  obtain ⟨b, off, e, hb, hm, c0, c1, hv⟩ := h5 i hi
  exact ⟨b, off, e, Nat.lt_of_lt_of_le hb he.1, hm, by rw [he.cell hb hm]; exact c0, by rw [he.cell hb hm]; exact c1, hv.kp he⟩
theorem URow.ext (h : URow M w a n cap X z) (he : Ext w w') : URow M w' a n cap X z := h.kp (Kp.of_ext he)
theorem URow.more (h : URow M w a n cap X z) (hm : ∀ g, M' g → M g ∨ w.heap.size ≤ g) : URow M' w a n cap X z := by
  obtain ⟨h1, h2, h3, h4, h5⟩ := h
  refine ⟨h1, h2, h3, h4, fun i hi => ?_⟩
  obtain ⟨b, off, e, hb, hn, c0, c1, hv⟩ := h5 i hi
  exact ⟨b, off, e, hb, fun hg => (hm b hg).elim hn (fun h => by omega), c0, c1, hv.more hm⟩
end
/-- the length without leading zeros -/
def tz (z : Nat → Int) : Nat → Nat
  | 0 => 0
  | n + 1 => if z n = 0 then tz z n else n + 1
end Go.Proofs.YtiopnmlohpmmiaaGreat

namespace Go.Proofs.YtiopnmlohpmmiaaGreat
open Go.RowKit

/-- the polynomial with the coefficients z in x_L -/
def upl (L n : Nat) (z : Nat → Int) : List Tm := poly L n fun i => [(z i, Mo.zero)]
/-- only x_L occurs in l -/
def OnlyL (L : Nat) (l : List Tm) : Prop := ∀ m, coefAt l m ≠ 0 → ∀ k, 1 ≤ k → k ≤ 4 → k ≠ L → m.get k = 0
theorem OnlyL.sim {L : Nat} {l r : List Tm} (h : OnlyL L l) (hs : Sim l r) : OnlyL L r := fun m hm => h m (by rw [hs]; exact hm)
/-- the degree in x_L of a list of monomials -/
def dgM (L : Nat) (l : List Mo) : Int := l.foldl (fun h m => max h (m.get L)) 0
theorem dgM_snoc (L : Nat) (l : List Mo) (m : Mo) : dgM L (l ++ [m]) = max (dgM L l) (m.get L) := by simp [dgM]
theorem foldmax {α : Type} (f : α → Int) : ∀ (l : List α) (k : Int), k ≤ l.foldl (fun h m => max h (f m)) k ∧ (∀ m ∈ l, f m ≤ l.foldl (fun h m => max h (f m)) k) ∧ (l.foldl (fun h m => max h (f m)) k = k ∨ ∃ m ∈ l, l.foldl (fun h m => max h (f m)) k = f m)
  | [], k => ⟨Int.le_refl _, fun m hm => absurd hm (List.not_mem_nil), .inl rfl⟩
  | x :: l, k => by
    obtain ⟨h1, h2, h3⟩ := foldmax f l (max k (f x))
    have e : (x :: l).foldl (fun h m => max h (f m)) k = l.foldl (fun h m => max h (f m)) (max k (f x)) := rfl
    rw [e]
    refine ⟨by omega, fun m hm => ?_, ?_⟩
    · rcases List.mem_cons.1 hm with rfl | hm
      · omega
      · exact h2 m hm
    · rcases h3 with h3 | ⟨m, hm, h3⟩
      · rw [h3]
        by_cases hk : f x ≤ k
        · exact .inl (by omega)
        · exact .inr ⟨x, List.mem_cons_self .., by omega⟩
      · exact .inr ⟨m, List.mem_cons_of_mem _ hm, h3⟩
theorem dgM_pos {L : Nat} {l : List Mo} : 0 < dgM L l ↔ ∃ m ∈ l, 0 < m.get L := by
  obtain ⟨h1, h2, h3⟩ := foldmax (fun m : Mo => m.get L) l 0
  refine ⟨fun h => ?_, fun ⟨m, hm, h⟩ => ?_⟩
  · rcases h3 with h3 | ⟨m, hm, h3⟩
    · exact absurd (show dgM L l = 0 from h3) (by omega)
    · exact ⟨m, hm, by have : dgM L l = m.get L := h3; omega⟩
  · have : m.get L ≤ dgM L l := h2 m hm
    omega
theorem dgM_bd {L : Nat} {l : List Mo} {B : Int} (hB : 0 ≤ B) (h : ∀ m ∈ l, m.get L ≤ B) : 0 ≤ dgM L l ∧ dgM L l ≤ B := by
  obtain ⟨h1, h2, h3⟩ := foldmax (fun m : Mo => m.get L) l 0
  refine ⟨h1, ?_⟩
  rcases h3 with h3 | ⟨m, hm, h3⟩
  · exact (show dgM L l = 0 from h3) ▸ hB
  · exact (show dgM L l = m.get L from h3) ▸ h m hm
/-- the degree that Degree returns -/
def dgP (lv : Int) (l : List Tm) : Int := if l = [] then -1 else if isLevB lv then dgM lv.toNat (l.map (·.2)) else 0
/-- alone's answer: no other variable occurs in a canonical list -/
def AloneP (lv : Int) (l : List Tm) : Prop := ∀ t ∈ l, ∀ k : Nat, 1 ≤ k → k ≤ 4 → (k : Int) ≠ lv → ¬ 0 < t.2.get k
theorem dgP_pos {k : Nat} {l : List Tm} (h1 : 1 ≤ k) (h4 : k ≤ 4) : 0 < dgP k l ↔ ∃ t ∈ l, 0 < t.2.get k := by
  unfold dgP
  by_cases hl : l = []
  · subst hl; simp
  · rw [if_neg hl, if_pos (by unfold isLevB; simp; omega), dgM_pos]
    refine ⟨fun ⟨m, hm, h⟩ => ?_, fun ⟨t, ht, h⟩ => ⟨t.2, List.mem_map_of_mem ht, h⟩⟩
    obtain ⟨t, ht, rfl⟩ := List.mem_map.1 hm
    exact ⟨t, ht, h⟩
theorem canon_mem_coef {l : List Tm} (h : Canon l) {t : Tm} (ht : t ∈ l) : coefAt l t.2 ≠ 0 := by rw [coefAt_of_mem h ht]; exact (h.2 t ht).1
end Go.Proofs.YtiopnmlohpmmiaaGreat

namespace Go.Proofs.YtiopnmlohpmmiaaGreat
open Go.RowKit

def set2 (w : World) (g o : Nat) (e0 e1 : Value) : World := (w.setCell ⟨g, o, none⟩ e0).setCell ⟨g, o + 1, none⟩ e1
/-- a row of N integers of one's own, of which the first k are those of z -/
def UK (M : Nat → Prop) (w : World) (g N k : Nat) (z : Nat → Int) : Prop :=
  ∃ X : Nat → IE, ∃ f, Blk w g 25 (N * 2) f ∧ ∀ i, i < k → f (i * 2) = .bool (X i).b ∧ f (i * 2 + 1) = .slice (X i).a (X i).n (X i).p ∧ IntV M w (.bool (X i).b) (.slice (X i).a (X i).n (X i).p) (z i)
section
variable {M M' : Nat → Prop} {w w' : World} {g N k : Nat} {z : Nat → Int}
theorem UK.ext (h : UK M w g N k z) (he : Ext w w') : UK M w' g N k z := by
  obtain ⟨X, f, hB, hf⟩ := h
  exact ⟨X, f, hB.ext he, fun i hi => ⟨(hf i hi).1, (hf i hi).2.1, (hf i hi).2.2.ext he⟩⟩
theorem UK.at (h : UK M w g N k z) {j : Nat} (hj : j < N) : (∃ e, w.cell? ⟨g, j * 2, none⟩ = some e) ∧ (∃ e, w.cell? ⟨g, j * 2 + 1, none⟩ = some e) ∧ (∀ o, w.frozen? ⟨g, o, none⟩ = false) ∧ g < w.heap.size := by
  obtain ⟨X, f, hB, hf⟩ := h
  exact ⟨⟨_, hB.cell (by omega)⟩, ⟨_, hB.cell (by omega)⟩, hB.frozen, hB.lt⟩
theorem UK.set (h : UK M w g N k z) (hg : M g) {b : Bool} {a : Option Addr} {n p : Nat} (hc : IntV M w (.bool b) (.slice a n p) (z k)) : UK M (set2 w g (k * 2) (.bool b) (.slice a n p)) g N (k + 1) z := by
  obtain ⟨X, f, hB, hf⟩ := h
  have hk : Kp M w (set2 w g (k * 2) (.bool b) (.slice a n p)) := (Kp.set M w (p := ⟨g, k * 2, none⟩) hg _).trans (Kp.set M _ (p := ⟨g, k * 2 + 1, none⟩) hg _)
  refine ⟨fun i => if i = k then ⟨b, a, n, p⟩ else X i, _, (hB.set (k * 2) (.bool b)).set (k * 2 + 1) (.slice a n p), fun i hi => ?_⟩
  unfold upd
  by_cases hik : i = k
  · subst hik; simp only [if_true]
    exact ⟨by rw [if_neg (by omega)], trivial, hc.kp hk⟩
  · simp only [if_neg hik]
    rw [if_neg (by omega), if_neg (by omega), if_neg (by omega), if_neg (by omega)]
    obtain ⟨h1, h2, h3⟩ := hf i (by omega)
    exact ⟨h1, h2, h3.kp hk⟩
theorem UK.row (h : UK M w g N N z) (hm : ∀ g, M' g → M g ∨ w.heap.size ≤ g) (hg : ¬ M' g) (hN : N ≤ 1099511627776) : ∃ X, URow M' w (some ⟨g, 0, none⟩) N N X z := by
  obtain ⟨X, f, hB, hf⟩ := h
  refine ⟨X, hN, Nat.le_refl _, by unfold maxLen; omega, fun e => (by cases e), fun i hi => ?_⟩
  obtain ⟨h1, h2, h3⟩ := hf i hi
  exact ⟨g, 0, rfl, hB.lt, hg, by rw [Nat.zero_add, hB.cell (by omega), h1], by rw [Nat.zero_add, hB.cell (by omega), h2], h3.more hm⟩
theorem UK.fresh {f : Nat → Value} (hB : Blk w g 25 (N * 2) f) : UK M w g N 0 z := ⟨fun _ => ⟨false, none, 0, 0⟩, f, hB, fun i hi => absurd hi (Nat.not_lt_zero _)⟩
end
theorem Ext.set2 {a w : World} (h : Ext a w) {g : Nat} (hg : a.heap.size ≤ g) (o : Nat) (e0 e1 : Value) : Ext a (Go.Proofs.YtiopnmlohpmmiaaGreat.set2 w g o e0 e1) := (h.set (p := ⟨g, o, none⟩) hg e0).set (p := ⟨g, o + 1, none⟩) hg e1
/-- a row of integers is returned -/
def RetU (M : Nat → Prop) (w : World) (n : Nat) (z : Nat → Int) (e : Ending) (w' : World) : Prop := ∃ a X, e = .returned (.slice a n n) ∧ URow M w' a n n X z ∧ Ext w w'
/-- equal polynomials -/
def EqU (n n' : Nat) (z z' : Nat → Int) : Prop := tz z n = tz z' n' ∧ ∀ i, i < tz z n → z i = z' i
end Go.Proofs.YtiopnmlohpmmiaaGreat

namespace Go.Proofs.YtiopnmlohpmmiaaGreat
open Go.RowKit

/-- a polynomial and an error number are returned -/
def RetE (M : Nat → Prop) (w : World) (L : Nat) (l : List Tm) (E : Int) (e : Ending) (w' : World) : Prop := ∃ y : PE, e = .returned (.tuple #[.agg (peA y), .int .i64 E]) ∧ CRx M w' L y l ∧ Ext w w'
end Go.Proofs.YtiopnmlohpmmiaaGreat
