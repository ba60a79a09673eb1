/- mainvar.coefs: laws of make and copy; the state of its loops. mainvar.coefs: the walk. -/
import Derived.Test.YtfbdckffjjladaaGreatDa
set_option linter.unusedVariables false
set_option linter.unusedSimpArgs false

namespace Go.Proofs.YtfbdckffjjladaaGreat
open Go.RowKit

def LRow (w : World) (g m k : Nat) (h : Nat → Nat) (lv : Int) (N : Nat) : Prop := ∃ F, Blk w g 29 (m * 4) F ∧ ∀ i, i < k → F (i * 4) = .int .i64 lv ∧ F (i * 4 + 1) = .bool false ∧ F (i * 4 + 2) = .slice none 0 0 ∧ F (i * 4 + 3) = .slice (some ⟨h i, 0, none⟩) N N
theorem LRow.ext {w w' : World} {g m k : Nat} {h : Nat → Nat} {lv : Int} {N : Nat} (hr : LRow w g m k h lv N) (he : Ext w w') : LRow w' g m k h lv N := by
 obtain ⟨F, h1, h2⟩ := hr; exact ⟨F, h1.ext he, h2⟩
theorem LRow.heap {w w' : World} {g m k : Nat} {h : Nat → Nat} {lv : Int} {N : Nat} (hr : LRow w g m k h lv N) (he : w'.heap[g]? = w.heap[g]?) : LRow w' g m k h lv N := by
 obtain ⟨F, h1, h2⟩ := hr; exact ⟨F, h1.of_heap he, h2⟩
theorem LRow.set {w : World} {g m k : Nat} {h : Nat → Nat} {lv : Int} {N : Nat} (hr : LRow w g m k h lv N) : LRow (set4 w g (k * 4) (.int .i64 lv) (.bool false) (.slice none 0 0) (.slice (some ⟨h k, 0, none⟩) N N)) g m (k + 1) h lv N := by
 obtain ⟨F, h1, h2⟩ := hr
 refine ⟨_, h1.set4 _ _ _ _ _, fun i hi => ?_⟩
 by_cases hik : i = k
 ·subst hik; exact ⟨upd4_0 _ _ _ _ _ _, upd4_1 _ _ _ _ _ _, upd4_2 _ _ _ _ _ _, upd4_3 _ _ _ _ _ _⟩
 ·rw [upd4_ne _ _ _ _ _ _ _ (by omega), upd4_ne _ _ _ _ _ _ _ (by omega), upd4_ne _ _ _ _ _ _ _ (by omega), upd4_ne _ _ _ _ _ _ _ (by omega)]; exact h2 i (by omega)
theorem LRow.at {w : World} {g m k : Nat} {h : Nat → Nat} {lv : Int} {N : Nat} (hr : LRow w g m k h lv N) (j : Nat) (hj : j < m) : (∃ e, w.cell? ⟨g, j * 4, none⟩ = some e) ∧ (∃ e, w.cell? ⟨g, j * 4 + 1, none⟩ = some e) ∧ (∃ e, w.cell? ⟨g, j * 4 + 2, none⟩ = some e) ∧ (∃ e, w.cell? ⟨g, j * 4 + 3, none⟩ = some e) ∧ (∀ o, w.frozen? ⟨g, o, none⟩ = false) ∧ g < w.heap.size := by
 obtain ⟨F, h1, h2⟩ := hr
 exact ⟨⟨_, h1.cell (by omega)⟩, ⟨_, h1.cell (by omega)⟩, ⟨_, h1.cell (by omega)⟩, ⟨_, h1.cell (by omega)⟩, h1.frozen, h1.lt⟩
structure CoI (M : Nat → Prop) (w : World) (L d E B n N : Nat) (P : Nat → List Tm) (x : PE) (wr : World) (c : Nat → Nat) : Prop where
 sz : w.heap.size + 3 + n ≤ wr.heap.size
 ext : Ext w wr
 p4 : P4 wr w.heap.size x
 row : LRow wr (w.heap.size + 1) (n + 1) (n + 1) (fun i => w.heap.size + 2 + i) x.lv N
 kids : ∀ i, i < n + 1 → CKids (Mx M w.heap.size (w.heap.size + 3 + n)) wr d E B (w.heap.size + 2 + i) N (fun j => if j < c i then ck L (i : Int) (P j) else []) P
section
variable {M : Nat → Prop} {w wr w' : World} {L d E B n N : Nat} {P : Nat → List Tm} {x : PE} {c : Nat → Nat}
theorem CoI.grow (h : CoI M w L d E B n N P x wr c) (he : Ext wr w') : CoI M w L d E B n N P x w' c :=
 ⟨Nat.le_trans h.sz he.size, h.ext.trans he, h.p4.ext he, h.row.ext he, fun i hi => (h.kids i hi).ext he⟩
theorem CoI.mb (h : CoI M w L d E B n N P x wr c) (hM : Mb M w) : Mb (Mx M w.heap.size (w.heap.size + 3 + n)) wr := Mx.mb hM h.ext.size h.sz
theorem CoI.congr {c' : Nat → Nat} (h : CoI M w L d E B n N P x wr c) (hc : ∀ i, i < n + 1 → c i = c' i) : CoI M w L d E B n N P x wr c' :=
 ⟨h.sz, h.ext, h.p4, h.row, fun i hi => by rw [← hc i hi]; exact h.kids i hi⟩
end
end Go.Proofs.YtfbdckffjjladaaGreat

namespace Go.Proofs.YtfbdckffjjladaaGreat
open Go.RowKit

def SCo (g o h N gz : Nat) (z : PE) (w : World) : Prop := w.cell? ⟨g, o, none⟩ = some (.slice (some ⟨h, 0, none⟩) N N) ∧ P4 w gz z
def RetCo (M : Nat → Prop) (w : World) (d E B n L : Nat) (l : List Tm) (e : Ending) (w' : World) : Prop := ∃ g, e = .returned (.slice (some ⟨g, 0, none⟩) (n + 1) (n + 1)) ∧ w.heap.size ≤ g ∧ CKids (fun b => M b ∨ b = g) w' d E B g (n + 1) (fun i => ck L (i : Int) l) (fun _ => l) ∧ Ext w w'
def CoefsCtr (L E : Nat) : Prop := ∀ (d : Nat), E ≤ d → ∀ (M : Nat → Prop) (l : List Tm) (x : PE) (n B : Nat) (w : World), Mb M w → CRx M w E x l → Deg B l → (∀ m, coefAt l m ≠ 0 → m.get L ≤ n) → n + 1 ≤ 1099511627776 → Calls Tryz.prog 159 #[.agg (peA x), .int .i64 (L : Int), .int .i64 (n : Int)] w (RetCo M w d E B n L l)
end Go.Proofs.YtfbdckffjjladaaGreat
