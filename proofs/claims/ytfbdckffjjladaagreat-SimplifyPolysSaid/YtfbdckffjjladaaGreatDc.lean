/- mainvar.Coefs. -/
import Derived.Test.YtfbdckffjjladaaGreatDb
import Derived.Test.YtfbdckffjjladaaGreatCb
set_option linter.unusedVariables false
set_option linter.unusedSimpArgs false

namespace Go.Proofs.YtfbdckffjjladaaGreat
open Go.RowKit

def Mix (M : Nat → Prop) (w : World) (B g N k : Nat) (S : Nat → List Tm) (R : List Tm) : Prop := ∃ f, Blk w g 29 (N * 4) f ∧ ∀ i, i < N → (i < k → CR M w 4 (f (i * 4)) (f (i * 4 + 1)) (f (i * 4 + 2)) (f (i * 4 + 3)) (S i)) ∧ (k ≤ i → CfT M w 4 4 B (f (i * 4)) (f (i * 4 + 1)) (f (i * 4 + 2)) (f (i * 4 + 3)) (S i) R)
section
variable {M : Nat → Prop} {w w' : World} {B g N k : Nat} {S : Nat → List Tm} {R : List Tm}
theorem Mix.ext (h : Mix M w B g N k S R) (he : Ext w w') : Mix M w' B g N k S R := by
 obtain ⟨f, h1, h2⟩ := h
 exact ⟨f, h1.ext he, fun i hi => ⟨fun h => ((h2 i hi).1 h).ext he, fun h => ((h2 i hi).2 h).ext he⟩⟩
theorem Mix.start (h : CKids M w 4 4 B g N S (fun _ => R)) : Mix M w B g N 0 S R := by
 obtain ⟨f, h1, h2⟩ := h
 exact ⟨f, h1, fun i hi => ⟨fun h => absurd h (Nat.not_lt_zero _), fun _ => h2 i hi⟩⟩
theorem Mix.at (h : Mix M w B g N k S R) (j : Nat) (hj : j < N) : (∃ e, w.cell? ⟨g, j * 4, none⟩ = some e) ∧ (∃ e, w.cell? ⟨g, j * 4 + 1, none⟩ = some e) ∧ (∃ e, w.cell? ⟨g, j * 4 + 2, none⟩ = some e) ∧ (∃ e, w.cell? ⟨g, j * 4 + 3, none⟩ = some e) ∧ (∀ o, w.frozen? ⟨g, o, none⟩ = false) ∧ g < w.heap.size := by
 obtain ⟨f, h1, h2⟩ := h
 exact ⟨⟨_, h1.cell (by omega)⟩, ⟨_, h1.cell (by omega)⟩, ⟨_, h1.cell (by omega)⟩, ⟨_, h1.cell (by omega)⟩, h1.frozen, h1.lt⟩
theorem Mix.next (h : Mix M w B g N k S R) (hk : k < N) : ∃ y : PE, KCell w g (k * 4) y ∧ CfT M w 4 4 B (.int .i64 y.lv) (.bool y.b) (.slice y.a y.n y.p) (.slice y.ka y.kn y.kp) (S k) R := by
 obtain ⟨f, hB, hc⟩ := h
 have hx := (hc k hk).2 (Nat.le_refl _)
 obtain ⟨x, e0, e1, e2, e3⟩ := hx.pe
 rw [e0, e1, e2, e3] at hx
 refine ⟨x, ⟨?_, ?_, ?_, ?_⟩, hx⟩
 ·rw [hB.cell (by omega), e0]
 ·rw [hB.cell (by omega), e1]
 ·rw [hB.cell (by omega), e2]
 ·rw [hB.cell (by omega), e3]
theorem Mix.set (h : Mix M w B g N k S R) (hg : M g) (hk : k < N) {e0 e1 e2 e3 : Value} (hc : CR M w 4 e0 e1 e2 e3 (S k)) : Mix M (set4 w g (k * 4) e0 e1 e2 e3) B g N (k + 1) S R := by
 obtain ⟨f, h1, h2⟩ := h
 refine ⟨_, h1.set4 (k * 4) e0 e1 e2 e3, fun i hi => ?_⟩
 have hkp : Kp M w (set4 w g (k * 4) e0 e1 e2 e3) := Kp.set4 hg _ _ _ _ _
 by_cases hij : i = k
 ·subst hij
  rw [upd4_0, upd4_1, upd4_2, upd4_3]; exact ⟨fun _ => hc.kp hkp, fun h => by omega⟩
 ·rw [upd4_ne _ _ _ _ _ _ _ (by omega), upd4_ne _ _ _ _ _ _ _ (by omega), upd4_ne _ _ _ _ _ _ _ (by omega), upd4_ne _ _ _ _ _ _ _ (by omega)]
  exact ⟨fun h => ((h2 i hi).1 (by omega)).kp hkp, fun h => ((h2 i hi).2 (by omega)).kp hkp⟩
end
def RetCf (M : Nat → Prop) (w : World) (l : List Tm) (L : Int) (e : Ending) (w' : World) : Prop :=
 ((Sim l [] ∧ e = .returned (.slice none 0 0)) ∨ (¬ Sim l [] ∧ ¬ (1 ≤ L ∧ L ≤ 4) ∧ ∃ g, e = .returned (.slice (some ⟨g, 0, none⟩) 1 1) ∧ w.heap.size ≤ g ∧ Kids (fun b => M b ∨ b = g) w' 4 g 1 (fun _ => l)) ∨
  (¬ Sim l [] ∧ ∃ K n g : Nat, L = K ∧ 1 ≤ K ∧ K ≤ 4 ∧ e = .returned (.slice (some ⟨g, 0, none⟩) (n + 1) (n + 1)) ∧ w.heap.size ≤ g ∧ DgR K l n ∧ Kids (fun b => M b ∨ b = g) w' 4 g (n + 1) (fun i => ck K (i : Int) l))) ∧ Ext w w'
end Go.Proofs.YtfbdckffjjladaaGreat
