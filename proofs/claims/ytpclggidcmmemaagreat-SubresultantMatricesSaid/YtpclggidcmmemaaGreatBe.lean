/- pseudo.exact: two polynomials with the same main variable. -/
import Derived.Test.YtpclggidcmmemaaGreatBd
set_option linter.unusedVariables false
set_option linter.unusedSimpArgs false

namespace Go.Proofs.YtpclggidcmmemaaGreat
open Go.RowKit

theorem ExR.ext {M : Nat → Prop} {w w' : World} {L A : Nat} {l r : List Tm} {v : PE} {ok : Bool} (h : ExR M L l r A v ok w) (he : Ext w w') : ExR M L l r A v ok w' := ⟨fun ho => by
 obtain ⟨q, h1, h2⟩ := h.1 ho
 exact ⟨q, h1.ext he, h2⟩, h.2⟩
theorem ExR.kp {M : Nat → Prop} {w w' : World} {L A : Nat} {l r : List Tm} {v : PE} {ok : Bool} (h : ExR M L l r A v ok w) (he : Kp M w w') : ExR M L l r A v ok w' := ⟨fun ho => by
 obtain ⟨q, h1, h2⟩ := h.1 ho
 exact ⟨q, h1.kp he, h2⟩, h.2⟩
theorem ExR.more {M M' : Nat → Prop} {w : World} {L A : Nat} {l r : List Tm} {v : PE} {ok : Bool} (h : ExR M L l r A v ok w) (hm : ∀ g, M' g → M g ∨ w.heap.size ≤ g) : ExR M' L l r A v ok w := ⟨fun ho => by
 obtain ⟨q, h1, h2⟩ := h.1 ho
 exact ⟨q, h1.more hm, h2⟩, h.2⟩
def S26 (s : Nat) (v3 : Value) (g o : Nat) (d : PE) (b o2 : Nat) (c : PE) (gc : Nat) (v : PE) (w : World) : Prop := w.cell? ⟨s, 3, none⟩ = some v3 ∧ KCell w g o d ∧ KCell w b o2 c ∧ P4 w gc v
theorem S26.ext {s : Nat} {v3 : Value} {g o : Nat} {d : PE} {b o2 : Nat} {c : PE} {gc : Nat} {v : PE} {w w' : World} (h : S26 s v3 g o d b o2 c gc v w) (hs : s < w.heap.size) (hg : g < w.heap.size) (hb : b < w.heap.size) (hgc : gc < w.heap.size) (he : Ext w w') : S26 s v3 g o d b o2 c gc v w' := ⟨by rw [he.cell hs]; exact h.1, h.2.1.ext hg he, h.2.2.1.ext hb he, by
 have h4 := h.2.2.2
 unfold P4 at h4 ⊢
 rw [he.cell hgc, he.cell hgc, he.cell hgc, he.cell hgc]; exact h4⟩
theorem Kids.pre {M M' : Nat → Prop} {w : World} {D g N c : Nat} {P : Nat → List Tm} (h : Kids M w D g c P) (hm : ∀ g, M' g → M g ∨ w.heap.size ≤ g) (hg : ¬ M' g) (hN : N ≤ 1099511627776) (hc : N ≤ c) (hcm : c ≤ maxLen) : KRow M' w D (.slice (some ⟨g, 0, none⟩) N c) N P := by
 have hlt : g < w.heap.size := by
  obtain ⟨f, hB, _⟩ := h
  exact hB.lt
 exact ⟨hN, .inr ⟨g, 0, c, rfl, hc, hcm, ⟨hlt, hg⟩, fun i hi => h.kid hm i (by omega)⟩⟩
def S19 (s : Nat) (v3 : Value) (g o : Nat) (d : PE) (b o2 : Nat) (c : PE) (w : World) : Prop := w.cell? ⟨s, 3, none⟩ = some v3 ∧ KCell w g o d ∧ KCell w b o2 c
theorem S19.ext {s : Nat} {v3 : Value} {g o : Nat} {d : PE} {b o2 : Nat} {c : PE} {w w' : World} (h : S19 s v3 g o d b o2 c w) (hs : s < w.heap.size) (hg : g < w.heap.size) (hb : b < w.heap.size) (he : Ext w w') : S19 s v3 g o d b o2 c w' := ⟨by rw [he.cell hs]; exact h.1, h.2.1.ext hg he, h.2.2.ext hb he⟩
end Go.Proofs.YtpclggidcmmemaaGreat
