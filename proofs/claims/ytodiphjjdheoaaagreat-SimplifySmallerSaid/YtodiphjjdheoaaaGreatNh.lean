/- cylinderref39.Value: Horner's rule at integers. -/
import Derived.Test.YtodiphjjdheoaaaGreatNr
import Derived.Test.YtodiphjjdheoaaaGreatNb
set_option linter.unusedVariables false
set_option linter.unusedSimpArgs false

namespace Go.Proofs.YtodiphjjdheoaaaGreat
open Go.RowKit

def IRow (M : Nat → Prop) (w : World) (a : Option Addr) (cap : Nat) (X : Nat → I4) (z : Nat → Int) : Prop :=
 cap ≤ maxLen ∧ 4 ≤ cap ∧ ∃ b off, a = some ⟨b, off, none⟩ ∧ b < w.heap.size ∧ ∀ i, i < 4 → (w.cell? ⟨b, off + i * 2, none⟩ = some (.bool (X i).b) ∧ w.cell? ⟨b, off + i * 2 + 1, none⟩ = some (.slice (X i).a (X i).n (X i).p)) ∧ IntV M w (.bool (X i).b) (.slice (X i).a (X i).n (X i).p) (z i)
theorem IRow.ext {M : Nat → Prop} {w w' : World} {a : Option Addr} {cap : Nat} {X : Nat → I4} {z : Nat → Int} (h : IRow M w a cap X z) (he : Ext w w') : IRow M w' a cap X z := by
 obtain ⟨h1, h2, b, off, h3, h4, h5⟩ := h
 exact ⟨h1, h2, b, off, h3, Nat.lt_of_lt_of_le h4 he.size, fun i hi => ⟨⟨by rw [he.cell h4]; exact (h5 i hi).1.1, by rw [he.cell h4]; exact (h5 i hi).1.2⟩, (h5 i hi).2.ext he⟩⟩
theorem IRow.more {M M' : Nat → Prop} {w : World} {a : Option Addr} {cap : Nat} {X : Nat → I4} {z : Nat → Int} (h : IRow M w a cap X z) (hm : ∀ g, M' g → M g ∨ w.heap.size ≤ g) : IRow M' w a cap X z := by
 obtain ⟨h1, h2, b, off, h3, h4, h5⟩ := h
 exact ⟨h1, h2, b, off, h3, h4, fun i hi => ⟨(h5 i hi).1, (h5 i hi).2.more hm⟩⟩
def zq (z : Nat → Int) : Nat → Rat := fun i => (z i : Rat)
structure SVl (G P : Nat) (s : I4) (Lm : Nat) (kb koff kn kp : Nat) (ab ao : Nat) (r : I4) (ko : Nat) (y : PE) (w : World) : Prop where
 sum : C2 G s w
 lv : w.cell? ⟨P, 0, none⟩ = some (.int .i64 ((Lm : Int) + 1))
 cf : w.cell? ⟨P, 3, none⟩ = some (.slice (some ⟨kb, koff, none⟩) kn kp)
 a0 : w.cell? ⟨ab, ao, none⟩ = some (.bool r.b)
 a1 : w.cell? ⟨ab, ao + 1, none⟩ = some (.slice r.a r.n r.p)
 k0 : w.cell? ⟨kb, ko, none⟩ = some (.int .i64 y.lv)
 k1 : w.cell? ⟨kb, ko + 1, none⟩ = some (.bool y.b)
 k2 : w.cell? ⟨kb, ko + 2, none⟩ = some (.slice y.a y.n y.p)
 k3 : w.cell? ⟨kb, ko + 3, none⟩ = some (.slice y.ka y.kn y.kp)
theorem SVl.ext {G P : Nat} {s : I4} {Lm : Nat} {kb koff kn kp : Nat} {ab ao : Nat} {r : I4} {ko : Nat} {y : PE} {w w' : World} (h : SVl G P s Lm kb koff kn kp ab ao r ko y w) (he : Ext w w') : SVl G P s Lm kb koff kn kp ab ao r ko y w' := by
 obtain ⟨h1, h2, h3, h4, h4', h5, h6, h7, h8⟩ := h
 have b2 := World.block_lt_of_cell? _ _ h2
 have b4 := World.block_lt_of_cell? _ _ h4
 have b5 := World.block_lt_of_cell? _ _ h5
 exact ⟨h1.ext he, by rw [he.cell b2]; exact h2, by rw [he.cell b2]; exact h3, by rw [he.cell b4]; exact h4, by rw [he.cell b4]; exact h4', by rw [he.cell b5]; exact h5, by rw [he.cell b5]; exact h6, by rw [he.cell b5]; exact h7, by rw [he.cell b5]; exact h8⟩
end Go.Proofs.YtodiphjjdheoaaaGreat
