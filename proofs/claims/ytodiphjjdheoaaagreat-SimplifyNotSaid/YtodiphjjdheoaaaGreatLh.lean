/- cylinderref39.simple: the walk. -/
import Derived.Test.YtodiphjjdheoaaaGreatLg
set_option linter.unusedVariables false
set_option linter.unusedSimpArgs false

namespace Go.Proofs.YtodiphjjdheoaaaGreat
open Go.RowKit

def SRh (g : Nat) (kd : Int) (v : Value) (b o o' : Nat) (z z' : MX) (w : World) : Prop := w.cell? ⟨g, 0, none⟩ = some (.int .i64 kd) ∧ w.cell? ⟨g, 6, none⟩ = some v ∧ MxC w b o z ∧ MxC w b o' z'
theorem SRh.ext {g : Nat} {kd : Int} {v : Value} {b o o' : Nat} {z z' : MX} {w w' : World} (h : SRh g kd v b o o' z z' w) (he : Ext w w') : SRh g kd v b o o' z z' w' := by
 have hb := World.block_lt_of_cell? _ _ h.1
 exact ⟨by rw [he.cell hb]; exact h.1, by rw [he.cell hb]; exact h.2.1, h.2.2.1.ext he, h.2.2.2.ext he⟩
end Go.Proofs.YtodiphjjdheoaaaGreat
