/- Draws are never taken back: a call ends with at least as many draws as it began with. -/
import Derived.Test.YtodiphjjdheoaaaGreatRows
import Derived.Calls
set_option linter.unusedVariables false
set_option linter.unusedSimpArgs false

namespace Go.Proofs.YtodiphjjdheoaaaGreat

def Dr {α : Type} (d : Nat) : Result α → Prop
 | .ok _ w => d ≤ w.drawn
 | .halt _ w => d ≤ w.drawn
theorem Dr.mono {α : Type} {d d' : Nat} {r : Result α} (h : Dr d r) (hd : d' ≤ d) : Dr d' r := by
 cases r <;> exact Nat.le_trans hd h
end Go.Proofs.YtodiphjjdheoaaaGreat
