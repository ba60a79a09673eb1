/- Folds of And and Or (plain). -/
import Derived.Test.YtodiphjjdheoaaaGreatIa
import Derived.Test.YtodiphjjdheoaaaGreatGs
set_option linter.unusedVariables false
set_option linter.unusedSimpArgs false

namespace Go.Proofs.YtodiphjjdheoaaaGreat

abbrev bAnd (a b : Int) : Int := bits BinOp.and .i64 (sg a) (sg b)
abbrev bOr (a b : Int) : Int := bits BinOp.or .i64 (sg a) (sg b)
def HdB (o : Bool) (l : List Tm) (b : Int) (ks : List TM) : Prop := ∃ k ts, ks = k :: ts ∧ k.kd = 2 ∧ k.l = l ∧ (if o then bOr k.rl b = 7 else bAnd k.rl b = 0)
def HasB (o : Bool) (l : List Tm) (b : Int) (q : TM) : Prop := q.kd = 2 ∧ q.l = l ∧ (if o then bOr q.rl b = sg q.rl else q.rl = b)
def compl (r : Int) : Int := if r = 1 then 5 else if r = 2 then 6 else if r = 4 then 3 else if r = 5 then 1 else if r = 6 then 2 else 4
end Go.Proofs.YtodiphjjdheoaaaGreat
