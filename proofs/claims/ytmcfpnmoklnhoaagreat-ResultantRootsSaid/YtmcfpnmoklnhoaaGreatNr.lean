/- Plain facts on rational numbers: their sizes; the values of polynomials. -/
import Derived.Test.YtmcfpnmoklnhoaaGreatMi
set_option linter.unusedVariables false
set_option linter.unusedSimpArgs false

namespace Go.Proofs.YtmcfpnmoklnhoaaGreat

def rb (n:Nat) (q:Rat):Prop:=dlen q.num.natAbs<=n/\dlen q.den<=n
theorem qft (x y:Int):dlen (x+y).natAbs<=max (dlen x.natAbs) (dlen y.natAbs)+1:=
 Nat.le_trans (qal (Int.natAbs_add_le x y)) (qco _ _)
def ps (x:Rat) (P:Nat->Rat):Nat->Rat
 | 0=>0
 | n+1=>ps x P n+x ^ n*P n
def hv (x:Rat) (P:Nat->Rat) (n:Nat):Nat->Rat
 | 0=>0
 | j+1=>hv x P n j*x+P (n - 1 - j)
end Go.Proofs.YtmcfpnmoklnhoaaGreat
