/- Nr -/
import Derived.Test.YtmcfpnmoklnhoaaGreatMi
set_option linter.unusedVariables false
set_option linter.unusedSimpArgs false
namespace Go.Proofs.YtmcfpnmoklnhoaaGreat
def rb(n:Nat)(q:Rat):Prop:=az q.num.natAbs<=n/\az q.den<=n
theorem rb.mono{n m:Nat}{q:Rat}(h:rb n q)(hm:n<=m):rb m q:=⟨Nat.le_trans h.1 hm,Nat.le_trans h.2 hm⟩
theorem qhy(x y:Int):az (x+y).natAbs<=max (az x.natAbs) (az y.natAbs)+1:=
 Nat.le_trans (ji (Int.natAbs_add_le x y)) (Lf _ _)
def ps(x:Rat)(P:Nat->Rat):Nat->Rat
 |0=>0
 |n+1=>ps x P n+x^n*P n
def hv(x:Rat)(P:Nat->Rat)(n:Nat):Nat->Rat
 |0=>0
 |j+1=>hv x P n j*x+P (n-1-j)
end Go.Proofs.YtmcfpnmoklnhoaaGreat
