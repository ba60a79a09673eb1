/- Plain facts on rational numbers: their sizes; the values of polynomials. -/
import Derived.Test.YtlmipmebdelgbaaGreatMi
set_option linter.unusedVariables false
set_option linter.unusedSimpArgs false

namespace Go.Proofs.YtlmipmebdelgbaaGreat

def rb (n:Nat) (q:Rat):Prop:=dlen q.num.natAbs<=n/\dlen q.den<=n
theorem rb.mono {n m:Nat} {q:Rat} (h:rb n q) (hm:n<=m):rb m q:=⟨Nat.le_trans h.1 hm,Nat.le_trans h.2 hm⟩
theorem rb.pos {n:Nat} {q:Rat} (h:rb n q):1<=n:=Nat.le_trans (qdP q.den_nz) h.2
def ps (x:Rat) (P:Nat->Rat):Nat->Rat
 | 0=>0
 | n+1=>ps x P n+x ^ n*P n
def hv (x:Rat) (P:Nat->Rat) (n:Nat):Nat->Rat
 | 0=>0
 | j+1=>hv x P n j*x+P (n - 1 - j)
end Go.Proofs.YtlmipmebdelgbaaGreat
