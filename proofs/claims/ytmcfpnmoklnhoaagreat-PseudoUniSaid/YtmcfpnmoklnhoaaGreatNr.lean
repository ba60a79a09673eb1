/- Plain facts on rational numbers: their sizes; the values of polynomials. -/
import Derived.Test.YtmcfpnmoklnhoaaGreatMi
set_option linter.unusedVariables false
set_option linter.unusedSimpArgs false

namespace Go.Proofs.YtmcfpnmoklnhoaaGreat

def rb (n:Nat) (q:Rat):Prop:=dlen q.num.natAbs<=n/\dlen q.den<=n
theorem rb.mono {n m:Nat} {q:Rat} (h:rb n q) (hm:n<=m):rb m q:=⟨Nat.le_trans h.1 hm,Nat.le_trans h.2 hm⟩
theorem rb.pos {n:Nat} {q:Rat} (h:rb n q):1<=n:=Nat.le_trans (qeg q.den_nz) h.2
theorem qjk (x y:Int):dlen (x+y).natAbs<=max (dlen x.natAbs) (dlen y.natAbs)+1:=
 Nat.le_trans (qah (Int.natAbs_add_le x y)) (qc3 _ _)
def evM (a:Nat->Rat) (m:Mo):Rat:=a 0 ^ m.a.toNat*a 1 ^ m.b.toNat*a 2 ^ m.c.toNat*a 3 ^ m.d.toNat
def evT (a:Nat->Rat):List Tm->Rat
 | []=>0
 | t :: l=>(t.1:Rat)*evM a t.2+evT a l
theorem qp7 (x:Rat) (n m:Nat):x ^ (n+m)=x ^ n*x ^ m:=by
 induction m with
 | zero=>simp
 | succ m ih=>rw [<- Nat.add_assoc,Rat.pow_succ,ih,Rat.pow_succ,Rat.mul_assoc]
def ps (x:Rat) (P:Nat->Rat):Nat->Rat
 | 0=>0
 | n+1=>ps x P n+x ^ n*P n
def hv (x:Rat) (P:Nat->Rat) (n:Nat):Nat->Rat
 | 0=>0
 | j+1=>hv x P n j*x+P (n - 1 - j)
end Go.Proofs.YtmcfpnmoklnhoaaGreat
