/- Plain facts on rational numbers: their sizes; the values of polynomials. -/
import Derived.Test.YtjhhekmfdhfjpaaGreatMi
set_option linter.unusedVariables false
set_option linter.unusedSimpArgs false

namespace Go.Proofs.YtjhhekmfdhfjpaaGreat

def rb (n : Nat) (q : Rat) : Prop:=dlen q.num.natAbs <= n /\ dlen q.den <= n
theorem rb.mono {n m : Nat} {q : Rat} (h : rb n q) (hm : n <= m) : rb m q:=⟨Nat.le_trans h.1 hm,Nat.le_trans h.2 hm⟩
theorem qg1 (z : Int) (d : Nat) : (mkRat z d).num.natAbs <= z.natAbs:=by
 rw [Rat.num_mkRat]
 split
 ·simp
 ·exact Int.natAbs_ediv_le_natAbs _ _
theorem qhq (z : Int) (d : Nat) (hd : d ≠ 0) : (mkRat z d).den <= d:=by
 rw [Rat.den_mkRat,if_neg hd];exact Nat.div_le_self _ _
theorem qgi : dlen 1 = 1:=rfl
theorem qmW {n : Nat} {z : Int} {d : Nat} (h1 : dlen z.natAbs <= n) (h2 : dlen d <= n) (hn : 1 <= n) : rb n (mkRat z d):=by
 refine ⟨Nat.le_trans (qan (qg1 z d)) h1,?_⟩
 by_cases hd : d = 0
 ·rw [Rat.den_mkRat,if_pos hd,qgi];exact hn
 ·exact Nat.le_trans (qan (qhq z d hd)) h2
theorem qoZ : rb 1 (0 : Rat):=⟨by rw [Rat.zero_num];decide,by rw [Rat.zero_den,qgi];exact Nat.le_refl _⟩

def evM (a : Nat -> Rat) (m : Mo) : Rat:=a 0 ^ m.a.toNat * a 1 ^ m.b.toNat * a 2 ^ m.c.toNat * a 3 ^ m.d.toNat
def evT (a : Nat -> Rat) : List Tm -> Rat
 | []=>0
 | t :: l=>(t.1 : Rat) * evM a t.2 + evT a l
theorem qmS (x : Rat) (n m : Nat) : x ^ (n + m) = x ^ n * x ^ m:=by
 induction m with
 | zero=>simp
 | succ m ih=>rw [<- Nat.add_assoc,Rat.pow_succ,ih,Rat.pow_succ,Rat.mul_assoc]
def ps (x : Rat) (P : Nat -> Rat) : Nat -> Rat
 | 0=>0
 | n + 1=>ps x P n + x ^ n * P n
def hv (x : Rat) (P : Nat -> Rat) (n : Nat) : Nat -> Rat
 | 0=>0
 | j + 1=>hv x P n j * x + P (n - 1 - j)
end Go.Proofs.YtjhhekmfdhfjpaaGreat
