/- pseudo.divideOut. pseudo.Multiplicity, pseudo.Without; the law's own times. Multiplicities: plain facts; small arguments. -/
import Derived.Test.YtjhhekmfdhfjpaaGreatCb
import Derived.Test.YtjhhekmfdhfjpaaGreatBk
import Derived.Test.YtjhhekmfdhfjpaaGreatCa
set_option linter.unusedVariables false
set_option linter.unusedSimpArgs false

namespace Go.Proofs.YtjhhekmfdhfjpaaGreat
open Go.RowKit

def NC (l : List Tm) : Prop := ∃ m k, coefAt l m ≠ 0 ∧ 1 ≤ k ∧ k ≤ 4 ∧ 0 < m.get k
structure DoS (M : Nat → Prop) (w : World) (x y : PE) (l g : List Tm) (wr : World) : Prop where
 p : P4 wr w.heap.size x
 q : Blk wr (w.heap.size + 1) 32 4 (arr (peA y))
 b : Blk wr (w.heap.size + 2) 32 4 (arr zA)
 m : Mb (Mx M w.heap.size (w.heap.size + 3)) wr
 x : PI (Mx M w.heap.size (w.heap.size + 3)) wr x l
 y : PI (Mx M w.heap.size (w.heap.size + 3)) wr y g
 e : Ext w wr
 s : w.heap.size + 3 ≤ wr.heap.size
structure DoL (M : Nat → Prop) (w : World) (x y : PE) (r s : List Tm) (wr : World) : Prop where
 p : P4 wr (w.heap.size + 1) y
 b : Blk wr (w.heap.size + 2) 32 4 (arr (peA x))
 m : Mb (Mx M w.heap.size (w.heap.size + 3)) wr
 x : CRx (Mx M w.heap.size (w.heap.size + 3)) wr 4 x r
 y : CRx (Mx M w.heap.size (w.heap.size + 3)) wr 4 y s
 e : Ext w wr
 s : w.heap.size + 3 ≤ wr.heap.size




end Go.Proofs.YtjhhekmfdhfjpaaGreat
