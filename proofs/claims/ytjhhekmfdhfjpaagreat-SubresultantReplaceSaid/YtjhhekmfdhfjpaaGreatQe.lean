/- cylinderref25.Rows. cylinderref25.Sylvester. cylinderref25.Minor. -/
import Derived.Test.YtjhhekmfdhfjpaaGreatQd
import Derived.Deep.Upon
import Derived.Deep.AppendLies
set_option linter.unusedVariables false
set_option linter.unusedSimpArgs false

namespace Go.Proofs.YtjhhekmfdhfjpaaGreat
open Go.RowKit

def qrH (M : Nat -> Prop) (base : Nat) (w : World) (v : Value) (n : Nat) (P : Nat -> List Tm) : Prop:=∃ xx,Own w base 32 4 v n (px xx) /\ ∀ j,j < n -> CRx (MR M v) w 4 (xx j) (P j)
theorem qrH.nil (M : Nat -> Prop) (base : Nat) (w : World) (P : Nat -> List Tm) : qrH M base w (.slice none 0 0) 0 P:=⟨fun _=>PE.z,Own.nil _ _ _ _ _,fun j hj=>absurd hj (Nat.not_lt_zero _)⟩
def qsf (g : Nat) (x : PE) (gp t : Nat) (q : Int) (w : World) : Prop:=P4 w g x /\ w.cell? ⟨gp,t,none⟩ = some (.int .i64 q) /\ gp < w.heap.size
theorem qsf.ext {g : Nat} {x : PE} {gp t : Nat} {q : Int} {w w' : World} (h : qsf g x gp t q w) (he : Ext w w') : qsf g x gp t q w':=⟨h.1.ext he,by rw [he.cell h.2.2];exact h.2.1,Nat.lt_of_lt_of_le h.2.2 he.size⟩




end Go.Proofs.YtjhhekmfdhfjpaaGreat
