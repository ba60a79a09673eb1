/- mainvar.Derivative. -/
import Derived.Test.YtmcfpnmoklnhoaaGreatDh
set_option linter.unusedVariables false
set_option linter.unusedSimpArgs false

namespace Go.Proofs.YtmcfpnmoklnhoaaGreat
open Go.RowKit

def dvC (K:Nat) (l:List Tm) (i:Nat):List Tm:=pmul (ck K (((i+1:Nat):Int)) l) [(((i+1:Nat):Int),Mo.zero)]
def qzh (l:List Tm) (L:Int) (s:List Tm):Prop:=((Sim l [] ∨ ¬ (1<=L/\L<=4))/\s = [])∨(¬ Sim l [] /\ ∃ K n:Nat,L=K/\1<=K/\K<=4/\DgR K l n/\s=poly K n (dvC K l))
def SKd (g o:Nat) (y:PE) (w:World):Prop:=qaI w g o y/\g<w.heap.size
theorem SKd.ext {g o:Nat} {y:PE} {w w':World} (h:SKd g o y w) (he:Ext w w'):SKd g o y w':=⟨h.1.ext h.2 he,Nat.lt_of_lt_of_le h.2 he.size⟩
end Go.Proofs.YtmcfpnmoklnhoaaGreat
