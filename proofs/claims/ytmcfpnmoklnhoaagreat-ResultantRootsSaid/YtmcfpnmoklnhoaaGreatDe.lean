/- Rows of sparse polynomials; the sort of at most two equal ones. Plain facts: the order of sparse polynomials; families. mainvar.Family. cylinderlaw23.fit: the fixed example. -/
import Derived.Test.YtmcfpnmoklnhoaaGreatDa
import Derived.Test.YtmcfpnmoklnhoaaGreatNe
import Derived.Test.YtmcfpnmoklnhoaaGreatMi
import Derived.Test.YtmcfpnmoklnhoaaGreatMn
import Derived.Scope
set_option linter.unusedVariables false
set_option linter.unusedSimpArgs false

namespace Go.Proofs.YtmcfpnmoklnhoaaGreat
open Go.RowKit

structure SE where
 a:Option Addr
 n:Nat
 p:Nat
 l:List Tm
instance:Inhabited SE:=⟨⟨none,0,0,[]⟩⟩




theorem Tryz.info71:(Tryz.prog.info? 71).map (fun i=>(i.zero,i.size,i.bytes))=some (some (.slice none 0 0),1,24):=by kernel_rfl


def f23:List Tm:=[(1,⟨1,1,0,0⟩),(3,⟨0,0,0,0⟩)]
theorem qax.cel {M:Nat->Prop} {w:World} {D g N:Nat} {P:Nat->List Tm} (h:qax M w D g N P) (i:Nat) (hi:i<N) : ∃ y:PE,qaZ w g (i*4) y/\CRx M w D y (P i):=by
 obtain ⟨f,hB,hc⟩:=h;obtain ⟨x,e0,e1,e2,e3,hx,_⟩:=(hc i hi).pe;refine ⟨x,⟨?_,?_,?_,?_⟩,hx⟩
 ·rw [hB.cell (by omega),e0]
 ·rw [hB.cell (by omega),e1]
 ·rw [hB.cell (by omega),e2]
 ·rw [hB.cell (by omega),e3]
theorem qax.lt {M:Nat->Prop} {w:World} {D g N:Nat} {P:Nat->List Tm} (h:qax M w D g N P):g<w.heap.size:=by
 obtain ⟨f,hB,_⟩:=h;exact hB.lt
def S23 (g b:Nat) (z p:PE) (w:World):Prop:=qaZ w g 4 z/\P4 w b p
end Go.Proofs.YtmcfpnmoklnhoaaGreat
