/- Greatest common divisors by the sequence of remainders, plain. subresultant.GcdDegree answers the degree of a greatest common divisor. SubresultantGcd: the walk. The law SubresultantGcd returns true at every input, without a panic, and leaves its arguments as they were; no conditions. -/
import Derived.Test.YtmcfpnmoklnhoaaGreatTa
import Derived.Test.YtmcfpnmoklnhoaaGreatDi
import Derived.Test.YtmcfpnmoklnhoaaGreatMq
set_option linter.unusedVariables false
set_option linter.unusedSimpArgs false

namespace Go.Proofs.YtmcfpnmoklnhoaaGreat
open Go.RowKit

theorem qoI {J:Nat} {l:List Tm} (nl:NN l) (h:DgR J l 0):Fre J l:=fun m hm=>by
 have h1:=h.1 m hm
 have hnn:m.nn=true:=by
  cases hq:m.nn with
  | true=>rfl
  | false=>exact absurd (nl m hq) hm
 have:=qcw hnn J;omega
section
variable {J:Nat} (h1:1<=J) (h4:J<=4) {f g:List Tm} (nf:NN f) (ng:NN g)
include h1 h4 nf ng
end


theorem qtI : ∀ m,m<=4 -> ∀ n,n<=m->okN m n 4=true:=by decide +kernel
def SB3 (g:Nat) (x y z:PE) (w:World):Prop:=P4 w g x/\P4 w (g+1) y/\P4 w (g+2) z
theorem SB3.ext {g:Nat} {x y z:PE} {w w':World} (h:SB3 g x y z w) (he:Ext w w'):SB3 g x y z w':=⟨h.1.ext he,h.2.1.ext he,h.2.2.ext he⟩
theorem qoi (w:World) (x y z:PE):SB3 w.heap.size x y z (((w.alloc (.cells (peA x) 33)).alloc (.cells (peA y) 33)).alloc (.cells (peA z) 33)):=by
 have b1:=Blk.of_arr (w.alloc (.cells (peA x) 33)) (peA y) 33 4 rfl;have b2:=Blk.of_arr ((w.alloc (.cells (peA x) 33)).alloc (.cells (peA y) 33)) (peA z) 33 4 rfl;simp only [World.size_alloc] at b1 b2;exact ⟨(((Blk.of_arr w (peA x) 33 4 rfl).alloc _).alloc _).p4,(b1.alloc _).p4,b2.p4⟩


end Go.Proofs.YtmcfpnmoklnhoaaGreat

namespace Go.Proofs.YtmcfpnmoklnhoaaGreat
open Go.ChangeShapes Go.WideShapes Go.ChangeAt Go.RowKit Go.Deep

namespace subresultantGcd
end subresultantGcd
end Go.Proofs.YtmcfpnmoklnhoaaGreat
