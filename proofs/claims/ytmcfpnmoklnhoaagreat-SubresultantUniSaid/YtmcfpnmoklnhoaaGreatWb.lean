/- Wb -/
import Derived.Test.YtmcfpnmoklnhoaaGreatWa
import Derived.Test.YtmcfpnmoklnhoaaGreatMq
set_option linter.unusedVariables false
set_option linter.unusedSimpArgs false
namespace Go.Proofs.YtmcfpnmoklnhoaaGreat
open Go.RowKit
theorem KP.low{M:Nat->Prop}{w:World}{D:Nat}{l:List Tm}{E:Int}{e:Ending}{w':World}(h:KP M w (D+1) l E e w')(hD:D+1<=4):KP M w 4 l E e w':=by
 obtain⟨y,rfl,hy,he⟩:=h;exact⟨y,rfl,hy.up hD,he⟩
def BX(w:World)(g:Nat)(x:PE)(l:List Tm):Prop:=P4 w g x/\aI M0 w 4 x l
theorem BX.ext{w w':World}{g:Nat}{x:PE}{l:List Tm}(h:BX w g x l)(he:Ext w w'):BX w' g x l:=⟨h.1.ext he,h.2.ext he⟩
theorem qgY{w:World}{x:PE}{l:List Tm}(h:aI M0 w 4 x l):BX (w.alloc (.cells (ah x) 33)) w.heap.size x l:=⟨(ak.bf w (ah x) 33 4 rfl).p4,h.ext ((Ext.refl w).alloc _)⟩
end Go.Proofs.YtmcfpnmoklnhoaaGreat
namespace Go.Proofs.YtmcfpnmoklnhoaaGreat
open Go.ChangeShapes Go.WideShapes Go.ChangeAt Go.RowKit Go.Deep
namespace pseudoUni
end pseudoUni
end Go.Proofs.YtmcfpnmoklnhoaaGreat
