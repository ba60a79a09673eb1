/- PseudoDivide: the walk. -/
import Derived.Test.YtmcfpnmoklnhoaaGreatEe
set_option linter.unusedVariables false
set_option linter.unusedSimpArgs false

namespace Go.Proofs.YtmcfpnmoklnhoaaGreat
open Go.RowKit

def SL4 (a b c d:Nat) (x y q r:PE) (w:World):Prop:=P4 w a x/\P4 w b y/\P4 w c q/\P4 w d r
theorem SL4.ext {a b c d:Nat} {x y q r:PE} {w w':World} (h:SL4 a b c d x y q r w) (he:Ext w w'):SL4 a b c d x y q r w':=⟨h.1.ext he,h.2.1.ext he,h.2.2.1.ext he,h.2.2.2.ext he⟩
def qyC (l:List Tm) (wd:World) (s15:Value) (wx:World):Prop:=∃ (a:Nat) (v:PE),s15 = .pointer (some ⟨a,0,none⟩)/\qv1 wd wx a v l
def SL5 (a b c d e:Nat) (x y q r v:PE) (w:World):Prop:=P4 w a x/\P4 w b y/\P4 w c q/\P4 w d r/\P4 w e v
theorem SL5.ext {a b c d e:Nat} {x y q r v:PE} {w w':World} (h:SL5 a b c d e x y q r v w) (he:Ext w w'):SL5 a b c d e x y q r v w':=⟨h.1.ext he,h.2.1.ext he,h.2.2.1.ext he,h.2.2.2.1.ext he,h.2.2.2.2.ext he⟩
end Go.Proofs.YtmcfpnmoklnhoaaGreat
