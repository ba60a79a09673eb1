/- the fixed example of cylinderlaw24: plain facts. cylinderlaw24.fit: the walk. the small functions of cylinderlaw24; plain facts of PseudoExact. PseudoExact: the walk. Plain facts on division, second part: sign normal forms of multiples, inexact divisions, degrees of products, the lemma of Gauss. The lemma of Gauss: a primitive polynomial that divides a multiple by a number divides the polynomial. -/
import Derived.Test.YtmcfpnmoklnhoaaGreatBh
import Derived.Test.YtmcfpnmoklnhoaaGreatMu
import Derived.Test.YtmcfpnmoklnhoaaGreatMt
import Derived.Test.YtmcfpnmoklnhoaaGreatMr
set_option linter.unusedVariables false
set_option linter.unusedSimpArgs false

namespace Go.Proofs.YtmcfpnmoklnhoaaGreat
open Go.RowKit

theorem qe7 {l r:List Tm} (hl:NN l) (hr:NN r) (h:norm l=norm r):Sim l r:=by
 have h1:=qam hl;have h2:=qam hr;rw [<- h] at h2;exact h1.symm.trans h2
theorem qeT {l:List Tm} {B:Nat} (hl:NN l) (h : ∀ s ∈ l,s.2.a<=B/\s.2.b<=B/\s.2.c<=B/\s.2.d<=B):Deg B l:=by
 refine (qkT (B:=B) fun s hs k=>?_).sim (qam hl);obtain ⟨h1,h2,h3,h4⟩:=h s hs;unfold Mo.get
 repeat' split
 all_goals omega






end Go.Proofs.YtmcfpnmoklnhoaaGreat

namespace Go.Proofs.YtmcfpnmoklnhoaaGreat



def nd (p:Int) (l:List Tm):List Tm:=l.filter fun t=>!decide (p ∣ t.1)
end Go.Proofs.YtmcfpnmoklnhoaaGreat
