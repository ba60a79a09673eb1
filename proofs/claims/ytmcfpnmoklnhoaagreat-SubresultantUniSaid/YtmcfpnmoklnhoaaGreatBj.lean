/- Bj -/
import Derived.Test.YtmcfpnmoklnhoaaGreatBh
import Derived.Test.YtmcfpnmoklnhoaaGreatMu
import Derived.Test.YtmcfpnmoklnhoaaGreatMr
set_option linter.unusedVariables false
set_option linter.unusedSimpArgs false
namespace Go.Proofs.YtmcfpnmoklnhoaaGreat
open Go.RowKit
theorem qyW{l r:List Tm}(hl:NN l)(hr:NN r)(h:norm l=norm r):ae l r:=by
 have h1:=l7 hl;have h2:=l7 hr;rw[<-h]at h2;exact h1.symm.trans h2
theorem qhm{l:List Tm}{B:Nat}(hl:NN l)(h:∀s∈l,s.2.a<=B/\s.2.b<=B/\s.2.c<=B/\s.2.d<=B):bn B l:=by
 refine(qrT (B:=B) λs hs k=>?_).bZ (l7 hl);obtain⟨h1,h2,h3,h4⟩:=h s hs;unfold Mo.get
 repeat' split
 all_goals omega
def Zp(g1 g2:Nat)(x y:PE)(w:World):Prop:=P4 w g1 x/\P4 w g2 y
theorem Zp.ext{g1 g2:Nat}{x y:PE}{w w':World}(h:Zp g1 g2 x y w)(he:Ext w w'):Zp g1 g2 x y w':=⟨h.1.ext he,h.2.ext he⟩
def Zn(g1 g2 g3:Nat)(x y v:PE)(w:World):Prop:=P4 w g1 x/\P4 w g2 y/\P4 w g3 v
theorem Zn.ext{g1 g2 g3:Nat}{x y v:PE}{w w':World}(h:Zn g1 g2 g3 x y v w)(he:Ext w w'):Zn g1 g2 g3 x y v w':=⟨h.1.ext he,h.2.1.ext he,h.2.2.ext he⟩
def EP(M:Nat->Prop)(w:World)(r p:List Tm)(er:Int)(v:PE):Prop:=(er=2/\ae r []/\v=PE.z)\/(er=0/\¬ae r []/\aI M w 4 v p)
theorem EP.ext{M:Nat->Prop}{w w':World}{r p:List Tm}{er:Int}{v:PE}(h:EP M w r p er v)(he:Ext w w'):EP M w' r p er v:=h.imp id λ⟨a,b,c⟩=>⟨a,b,c.ext he⟩
end Go.Proofs.YtmcfpnmoklnhoaaGreat
namespace Go.Proofs.YtmcfpnmoklnhoaaGreat
theorem MZ{c:Int}{l:List Tm}(h:NN l):NN (smul c l):=λm hm=>by rw[iD,h m hm,Int.mul_zero]
def qgl(p:Nat):Prop:=2<=p/\∀a b:Nat,p∣a*b->p∣a\/p∣b
def nd(p:Int)(l:List Tm):List Tm:=l.filter λt=> !decide (p∣t.1)
theorem ncd{p:Nat}{a:Int}:(p:Int)∣a↔p∣a.natAbs:=by rw[<-Int.natAbs_dvd_natAbs,Int.natAbs_natCast]
theorem qgl.int{p:Nat}(hp:qgl p){a b:Int}(h:(p:Int)∣a*b):(p:Int)∣a\/(p:Int)∣b:=by
 have h1:p∣a.natAbs*b.natAbs:=by rw[<-Int.natAbs_mul];exact ncd.1 h
 exact(hp.2 _ _ h1).imp (λh=>ncd.2 h) (λh=>ncd.2 h)
end Go.Proofs.YtmcfpnmoklnhoaaGreat
