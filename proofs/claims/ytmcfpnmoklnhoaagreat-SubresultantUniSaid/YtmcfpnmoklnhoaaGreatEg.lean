/- Eg -/
import Derived.Test.YtmcfpnmoklnhoaaGreatEe
import Derived.Test.YtmcfpnmoklnhoaaGreatMi
import Derived.Test.YtmcfpnmoklnhoaaGreatBj
import Derived.Test.YtmcfpnmoklnhoaaGreatEc
import Derived.Test.YtmcfpnmoklnhoaaGreatBh
set_option linter.unusedVariables false
set_option linter.unusedSimpArgs false
namespace Go.Proofs.YtmcfpnmoklnhoaaGreat
open Go.RowKit
def Zv(a b c d:Nat)(x y q r:PE)(w:World):Prop:=P4 w a x/\P4 w b y/\P4 w c q/\P4 w d r
theorem Zv.ext{a b c d:Nat}{x y q r:PE}{w w':World}(h:Zv a b c d x y q r w)(he:Ext w w'):Zv a b c d x y q r w':=⟨h.1.ext he,h.2.1.ext he,h.2.2.1.ext he,h.2.2.2.ext he⟩
def Zw(a b c d e:Nat)(x y q r v:PE)(w:World):Prop:=P4 w a x/\P4 w b y/\P4 w c q/\P4 w d r/\P4 w e v
theorem Zw.ext{a b c d e:Nat}{x y q r v:PE}{w w':World}(h:Zw a b c d e x y q r v w)(he:Ext w w'):Zw a b c d e x y q r v w':=⟨h.1.ext he,h.2.1.ext he,h.2.2.1.ext he,h.2.2.2.1.ext he,h.2.2.2.2.ext he⟩
def CnL(c:Nat)(l:List Tm):Prop:=∀s∈l,s.1≠0->1<=c/\∀k,s.2.get k<=(c:Int)-1
def WL(n:Nat)(M:Nat->Prop)(w:World)(x:PE)(l:List Tm):Prop:=BT M w x l/\CnL n l
theorem WL.ext{n:Nat}{M:Nat->Prop}{w w':World}{x:PE}{l:List Tm}(h:WL n M w x l)(he:Ext w w'):WL n M w' x l:=⟨h.1.ext he,h.2⟩
theorem qxK(a b r:List Tm)(m:Mo):aB (ai (a++smul (-1) b) r) m=aB (ai a r) m-aB (ai b r) m:=by
 rw[Cw,gW]
 have:∀C:List Tm,aB (ai (smul (-1) C) r) m= -aB (ai C r) m:=by
  intro C
  induction C with
  |nil=>rfl
  |cons s C ih=>
   show aB (ai ((-1*s.1,s.2)::smul (-1) C) r) m=_;rw[um,um,ih];simp only;rw[Int.mul_assoc];omega
 rw[this];omega
theorem Q7{a b r:List Tm}(ha:NN a)(hb:NN b)(hr:NN r)(hz:¬ae r [])(h:ae (ai a r) (ai b r)):ae a b:=λm=>by
 refine Classical.byContradiction λhc=>?_
 have hn:NN (a++smul (-1) b):=λq hq=>by rw[gW,iD,ha q hq,hb q hq];rfl
 refine lT hn hr (λhs=>hc ?_) hz λq=>?_
 ·have:=hs m;rw[gW,iD]at this;have h0:aB ([]:List Tm) m=0:=rfl;omega
 ·rw[qxK,h q];show _=(0:Int);omega
def Xa(W:World)(q r s t:PE)(er xr:Int):Prop:=er=xr/\∃ql rl,aI M0 W 4 q ql/\aI M0 W 4 r rl/\aI M0 W 4 s ql/\aI M0 W 4 t rl
theorem Xa.ext{W W':World}{q r s t:PE}{er xr:Int}(h:Xa W q r s t er xr)(he:Ext W W'):Xa W' q r s t er xr:=by
 obtain⟨h1,ql,rl,h2,h3,h4,h5⟩:=h;exact⟨h1,ql,rl,h2.ext he,h3.ext he,h4.ext he,h5.ext he⟩
def Xb(W:World)(u v:PE)(er xr:Int):Prop:=er=xr/\∃ul vl,aI M0 W 4 u ul/\aI M0 W 4 v vl/\ae ul vl
theorem Xb.ext{W W':World}{u v:PE}{er xr:Int}(h:Xb W u v er xr)(he:Ext W W'):Xb W' u v er xr:=by
 obtain⟨h1,ul,vl,h2,h3,h4⟩:=h;exact⟨h1,ul,vl,h2.ext he,h3.ext he,h4⟩
def Ov(a b c d e:Nat)(x y q r v:PE)(w:World):Prop:=P4 w a x/\P4 w b y/\P4 w c q/\P4 w d r/\P4 w e v
theorem Ov.ext{a b c d e:Nat}{x y q r v:PE}{w w':World}(h:Ov a b c d e x y q r v w)(he:Ext w w'):Ov a b c d e x y q r v w':=⟨h.1.ext he,h.2.1.ext he,h.2.2.1.ext he,h.2.2.2.1.ext he,h.2.2.2.2.ext he⟩
def Zq(a b c d:Nat)(x y q r:PE)(w:World):Prop:=P4 w a x/\P4 w b y/\P4 w c q/\P4 w d r
theorem Zq.ext{a b c d:Nat}{x y q r:PE}{w w':World}(h:Zq a b c d x y q r w)(he:Ext w w'):Zq a b c d x y q r w':=⟨h.1.ext he,h.2.1.ext he,h.2.2.1.ext he,h.2.2.2.ext he⟩
def Zm(b1 b2 b3 b4 b5 b6 b7 b8 b9 TH:Nat)(x1 x2 x3 x4 x5 x6 x7 x8 x9 WC:PE)(w:World):Prop:=Ov b1 b2 b3 b4 b5 x1 x2 x3 x4 x5 w/\Ov b6 b7 b8 b9 TH x6 x7 x8 x9 WC w
theorem Zm.ext{b1 b2 b3 b4 b5 b6 b7 b8 b9 TH:Nat}{x1 x2 x3 x4 x5 x6 x7 x8 x9 WC:PE}{w w':World}(h:Zm b1 b2 b3 b4 b5 b6 b7 b8 b9 TH x1 x2 x3 x4 x5 x6 x7 x8 x9 WC w)(he:Ext w w'):Zm b1 b2 b3 b4 b5 b6 b7 b8 b9 TH x1 x2 x3 x4 x5 x6 x7 x8 x9 WC w':=⟨h.1.ext he,h.2.ext he⟩
end Go.Proofs.YtmcfpnmoklnhoaaGreat
