/- Di -/
import Derived.Test.YtmcfpnmoklnhoaaGreatDe
import Derived.Test.YtmcfpnmoklnhoaaGreatMr
import Derived.Test.YtmcfpnmoklnhoaaGreatMq
set_option linter.unusedVariables false
set_option linter.unusedSimpArgs false
namespace Go.Proofs.YtmcfpnmoklnhoaaGreat
open Go.RowKit
theorem Ld{k:Nat}{l:List Tm}(hl:NN l):∃n,bD k l n:=by
 have hs:=l7 hl
 by_cases hn:norm l=[]
 ·refine⟨0,λm hm=>absurd ?_ hm,.inl rfl⟩;rw[<-hs m,hn];rfl
 obtain⟨e,he,hx⟩:=VA k (Br l);refine⟨e,λm hm=>?_,.inr ?_⟩
 ·rw[<-hs m]at hm;obtain⟨s,kC,e2⟩:∃s∈norm l,s.2=m:=Classical.byContradiction λfD=>hm (qh λt ht e=>fD ⟨t,ht,e⟩);rw[<-e2];exact he s kC
 ·obtain⟨s,kC,e2⟩:=hx.resolve_left hn;exact⟨s.2,by rw[<-hs s.2];exact IP (qZ l) kC,e2⟩
theorem OM{k n:Nat}{l:List Tm}(hl:NN l)(hz:¬ae l [])(h:bD k l n):∃m,aB l m≠0/\m.get k=n:=by
 rcases h.2 with h0|h0
 ·obtain⟨m,hm⟩:=MK hz;refine⟨m,hm,?_⟩;have h1:=h.1 m hm
  have h2:m.nn=true:=by
   cases hc:m.nn with
   |true=>rfl
   |false=>exact absurd (hl m hc) hm
  have h3:=vL h2 k;omega
 ·exact h0
theorem Uf{k:Nat}(h1:1<=k)(h4:k<=4){q s:List Tm}(hq:NN q)(hs:NN s)(zq:¬ae q [])(zs:¬ae s []){a b:Nat}(ha:bD k q a)(hb:bD k s b):bD k (ai q s) (a+b):=by
 have sq:=l7 hq;have ss:=l7 hs;have hp:ae (ai (norm q) (norm s)) (ai q s):=sq.ai ss
 have hle:∀{l:List Tm}{n:Nat},NN l->bD k l n->∀t∈norm l,t.2.get k<=(n:Int):=λ{l n} hl hd t ht=>hd.1 t.2 (by
  rw[<-l7 hl t.2];exact IP (qZ l) ht)
 refine⟨λm hm=>?_,.inr ?_⟩
 ·rw[<-hp m]at hm;obtain⟨m1,g1,g2⟩:=OJ (OG (qZ q)) hm;rw[sq m1]at g1;rw[ss]at g2;have e1:=ha.1 m1 g1;have e2:=hb.1 _ g2;rw[sJ]at e2;omega
 ·obtain⟨m1,g1,e1⟩:=OM hq zq ha;obtain⟨m2,g2,e2⟩:=OM hs zs hb;rw[<-sq m1]at g1;rw[<-ss m2]at g2;have c1:=DT h1 h4 g1;have c2:=DT h1 h4 g2;rw[e1]at c1;rw[e2]at c2;have h6:=TU h1 h4 (e:=(a:Int)) (e':=(b:Int)) (hle hs hb) (norm q) (hle hq ha);have h7:=lT (eQ h1 h4 (Aq (Br q))) (eQ h1 h4 (Aq (Br s))) c1 c2;rw[<-h6]at h7;obtain⟨m,hm,hg⟩:=TS h1 h4 h7;exact⟨m,by rw[<-hp m];exact hm,by omega⟩
theorem Le{k a b:Nat}{l:List Tm}(hl:NN l)(hz:¬ae l [])(ha:bD k l a)(hb:bD k l b):a=b:=by
 obtain⟨m,h1,h2⟩:=OM hl hz ha;obtain⟨m',h3,h4⟩:=OM hl hz hb;have e1:=hb.1 m h1;have e2:=ha.1 m' h3;omega
def Zy(a b c:Nat)(x y m:PE)(w:World):Prop:=P4 w a x/\P4 w b y/\P4 w c m
theorem Zy.ext{a b c:Nat}{x y m:PE}{w w':World}(h:Zy a b c x y m w)(he:Ext w w'):Zy a b c x y m w':=⟨h.1.ext he,h.2.1.ext he,h.2.2.ext he⟩
theorem KG.nn{l s:List Tm}{L:Int}(h:KG l L s)(hl:NN l):NN s:=by
 rcases h with⟨_,rfl⟩|⟨_,_,rfl⟩|⟨_,K,n,rfl,k1,k4,_,rfl⟩
 ·exactλ_ _=>rfl
 ·exact hl
 ·exact eQ k1 k4 hl
end Go.Proofs.YtmcfpnmoklnhoaaGreat
namespace Go.Proofs.YtmcfpnmoklnhoaaGreat
open Go.ChangeShapes Go.WideShapes Go.ChangeAt Go.RowKit Go.Deep
section
variable{H:Type}{enc:TypeId × Value->H}{W:World}
end
end Go.Proofs.YtmcfpnmoklnhoaaGreat
