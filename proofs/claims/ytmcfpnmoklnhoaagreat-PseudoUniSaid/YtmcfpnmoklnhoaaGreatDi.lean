/- Plain facts: degrees, leading coefficients and levels of products; the small functions of cylinderlaw23. MainvarProduct: the walk. -/
import Derived.Test.YtmcfpnmoklnhoaaGreatDh
import Derived.Test.YtmcfpnmoklnhoaaGreatMt
set_option linter.unusedVariables false
set_option linter.unusedSimpArgs false

namespace Go.Proofs.YtmcfpnmoklnhoaaGreat
open Go.RowKit

theorem qfm {k:Nat} {l:List Tm} (hl:NN l) : ∃ n,DgR k l n:=by
 have hs:=qai hl
 by_cases hn:norm l = []
 ·refine ⟨0,fun m hm=>absurd ?_ hm,.inl rfl⟩;rw [<- hs m,hn];rfl
 obtain ⟨e,he,hx⟩:=qgH k (qaG l);refine ⟨e,fun m hm=>?_,.inr ?_⟩
 ·rw [<- hs m] at hm;obtain ⟨s,hs',e2⟩ : ∃ s ∈ norm l,s.2=m:=Classical.byContradiction fun hcc=>hm (qay fun t ht e=>hcc ⟨t,ht,e⟩);rw [<- e2];exact he s hs'
 ·obtain ⟨s,hs',e2⟩:=hx.resolve_left hn;exact ⟨s.2,by rw [<- hs s.2];exact qa5 (qan l) hs',e2⟩
theorem qgQ {k n:Nat} {l:List Tm} (hl:NN l) (hz : ¬ Sim l []) (h:DgR k l n) : ∃ m,qab l m≠0/\m.get k=n:=by
 rcases h.2 with h0 | h0
 ·obtain ⟨m,hm⟩:=qbB hz;refine ⟨m,hm,?_⟩;have h1:=h.1 m hm
  have h2:m.nn=true:=by
   cases hc:m.nn with
   | true=>rfl
   | false=>exact absurd (hl m hc) hm
  have h3:=qcZ h2 k;omega
 ·exact h0
theorem qf6 {k:Nat} (h1:1<=k) (h4:k<=4) {q s:List Tm} (hq:NN q) (hs:NN s) (zq : ¬ Sim q []) (zs : ¬ Sim s []) {a b:Nat} (ha:DgR k q a) (hb:DgR k s b):DgR k (pmul q s) (a+b):=by
 have sq:=qai hq;have ss:=qai hs;have hp:Sim (pmul (norm q) (norm s)) (pmul q s):=sq.pmul ss
 have hle : ∀ {l:List Tm} {n:Nat},NN l->DgR k l n -> ∀ t ∈ norm l,t.2.get k<=(n:Int):=fun {l n} hl hd t ht=>hd.1 t.2 (by
  rw [<- qai hl t.2];exact qa5 (qan l) ht)
 refine ⟨fun m hm=>?_,.inr ?_⟩
 ·rw [<- hp m] at hm;obtain ⟨m1,g1,g2⟩:=qb5 (qdm (qan q)) hm;rw [sq m1] at g1;rw [ss] at g2;have e1:=ha.1 m1 g1;have e2:=hb.1 _ g2;rw [qbM] at e2;omega
 ·obtain ⟨m1,g1,e1⟩:=qgQ hq zq ha;obtain ⟨m2,g2,e2⟩:=qgQ hs zs hb;rw [<- sq m1] at g1;rw [<- ss m2] at g2;have c1:=qgV h1 h4 g1;have c2:=qgV h1 h4 g2;rw [e1] at c1;rw [e2] at c2;have h6:=qgU h1 h4 (e:=(a:Int)) (e':=(b:Int)) (hle hs hb) (norm q) (hle hq ha);have h7:=qaT (qbg h1 h4 (qaM (qaG q))) (qbg h1 h4 (qaM (qaG s))) c1 c2;rw [<- h6] at h7;obtain ⟨m,hm,hg⟩:=qpi h1 h4 h7;exact ⟨m,by rw [<- hp m];exact hm,by omega⟩
theorem qcx {k a b:Nat} {l:List Tm} (hl:NN l) (hz : ¬ Sim l []) (ha:DgR k l a) (hb:DgR k l b):a=b:=by
 obtain ⟨m,h1,h2⟩:=qgQ hl hz ha;obtain ⟨m',h3,h4⟩:=qgQ hl hz hb;have e1:=hb.1 m h1;have e2:=ha.1 m' h3;omega
def Occ (l:List Tm) (j:Nat):Prop:=∃ m,qab l m≠0/\0<m.get j
theorem LvR.no {l:List Tm} {k j:Nat} (h:LvR l k) (hj:k<j) (h4:j<=4) : ¬ Occ l j:=fun ⟨m,hm,hp⟩=>by have:=h.2.1 m hm j hj h4;omega
structure qx9 (f:List Tm):Prop where
 nn:NN f
 deg:Deg 6 f
 dl:dlen (nrm f)<=7


def SP3 (a b c:Nat) (x y m:PE) (w:World):Prop:=P4 w a x/\P4 w b y/\P4 w c m
theorem SP3.ext {a b c:Nat} {x y m:PE} {w w':World} (h:SP3 a b c x y m w) (he:Ext w w'):SP3 a b c x y m w':=⟨h.1.ext he,h.2.1.ext he,h.2.2.ext he⟩
theorem qiv.nn {l s:List Tm} {L:Int} (h:qiv l L s) (hl:NN l):NN s:=by
 rcases h with ⟨_,rfl⟩ | ⟨_,_,rfl⟩ | ⟨_,K,n,rfl,k1,k4,_,rfl⟩
 ·exact fun _ _=>rfl
 ·exact hl
 ·exact qbg k1 k4 hl
theorem qiv.deg {l s:List Tm} {L:Int} {B:Nat} (h:qiv l L s) (hl:Deg B l):Deg B s:=by
 rcases h with ⟨_,rfl⟩ | ⟨_,_,rfl⟩ | ⟨_,K,n,rfl,k1,k4,_,rfl⟩
 ·exact fun m hm=>absurd rfl hm
 ·exact hl
 ·exact qlS k1 k4 hl
end Go.Proofs.YtmcfpnmoklnhoaaGreat
