/- Plain facts: degrees, leading coefficients and levels of products; the small functions of cylinderlaw23. MainvarProduct: the walk. Arguments of the type int, opened. -/
import Derived.Test.YtmcfpnmoklnhoaaGreatDh
import Derived.Test.YtmcfpnmoklnhoaaGreatMt
import Derived.Test.YtmcfpnmoklnhoaaGreatMq
set_option linter.unusedVariables false
set_option linter.unusedSimpArgs false

namespace Go.Proofs.YtmcfpnmoklnhoaaGreat
open Go.RowKit

theorem qiS {k:Nat} {l:List Tm} (hl:NN l) : ∃ n,DgR k l n:=by
 have hs:=qam hl
 by_cases hn:norm l = []
 ·refine ⟨0,fun m hm=>absurd ?_ hm,.inl rfl⟩;rw [<- hs m,hn];rfl
 obtain ⟨e,he,hx⟩:=qgF k (qaW l);refine ⟨e,fun m hm=>?_,.inr ?_⟩
 ·rw [<- hs m] at hm;obtain ⟨s,hs',e2⟩ : ∃ s ∈ norm l,s.2=m:=Classical.byContradiction fun hcc=>hm (qaB fun t ht e=>hcc ⟨t,ht,e⟩);rw [<- e2];exact he s hs'
 ·obtain ⟨s,hs',e2⟩:=hx.resolve_left hn;exact ⟨s.2,by rw [<- hs s.2];exact qa1 (qaH l) hs',e2⟩
theorem qgV {k n:Nat} {l:List Tm} (hl:NN l) (hz : ¬ Sim l []) (h:DgR k l n) : ∃ m,qab l m≠0/\m.get k=n:=by
 rcases h.2 with h0 | h0
 ·obtain ⟨m,hm⟩:=qbM hz;refine ⟨m,hm,?_⟩;have h1:=h.1 m hm
  have h2:m.nn=true:=by
   cases hc:m.nn with
   | true=>rfl
   | false=>exact absurd (hl m hc) hm
  have h3:=qcw h2 k;omega
 ·exact h0
theorem qoH {k:Nat} (h1:1<=k) (h4:k<=4) {q s:List Tm} (hq:NN q) (hs:NN s) (zq : ¬ Sim q []) (zs : ¬ Sim s []) {a b:Nat} (ha:DgR k q a) (hb:DgR k s b):DgR k (pmul q s) (a+b):=by
 have sq:=qam hq;have ss:=qam hs;have hp:Sim (pmul (norm q) (norm s)) (pmul q s):=sq.pmul ss
 have hle : ∀ {l:List Tm} {n:Nat},NN l->DgR k l n -> ∀ t ∈ norm l,t.2.get k<=(n:Int):=fun {l n} hl hd t ht=>hd.1 t.2 (by
  rw [<- qam hl t.2];exact qa1 (qaH l) ht)
 refine ⟨fun m hm=>?_,.inr ?_⟩
 ·rw [<- hp m] at hm;obtain ⟨m1,g1,g2⟩:=qb1 (qdg (qaH q)) hm;rw [sq m1] at g1;rw [ss] at g2;have e1:=ha.1 m1 g1;have e2:=hb.1 _ g2;rw [qbG] at e2;omega
 ·obtain ⟨m1,g1,e1⟩:=qgV hq zq ha;obtain ⟨m2,g2,e2⟩:=qgV hs zs hb;rw [<- sq m1] at g1;rw [<- ss m2] at g2;have c1:=qg7 h1 h4 g1;have c2:=qg7 h1 h4 g2;rw [e1] at c1;rw [e2] at c2;have h6:=qg6 h1 h4 (e:=(a:Int)) (e':=(b:Int)) (hle hs hb) (norm q) (hle hq ha);have h7:=qdt (qb2 h1 h4 (qaT (qaW q))) (qb2 h1 h4 (qaT (qaW s))) c1 c2;rw [<- h6] at h7;obtain ⟨m,hm,hg⟩:=qoT h1 h4 h7;exact ⟨m,by rw [<- hp m];exact hm,by omega⟩
theorem qcM {k a b:Nat} {l:List Tm} (hl:NN l) (hz : ¬ Sim l []) (ha:DgR k l a) (hb:DgR k l b):a=b:=by
 obtain ⟨m,h1,h2⟩:=qgV hl hz ha;obtain ⟨m',h3,h4⟩:=qgV hl hz hb;have e1:=hb.1 m h1;have e2:=ha.1 m' h3;omega


end Go.Proofs.YtmcfpnmoklnhoaaGreat

namespace Go.Proofs.YtmcfpnmoklnhoaaGreat
open Go.ChangeShapes Go.WideShapes Go.ChangeAt Go.RowKit Go.Deep

section
variable {H:Type} {enc:TypeId × Value->H} {W:World}
end
end Go.Proofs.YtmcfpnmoklnhoaaGreat
