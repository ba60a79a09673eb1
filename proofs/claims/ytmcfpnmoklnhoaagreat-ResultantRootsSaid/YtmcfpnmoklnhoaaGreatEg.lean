/- PseudoDivide: the walk. cylinderref22.Build again: a polynomial of n nodes has degrees below n. PseudoForms: plain facts. PseudoForms: the walk. -/
import Derived.Test.YtmcfpnmoklnhoaaGreatEe
import Derived.Test.YtmcfpnmoklnhoaaGreatMi
import Derived.Test.YtmcfpnmoklnhoaaGreatBj
import Derived.Test.YtmcfpnmoklnhoaaGreatEc
import Derived.Test.YtmcfpnmoklnhoaaGreatBh
set_option linter.unusedVariables false
set_option linter.unusedSimpArgs false

namespace Go.Proofs.YtmcfpnmoklnhoaaGreat
open Go.RowKit





theorem qn8 (a b r:List Tm) (m:Mo):qab (pmul (a ++ smul (-1) b) r) m=qab (pmul a r) m - qab (pmul b r) m:=by
 rw [qav,qae]
 have : ∀ C:List Tm,qab (pmul (smul (-1) C) r) m = - qab (pmul C r) m:=by
  intro C
  induction C with
  | nil=>rfl
  | cons s C ih=>
   show qab (pmul ((-1*s.1,s.2) :: smul (-1) C) r) m=_;rw [qah,qah,ih];simp only;rw [Int.mul_assoc];omega
 rw [this];omega
theorem qbt {a b r:List Tm} (ha:NN a) (hb:NN b) (hr:NN r) (hz : ¬ Sim r []) (h:Sim (pmul a r) (pmul b r)):Sim a b:=fun m=>by
 refine Classical.byContradiction fun hc=>?_
 have hn:NN (a ++ smul (-1) b):=fun q hq=>by rw [qae,qao,ha q hq,hb q hq];rfl
 refine qdt hn hr (fun hs=>hc ?_) hz fun q=>?_
 ·have:=hs m;rw [qae,qao] at this;have h0:qab ([]:List Tm) m=0:=rfl;omega
 ·rw [qn8,h q];show _=(0:Int);omega


end Go.Proofs.YtmcfpnmoklnhoaaGreat
