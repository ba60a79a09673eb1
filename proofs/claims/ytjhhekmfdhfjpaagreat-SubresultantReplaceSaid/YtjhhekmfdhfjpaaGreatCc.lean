/- PseudoInexact: the walk. -/
import Derived.Test.YtjhhekmfdhfjpaaGreatCb
import Derived.Test.YtjhhekmfdhfjpaaGreatBj
import Derived.Test.YtjhhekmfdhfjpaaGreatCa
set_option linter.unusedVariables false
set_option linter.unusedSimpArgs false

namespace Go.Proofs.YtjhhekmfdhfjpaaGreat
open Go.RowKit

section
variable {P : Program} {ops : Array Oper} {Q : Exit -> Act -> World -> Prop} {md : Region.Mode} {S : World -> Prop} {last : Nat}
theorem ts1 {i : Nat} {is : List Nat} {oi : Oper} {fuel : Nat} {listed : Array Bool} {a : Act} {w : World}
  (hc : (Region.noSelect ops && Region.free md ops listed i && (Region.ready md ops listed).contains i && qgC md ops last i) = true) (hS : S w)
  (hi : ops[i]? = some oi) (hwd : Region.wanted oi (yielded ops a.tmps) = false) (hQ : ∀ c a w,Q (.panic c) (a.put oi.dst undef) w -> Q (.panic c) a w)
  (h : TkG P md ops Q S last is fuel (listed.setIfInBounds i true) (a.put oi.dst undef) w) : TkG P md ops Q S last (i :: is) (fuel + 1) listed a w:=by
 simp only [Bool.and_eq_true] at hc
 exact ⟨qce hi (Region.noSelect_spec hc.1.1.1) hQ hc.2 fuel listed a w (Region.free_spec hi hc.1.1.2) (by simpa using hc.1.2) (.inr ⟨hwd,rfl⟩) hS h.out⟩
end
end Go.Proofs.YtjhhekmfdhfjpaaGreat
