/- cylinderref22.build. cylinderref22.Build; the polynomials of the law RecpolyNormal. RecpolyNormal: the region with two calls and two new variables. RecpolyNormal: the callees' contracts at the law's polynomials. -/
import Derived.Test.YtjhhekmfdhfjpaaGreatMi
set_option linter.unusedVariables false
set_option linter.unusedSimpArgs false

namespace Go.Proofs.YtjhhekmfdhfjpaaGreat
open Go.RowKit



section
variable {M M' : Nat → Prop} {w w' : World} {x : PE} {l : List Tm}
end


section
variable {P : Program} {ops : Array Oper} {Q : Exit → Act → World → Prop} {md : Region.Mode} {S : World → Prop} {last : Nat}
end
section
variable {l m : List Tm} {W0 w w' : World} {o7 o8 : Option Nat} {ra rb : Option PE} {x y : PE}
end


theorem same_b (x y : PE) (l r : List Tm) (w : World) (b : Bool) (h : PI M0 w x l) (k : PI M0 w y r) (hb : b = true ↔ Sim l r) : Calls Tryz.prog 13 #[.agg (peA x), .agg (peA y)] w fun e w' => e = .returned (.bool b) ∧ Ext w w' := by
 refine (rp_Same M0 x y l r w (mb0 w) h k).mono ?_
 rintro e w' ⟨c, rfl, hc, he⟩
 have : c = b := by
  cases c <;> cases b <;> simp_all
 exact ⟨by rw [this], he⟩
end Go.Proofs.YtjhhekmfdhfjpaaGreat
