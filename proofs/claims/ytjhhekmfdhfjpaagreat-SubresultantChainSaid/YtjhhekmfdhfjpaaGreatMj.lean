/- cylinderref22.build. cylinderref22.Build; the polynomials of the law RecpolyNormal. RecpolyNormal: the region with two calls and two new variables. RecpolyNormal: the callees' contracts at the law's polynomials. -/
import Derived.Test.YtjhhekmfdhfjpaaGreatMi
set_option linter.unusedVariables false
set_option linter.unusedSimpArgs false

namespace Go.Proofs.YtjhhekmfdhfjpaaGreat
open Go.RowKit

theorem nrm_poly_le (L n : Nat) (P : Nat → List Tm) (c : Nat) (h : ∀ i, i < n → nrm (P i) ≤ c) : nrm (poly L n P) ≤ n * c := by
 induction n with
 | zero => exact Nat.zero_le _
 | succ n ih =>
  rw [poly_succ, nrm_append, nrm_shift, Nat.add_mul, Nat.one_mul]
  have h1 := ih fun i hi => h i (by omega)
  have h2 := h n (by omega)
  omega


section
variable {M M' : Nat → Prop} {w w' : World} {x : PE} {l : List Tm}
end


section
variable {P : Program} {ops : Array Oper} {Q : Exit → Act → World → Prop} {md : Region.Mode} {S : World → Prop} {last : Nat}
end
def N2 (o7 o8 : Option Nat) : Nat → Prop := fun q => o7 = some q ∨ o8 = some q
structure R6 (l m : List Tm) (W0 : World) (o7 o8 : Option Nat) (ra rb : Option PE) (w : World) : Prop where
 ext : Ext W0 w
 b7 : ∀ g, o7 = some g → W0.heap.size ≤ g ∧ Blk w g 32 4 (arr zA)
 b8 : ∀ g, o8 = some g → W0.heap.size ≤ g ∧ Blk w g 32 4 (arr zA)
 ne : ∀ g h, o7 = some g → o8 = some h → g ≠ h
 ca : ∀ a, ra = some a → CRx (N2 o7 o8) w 4 a l
 cb : ∀ b, rb = some b → CRx (N2 o7 o8) w 4 b m
section
variable {l m : List Tm} {W0 w w' : World} {o7 o8 : Option Nat} {ra rb : Option PE} {x y : PE}
end


theorem same_b (x y : PE) (l r : List Tm) (w : World) (b : Bool) (h : PI M0 w x l) (k : PI M0 w y r) (hb : b = true ↔ Sim l r) : Calls Tryz.prog 13 #[.agg (peA x), .agg (peA y)] w fun e w' => e = .returned (.bool b) ∧ Ext w w' := by
 refine (rp_Same M0 x y l r w (mb0 w) h k).mono ?_
 rintro e w' ⟨c, rfl, hc, he⟩
 have : c = b := by
  cases c <;> cases b <;> simp_all
 exact ⟨by rw [this], he⟩
end Go.Proofs.YtjhhekmfdhfjpaaGreat
