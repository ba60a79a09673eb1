/- Regions that draw their order and hold a call of yield (an iterator's body). sparse: Terms, as an iterator. sparse: Level. sparse: Total. -/
import Derived.Test.YtjhhekmfdhfjpaaGreatMm
import Derived.RangeFuncNested
import Derived.RangeFuncBound
import Derived.RangeFuncCalls
import Derived.RangeFuncLeaves
import Derived.Shelf.Abstract
import Derived.Shelf.RegionOpen
import Derived.OwnWalkIn
import Derived.TacticsInMore
import Derived.LoopNIn
import Derived.LoopIn
set_option linter.unusedVariables false
set_option linter.unusedSimpArgs false

namespace Go.Proofs.YtjhhekmfdhfjpaaGreat
open Go.RowKit

section
variable {P : Program} {ops : Array Oper} {Q : Exit -> Act -> World -> Prop} {md : Region.Mode} {S : World -> Prop} {y : Nat}
def qgB (P : Program) (md : Region.Mode) (ops : Array Oper) (Q : Exit -> Act -> World -> Prop) (S : World -> Prop) (y : Nat) : Nat -> Array Bool -> Act -> World -> Prop
 | 0,listed,a,w=>Region.ready md ops listed = [] /\ Q .normal a w
 | fuel + 1,listed,a,w=>
  (Region.ready md ops listed = [] -> Q .normal a w) /\
  ∀ i ∈ Region.ready md ops listed,wpOpIn Fence.wide 2 P ops Q i (fun a' w'=>(i ≠ y -> listed.getD y false = false -> S w') /\ qgB P md ops Q S y fuel (listed.setIfInBounds i true) a' w') a w
theorem qjE {o : Oper} {a : Act} {w : World} {K : Act -> World -> Prop} (h : Oper.wp P o a w K Q) : Oper.wpIn Fence.wide 2 P o a w K Q:=by
 refine ⟨fun _ _=>trivial,?_⟩
 rw [Fence.wide_round,Oper.semAt_none]
 unfold Oper.wp at h
 generalize (execOp a.eval o).run P w = r at *
 cases r with
 | ok x w'=>
  cases x with
  | enter f args=>exact ⟨(fun h=>by cases h),callsIn_wide.2 h⟩
  | row row args=>exact ⟨(fun h=>by cases h),fun c cs _=>let ⟨v,w',r,s⟩:=h c cs;⟨v,w',r,stepsIn_wide.2 s⟩⟩
  | round l f tmps assign body=>exact False.elim h
  | _=>exact h
 | halt x w'=>cases x <;> exact h
theorem qqh (i : Nat) {o : Oper} {fuel : Nat} {listed : Array Bool} {a : Act} {w : World} (hr : Region.ready md ops listed = [i]) (hiy : (i == y) = false) (ho : ops[i]? = some o)
  (h : ∀ K' : Act -> World -> Prop,Shut (∀ a w,(listed.getD y false = false -> S w) -> qgB P md ops Q S y fuel (listed.setIfInBounds i true) a w -> K' a w) -> if Region.wanted o (yielded ops a.tmps) = true then Oper.wp P o a w K' Q else K' (a.put o.dst undef) w) : qgB P md ops Q S y (fuel + 1) listed a w:=by
 refine ⟨fun h0=>(by rw [h0] at hr;cases hr),fun j hj=>?_⟩
 rw [hr] at hj
 simp only [List.mem_singleton] at hj
 subst hj
 refine wpOpIn_step ho fun K' hK=>?_
 have h0:=h K' fun a w h1 h2=>hK a w ⟨fun _=>h1,h2⟩
 split
 ·rename_i hw
  rw [if_pos hw] at h0
  exact qjE h0
 ·rename_i hw
  rw [if_neg hw] at h0
  exact ⟨fun _ _=>trivial,h0⟩
theorem qn0 {o : Oper} {fuel : Nat} {listed : Array Bool} {a : Act} {w : World} (hr : Region.ready md ops listed = [y]) (ho : ops[y]? = some o)
  (h : ∀ K' : Act -> World -> Prop,Shut (∀ a w,qgB P md ops Q S y fuel (listed.setIfInBounds y true) a w -> K' a w) -> if Region.wanted o (yielded ops a.tmps) = true then Oper.wpIn Fence.wide 2 P o a w K' Q else (∀ f,o.about P w a.eval = some f -> Fence.wide.fn f) /\ K' (a.put o.dst undef) w) : qgB P md ops Q S y (fuel + 1) listed a w:=by
 refine ⟨fun h0=>(by rw [h0] at hr;cases hr),fun j hj=>?_⟩
 rw [hr] at hj
 simp only [List.mem_singleton] at hj
 subst hj
 exact wpOpIn_step ho fun K' hK=>h K' fun a w h1=>hK a w ⟨fun e=>absurd rfl e,h1⟩
end



attribute [local go_sem] Oper.semAt_some

end Go.Proofs.YtjhhekmfdhfjpaaGreat

namespace Go.Proofs.YtjhhekmfdhfjpaaGreat
open Go.RowKit
attribute [local go_sem] Oper.semAt_some

end Go.Proofs.YtjhhekmfdhfjpaaGreat
