/- Mp -/
import Derived.Test.YtmcfpnmoklnhoaaGreatMm
import Derived.RangeFuncNested
import Derived.RangeFuncBound
import Derived.RangeFuncCalls
import Derived.RangeFuncLeaves
import Derived.Shelf.Abstract
import Derived.Shelf.RegionOpen
import Derived.OwnWalkIn
import Derived.TacticsInMore
import Derived.LoopNIn
import Derived.LoopIn
set_option linter.unusedVariables false
set_option linter.unusedSimpArgs false
namespace Go.Proofs.YtmcfpnmoklnhoaaGreat
open Go.RowKit
section
variable{P:Program}{ops:Array Oper}{Q:Exit->Act->World->Prop}{md:Region.Mode}{S:World->Prop}{y:Nat}
def Rt(P:Program)(md:Region.Mode)(ops:Array Oper)(Q:Exit->Act->World->Prop)(S:World->Prop)(y:Nat):Nat->Array Bool->Act->World->Prop
 |0,listed,a,w=>Region.ready md ops listed=[]/\Q .normal a w
 |fuel+1,listed,a,w=>
  (Region.ready md ops listed=[]->Q .normal a w)/\
  ∀i∈Region.ready md ops listed,wpOpIn Fence.wide 2 P ops Q i (λa' w'=>(i≠y->listed.getD y false=false->S w')/\Rt P md ops Q S y fuel (listed.setIfInBounds i true) a' w') a w
theorem qz6{o:Oper}{a:Act}{w:World}{K:Act->World->Prop}(h:Oper.wp P o a w K Q):Oper.wpIn Fence.wide 2 P o a w K Q:=by
 refine⟨λ_ _=>trivial,?_⟩;rw[Fence.wide_round,Oper.semAt_none];unfold Oper.wp at h;generalize (execOp a.eval o).run P w=r at*
 cases r with
 |ok x w'=>
  cases x with
  |enter f args=>exact⟨(λh=>by cases h),callsIn_wide.2 h⟩
  |row row args=>exact⟨(λh=>by cases h),λc cs _=>let ⟨v,w',r,s⟩:=h c cs;⟨v,w',r,stepsIn_wide.2 s⟩⟩
  |round l f tmps assign body=>exact False.elim h
  |_=>exact h
 |halt x w'=>cases x<;>exact h
theorem qDu(i:Nat){o:Oper}{fuel:Nat}{listed:Array Bool}{a:Act}{w:World}
 (h:∀K':Act->World->Prop,Shut (∀a w,(listed.getD y false=false->S w)->Rt P md ops Q S y fuel (listed.setIfInBounds i true) a w->K' a w)->if Region.wanted o (yielded ops a.tmps)=true then Oper.wp P o a w K' Q else K' (a.put o.dst undef) w) (hr:Region.ready md ops listed=[i]:=by kernel_rfl) (hiy:(i==y)=false:=by kernel_rfl) (ho:ops[i]?=some o:=by simp only[iL,iM,iN];rfl):Rt P md ops Q S y (fuel+1) listed a w:=by
 refine⟨λh0=>(by rw[h0]at hr;cases hr),λj hj=>?_⟩;rw[hr]at hj;simp only[List.mem_singleton]at hj;subst hj;refine wpOpIn_step ho λK' hK=>?_;have h0:=h K' λa w h1 h2=>hK a w ⟨λ_=>h1,h2⟩
 split
 ·rename_i hw;rw[if_pos hw]at h0;exact qz6 h0
 ·rename_i hw;rw[if_neg hw]at h0;exact⟨λ_ _=>trivial,h0⟩
theorem qDv{o:Oper}{fuel:Nat}{listed:Array Bool}{a:Act}{w:World}
 (h:∀K':Act->World->Prop,Shut (∀a w,Rt P md ops Q S y fuel (listed.setIfInBounds y true) a w->K' a w)->if Region.wanted o (yielded ops a.tmps)=true then Oper.wpIn Fence.wide 2 P o a w K' Q else(∀f,o.about P w a.eval=some f->Fence.wide.fn f)/\K' (a.put o.dst undef) w) (hr:Region.ready md ops listed=[y]:=by kernel_rfl) (ho:ops[y]?=some o:=by simp only[iL,iM,iN];rfl):Rt P md ops Q S y (fuel+1) listed a w:=by
 refine⟨λh0=>(by rw[h0]at hr;cases hr),λj hj=>?_⟩;rw[hr]at hj;simp only[List.mem_singleton]at hj;subst hj;exact wpOpIn_step ho λK' hK=>h K' λa w h1=>hK a w ⟨λe=>absurd rfl e,h1⟩
end
def Kq(X:Nat->Prop)(n:Nat)(W W':World):Prop:=W.heap.size<=W'.heap.size/\∀b,b<n->¬X b->W'.heap[b]?=W.heap[b]?
theorem Kq.trans{X:Nat->Prop}{n:Nat}{A B C:World}(h:Kq X n A B)(k:Kq X n B C):Kq X n A C:=⟨Nat.le_trans h.1 k.1,λb hb hx=>(k.2 b hb hx).trans (h.2 b hb hx)⟩
def TC(t:Nat)(c0 c1:Value)(m:Mo)(w:World):Prop:=w.cell? ⟨t,0,none⟩=some c0/\w.cell? ⟨t,1,none⟩=some c1/\w.cell? ⟨t,2,none⟩=some (.int .i64 m.a)/\w.cell? ⟨t,3,none⟩=some (.int .i64 m.b)/\w.cell? ⟨t,4,none⟩=some (.int .i64 m.c)/\w.cell? ⟨t,5,none⟩=some (.int .i64 m.d)
theorem TC.ext{t:Nat}{c0 c1:Value}{m:Mo}{w w':World}(h:TC t c0 c1 m w)(he:Ext w w'):TC t c0 c1 m w':=by
 have h1:=World.block_lt_of_cell? _ _ h.1;unfold TC;rw[he.cell h1,he.cell h1,he.cell h1,he.cell h1,he.cell h1,he.cell h1];exact h
attribute [local go_sem] Oper.semAt_some
end Go.Proofs.YtmcfpnmoklnhoaaGreat
namespace Go.Proofs.YtmcfpnmoklnhoaaGreat
open Go.RowKit
attribute [local go_sem] Oper.semAt_some
end Go.Proofs.YtmcfpnmoklnhoaaGreat
