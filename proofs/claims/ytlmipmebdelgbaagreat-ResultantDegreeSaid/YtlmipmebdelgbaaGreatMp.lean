/- Regions that draw their order and hold a call of yield (an iterator's body). sparse: Terms, as an iterator. sparse: Level. sparse: Total. -/
import Derived.Test.YtlmipmebdelgbaaGreatMm
import Derived.RangeFuncNested
import Derived.RangeFuncBound
import Derived.RangeFuncCalls
import Derived.RangeFuncLeaves
import Derived.Shelf.Abstract
import Derived.Shelf.RegionOpen
import Derived.OwnWalkIn
import Derived.TacticsInMore
import Derived.LoopNIn
import Derived.LoopIn
set_option linter.unusedVariables false
set_option linter.unusedSimpArgs false

namespace Go.Proofs.YtlmipmebdelgbaaGreat
open Go.RowKit

section
variable {P:Program} {ops:Array Oper} {Q:Exit->Act->World->Prop} {md:Region.Mode} {S:World->Prop} {y:Nat}
def qc4 (P:Program) (md:Region.Mode) (ops:Array Oper) (Q:Exit->Act->World->Prop) (S:World->Prop) (y:Nat):Nat->Array Bool->Act->World->Prop
 | 0,listed,a,w=>Region.ready md ops listed = []/\Q .normal a w
 | fuel+1,listed,a,w=>
  (Region.ready md ops listed = []->Q .normal a w) /\
  ∀ i ∈ Region.ready md ops listed,wpOpIn Fence.wide 2 P ops Q i (fun a' w'=>(i≠y->listed.getD y false=false->S w')/\qc4 P md ops Q S y fuel (listed.setIfInBounds i true) a' w') a w
theorem qeG : ∀ (fuel:Nat) (listed:Array Bool) (a:Act) (w:World),qc4 P md ops Q S y fuel listed a w->wpAnyIn Fence.wide 2 P md ops Q fuel listed a w
 | 0,_,_,_,h=>h
 | fuel+1,_,_,_,h=>⟨h.1,fun i hi=>wpOpIn_mono (fun a' w' h'=>qeG fuel _ a' w' h'.2) (h.2 i hi)⟩
theorem qge {o:Oper} {a:Act} {w:World} {K:Act->World->Prop} (h:Oper.wp P o a w K Q):Oper.wpIn Fence.wide 2 P o a w K Q:=by
 refine ⟨fun _ _=>trivial,?_⟩;rw [Fence.wide_round,Oper.semAt_none];unfold Oper.wp at h;generalize (execOp a.eval o).run P w=r at *
 cases r with
 | ok x w'=>
  cases x with
  | enter f args=>exact ⟨(fun h=>by cases h),callsIn_wide.2 h⟩
  | row row args=>exact ⟨(fun h=>by cases h),fun c cs _=>let ⟨v,w',r,s⟩:=h c cs;⟨v,w',r,stepsIn_wide.2 s⟩⟩
  | round l f tmps assign body=>exact False.elim h
  | _=>exact h
 | halt x w'=>cases x <;> exact h
theorem qfi {i:Nat} {o:Oper} {v:Value} {a:Act} (hi:ops[i]? = some o) (hy:YieldsIf P ops S o v a) {K:Act->World->Prop} {w:World} (hS:S w) (h:K (a.put o.dst v) w):wpOpIn Fence.wide 2 P ops Q i K a w:=by
 unfold wpOpIn;simp only [hi];rcases hy with ⟨hw,hv⟩ | ⟨hw,rfl⟩
 ·simp only [hw,if_true];refine qge ?_;simp only [Oper.wp,hv w hS,Oper.upon];exact h
 ·simp only [hw,Bool.false_eq_true,if_false];exact ⟨fun _ _=>trivial,h⟩
theorem qhF {j : Nat} {oi oj : Oper} {v : Value} (hj : ops[j]? = some oj) (hap : oi.apart ops oj = true) (hsi : ∀ cs b, oi.op ≠ .select cs b) (hsj : ∀ cs b, oj.op ≠ .select cs b)
  (hQ : ∀ c a w,Q (.panic c) (a.put oi.dst v) w->Q (.panic c) a w) {K:Act->World->Prop} {a:Act} {w:World} (hy:YieldsIf P ops S oi v a) (h:wpOpIn Fence.wide 2 P ops Q j K (a.put oi.dst v) w) :
  wpOpIn Fence.wide 2 P ops Q j (fun a' w'=>YieldsIf P ops S oi v a'/\K (a'.put oi.dst v) w') a w:=by
 obtain ⟨h1,h2,h3⟩:=Oper.apart_spec hap;have keep : ∀ (a:Act),YieldsIf P ops S oi v a -> ∀ u,YieldsIf P ops S oi v (a.put oj.dst u):=fun a hy u=>hy.of_same (execOp_put oi hsi a oj.dst u h3) (wanted_put oi a oj.dst u h3);have keepD : ∀ d,YieldsIf P ops S oi v { a with defers:=d :: a.defers }:=fun d=>hy.of_same rfl rfl;unfold wpOpIn at *;simp only [hj] at *;rw [wanted_put oj a oi.dst v h1] at h
 split
 ·rename_i hw;simp only [hw,if_true] at h;refine ⟨fun _ _=>trivial,?_⟩;have h:=h.2;rw [Fence.wide_round,Oper.semAt_none] at h ⊢;rw [execOp_put oj hsj a oi.dst v h1] at h;generalize (execOp a.eval oj).run P w=r at *
  cases r with
  | ok x w'=>
   cases x <;> simp only [Oper.uponIn] at h ⊢
   case value u=>exact ⟨keep a hy u,by rw [<- Act.put_comm a v u h2];exact h⟩
   case skip=>exact ⟨keep a hy _,by rw [<- Act.put_comm a v undef h2];exact h⟩
   case defer d=>
    refine ⟨keep _ (keepD d) _,?_⟩;rw [<- Act.put_comm _ v undef h2,<- Act.put_defers];exact h
   case enter f args=>
    refine ⟨h.1,CallsIn.mono h.2 fun e w'' he=>?_⟩
    cases e with
    | returned u=>exact ⟨keep a hy u,by rw [<- Act.put_comm a v u h2];exact he⟩
    | panicked c=>exact hQ _ _ _ he
    | outgrown=>exact he
   case row row args=>exact ⟨h.1,RowsIn.mono h.2 fun u w'' he=>⟨keep a hy u,by rw [<- Act.put_comm a v u h2];exact he⟩⟩
   case round l f tmps assign body=>
    refine ⟨h.1,RoundIn.mono h.2 fun e w'' he=>?_⟩
    cases e with
    | returned u=>exact ⟨keep a hy u,by rw [<- Act.put_comm a v u h2];exact he⟩
    | panicked c=>exact hQ _ _ _ he
    | outgrown=>exact he
  | halt x w'=>
   cases x <;> simp only [Oper.uponIn] at h ⊢
   case panic u=>exact hQ _ _ _ h
 ·rename_i hw;simp only [hw] at h;exact ⟨fun _ _=>trivial,keep a hy _,by rw [<- Act.put_comm a v undef h2];exact h.2⟩
theorem qi3 {i f:Nat} {listed:Array Bool} (hc:Cl md ops listed) (hw:qdB md ops f y i=true) (hr:i ∈ Region.ready md ops listed):listed.getD y false=false:=by
 cases h:listed.getD y false with
 | false=>rfl
 | true=>
  have h1:=qdf hc i f y hw fun o' ho' e he hb=>hc y o' ho' h e he hb;have h0:=(mem_ready.1 hr).1;rcases Nat.lt_or_ge i listed.size with h' | h'
  ·simp [h'] at h0 h1;rw [h0] at h1;cases h1
  ·simp [Array.getElem?_eq_none h'] at h1
theorem qhH {i f : Nat} {oi : Oper} {v : Value} (hi : ops[i]? = some oi) (hsel : ∀ (j : Nat) (o : Oper) cs b, ops[j]? = some o -> o.op ≠ .select cs b)
  (hQ : ∀ c a w,Q (.panic c) (a.put oi.dst v) w->Q (.panic c) a w) (hiy:i≠y) (hw:qdB md ops f y i=true) :
  ∀ (fuel:Nat) (listed:Array Bool) (a:Act) (w:World),Cl md ops listed -> 
   (∀ j oj,ops[j]? = some oj->j≠i->listed.getD j true=false->(∀ e ∈ oj.after,Region.binds md e=true->e.on≠i)->oi.apart ops oj=true) ->
   i ∈ Region.ready md ops listed->YieldsIf P ops S oi v a->S w ->
   qc4 P md ops Q S y fuel (listed.setIfInBounds i true) (a.put oi.dst v) w->qc4 P md ops Q S y (fuel+1) listed a w:=by
 intro fuel
 induction fuel with
 | zero=>
  intro listed a w _ _ hr hy hS H;refine ⟨fun h=>(by rw [h] at hr;cases hr),fun j hj=>?_⟩
  by_cases hji:j=i
  ·subst hji;exact qfi hi hy hS ⟨fun _ _=>hS,H⟩
  ·have:=ready_mono hj hji;rw [H.1] at this;cases this
 | succ fuel ih=>
  intro listed a w hcl hfree hr hy hS H;refine ⟨fun h=>(by rw [h] at hr;cases hr),fun j hj=>?_⟩
  by_cases hji:j=i
  ·subst hji;exact qfi hi hy hS ⟨fun _ _=>hS,H⟩
  ·have hjl:j≠y:=fun e=>qgy hcl hw hr (e ▸ hj);have h1:=H.2 j (ready_mono hj hji);obtain ⟨hjun,oj,hoj,hall⟩:=mem_ready.1 hj
   have hnot : ∀ e ∈ oj.after,Region.binds md e=true->e.on≠i:=fun e he hb heq=>by
    have h1:=hall e he hb;have h0:=(mem_ready.1 hr).1;rw [heq] at h1;rcases Nat.lt_or_ge i listed.size with h' | h'
    ·simp [h'] at h0 h1;rw [h0] at h1;cases h1
    ·simp [Array.getElem?_eq_none h'] at h1
   have h2:=qhF hoj (hfree j oj hoj hji hjun hnot) (fun cs b=>hsel i oi cs b hi) (fun cs b=>hsel j oj cs b hoj) hQ hy h1
   have hfree' : ∀ k ok, ops[k]? = some ok -> k ≠ i -> (listed.setIfInBounds j true).getD k true = false ->
     (∀ e ∈ ok.after,Region.binds md e=true->e.on≠i)->oi.apart ops ok=true:=fun k ok hk hki hun hno=>by
    refine hfree k ok hk hki ?_ hno
    by_cases hjk:j=k
    ·subst hjk;exact hjun
    ·rw [getD_set_ne true hjk] at hun;exact hun
   have hny:=qi3 hcl hw hr
   have hny':(listed.setIfInBounds i true).getD y false=false:=by rw [getD_set_ne false hiy];exact hny
   refine wpOpIn_mono (fun a' w' h3=>⟨fun _ _=>h3.2.1 hjl hny',ih (listed.setIfInBounds j true) a' w' (hcl.step hj) hfree' (ready_mono hr (Ne.symm hji)) h3.1 (h3.2.1 hjl hny') ?_⟩) h2;rw [Array.setIfInBounds_comm _ _ hji];exact h3.2.2
theorem qb8 (i : Nat) {oi : Oper} {v : Value} {fuel : Nat} {listed : Array Bool} {a : Act} {w : World} 
  (hs:Region.noSelect ops=true) (hf:Region.free md ops listed i=true) (hr:(Region.ready md ops listed).contains i=true) (hl:qdB md ops ops.size y i=true) (hc:clB md ops listed=true) (hiy:(i == y)=false) (hS:S w)
  (hi:ops[i]? = some oi) (hwd:Region.wanted oi (yielded ops a.tmps)=true) (hy : ∀ w,S w->(execOp a.eval oi).run P w = .ok (.value v) w) (hQ : ∀ c a w,Q (.panic c) (a.put oi.dst v) w->Q (.panic c) a w)
  (h:qc4 P md ops Q S y fuel (listed.setIfInBounds i true) (a.put oi.dst v) w):qc4 P md ops Q S y (fuel+1) listed a w:=
 qhH hi (Region.noSelect_spec hs) hQ (by simpa using hiy) hl fuel listed a w (qkF hc) (Region.free_spec hi hf) (by simpa using hr) (.inl ⟨hwd,hy⟩) hS h
theorem qgh (i : Nat) {o : Oper} {fuel : Nat} {listed : Array Bool} {a : Act} {w : World} (hr : Region.ready md ops listed = [i]) (hiy : (i == y) = false) (ho : ops[i]? = some o)
  (h : ∀ K':Act->World->Prop,Shut (∀ a w,(listed.getD y false=false->S w)->qc4 P md ops Q S y fuel (listed.setIfInBounds i true) a w->K' a w)->if Region.wanted o (yielded ops a.tmps)=true then Oper.wp P o a w K' Q else K' (a.put o.dst undef) w):qc4 P md ops Q S y (fuel+1) listed a w:=by
 refine ⟨fun h0=>(by rw [h0] at hr;cases hr),fun j hj=>?_⟩;rw [hr] at hj;simp only [List.mem_singleton] at hj;subst hj;refine wpOpIn_step ho fun K' hK=>?_;have h0:=h K' fun a w h1 h2=>hK a w ⟨fun _=>h1,h2⟩
 split
 ·rename_i hw;rw [if_pos hw] at h0;exact qge h0
 ·rename_i hw;rw [if_neg hw] at h0;exact ⟨fun _ _=>trivial,h0⟩
theorem qhG {o : Oper} {fuel : Nat} {listed : Array Bool} {a : Act} {w : World} (hr : Region.ready md ops listed = [y]) (ho : ops[y]? = some o)
  (h : ∀ K':Act->World->Prop,Shut (∀ a w,qc4 P md ops Q S y fuel (listed.setIfInBounds y true) a w->K' a w)->if Region.wanted o (yielded ops a.tmps)=true then Oper.wpIn Fence.wide 2 P o a w K' Q else (∀ f,o.about P w a.eval=some f->Fence.wide.fn f)/\K' (a.put o.dst undef) w):qc4 P md ops Q S y (fuel+1) listed a w:=by
 refine ⟨fun h0=>(by rw [h0] at hr;cases hr),fun j hj=>?_⟩;rw [hr] at hj;simp only [List.mem_singleton] at hj;subst hj;exact wpOpIn_step ho fun K' hK=>h K' fun a w h1=>hK a w ⟨fun e=>absurd rfl e,h1⟩
theorem qiK {listed : Array Bool} {a : Act} {w : World} (hr : Region.ready md ops listed = []) (h : Q .normal a w) :
  ∀ fuel,qc4 P md ops Q S y fuel listed a w
 | 0=>⟨hr,h⟩
 | _+1=>⟨fun _=>h,by rw [hr];simp⟩
theorem qiI (S : World -> Prop) (y : Nat) {id : Nat} {a : Act} {w : World} (hm : P.follows .mixedOrders = true) (hS : S w.drew)
  (h:S w.drew->qc4 P .any ops Q S y ops.size (Array.replicate ops.size false) a w.drew):(Code.region id ops true).wp P Q a w:=
 wpIn_wide.1 (wpIn_region_any hm (qeG _ _ _ _ (h hS)))
end


def Kq (X:Nat->Prop) (n:Nat) (W W':World):Prop:=W.heap.size<=W'.heap.size /\ ∀ b,b<n -> ¬ X b->W'.heap[b]? = W.heap[b]?
theorem Kq.trans {X:Nat->Prop} {n:Nat} {A B C:World} (h:Kq X n A B) (k:Kq X n B C):Kq X n A C:=⟨Nat.le_trans h.1 k.1,fun b hb hx=>(k.2 b hb hx).trans (h.2 b hb hx)⟩
theorem Kq.putObj {X:Nat->Prop} {n:Nat} (W:World) (l:Nat) (o':Obj) (hl:n<=l):Kq X n W (W.putObj l o'):=
 ⟨by simp [World.putObj],fun b hb _=>World.putObj_heap_other (by omega)⟩
theorem Kq.of_ext {X:Nat->Prop} {n:Nat} {W W':World} (h:Ext W W') (hn:n<=W.heap.size):Kq X n W W':=⟨h.size,fun b hb _=>h.heap (by omega)⟩
def STm (t:Nat) (c0 c1:Value) (m:Mo) (w:World):Prop:=w.cell? ⟨t,0,none⟩=some c0/\w.cell? ⟨t,1,none⟩=some c1/\w.cell? ⟨t,2,none⟩=some (.int .i64 m.a)/\w.cell? ⟨t,3,none⟩=some (.int .i64 m.b)/\w.cell? ⟨t,4,none⟩=some (.int .i64 m.c)/\w.cell? ⟨t,5,none⟩=some (.int .i64 m.d)
theorem STm.ext {t:Nat} {c0 c1:Value} {m:Mo} {w w':World} (h:STm t c0 c1 m w) (he:Ext w w'):STm t c0 c1 m w':=by
 have h1:=World.block_lt_of_cell? _ _ h.1;unfold STm;rw [he.cell h1,he.cell h1,he.cell h1,he.cell h1,he.cell h1,he.cell h1];exact h

attribute [local go_sem] Oper.semAt_some

theorem Kq.set {X:Nat->Prop} {n:Nat} {W W':World} (h:Kq X n W W') {hb o:Nat} (hx:X hb) (u:Value):Kq X n W (W'.setCell ⟨hb,o,none⟩ u):=
 ⟨by simpa [World.setCell] using h.1,fun b hb' hn=>by rw [Below.heap_setCell _ ⟨hb,o,none⟩ _ b (fun (e:b=hb)=>hn (e ▸ hx))];exact h.2 b hb' hn⟩
end Go.Proofs.YtlmipmebdelgbaaGreat

namespace Go.Proofs.YtlmipmebdelgbaaGreat
open Go.RowKit
attribute [local go_sem] Oper.semAt_some

end Go.Proofs.YtlmipmebdelgbaaGreat
