/- A range over a function whose body ends normally, where each element comes with what holds of it in the world (a number that has just been made). sparse.Terms as an iterator whose coefficients are told. integer.Neg, division.Exact. sparse.Content. Regions that draw their order, where an operation that reads no memory may come up behind the last one that counts. sparse.SignNormal. mainvar.SignNormal. -/
import Derived.Test.YtlmipmebdelgbaaGreatMp
import Derived.Test.YtlmipmebdelgbaaGreatNb
set_option linter.unusedVariables false
set_option linter.unusedSimpArgs false

namespace Go.Proofs.YtlmipmebdelgbaaGreat
open Go.RowKit

section
variable {F:Fence} {n:Nat} {P:Program} {α:Type}
end




def qgK (M:Nat->Prop) (w:World) (y z:Int) (e:Ending) (w':World):Prop:=∃ (b:Bool) (a:Option Addr) (n p:Nat) (er:Int),e = .returned (.tuple #[.agg #[.bool b,.slice a n p],.int .i64 er]) /\
 (y.tmod z=0->er=0/\qbA M w' (.bool b) (.slice a n p) (y.tdiv z))/\(y.tmod z≠0->er=3/\qbA M w' (.bool b) (.slice a n p) 0)/\Ext w w'
set_option maxRecDepth 100000 in
set_option maxHeartbeats 4000000 in
theorem qnN {M : Nat -> Prop} (b : Bool) (a : Option Addr) (n p : Nat) (y : Int) (b' : Bool) (a' : Option Addr) (n' p' : Nat) (z : Int) (w : World) (hM : Mb M w) (h : qbt M w (.bool b) (.slice a n p) y) (h' : qbt M w (.bool b') (.slice a' n' p') z) (hz : z ≠ 0) (hL : dlen y.natAbs + 1 <= 1099511627776) :
  Calls Tryz.prog 87 #[.agg #[.bool b,.slice a n p],.agg #[.bool b',.slice a' n' p']] w (qgK M w y z):=by
 have hB0:=((Blk.of_arr w #[.bool b,.slice a n p] 30 2 rfl).alloc (.cells #[.bool b',.slice a' n' p'] 30)).alloc (.cells zI 30)
 have hB1:=(Blk.of_arr (w.alloc (.cells #[.bool b,.slice a n p] 30)) #[.bool b',.slice a' n' p'] 30 2 rfl).alloc (.cells zI 30)
 have hB2:=Blk.of_arr ((w.alloc (.cells #[.bool b,.slice a n p] 30)).alloc (.cells #[.bool b',.slice a' n' p'] 30)) zI 30 2 rfl
 have hE0:Ext w (((w.alloc (.cells #[.bool b,.slice a n p] 30)).alloc (.cells #[.bool b',.slice a' n' p'] 30)).alloc (.cells zI 30)):=(((Ext.refl w).alloc _).alloc _).alloc _
 simp only [World.size_alloc] at hB1 hB2
 have hM0:Mb (Mx M w.heap.size (w.heap.size+3)) (((w.alloc (.cells #[.bool b,.slice a n p] 30)).alloc (.cells #[.bool b',.slice a' n' p'] 30)).alloc (.cells zI 30)):=Mx.mb hM (by simp;omega) (by simp)
 have h0:=(h.more (M':=Mx M w.heap.size (w.heap.size+3)) (Mx.more (Nat.le_refl _))).ext hE0
 have h0':=(h'.more (M':=Mx M w.heap.size (w.heap.size+3)) (Mx.more (Nat.le_refl _))).ext hE0
 generalize hW0:((w.alloc (.cells #[.bool b,.slice a n p] 30)).alloc (.cells #[.bool b',.slice a' n' p'] 30)).alloc (.cells zI 30)=W0 at *
 have HW0:=Lib.hid hW0
 have HB2:=Lib.hid hB2
 have HE0:=Lib.hid hE0
 have HM0:=Lib.hid hM0
 have c0:=hB0.cell (i:=0) (by omega)
 have c1:=hB0.cell (i:=1) (by omega)
 have c2:=hB1.cell (i:=0) (by omega)
 have c3:=hB1.cell (i:=1) (by omega)
 simp only [arr] at c0 c1 c2 c3
 have g0:=hB0.lt
 have g1:=hB1.lt
 have CTR:=Lib.hid (qrB b a n p y b' a' n' p' z W0 hM0 h0 h0' hz hL)
 clear h h' hM hW0 hB0 hB1 hB2 hE0 hM0 h0 h0' hz hL
 go_enter Tryz.func87,Tryz.ntmps87
 go_upto_region 1 with (fail)
 rw [HW0.out]
 go_wp2_with (fail)
 refine CTR.out.mono ?_
 rintro e w1 ⟨qb,qa,qn,qp,rb,ra,rn,rp,rfl,hq,hr,he1⟩
 clear CTR c0 c1 c2 c3 g0 g1
 go_upto_region 2 with (fail)
 have hG1:=(Blk.of_arr w1 #[.bool qb,.slice qa qn qp] 30 2 rfl).alloc (.cells #[.bool rb,.slice ra rn rp] 30)
 have hG2:=Blk.of_arr (w1.alloc (.cells #[.bool qb,.slice qa qn qp] 30)) #[.bool rb,.slice ra rn rp] 30 2 rfl
 have hEA:Ext w1 ((w1.alloc (.cells #[.bool qb,.slice qa qn qp] 30)).alloc (.cells #[.bool rb,.slice ra rn rp] 30)):=((Ext.refl _).alloc _).alloc _
 simp only [World.size_alloc] at hG2
 have hq2:=hq.ext hEA
 have hr2:=hr.ext hEA
 have hb2:=(HB2.out.ext he1).ext hEA
 have hE1:=he1.trans hEA
 have hng:w.heap.size+3<=w1.heap.size:=by have:=(HB2.out.ext he1).lt;omega
 generalize hG:w1.heap.size=G at *
 generalize hW1:(w1.alloc (.cells #[.bool qb,.slice qa qn qp] 30)).alloc (.cells #[.bool rb,.slice ra rn rp] 30)=W1 at *
 have c0:=hG1.cell (i:=0) (by omega)
 have c1:=hG1.cell (i:=1) (by omega)
 have c2:=hG2.cell (i:=0) (by omega)
 have c3:=hG2.cell (i:=1) (by omega)
 simp only [arr] at c0 c1 c2 c3
 have g1:=hG1.lt
 have g2:=hG2.lt
 have HQ:=Lib.hid hq2
 have HB:=Lib.hid hb2
 have HE1:=Lib.hid hE1
 have CT2:=Lib.hid (qhr rb ra rn rp (y.tmod z) W1 hr2.toV)
 have HG1:=Lib.hid hG1
 clear hG1 hG2 hEA hq2 hr2 hb2 hE1 hG hW1 hq hr he1
 go_wp2_with (fail)
 refine CT2.out.mono ?_
 rintro e w2 ⟨rfl,he2⟩
 clear CT2 c2 c3 g2
 by_cases hm:y.tmod z=0
 ·have hmd:decide (y.tmod z=0)=true:=by simp [hm]
  have HMZ:=Lib.hid hm
  clear hm
  obtain ⟨⟨q0,q1,f0,f1⟩,⟨r0,r1⟩,hkp,hext⟩:=qii (M':=Mx M w.heap.size (w.heap.size+3)) (w:=w) (.bool qb) (.slice qa qn qp) (HB.out.ext he2) (Mx.at (by omega)) (by omega) ((HE0.out.trans HE1.out).trans he2)
  have HF:Hid (qgK M w y z (.returned (.tuple #[.agg #[.bool qb,.slice qa qn qp],.int .i64 0])) ((w2.setCell ⟨w.heap.size+1+1,0,none⟩ (.bool qb)).setCell ⟨w.heap.size+1+1,1,none⟩ (.slice qa qn qp))):=
   ⟨_,_,_,_,0,rfl,fun _=>⟨rfl,((HQ.out.ext he2).kp hkp).more Mx.less⟩,fun h=>absurd HMZ.out h,hext⟩
  rw [<- he2.cell g1] at c0 c1
  have g1':=Nat.lt_of_lt_of_le g1 he2.size
  simp only [arr] at q0 q1
  clear hkp hext g1 he2
  go_wp2
  exact bodyPost_ret (v:=.tuple #[.agg #[.bool qb,.slice qa qn qp],.int .i64 0]) (by simp [results,Tryz.results87,go_sem,r0,r1]) rfl HF.out
 ·have hmd:decide (y.tmod z=0)=false:=by simp [hm]
  have HMZ:=Lib.hid hm
  clear hm c0 c1 g1
  obtain ⟨⟨q0,q1,f0,f1⟩,⟨r0,r1⟩,hkp,hext⟩:=qii (M':=Mx M w.heap.size (w.heap.size+3)) (w:=w) (.bool false) (.slice none 0 0) (HB.out.ext he2) (Mx.at (by omega)) (by omega) ((HE0.out.trans HE1.out).trans he2)
  have HF:Hid (qgK M w y z (.returned (.tuple #[.agg #[.bool false,.slice none 0 0],.int .i64 3])) ((w2.setCell ⟨w.heap.size+1+1,0,none⟩ (.bool false)).setCell ⟨w.heap.size+1+1,1,none⟩ (.slice none 0 0))):=
   ⟨_,_,_,_,3,rfl,fun h=>absurd h HMZ.out,fun _=>⟨rfl,qbA.zero _ _⟩,hext⟩
  simp only [arr] at q0 q1
  clear hkp hext he2
  go_wp2
  exact bodyPost_ret (v:=.tuple #[.agg #[.bool false,.slice none 0 0],.int .i64 3]) (by simp [results,Tryz.results87,go_sem,r0,r1]) rfl HF.out

attribute [local go_sem] Oper.semAt_some

theorem qgE {w:World} {b o:Nat} {v:Value} (h:w.cell? ⟨b,o,none⟩=some v) : ∃ q:Obj,w.heap[b]? = some q/\q.isCells=true:=by
 unfold World.cell? at h
 cases ho:w.heap[b]? with
 | none=>simp [ho] at h
 | some q=>exact ⟨q,rfl,by cases q <;> simp_all [Obj.isCells]⟩
theorem qbo.grown {M:Nat->Prop} {W W':World} {v:Value} {n:Nat} {d:Nat->Nat} {row:Option Nat} (h:qbo M W v n d) (hg:W.grownBy W' row) (hr : ∀ r,row=some r -> ∃ o:Obj,W.heap[r]? = some o/\o.isCells=false):qbo M W' v n d:=by
 obtain ⟨h1,h2,h3⟩:=h
 refine ⟨h1,h2,?_⟩
 rcases Nat.eq_zero_or_pos n with h0 | h0
 ·rcases h3 with h3 | ⟨b,off,cap,hv,hn,hc,hb,hcell⟩
  ·exact .inl h3
  ·exact .inr ⟨b,off,cap,hv,hn,hc,⟨Nat.lt_of_lt_of_le hb.1 hg.size,hb.2⟩,fun i hi=>by omega⟩
 ·rcases h3 with ⟨h4,_⟩ | ⟨b,off,cap,hv,hn,hc,hb,hcell⟩
  ·omega
  ·have hne : some b ≠ row := fun e => by
    obtain ⟨o,ho,hno⟩:=hr b e.symm
    obtain ⟨q,hq,hyes⟩:=qgE (hcell 0 h0)
    rw [ho] at hq;cases hq;rw [hno] at hyes;cases hyes
   exact .inr ⟨b,off,cap,hv,hn,hc,⟨Nat.lt_of_lt_of_le hb.1 hg.size,hb.2⟩,fun i hi=>by rw [World.cell?_of_block (w:=W) (hg.block b hb.1 hne)];exact hcell i hi⟩
theorem qbA.grown {M:Nat->Prop} {W W':World} {c0 c1:Value} {z:Int} {row:Option Nat} (h:qbA M W c0 c1 z) (hg:W.grownBy W' row) (hr : ∀ r,row=some r -> ∃ o:Obj,W.heap[r]? = some o/\o.isCells=false):qbA M W' c0 c1 z:=by
 obtain ⟨⟨n,d,h1,h2,h3⟩,h4⟩:=h
 exact ⟨⟨n,d,h1.grown hg hr,h2,h3⟩,h4⟩
section
variable {M M':Nat->Prop} {w w':World} {v:Value} {l:List Tm}
theorem qft.ext (h:qft M w v l) (he:Ext w w'):qft M w' v l:=by
 obtain ⟨n,z,m,c0,c1,⟨hnL,hrow⟩,h1,h2⟩:=h
 refine ⟨n,z,m,c0,c1,⟨hnL,?_⟩,h1,fun i hi=>(h2 i hi).ext he⟩
 rcases hrow with hrow | ⟨b,off,cap,hv,hn,hc,hb,hcell⟩
 ·exact .inl hrow
 ·refine .inr ⟨b,off,cap,hv,hn,hc,⟨Nat.lt_of_lt_of_le hb.1 he.size,fun h=>h⟩,fun i hi=>?_⟩
  rw [he.cell hb.1,he.cell hb.1,he.cell hb.1,he.cell hb.1,he.cell hb.1,he.cell hb.1];exact hcell i hi
theorem qft.more (h:qft M w v l) (hm : ∀ g,M' g->M g∨w.heap.size<=g):qft M' w v l:=by
 obtain ⟨n,z,m,c0,c1,h0,h1,h2⟩:=h
 exact ⟨n,z,m,c0,c1,h0,h1,fun i hi=>(h2 i hi).more hm⟩
theorem qft.form (h:qft M w v l) : ∃ a cap,v = .slice a l.length cap:=by
 obtain ⟨n,z,m,c0,c1,⟨hnL,hrow⟩,rfl,hI⟩:=h
 rw [show (tls n z m).length=n by simp [tls]]
 rcases hrow with ⟨⟨_,_,rfl,_⟩,rfl⟩ | ⟨b,off,cap,rfl,_⟩
 ·exact ⟨_,_,rfl⟩
 ·exact ⟨_,_,rfl⟩
end
end Go.Proofs.YtlmipmebdelgbaaGreat

namespace Go.Proofs.YtlmipmebdelgbaaGreat
open Go.RowKit

section
variable {P:Program} {ops:Array Oper} {Q:Exit->Act->World->Prop} {md:Region.Mode} {S:World->Prop} {last:Nat}
def wpAnyV (P:Program) (md:Region.Mode) (ops:Array Oper) (Q:Exit->Act->World->Prop) (S:World->Prop) (last:Nat):Nat->Array Bool->Act->World->Prop
 | 0,listed,a,w=>Region.ready md ops listed = []/\Q .normal a w
 | fuel+1,listed,a,w=>
  (Region.ready md ops listed = []->Q .normal a w) /\
  ∀ i ∈ Region.ready md ops listed,wpOp P ops Q i (fun a' w'=>(i≠last->listed.getD last true=false->S w')/\wpAnyV P md ops Q S last fuel (listed.setIfInBounds i true) a' w') a w
theorem wpAnyV_first {i : Nat} {oi : Oper} {v : Value} {S' : World -> Prop} (hi : ops[i]? = some oi) (hsel : ∀ (j : Nat) (o : Oper) cs b, ops[j]? = some o -> o.op ≠ .select cs b)
  (hQ : ∀ c a w,Q (.panic c) (a.put oi.dst v) w->Q (.panic c) a w) (hil:i≠last) (hw:(∀ w,S' w)∨((∀ w,S w->S' w)/\qgQ md ops last i=true)) :
  ∀ (fuel:Nat) (listed:Array Bool) (a:Act) (w:World),
   (∀ j oj,ops[j]? = some oj->j≠i->listed.getD j true=false->(∀ e ∈ oj.after,Region.binds md e=true->e.on≠i)->oi.apart ops oj=true) ->
   i ∈ Region.ready md ops listed->YieldsIf P ops S' oi v a->((∀ w,S' w)∨listed.getD last true=false)->(listed.getD last true=false->S w) ->
   wpAnyV P md ops Q S last fuel (listed.setIfInBounds i true) (a.put oi.dst v) w->wpAnyV P md ops Q S last (fuel+1) listed a w:=by
 intro fuel
 induction fuel with
 | zero=>
  intro listed a w _ hr hy hno hS H
  have hS':S' w:=hw.elim (fun h=>h w) (fun h=>hno.elim (fun k=>k w) (fun k=>h.1 w (hS k)))
  refine ⟨fun h=>(by rw [h] at hr;cases hr),fun j hj=>?_⟩
  by_cases hji:j=i
  ·subst hji;exact hy.wpOp hi hS' ⟨fun _ hl=>hS hl,H⟩
  ·have:=ready_mono hj hji
   rw [H.1] at this
   cases this
 | succ fuel ih=>
  intro listed a w hfree hr hy hno hS H
  have hS':S' w:=hw.elim (fun h=>h w) (fun h=>hno.elim (fun k=>k w) (fun k=>h.1 w (hS k)))
  refine ⟨fun h=>(by rw [h] at hr;cases hr),fun j hj=>?_⟩
  by_cases hji:j=i
  ·subst hji;exact hy.wpOp hi hS' ⟨fun _ hl=>hS hl,H⟩
  ·have h1:=H.2 j (ready_mono hj hji)
   obtain ⟨hjun,oj,hoj,hall⟩:=mem_ready.1 hj
   have hnot : ∀ e ∈ oj.after,Region.binds md e=true->e.on≠i:=fun e he hb heq=>by
    have h1:=hall e he hb
    have h0:=(mem_ready.1 hr).1
    rw [heq] at h1
    rcases Nat.lt_or_ge i listed.size with h' | h'
    ·simp [h'] at h0 h1;rw [h0] at h1;cases h1
    ·simp [Array.getElem?_eq_none h'] at h1
   have h2:=wpOp_putIf hoj (hfree j oj hoj hji hjun hnot) (fun cs b=>hsel i oi cs b hi) (fun cs b=>hsel j oj cs b hoj) hQ hy h1
   have hfree' : ∀ k ok, ops[k]? = some ok -> k ≠ i -> (listed.setIfInBounds j true).getD k true = false ->
     (∀ e ∈ ok.after,Region.binds md e=true->e.on≠i)->oi.apart ops ok=true:=fun k ok hk hki hun hno=>by
    refine hfree k ok hk hki ?_ hno
    by_cases hjk:j=k
    ·subst hjk;exact hjun
    ·rw [getD_set_ne true hjk] at hun;exact hun
   refine wpOp_mono (fun a' w' h3=>⟨fun hjl hl=>h3.2.1 hjl (by rw [getD_set_ne true hil];exact hl),ih (listed.setIfInBounds j true) a' w' hfree' (ready_mono hr (Ne.symm hji)) h3.1 ?_ ?_ ?_⟩) h2
   ·rcases hno with h | h
    ·exact .inl h
    ·rcases hw with k | ⟨_,k⟩
     ·exact .inl k
     ·refine .inr ?_
      have hjl:j≠last:=fun e=>qlw k hr (e ▸ hj)
      rw [getD_set_ne true hjl];exact h
   ·intro hl
    by_cases hjl:j=last
    ·exfalso
     subst hjl
     rcases Nat.lt_or_ge j listed.size with h' | h'
     ·simp [h'] at hl
     ·simp [Array.getElem?_eq_none h'] at hl
    ·rw [getD_set_ne true hjl] at hl
     exact h3.2.1 hjl (by rw [getD_set_ne true hil];exact hl)
   ·rw [Array.setIfInBounds_comm _ _ hji]
    exact h3.2.2
theorem wpAnyV_take (i : Nat) {oi : Oper} {v : Value} {fuel : Nat} {listed : Array Bool} {a : Act} {w : World}
  (hs:Region.noSelect ops=true) (hf:Region.free md ops listed i=true) (hr:(Region.ready md ops listed).contains i=true) (hl:(qgQ md ops last i && !(listed.getD last true) && i != last)=true) (hS:S w)
  (hi:ops[i]? = some oi) (hwd:Region.wanted oi (yielded ops a.tmps)=true) (hy : ∀ w,S w->(execOp a.eval oi).run P w = .ok (.value v) w) (hQ : ∀ c a w,Q (.panic c) (a.put oi.dst v) w->Q (.panic c) a w)
  (h:wpAnyV P md ops Q S last fuel (listed.setIfInBounds i true) (a.put oi.dst v) w):wpAnyV P md ops Q S last (fuel+1) listed a w:=by
 simp only [Bool.and_eq_true,bne_iff_ne,ne_eq,Bool.not_eq_true'] at hl
 exact wpAnyV_first (S':=S) hi (Region.noSelect_spec hs) hQ hl.2 (.inr ⟨fun _ h=>h,hl.1.1⟩) fuel listed a w (Region.free_spec hi hf) (by simpa using hr) (.inl ⟨hwd,hy⟩) (.inr hl.1.2) (fun _=>hS) h
theorem wpAnyV_pure (i : Nat) {oi : Oper} {v : Value} {fuel : Nat} {listed : Array Bool} {a : Act} {w : World}
  (hs:Region.noSelect ops=true) (hf:Region.free md ops listed i=true) (hr:(Region.ready md ops listed).contains i=true) (hl:(i != last)=true) (hS:S w)
  (hi:ops[i]? = some oi) (hwd:Region.wanted oi (yielded ops a.tmps)=true) (hy : ∀ w,(execOp a.eval oi).run P w = .ok (.value v) w) (hQ : ∀ c a w,Q (.panic c) (a.put oi.dst v) w->Q (.panic c) a w)
  (h:wpAnyV P md ops Q S last fuel (listed.setIfInBounds i true) (a.put oi.dst v) w):wpAnyV P md ops Q S last (fuel+1) listed a w:=
 wpAnyV_first (S':=fun _=>True) hi (Region.noSelect_spec hs) hQ (by simpa using hl) (.inl fun _=>trivial) fuel listed a w (Region.free_spec hi hf) (by simpa using hr) (.inl ⟨hwd,fun w _=>hy w⟩) (.inl fun _=>trivial) (fun _=>hS) h
end




end Go.Proofs.YtlmipmebdelgbaaGreat
