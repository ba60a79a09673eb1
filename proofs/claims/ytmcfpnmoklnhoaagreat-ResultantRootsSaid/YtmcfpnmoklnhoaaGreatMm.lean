/- sparse: a gather as an account of a list of terms; Add. sparse: Scale, Neg, Sub. Regions that draw their order: the last operation may wait for the others through others. sparse: Mul. recpoly: Sub, Neg. -/
import Derived.Test.YtmcfpnmoklnhoaaGreatMh
set_option linter.unusedVariables false
set_option maxRecDepth 100000
set_option maxHeartbeats 400000000
set_option linter.unusedSimpArgs false

namespace Go.Proofs.YtmcfpnmoklnhoaaGreat
open Go.RowKit





section
variable {P:Program} {ops:Array Oper} {Q:Exit->Act->World->Prop} {md:Region.Mode} {S:World->Prop} {last:Nat}
def Cl (md:Region.Mode) (ops:Array Oper) (listed:Array Bool):Prop:=∀ (j:Nat) (o:Oper),ops[j]? = some o->listed.getD j false=true -> ∀ e ∈ o.after,Region.binds md e=true->listed.getD e.on false=true
def clB (md:Region.Mode) (ops:Array Oper) (listed:Array Bool):Bool:=(List.range ops.size).all fun j=>!listed.getD j false || ((ops[j]?).map fun o=>o.after.all fun e=>!Region.binds md e || listed.getD e.on false).getD true
theorem qoR {listed:Array Bool} (h:clB md ops listed=true):Cl md ops listed:=by
 intro j o ho hl e he hb;have hj:j<ops.size:=(Array.getElem?_eq_some_iff.1 ho).1;unfold clB at h;rw [List.all_eq_true] at h;have h1:=h j (List.mem_range.2 hj);rw [hl,ho] at h1;simp only [Bool.not_true,Bool.false_or,Option.map_some,Option.getD_some,Array.all_eq_true_iff_forall_mem] at h1;have h2:=h1 e he;rw [hb] at h2;simpa using h2
def qfb (md:Region.Mode) (ops:Array Oper):Nat->Nat->Nat->Bool
 | 0,_,_=>false
 | f+1,j,i=>((ops[j]?).map fun o=>o.after.any fun e=>Region.binds md e && (e.on == i || qfb md ops f e.on i)).getD false
theorem qem {listed:Array Bool} (hc:Cl md ops listed) (i:Nat) : ∀ (f j:Nat),qfb md ops f j i=true->(∀ o,ops[j]? = some o -> ∀ e ∈ o.after,Region.binds md e=true->listed.getD e.on false=true)->listed.getD i false=true
 | 0,_,h,_=>by simp [qfb] at h
 | f+1,j,h,hp=>by
  unfold qfb at h
  cases ho:ops[j]? with
  | none=>rw [ho] at h;simp at h
  | some o=>
   rw [ho] at h;simp only [Option.map_some,Option.getD_some,Array.any_eq_true,Bool.and_eq_true,Bool.or_eq_true,beq_iff_eq] at h;obtain ⟨k,hk,hb,he⟩:=h;have h1:=hp o ho _ (Array.getElem_mem hk) hb;rcases he with he | he
   ·rw [<- he];exact h1
   ·exact qem hc i f _ he fun o' ho' e' he' hb'=>hc _ o' ho' h1 e' he' hb'
theorem Cl.step {listed:Array Bool} (hc:Cl md ops listed) {j:Nat} (hj:j ∈ Region.ready md ops listed):Cl md ops (listed.setIfInBounds j true):=by
 intro k o ho hl e he hb
 by_cases hkj:k=j
 ·subst hkj;obtain ⟨_,o',ho',hall⟩:=mem_ready.1 hj;rw [ho] at ho';cases ho';exact getD_set_true (hall e he hb)
 ·rw [getD_set_ne false (Ne.symm hkj)] at hl;exact getD_set_true (hc k o ho hl e he hb)
theorem qkz {i f:Nat} {listed:Array Bool} (hc:Cl md ops listed) (hw:qfb md ops f last i=true) (hr:i ∈ Region.ready md ops listed):last ∉ Region.ready md ops listed:=by
 intro hl;obtain ⟨_,o,ho,hall⟩:=mem_ready.1 hl
 have h1:=qem hc i f last hw fun o' ho' e he hb=>by
  rw [ho] at ho';cases ho';exact hall e he hb
 have h0:=(mem_ready.1 hr).1;rcases Nat.lt_or_ge i listed.size with h' | h'
 ·simp [h'] at h0 h1;rw [h0] at h1;cases h1
 ·simp [Array.getElem?_eq_none h'] at h1
theorem qga {i f : Nat} {oi : Oper} {v : Value} (hi : ops[i]? = some oi) (hsel : ∀ (j : Nat) (o : Oper) cs b, ops[j]? = some o -> o.op ≠ .select cs b)
  (hQ : ∀ c a w,Q (.panic c) (a.put oi.dst v) w->Q (.panic c) a w) (hw:qfb md ops f last i=true) :
  ∀ (fuel:Nat) (listed:Array Bool) (a:Act) (w:World),Cl md ops listed -> 
   (∀ j oj,ops[j]? = some oj->j≠i->listed.getD j true=false->(∀ e ∈ oj.after,Region.binds md e=true->e.on≠i)->oi.apart ops oj=true) ->
   i ∈ Region.ready md ops listed->YieldsIf P ops S oi v a->S w ->
   qba P md ops Q S last fuel (listed.setIfInBounds i true) (a.put oi.dst v) w->qba P md ops Q S last (fuel+1) listed a w:=by
 intro fuel
 induction fuel with
 | zero=>
  intro listed a w _ _ hr hy hS H;refine ⟨fun h=>(by rw [h] at hr;cases hr),fun j hj=>?_⟩
  by_cases hji:j=i
  ·subst hji;exact hy.wpOp hi hS ⟨fun _=>hS,H⟩
  ·have:=ready_mono hj hji;rw [H.1] at this;cases this
 | succ fuel ih=>
  intro listed a w hcl hfree hr hy hS H;refine ⟨fun h=>(by rw [h] at hr;cases hr),fun j hj=>?_⟩
  by_cases hji:j=i
  ·subst hji;exact hy.wpOp hi hS ⟨fun _=>hS,H⟩
  ·have h1:=H.2 j (ready_mono hj hji);have hjl:j≠last:=fun e=>qkz hcl hw hr (e ▸ hj);obtain ⟨hjun,oj,hoj,hall⟩:=mem_ready.1 hj
   have hnot : ∀ e ∈ oj.after,Region.binds md e=true->e.on≠i:=fun e he hb heq=>by
    have h1:=hall e he hb;have h0:=(mem_ready.1 hr).1;rw [heq] at h1;rcases Nat.lt_or_ge i listed.size with h' | h'
    ·simp [h'] at h0 h1;rw [h0] at h1;cases h1
    ·simp [Array.getElem?_eq_none h'] at h1
   have h2:=wpOp_putIf hoj (hfree j oj hoj hji hjun hnot) (fun cs b=>hsel i oi cs b hi) (fun cs b=>hsel j oj cs b hoj) hQ hy h1
   have hfree' : ∀ k ok, ops[k]? = some ok -> k ≠ i -> (listed.setIfInBounds j true).getD k true = false ->
     (∀ e ∈ ok.after,Region.binds md e=true->e.on≠i)->oi.apart ops ok=true:=fun k ok hk hki hun hno=>by
    refine hfree k ok hk hki ?_ hno
    by_cases hjk:j=k
    ·subst hjk;exact hjun
    ·rw [getD_set_ne true hjk] at hun;exact hun
   refine wpOp_mono (fun a' w' h3=>⟨fun _=>h3.2.1 hjl,ih (listed.setIfInBounds j true) a' w' (hcl.step hj) hfree' (ready_mono hr (Ne.symm hji)) h3.1 (h3.2.1 hjl) ?_⟩) h2;rw [Array.setIfInBounds_comm _ _ hji];exact h3.2.2
theorem qaG (i : Nat) {oi : Oper} {v : Value} {fuel : Nat} {listed : Array Bool} {a : Act} {w : World} 
  (hs:Region.noSelect ops=true) (hf:Region.free md ops listed i=true) (hr:(Region.ready md ops listed).contains i=true) (hl:qfb md ops ops.size last i=true) (hc:clB md ops listed=true) (hS:S w)
  (hi:ops[i]? = some oi) (hwd:Region.wanted oi (yielded ops a.tmps)=true) (hy : ∀ w,S w->(execOp a.eval oi).run P w = .ok (.value v) w) (hQ : ∀ c a w,Q (.panic c) (a.put oi.dst v) w->Q (.panic c) a w)
  (h:qba P md ops Q S last fuel (listed.setIfInBounds i true) (a.put oi.dst v) w):qba P md ops Q S last (fuel+1) listed a w:=
 qga hi (Region.noSelect_spec hs) hQ hl fuel listed a w (qoR hc) (Region.free_spec hi hf) (by simpa using hr) (.inl ⟨hwd,hy⟩) hS h
end




theorem qji (M : Nat -> Prop) (x : PE) (l : List Tm) (B : Nat) (w : World) (hM : Mb M w) (h : PI M w x l) (hL : dlen (nrm l) + 1 <= 1099511627776) (hB : Deg B l) (hBC : B + 1 <= 1099511627776) :
  Calls Tryz.prog 116 #[.agg (peA x)] w (qa8 M w 4 (pmul l [(-1,Mo.zero)])):=by
 obtain ⟨hE0,hS0,hB0,hM0⟩:=qro hM x;have HE:=Lib.hid (hE0.trans (Ext.refl _).drew);have HS:=Lib.hid (hS0.ext (Ext.refl _).drew);have HB:=Lib.hid (hB0.ext (Ext.refl _).drew);have HM:=Lib.hid (hM0.ext (Ext.refl _).drew);have HX:=Lib.hid ((h.more (M':=Mx M w.heap.size (w.heap.size+2)) (Mx.more (Nat.le_refl _))).ext HE.out);have HD:=Lib.hid hB
 have HL:Hid (dlen (nrm l)+dlen ((-1:Int)).natAbs<=1099511627776):=by
  show _<=_;rw [show dlen ((-1:Int)).natAbs=1 by decide];exact hL
 clear hE0 hS0 hB0 hM0 h hB hL
 go_enter Tryz.func116,Tryz.ntmps116
 go_wp2;refine qad (fun w'=>P4 w' w.heap.size x) 3 (by kernel_rfl) HS.out (fun hHeld=>?_);((refine qaG 0 (oi:=?_) (v:=?_) (by kernel_rfl) (by kernel_rfl) (by kernel_rfl) (by kernel_rfl) (by kernel_rfl) (by first | exact hSn | exact hHeld) ?_ ?_ ?_ ?_ ?_;rotate_left 2;(simp only [xgA,xgB,xgC];rfl);rfl;(intro wS hSw;obtain ⟨S1,S2,S3,S4⟩:=hSw;go_simp;try with_reducible rfl);(exact fun _ _ _ h=>h);(try simp only [Act.put,xgD,xgE,xgF])));((refine qaa 1 (o:=?_) (by kernel_rfl) ?_ ?_;rotate_left 1;(simp only [xgA,xgB,xgC];rfl);intro K hK);go_simp;(refine (qer (-1) _ HM.out (by omega) (by omega)).mono ?_);rintro e_ wz ⟨e0,e1,rfl,hc,he1⟩;go_wp2_with (fail);(try clear hSn);(have hSn:=hHeld.ext he1);(refine hK.out _ _ (fun _=>hSn) ?_);clear hK K;(try simp only [Act.put,xgD,xgE,xgF]));obtain ⟨b2,a2,n2,p2,rfl,rfl⟩:=hc.form;((refine qaa 2 (o:=?_) (by kernel_rfl) ?_ ?_;rotate_left 1;(simp only [xgA,xgB,xgC];rfl);intro K hK);go_simp;(refine (qgn _ x l B b2 a2 n2 p2 (-1) _ (HM.out.ext he1) (HX.out.ext he1) hc.toV HL.out HD.out hBC).mono ?_);rintro e_ wz ⟨v,rfl,hv,he2⟩;go_wp2_with (fail);(try clear hSn);(have hSn:=hHeld.ext (he1.trans he2));(refine hK.out _ _ (fun _=>hSn) ?_);clear hK K;(try simp only [Act.put,xgD,xgE,xgF]));obtain ⟨⟨q0,q1,q2,q3⟩,⟨f0,f1,f2,f3⟩,⟨r0,r1,r2,r3⟩,HF⟩:=qbR (M:=M) (w:=w) (HB.out.ext (he1.trans he2)) (Mx.at (by omega)) (by omega) (HE.out.trans (he1.trans he2)) hv Mx.sub;((refine qaa 3 (o:=?_) (by kernel_rfl) ?_ ?_;rotate_left 1;(simp only [xgA,xgB,xgC];rfl);intro K hK);go_simp;(refine hK.out _ _ (fun h=>absurd rfl h) ?_);clear hK K;refine qac (by kernel_rfl) ?_ _)
 clear he1 he2 hc hv hHeld;go_wp2;exact bodyPost_ret (v:=.agg (peA v)) (by simp [results,Tryz.results116,go_sem,r0,r1,r2,r3]) rfl HF.out
theorem qjh (M : Nat -> Prop) (x y : PE) (l r : List Tm) (B : Nat) (w : World) (hM : Mb M w) (h : PI M w x l) (k : PI M w y r) (hL : dlen (nrm (l ++ pmul r [(-1, Mo.zero)])) <= 1099511627776) (hL2 : dlen (nrm r) + 1 <= 1099511627776) (hB : Deg B r) (hBC : B + 1 <= 1099511627776) :
  Calls Tryz.prog 38 #[.agg (peA x),.agg (peA y)] w (qa8 M w 4 (l ++ pmul r [(-1,Mo.zero)])):=by
 obtain ⟨hE0,hP0,hP1,hB0,hM0⟩:=qkb hM x y;have HE:=Lib.hid (hE0.trans (Ext.refl _).drew);have HS:Hid (SP2 w.heap.size x y _):=SP2.ext ⟨hP0,hP1⟩ (Ext.refl _).drew;have HB:=Lib.hid (hB0.ext (Ext.refl _).drew);have HM:=Lib.hid (hM0.ext (Ext.refl _).drew);have HX:=Lib.hid ((h.more (M':=Mx M w.heap.size (w.heap.size+3)) (Mx.more (Nat.le_refl _))).ext HE.out);have HY:=Lib.hid ((k.more (M':=Mx M w.heap.size (w.heap.size+3)) (Mx.more (Nat.le_refl _))).ext HE.out);have HD:=Lib.hid hB
 have HL2:Hid (dlen (nrm r)+dlen ((-1:Int)).natAbs<=1099511627776):=by
  show _<=_;rw [show dlen ((-1:Int)).natAbs=1 by decide];exact hL2
 clear hE0 hP0 hP1 hB0 hM0 h k hB hL2
 go_enter Tryz.func38,Tryz.ntmps38
 go_wp2;refine qad (SP2 w.heap.size x y) 9 (by kernel_rfl) HS.out (fun hHeld=>?_);((refine qaG 0 (oi:=?_) (v:=?_) (by kernel_rfl) (by kernel_rfl) (by kernel_rfl) (by kernel_rfl) (by kernel_rfl) (by first | exact hSn | exact hHeld) ?_ ?_ ?_ ?_ ?_;rotate_left 2;(simp only [xgA,xgB,xgC];rfl);rfl;(intro wS hSw;obtain ⟨⟨S1,S2,S3,S4⟩,S5,S6,S7,S8⟩:=hSw;go_simp;try with_reducible rfl);(exact fun _ _ _ h=>h);(try simp only [Act.put,xgD,xgE,xgF]));(refine qaG 2 (oi:=?_) (v:=?_) (by kernel_rfl) (by kernel_rfl) (by kernel_rfl) (by kernel_rfl) (by kernel_rfl) (by first | exact hSn | exact hHeld) ?_ ?_ ?_ ?_ ?_;rotate_left 2;(simp only [xgA,xgB,xgC];rfl);rfl;(intro wS hSw;obtain ⟨⟨S1,S2,S3,S4⟩,S5,S6,S7,S8⟩:=hSw;go_simp;try with_reducible rfl);(exact fun _ _ _ h=>h);(try simp only [Act.put,xgD,xgE,xgF])));((refine qaa 1 (o:=?_) (by kernel_rfl) ?_ ?_;rotate_left 1;(simp only [xgA,xgB,xgC];rfl);intro K hK);go_simp;(refine (qct _ x l _ HM.out HX.out).mono ?_);rintro e_ wz ⟨x1,rfl,hx1,he1⟩;go_wp2_with (fail);(try clear hSn);(have hSn:=hHeld.ext he1);(refine hK.out _ _ (fun _=>hSn) ?_);clear hK K;(try simp only [Act.put,xgD,xgE,xgF]));((refine qaa 3 (o:=?_) (by kernel_rfl) ?_ ?_;rotate_left 1;(simp only [xgA,xgB,xgC];rfl);intro K hK);go_simp;(refine (qct _ y r _ (HM.out.ext he1) (HY.out.ext he1)).mono ?_);rintro e_ wz ⟨y1,rfl,hy1,he2⟩;go_wp2_with (fail);(try clear hSn);(have hSn:=hHeld.ext (he1.trans he2));(refine hK.out _ _ (fun _=>hSn) ?_);clear hK K;(try simp only [Act.put,xgD,xgE,xgF]));have he2':=he1.trans he2
 ((refine qaa 4 (o:=?_) (by kernel_rfl) ?_ ?_;rotate_left 1;(simp only [xgA,xgB,xgC];rfl);intro K hK);go_simp;(refine (qer (-1) _ (HM.out.ext he2') (by omega) (by omega)).mono ?_);rintro e_ wz ⟨e0,e1,rfl,hc,he3⟩;go_wp2_with (fail);(try clear hSn);(have hSn:=hHeld.ext (he2'.trans he3));(refine hK.out _ _ (fun _=>hSn) ?_);clear hK K;(try simp only [Act.put,xgD,xgE,xgF]));obtain ⟨b2,a2,n2,p2,rfl,rfl⟩:=hc.form;have he3':=he2'.trans he3;((refine qaa 5 (o:=?_) (by kernel_rfl) ?_ ?_;rotate_left 1;(simp only [xgA,xgB,xgC];rfl);intro K hK);go_simp;(refine (qjg _ 4 y1 r B b2 a2 n2 p2 (-1) _ (HM.out.ext he3') (hy1.ext he3) hc.toV HL2.out HD.out hBC).mono ?_);rintro e_ wz ⟨z1,rfl,hz1,he4⟩;go_wp2_with (fail);(try clear hSn);(have hSn:=hHeld.ext (he3'.trans he4));(refine hK.out _ _ (fun _=>hSn) ?_);clear hK K;(try simp only [Act.put,xgD,xgE,xgF]));rename_i wz;have he4':=he3'.trans he4;have hM3:=HM.out.ext he4';have hkr:=qqE hM3 ((hx1.ext (he2.trans he3)).ext he4) hz1;have he5:Ext _ (wz.alloc (.cells #[.int .i64 x1.lv,.bool x1.b,.slice x1.a x1.n x1.p,.slice x1.ka x1.kn x1.kp,.int .i64 z1.lv,.bool z1.b,.slice z1.a z1.n z1.p,.slice z1.ka z1.kn z1.kp] 33)):=he4'.alloc _;(refine qaa 6 (o:=?_) (by kernel_rfl) ?_ ?_;rotate_left 1;(simp only [xgA,xgB,xgC];rfl);intro K hK);go_simp;refine hK.out _ _ (fun _=>hHeld.ext he5) ?_;clear hK K;(try simp only [Act.put,xgD,xgE,xgF]);((refine qaa 7 (o:=?_) (by kernel_rfl) ?_ ?_;rotate_left 1;(simp only [xgA,xgB,xgC];rfl);intro K hK);go_simp;(refine (qlH _ 4 _ 2 _ _ (HM.out.ext he5) hkr (by rw [qeD];exact hL)).mono ?_);rintro e_ wz ⟨u,rfl,hu,he6⟩;go_wp2_with (fail);(try clear hSn);(have hSn:=hHeld.ext (he5.trans he6));(refine hK.out _ _ (fun _=>hSn) ?_);clear hK K;(try simp only [Act.put,xgD,xgE,xgF]))
 rw [qeD] at hu;((refine qaa 8 (o:=?_) (by kernel_rfl) ?_ ?_;rotate_left 1;(simp only [xgA,xgB,xgC];rfl);intro K hK);go_simp;(refine (qel _ 4 u _ _ (HM.out.ext (he5.trans he6)) hu).mono ?_);rintro e_ wz ⟨v,rfl,hv,he7⟩;go_wp2_with (fail);(try clear hSn);(have hSn:=hHeld.ext ((he5.trans he6).trans he7));(refine hK.out _ _ (fun _=>hSn) ?_);clear hK K;(try simp only [Act.put,xgD,xgE,xgF]));obtain ⟨⟨q0,q1,q2,q3⟩,⟨f0,f1,f2,f3⟩,⟨r0,r1,r2,r3⟩,HF⟩:=qbR (M:=M) (w:=w) (HB.out.ext ((he5.trans he6).trans he7)) (Mx.at (by omega)) (by omega) (HE.out.trans ((he5.trans he6).trans he7)) hv Mx.sub;((refine qaa 9 (o:=?_) (by kernel_rfl) ?_ ?_;rotate_left 1;(simp only [xgA,xgB,xgC];rfl);intro K hK);go_simp;(refine hK.out _ _ (fun h=>absurd rfl h) ?_);clear hK K;refine qac (by kernel_rfl) ?_ _);clear he1 he2 he3 he4 he5 he6 he7 he2' he3' he4' hx1 hy1 hz1 hc hu hv hHeld hkr hM3;go_wp2;exact bodyPost_ret (v:=.agg (peA v)) (by simp [results,Tryz.results38,go_sem,r0,r1,r2,r3]) rfl HF.out
end Go.Proofs.YtmcfpnmoklnhoaaGreat
