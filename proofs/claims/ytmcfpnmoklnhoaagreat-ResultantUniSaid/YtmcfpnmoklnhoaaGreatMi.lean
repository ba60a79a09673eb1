/- Mi -/
import Derived.Test.YtmcfpnmoklnhoaaGreatMh
set_option linter.unusedVariables false
set_option maxRecDepth 100000
set_option maxHeartbeats 400000000
set_option linter.unusedSimpArgs false
namespace Go.Proofs.YtmcfpnmoklnhoaaGreat
open Go.RowKit
def kr(lv:Int):List Tm:=if 1<=lv/\lv<=4 then[(1,xp lv.toNat 1)]else[]
theorem qeH(M:Nat->Prop)(lv:Int)(w:World)(hM:Mb M w):Calls Tryz.prog 52 #[.int .i64 lv] w (dO M w 4 (kr lv)):=by
 have hE:Ext w (w.alloc (.cells zA 33)):=(aA w).alloc _;have hB:=aG.bq w zA 33 4 rfl;have fu:Mb (Mx M w.heap.size (w.heap.size+1)) (w.alloc (.cells zA 33)):=Mx.mb hM (by simp) (by simp);have bf:=λW=>qeI lv W
 by_cases hl:1<=lv/\lv<=4
 ·have pg:gm lv=true:=by unfold gm;simp[hl]
  rw[pg]at bf;have aW:=ae bf
  have hV:kr lv=[(1,xp lv.toNat 1)]:=by unfold kr;rw[ai hl]
  obtain⟨D,rfl⟩:∃D:Nat,lv=(D:Int)+1:=⟨(lv-1).toNat,by omega⟩
  have l7:D+1<=4:=by omega
  rw[show((D:Int)+1).toNat=D+1 by omega]at hV;have HV:=ae hV;clear bf pg hl hV
  go_enter Tryz.func52,Tryz.ntmps52
  go_wp2_with (fail);refine(aW.out _).mono ?_;rintro e w1 ⟨rfl,rfl⟩;go_wp2_with (fail);refine(IQ (M:=Mx M w.heap.size (w.heap.size+1)) 1 _ fu (by omega) (by omega)).mono ?_;rintro e w2 ⟨d0,d1,rfl,hc,aJ⟩;obtain⟨b2,a2,n2,p2,rfl,rfl⟩:=hc.form;have qK:=qd0 (x:=PE.z) (y:=⟨0,b2,a2,n2,p2,none,0,0⟩) (L:=D) (fu.ext aJ) (CR.zero _ _ D) (CR.const hc D);have bg:Ext w2 (w2.alloc (.cells #[.int .i64 0,.bool false,.slice none 0 0,.slice none 0 0,.int .i64 0,.bool b2,.slice a2 n2 p2,.slice none 0 0] 33)):=(aA w2).alloc _
  have Rh:CR (Mx M w.heap.size (w.heap.size+1)) (w2.alloc (.cells #[.int .i64 0,.bool false,.slice none 0 0,.slice none 0 0,.int .i64 0,.bool b2,.slice a2 n2 p2,.slice none 0 0] 33)) 4 (.int .i64 ((D:Int)+1)) (.bool false) (.slice none 0 0) (.slice (some ⟨w2.heap.size,0,none⟩) 2 2) (kr ((D:Int)+1)):=by
   refine(CR.dh (CR.node (D:=D) (P:=λi=>if i=0 then[]else[(1,Mo.zero)]) l7 (by omega) (by omega) (aI _) (by unfold maxLen;omega) (by simp) ((fu.ext aJ).new (aI _)) (λi hi=>?_) ?_) ?_).up l7
   ·obtain⟨b,off,e,_,_,_,_,hk⟩:=eY.at qK i hi;simp only[Option.some.injEq,Addr.mk.injEq,and_true]at e;obtain⟨rfl,rfl⟩:=e;exact hk
   ·intro hs;have:=hs Mo.zero;simp[aL]at this
   ·rw[HV.out];intro m;rw[gT,gT,FY];simp[shift,aL,Mo.qfi]
  obtain⟨⟨q0,q1,q2,q3⟩,⟨f0,f1,f2,f3⟩,⟨r0,r1,r2,r3⟩,HF⟩:=iF (M:=M) (w:=w) (y:=⟨(D:Int)+1,false,none,0,0,some ⟨w2.heap.size,0,none⟩,2,2⟩) ((hB.ext aJ).ext bg) (Mx.at (by omega)) (by omega) ((hE.trans aJ).trans bg) Rh Mx.sub;clear hE hB fu aJ bg qK Rh hc;go_wp2;exact bu (v:=.agg #[.int .i64 ((D:Int)+1),.bool false,.slice none 0 0,.slice (some ⟨w2.heap.size,0,none⟩) 2 2]) (by simp[results,Tryz.results52,go_sem,r0,r1,r2,r3]) rfl HF.out
 ·have pg:gm lv=false:=by unfold gm;simp only[decide_eq_false_iff_not];exact hl
  rw[pg]at bf;have aW:=ae bf
  have HV:Hid (kr lv=[]):=by show _=_;unfold kr;rw[ah hl]
  clear bf pg hl
  go_enter Tryz.func52,Tryz.ntmps52
  go_wp2_with (fail);refine(aW.out _).mono ?_;rintro e w1 ⟨rfl,rfl⟩;go_wp2;exact bu (v:=.agg zA) (by simp[results,Tryz.results52,go_sem]) rfl ⟨PE.z,rfl,by rw[HV.out];exact CR.zero _ _ _,hE⟩
theorem qAk(L n:Nat)(P:Nat->List Tm)(c:Nat)(h:∀i,i<n->(P i).length<=c):(aQ L n P).length<=n*c:=by
 induction n with
 |zero=>simp[FY]
 |succ n ih=>
  rw[gT,List.length_append,Nat.add_mul,Nat.one_mul];have h1:=ih λi hi=>h i (by omega);have h2:=h n (by omega);simp only[shift,List.length_map];omega
theorem Vw(B:Nat):∀(d:Nat)(t:RT d),gM d t=true->BP d t->bH B (terms d t)->(terms d t).length<=(B+1)^(mq d t).toNat
 |0,_,_,_,_=>bK _
 |d+1,t,h,ho,hB=>by
  show _<=(B+1)^t.1.toNat
  by_cases hl:t.1=0
  ·rw[vV (by omega),hl];exact aI _
  ·obtain⟨g1,g2,g3,g4,g5,g6⟩:=wJ h hl;rw[yn g1.1 g1.2]at hB⊢;obtain⟨D,hD⟩:∃D:Nat,t.1.toNat=D+1:=⟨t.1.toNat-1,by omega⟩;rw[hD]at hB⊢
   have dB:∀i,i<t.2.2.1->eH D (terms d (t.2.2.2 i)):=λi hi=>by
    have:=wW h hl i hi
    rwa[hD,Nat.add_sub_cancel]at this
   cases d with
   |zero=>
    have:=(g5 0 (by omega)).2;simp[gM]at this
   |succ d=>
    have fQ:¬af (terms (d+1) (t.2.2.2 (t.2.2.1-1))) []:=λhs=>by
     obtain⟨m,hm⟩:=yO _ _ (g5 (t.2.2.1-1) (by omega)).2 (ho.2 _ (by omega)) g6;exact hm (hs m)
    obtain⟨h1,h2⟩:=Dp (by omega) (by omega) dB fQ hB;refine aR (qAk (D+1) t.2.2.1 _ ((B+1)^D) λi hi=>?_) ?_
    ·have h3:=Vw B (d+1) (t.2.2.2 i) (g5 i hi).2 (ho.2 i hi) (h2 i hi);refine aR h3 (Nat.pow_le_pow_right (by omega) ?_);have:=(g5 i hi).1;omega
    ·rw[Nat.pow_succ,Nat.mul_comm];exact Nat.mul_le_mul_left _ h1
theorem Vv(B:Nat):∀(d:Nat)(t:RT d),gM d t=true->BP d t->bH B (terms d t)->∀s∈terms d t,∀k,s.2.get k<=B
 |0,_,_,_,_,s,hs,_=>by cases hs
 |d+1,t,h,ho,hB,s,hs,k=>by
  by_cases hl:t.1=0
  ·rw[vV (by omega)]at hs;simp only[List.mem_singleton]at hs;subst hs;show Mo.zero.get k<=B;rw[uw];omega
  ·obtain⟨g1,g2,g3,g4,g5,g6⟩:=wJ h hl;rw[yn g1.1 g1.2]at hB hs;obtain⟨D,hD⟩:∃D:Nat,t.1.toNat=D+1:=⟨t.1.toNat-1,by omega⟩;rw[hD]at hB hs
   have dB:∀i,i<t.2.2.1->eH D (terms d (t.2.2.2 i)):=λi hi=>by
    have:=wW h hl i hi
    rwa[hD,Nat.add_sub_cancel]at this
   cases d with
   |zero=>
    have:=(g5 0 (by omega)).2;simp[gM]at this
   |succ d=>
    have fQ:¬af (terms (d+1) (t.2.2.2 (t.2.2.1-1))) []:=λhs=>by
     obtain⟨m,hm⟩:=yO _ _ (g5 (t.2.2.1-1) (by omega)).2 (ho.2 _ (by omega)) g6;exact hm (hs m)
    obtain⟨h1,h2⟩:=Dp (by omega) (by omega) dB fQ hB;obtain⟨i,hi,u,hu,rfl⟩:=FX hs;have h3:=Vv B (d+1) (t.2.2.2 i) (g5 i hi).2 (ho.2 i hi) (h2 i hi) u hu k;show(Mo.add u.2 (xp (D+1) (i:Int))).get k<=B;rw[iH,eQ _ _ _ (by omega) (by omega)]
    by_cases hk:k=D+1
    ·rw[ai hk,hk];have:=dB i hi u hu (D+1) (by omega) (by omega);omega
    ·rw[ah hk];omega
theorem OT{B:Nat}{l r:List Tm}(hs:af l r)(h:bH B r):bH B l:=h.dh hs.symm
theorem Qx(lv:Int):bH 1 (kr lv):=by
 unfold kr
 split
 ·rename_i h;intro m hm k
  have:m=xp lv.toNat 1:=by
   refine eF λhc=>hm ?_;simp only[aL];rw[ah (λe=>hc e.symm)];rfl
  rw[this,eQ _ _ _ (by omega) (by omega)]
  split<;>omega
 ·intro m hm;exact absurd rfl hm
abbrev M0:Nat->Prop:=λ_=>False
theorem qN(w:World):Mb M0 w:=λ_ h=>h.elim
theorem qzI(L n:Nat)(P:Nat->List Tm)(c:Nat)(h:∀i,i<n->aK (P i)<=c):aK (aQ L n P)<=n*c:=by
 induction n with
 |zero=>exact bK _
 |succ n ih=>
  rw[gT,lN,xg,Nat.add_mul,Nat.one_mul];have h1:=ih λi hi=>h i (by omega);have h2:=h n (by omega);omega
section
end
section
end
section
end
theorem qeM(x y:PE)(l r:List Tm)(w:World)(b:Bool)(h:PI M0 w x l)(k:PI M0 w y r)(hb:b=true↔af l r):Calls Tryz.prog 16 #[.agg (ak x),.agg (ak y)] w λe w'=>e=.returned (.bool b)/\Ext w w':=by
 refine(qAV M0 x y l r w (qN w) h k).mono ?_;rintro e w' ⟨c,rfl,hc,he⟩
 have:c=b:=by
  cases c<;>cases b<;>simp_all
 exact⟨by rw[this],he⟩
section
variable{P:Program}{ops:Array Oper}{Q:Exit->Act->World->Prop}{md:Region.Mode}{S:World->Prop}{last:Nat}
def Cl(md:Region.Mode)(ops:Array Oper)(listed:Array Bool):Prop:=∀(j:Nat)(o:Oper),ops[j]?=some o->listed.getD j false=true->∀e∈o.after,Region.binds md e=true->listed.getD e.on false=true
def clB(md:Region.Mode)(ops:Array Oper)(listed:Array Bool):Bool:=(List.range ops.size).all λj=> !listed.getD j false||((ops[j]?).map λo=>o.after.all λe=> !Region.binds md e||listed.getD e.on false).getD true
theorem qtv{listed:Array Bool}(h:clB md ops listed=true):Cl md ops listed:=by
 intro j o ho hl e he hb;have hj:j<ops.size:=(Array.getElem?_eq_some_iff.1 ho).1;unfold clB at h;rw[List.all_eq_true]at h;have h1:=h j (List.mem_range.2 hj);rw[hl,ho]at h1;simp only[Bool.not_true,Bool.false_or,Option.map_some,Option.getD_some,Array.all_eq_true_iff_forall_mem]at h1;have h2:=h1 e he;rw[hb]at h2;simpa using h2
def LB(md:Region.Mode)(ops:Array Oper):Nat->Nat->Nat->Bool
 |0,_,_=>false
 |f+1,j,i=>((ops[j]?).map λo=>o.after.any λe=>Region.binds md e&&(e.on==i||LB md ops f e.on i)).getD false
theorem qpO{listed:Array Bool}(hc:Cl md ops listed)(i:Nat):∀(f j:Nat),LB md ops f j i=true->(∀o,ops[j]?=some o->∀e∈o.after,Region.binds md e=true->listed.getD e.on false=true)->listed.getD i false=true
 |0,_,h,_=>by simp[LB]at h
 |f+1,j,h,hp=>by
  unfold LB at h
  cases ho:ops[j]? with
  |none=>rw[ho]at h;simp at h
  |some o=>
   rw[ho]at h;simp only[Option.map_some,Option.getD_some,Array.any_eq_true,Bool.and_eq_true,Bool.or_eq_true,beq_iff_eq]at h;obtain⟨k,hk,hb,he⟩:=h;have h1:=hp o ho _ (Array.getElem_mem hk) hb;rcases he with he|he
   ·rw[<-he];exact h1
   ·exact qpO hc i f _ he λo' FK e' wP hb'=>hc _ o' FK h1 e' wP hb'
theorem Cl.step{listed:Array Bool}(hc:Cl md ops listed){j:Nat}(hj:j∈Region.ready md ops listed):Cl md ops (listed.setIfInBounds j true):=by
 intro k o ho hl e he hb
 by_cases Ie:k=j
 ·subst Ie;obtain⟨_,o',FK,qE⟩:=mem_ready.1 hj;rw[ho]at FK;cases FK;exact getD_set_true (qE e he hb)
 ·rw[getD_set_ne false (Ne.symm Ie)]at hl;exact getD_set_true (hc k o ho hl e he hb)
theorem qzE{i f:Nat}{listed:Array Bool}(hc:Cl md ops listed)(hw:LB md ops f last i=true)(hr:i∈Region.ready md ops listed):last∉Region.ready md ops listed:=by
 intro hl;obtain⟨_,o,ho,qE⟩:=mem_ready.1 hl
 have h1:=qpO hc i f last hw λo' FK e he hb=>by
  rw[ho]at FK;cases FK;exact qE e he hb
 have h0:=(mem_ready.1 hr).1;rcases Nat.lt_or_ge i listed.size with h'|h'
 ·simp[h']at h0 h1;rw[h0]at h1;cases h1
 ·simp[Array.getElem?_eq_none h']at h1
theorem qCD{i f:Nat}{oi:Oper}{v:Value}(hi:ops[i]?=some oi)(Iu:∀(j:Nat)(o:Oper) cs b,ops[j]?=some o->o.op≠ .select cs b)
 (hQ:∀c a w,Q (.panic c) (a.put oi.dst v) w->Q (.panic c) a w) (hw:LB md ops f last i=true):
 ∀(fuel:Nat)(listed:Array Bool)(a:Act)(w:World),Cl md ops listed->
  (∀j oj,ops[j]?=some oj->j≠i->listed.getD j true=false->(∀e∈oj.after,Region.binds md e=true->e.on≠i)->oi.apart ops oj=true)->
  i∈Region.ready md ops listed->YieldsIf P ops S oi v a->S w->
  oD P md ops Q S last fuel (listed.setIfInBounds i true) (a.put oi.dst v) w->oD P md ops Q S last (fuel+1) listed a w:=by
 intro fuel
 induction fuel with
 |zero=>
  intro listed a w _ _ hr hy hS H;refine⟨λh=>(by rw[h]at hr;cases hr),λj hj=>?_⟩
  by_cases lu:j=i
  ·subst lu;exact hy.wpOp hi hS ⟨λ_=>hS,H⟩
  ·have:=ready_mono hj lu;rw[H.1]at this;cases this
 |succ fuel ih=>
  intro listed a w rY H9 hr hy hS H;refine⟨λh=>(by rw[h]at hr;cases hr),λj hj=>?_⟩
  by_cases lu:j=i
  ·subst lu;exact hy.wpOp hi hS ⟨λ_=>hS,H⟩
  ·have h1:=H.2 j (ready_mono hj lu);have wQ:j≠last:=λe=>qzE rY hw hr (e ▸ hj);obtain⟨Ic,oj,Bu,qE⟩:=mem_ready.1 hj
   have RL:∀e∈oj.after,Region.binds md e=true->e.on≠i:=λe he hb heq=>by
    have h1:=qE e he hb;have h0:=(mem_ready.1 hr).1;rw[heq]at h1;rcases Nat.lt_or_ge i listed.size with h'|h'
    ·simp[h']at h0 h1;rw[h0]at h1;cases h1
    ·simp[Array.getElem?_eq_none h']at h1
   have h2:=wpOp_putIf Bu (H9 j oj Bu lu Ic RL) (λcs b=>Iu i oi cs b hi) (λcs b=>Iu j oj cs b Bu) hQ hy h1
   have Rm:∀k ok,ops[k]?=some ok->k≠i->(listed.setIfInBounds j true).getD k true=false->
    (∀e∈ok.after,Region.binds md e=true->e.on≠i)->oi.apart ops ok=true:=λk ok hk Ry BC hno=>by
    refine H9 k ok hk Ry ?_ hno
    by_cases qJ:j=k
    ·subst qJ;exact Ic
    ·rw[getD_set_ne true qJ]at BC;exact BC
   refine wpOp_mono (λa' w' h3=>⟨λ_=>h3.2.1 wQ,ih (listed.setIfInBounds j true) a' w' (rY.step hj) Rm (ready_mono hr (Ne.symm lu)) h3.1 (h3.2.1 wQ) ?_⟩) h2;rw[Array.setIfInBounds_comm _ _ lu];exact h3.2.2
theorem Jp(i:Nat){oi:Oper}{v:Value}{fuel:Nat}{listed:Array Bool}{a:Act}{w:World}
 (hy:∀w,S w->(execOp a.eval oi).run P w=.ok (.value v) w) (h:oD P md ops Q S last fuel (listed.setIfInBounds i true) (a.put oi.dst v) w)
 (hs:Region.noSelect ops=true:=by kernel_rfl) (hf:Region.free md ops listed i=true:=by kernel_rfl) (hr:(Region.ready md ops listed).contains i=true:=by kernel_rfl) (hl:LB md ops ops.size last i=true:=by kernel_rfl) (hc:clB md ops listed=true:=by kernel_rfl) (hS:S w:=by first|exact ag|exact hHeld)
 (hi:ops[i]?=some oi:=by simp only[fC,fD,fE];rfl) (hwd:Region.wanted oi (yielded ops a.tmps)=true:=by rfl) (hQ:∀c a w,Q (.panic c) (a.put oi.dst v) w->Q (.panic c) a w:=by exactλ_ _ _ h=>h):oD P md ops Q S last (fuel+1) listed a w:=
 qCD hi (Region.noSelect_spec hs) hQ hl fuel listed a w (qtv hc) (Region.free_spec hi hf) (by simpa using hr) (.inl ⟨hwd,hy⟩) hS h
end
theorem Yn(M:Nat->Prop)(x:PE)(l:List Tm)(B:Nat)(w:World)(hM:Mb M w)(h:PI M w x l)(hL:aH (aK l)+1<=1099511627776)(hB:bH B l)(oH:B+1<=1099511627776):
 Calls Tryz.prog 116 #[.agg (ak x)] w (dO M w 4 (aF l [(-1,Mo.zero)])):=by
 obtain⟨aV,Ho,bL,dD⟩:=Kb hM x;have HE:=ae (aV.trans (aA _).drew);have HS:=ae (Ho.ext (aA _).drew);have HB:=ae (bL.ext (aA _).drew);have HM:=ae (dD.ext (aA _).drew);have HX:=ae ((h.more (M':=Mx M w.heap.size (w.heap.size+2)) (Mx.more (aI _))).ext HE.out);have HD:=ae hB
 have HL:Hid (aH (aK l)+aH ((-1:Int)).natAbs<=1099511627776):=by
  show _<=_;rw[show aH ((-1:Int)).natAbs=1 by decide];exact hL
 clear aV Ho bL dD h hB hL
 go_enter Tryz.func116,Tryz.ntmps116
 go_wp2;refine gB (λw'=>P4 w' w.heap.size x) 3 (by kernel_rfl) HS.out (λhHeld=>?_);((refine Jp 0 (v:=?_) ?_ ?_;rotate_left 1;(intro wS hSw;obtain⟨S1,S2,S3,S4⟩:=hSw;go_simp;try with_reducible rfl);(try simp only[Act.put,aB,aC,aD])));((refine aO 1 ?_;intro K hK);go_simp;(refine(IQ (-1) _ HM.out (by omega) (by omega)).mono ?_);rintro e_ wz ⟨e0,e1,rfl,hc,az⟩;go_wp2_with (fail);(try clear ag);(have ag:=hHeld.ext az);(refine hK.out _ _ (λ_=>ag) ?_);clear hK K;(try simp only[Act.put,aB,aC,aD]));obtain⟨b2,a2,n2,p2,rfl,rfl⟩:=hc.form;((refine aO 2 ?_;intro K hK);go_simp;(refine(qeF _ x l B b2 a2 n2 p2 (-1) _ (HM.out.ext az) (HX.out.ext az) hc.fB HL.out HD.out oH).mono ?_);rintro e_ wz ⟨v,rfl,hv,aJ⟩;go_wp2_with (fail);(try clear ag);(have ag:=hHeld.ext (az.trans aJ));(refine hK.out _ _ (λ_=>ag) ?_);clear hK K;(try simp only[Act.put,aB,aC,aD]));obtain⟨⟨q0,q1,q2,q3⟩,⟨f0,f1,f2,f3⟩,⟨r0,r1,r2,r3⟩,HF⟩:=iF (M:=M) (w:=w) (HB.out.ext (az.trans aJ)) (Mx.at (by omega)) (by omega) (HE.out.trans (az.trans aJ)) hv Mx.sub;((refine aO 3 ?_;intro K hK);go_simp;(refine hK.out _ _ (λh=>absurd rfl h) ?_);clear hK K;refine dX ?_);clear az aJ hc hv hHeld;go_wp2;exact bu (v:=.agg (ak v)) (by simp[results,Tryz.results116,go_sem,r0,r1,r2,r3]) rfl HF.out
theorem qeG(M:Nat->Prop)(x y:PE)(l r:List Tm)(B:Nat)(w:World)(hM:Mb M w)(h:PI M w x l)(k:PI M w y r)(hL:aH (aK (l++aF r [(-1,Mo.zero)]))<=1099511627776)(hL2:aH (aK r)+1<=1099511627776)(hB:bH B r)(oH:B+1<=1099511627776):
 Calls Tryz.prog 38 #[.agg (ak x),.agg (ak y)] w (dO M w 4 (l++aF r [(-1,Mo.zero)])):=by
 obtain⟨aV,Hl,vH,bL,dD⟩:=yN hM x y;have HE:=ae (aV.trans (aA _).drew);have HS:Hid (jU w.heap.size x y _):=jU.ext ⟨Hl,vH⟩ (aA _).drew;have HB:=ae (bL.ext (aA _).drew);have HM:=ae (dD.ext (aA _).drew);have HX:=ae ((h.more (M':=Mx M w.heap.size (w.heap.size+3)) (Mx.more (aI _))).ext HE.out);have HY:=ae ((k.more (M':=Mx M w.heap.size (w.heap.size+3)) (Mx.more (aI _))).ext HE.out);have HD:=ae hB
 have UE:Hid (aH (aK r)+aH ((-1:Int)).natAbs<=1099511627776):=by
  show _<=_;rw[show aH ((-1:Int)).natAbs=1 by decide];exact hL2
 clear aV Hl vH bL dD h k hB hL2
 go_enter Tryz.func38,Tryz.ntmps38
 go_wp2;refine gB (jU w.heap.size x y) 9 (by kernel_rfl) HS.out (λhHeld=>?_);((refine Jp 0 (v:=?_) ?_ ?_;rotate_left 1;(intro wS hSw;obtain⟨⟨S1,S2,S3,S4⟩,S5,S6,S7,S8⟩:=hSw;go_simp;try with_reducible rfl);(try simp only[Act.put,aB,aC,aD]));(refine Jp 2 (v:=?_) ?_ ?_;rotate_left 1;(intro wS hSw;obtain⟨⟨S1,S2,S3,S4⟩,S5,S6,S7,S8⟩:=hSw;go_simp;try with_reducible rfl);(try simp only[Act.put,aB,aC,aD])));((refine aO 1 ?_;intro K hK);go_simp;(refine(yj _ x l _ HM.out HX.out).mono ?_);rintro e_ wz ⟨x1,rfl,gY,az⟩;go_wp2_with (fail);(try clear ag);(have ag:=hHeld.ext az);(refine hK.out _ _ (λ_=>ag) ?_);clear hK K;(try simp only[Act.put,aB,aC,aD]));((refine aO 3 ?_;intro K hK);go_simp;(refine(yj _ y r _ (HM.out.ext az) (HY.out.ext az)).mono ?_);rintro e_ wz ⟨y1,rfl,jh,aJ⟩;go_wp2_with (fail);(try clear ag);(have ag:=hHeld.ext (az.trans aJ));(refine hK.out _ _ (λ_=>ag) ?_);clear hK K;(try simp only[Act.put,aB,aC,aD]));have WH:=az.trans aJ;((refine aO 4 ?_;intro K hK);go_simp;(refine(IQ (-1) _ (HM.out.ext WH) (by omega) (by omega)).mono ?_);rintro e_ wz ⟨e0,e1,rfl,hc,bg⟩;go_wp2_with (fail);(try clear ag);(have ag:=hHeld.ext (WH.trans bg));(refine hK.out _ _ (λ_=>ag) ?_);clear hK K;(try simp only[Act.put,aB,aC,aD]));obtain⟨b2,a2,n2,p2,rfl,rfl⟩:=hc.form
 have WI:=WH.trans bg;((refine aO 5 ?_;intro K hK);go_simp;(refine(qp3 _ 4 y1 r B b2 a2 n2 p2 (-1) _ (HM.out.ext WI) (jh.ext bg) hc.fB UE.out HD.out oH).mono ?_);rintro e_ wz ⟨z1,rfl,hz1,bB⟩;go_wp2_with (fail);(try clear ag);(have ag:=hHeld.ext (WI.trans bB));(refine hK.out _ _ (λ_=>ag) ?_);clear hK K;(try simp only[Act.put,aB,aC,aD]));rename_i wz;have qcN:=WI.trans bB;have jD:=HM.out.ext qcN;have qK:=qd0 jD ((gY.ext (aJ.trans bg)).ext bB) hz1;have bn:Ext _ (wz.alloc (.cells #[.int .i64 x1.lv,.bool x1.b,.slice x1.a x1.n x1.p,.slice x1.ka x1.kn x1.kp,.int .i64 z1.lv,.bool z1.b,.slice z1.a z1.n z1.p,.slice z1.ka z1.kn z1.kp] 33)):=qcN.alloc _;(refine aO 6 ?_;intro K hK);go_simp;refine hK.out _ _ (λ_=>hHeld.ext bn) ?_;clear hK K;(try simp only[Act.put,aB,aC,aD]);((refine aO 7 ?_;intro K hK);go_simp;(refine(qpZ _ 4 _ 2 _ _ (HM.out.ext bn) qK (by rw[Yi];exact hL)).mono ?_);rintro e_ wz ⟨u,rfl,hu,fO⟩;go_wp2_with (fail);(try clear ag);(have ag:=hHeld.ext (bn.trans fO));(refine hK.out _ _ (λ_=>ag) ?_);clear hK K;(try simp only[Act.put,aB,aC,aD]));rw[Yi]at hu;((refine aO 8 ?_;intro K hK);go_simp;(refine(Je _ 4 u _ _ (HM.out.ext (bn.trans fO)) hu).mono ?_);rintro e_ wz ⟨v,rfl,hv,gX⟩;go_wp2_with (fail);(try clear ag);(have ag:=hHeld.ext ((bn.trans fO).trans gX));(refine hK.out _ _ (λ_=>ag) ?_);clear hK K;(try simp only[Act.put,aB,aC,aD]))
 obtain⟨⟨q0,q1,q2,q3⟩,⟨f0,f1,f2,f3⟩,⟨r0,r1,r2,r3⟩,HF⟩:=iF (M:=M) (w:=w) (HB.out.ext ((bn.trans fO).trans gX)) (Mx.at (by omega)) (by omega) (HE.out.trans ((bn.trans fO).trans gX)) hv Mx.sub;((refine aO 9 ?_;intro K hK);go_simp;(refine hK.out _ _ (λh=>absurd rfl h) ?_);clear hK K;refine dX ?_);clear az aJ bg bB bn fO gX WH WI qcN gY jh hz1 hc hu hv hHeld qK jD;go_wp2;exact bu (v:=.agg (ak v)) (by simp[results,Tryz.results38,go_sem,r0,r1,r2,r3]) rfl HF.out
end Go.Proofs.YtmcfpnmoklnhoaaGreat
