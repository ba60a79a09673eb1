/- Mm -/
import Derived.Test.YtmcfpnmoklnhoaaGreatMh
set_option linter.unusedVariables false
set_option maxRecDepth 100000
set_option maxHeartbeats 400000000
set_option linter.unusedSimpArgs false
namespace Go.Proofs.YtmcfpnmoklnhoaaGreat
open Go.RowKit
def Xe(M:Nat->Prop)(base:Nat)(w:World)(g:Nat)(L:List Tm):Prop:=
 ∃(n:Nat)(z:Nat->Int)(m:Nat->Mo),pU M base w g n z m/\Db n m/\n<=L.length/\aC (eO n z m)<=aC L/\∀q,aB (eO n z m) q=qz L q
theorem Xe.ext{M:Nat->Prop}{base:Nat}{w w':World}{g:Nat}{L:List Tm}(h:Xe M base w g L)(he:Ext w w'):Xe M base w' g L:=by
 obtain⟨n,z,m,h1,h2⟩:=h;exact⟨n,z,m,h1.ext he,h2⟩
def TA(b t k:Nat)(c0 c1 d0 d1:Value)(w:World):Prop:=w.cell? ⟨b,0,none⟩=some c0/\w.cell? ⟨b,1,none⟩=some c1/\w.cell? ⟨t,k*6,none⟩=some d0/\w.cell? ⟨t,k*6+1,none⟩=some d1
theorem TA.ext{b t k:Nat}{c0 c1 d0 d1:Value}{w w':World}(h:TA b t k c0 c1 d0 d1 w)(he:Ext w w'):TA b t k c0 c1 d0 d1 w':=by
 have h1:=World.block_lt_of_cell? _ _ h.1;have h2:=World.block_lt_of_cell? _ _ h.2.2.1;unfold TA;rw[he.cell h1,he.cell h1,he.cell h2,he.cell h2];exact h
section
variable{P:Program}{ops:Array Oper}{Q:Exit->Act->World->Prop}{md:Region.Mode}{S:World->Prop}{last:Nat}
def Cl(md:Region.Mode)(ops:Array Oper)(listed:Array Bool):Prop:=∀(j:Nat)(o:Oper),ops[j]?=some o->listed.getD j false=true->∀e∈o.after,Region.binds md e=true->listed.getD e.on false=true
def ZY(md:Region.Mode)(ops:Array Oper)(listed:Array Bool):Bool:=(List.range ops.size).all λj=> !listed.getD j false||((ops[j]?).map λo=>o.after.all λe=> !Region.binds md e||listed.getD e.on false).getD true
theorem qrj{listed:Array Bool}(h:ZY md ops listed=true):Cl md ops listed:=by
 intro j o ho hl e he hb;have hj:j<ops.size:=(Array.getElem?_eq_some_iff.1 ho).1;unfold ZY at h;rw[List.all_eq_true]at h;have h1:=h j (List.mem_range.2 hj);rw[hl,ho]at h1;simp only[Bool.not_true,Bool.false_or,Option.map_some,Option.getD_some,Array.all_eq_true_iff_forall_mem]at h1;have h2:=h1 e he;rw[hb]at h2;simpa using h2
def JW(md:Region.Mode)(ops:Array Oper):Nat->Nat->Nat->Bool
 |0,_,_=>false
 |f+1,j,i=>((ops[j]?).map λo=>o.after.any λe=>Region.binds md e&&(e.on==i||JW md ops f e.on i)).getD false
theorem qnL{listed:Array Bool}(hc:Cl md ops listed)(i:Nat):∀(f j:Nat),JW md ops f j i=true->(∀o,ops[j]?=some o->∀e∈o.after,Region.binds md e=true->listed.getD e.on false=true)->listed.getD i false=true
 |0,_,h,_=>by simp[JW]at h
 |f+1,j,h,hp=>by
  unfold JW at h
  cases ho:ops[j]? with
  |none=>rw[ho]at h;simp at h
  |some o=>
   rw[ho]at h;simp only[Option.map_some,Option.getD_some,Array.any_eq_true,Bool.and_eq_true,Bool.or_eq_true,beq_iff_eq]at h;obtain⟨k,hk,hb,he⟩:=h;have h1:=hp o ho _ (Array.getElem_mem hk) hb;rcases he with he|he
   ·rw[<-he];exact h1
   ·exact qnL hc i f _ he λo' EA e' Jg hb'=>hc _ o' EA h1 e' Jg hb'
theorem Cl.step{listed:Array Bool}(hc:Cl md ops listed){j:Nat}(hj:j∈Region.ready md ops listed):Cl md ops (listed.setIfInBounds j true):=by
 intro k o ho hl e he hb
 by_cases Gl:k=j
 ·subst Gl;obtain⟨_,o',EA,oG⟩:=mem_ready.1 hj;rw[ho]at EA;cases EA;exact getD_set_true (oG e he hb)
 ·rw[getD_set_ne false (Ne.symm Gl)]at hl;exact getD_set_true (hc k o ho hl e he hb)
theorem qw7{i f:Nat}{listed:Array Bool}(hc:Cl md ops listed)(hw:JW md ops f last i=true)(hr:i∈Region.ready md ops listed):last∉Region.ready md ops listed:=by
 intro hl;obtain⟨_,o,ho,oG⟩:=mem_ready.1 hl
 have h1:=qnL hc i f last hw λo' EA e he hb=>by
  rw[ho]at EA;cases EA;exact oG e he hb
 have h0:=(mem_ready.1 hr).1;rcases Nat.lt_or_ge i listed.size with h'|h'
 ·simp[h']at h0 h1;rw[h0]at h1;cases h1
 ·simp[Array.getElem?_eq_none h']at h1
theorem qz3{i f:Nat}{oi:Oper}{v:Value}(hi:ops[i]?=some oi)(GD:∀(j:Nat)(o:Oper) cs b,ops[j]?=some o->o.op≠ .select cs b)
 (hQ:∀c a w,Q (.panic c) (a.put oi.dst v) w->Q (.panic c) a w) (hw:JW md ops f last i=true):
 ∀(fuel:Nat)(listed:Array Bool)(a:Act)(w:World),Cl md ops listed->
  (∀j oj,ops[j]?=some oj->j≠i->listed.getD j true=false->(∀e∈oj.after,Region.binds md e=true->e.on≠i)->oi.apart ops oj=true)->
  i∈Region.ready md ops listed->YieldsIf P ops S oi v a->S w->
  l9 P md ops Q S last fuel (listed.setIfInBounds i true) (a.put oi.dst v) w->l9 P md ops Q S last (fuel+1) listed a w:=by
 intro fuel
 induction fuel with
 |zero=>
  intro listed a w _ _ hr hy hS H;refine⟨λh=>(by rw[h]at hr;cases hr),λj hj=>?_⟩
  by_cases j5:j=i
  ·subst j5;exact hy.wpOp hi hS ⟨λ_=>hS,H⟩
  ·have:=ready_mono hj j5;rw[H.1]at this;cases this
 |succ fuel ih=>
  intro listed a w qO Gh hr hy hS H;refine⟨λh=>(by rw[h]at hr;cases hr),λj hj=>?_⟩
  by_cases j5:j=i
  ·subst j5;exact hy.wpOp hi hS ⟨λ_=>hS,H⟩
  ·have h1:=H.2 j (ready_mono hj j5);have vG:j≠last:=λe=>qw7 qO hw hr (e ▸ hj);obtain⟨Gj,oj,z8,oG⟩:=mem_ready.1 hj
   have P9:∀e∈oj.after,Region.binds md e=true->e.on≠i:=λe he hb heq=>by
    have h1:=oG e he hb;have h0:=(mem_ready.1 hr).1;rw[heq]at h1;rcases Nat.lt_or_ge i listed.size with h'|h'
    ·simp[h']at h0 h1;rw[h0]at h1;cases h1
    ·simp[Array.getElem?_eq_none h']at h1
   have h2:=wpOp_putIf z8 (Gh j oj z8 j5 Gj P9) (λcs b=>GD i oi cs b hi) (λcs b=>GD j oj cs b z8) hQ hy h1
   have PN:∀k ok,ops[k]?=some ok->k≠i->(listed.setIfInBounds j true).getD k true=false->
    (∀e∈ok.after,Region.binds md e=true->e.on≠i)->oi.apart ops ok=true:=λk ok hk PX Af hno=>by
    refine Gh k ok hk PX ?_ hno
    by_cases pJ:j=k
    ·subst pJ;exact Gj
    ·rw[getD_set_ne true pJ]at Af;exact Af
   refine wpOp_mono (λa' w' h3=>⟨λ_=>h3.2.1 vG,ih (listed.setIfInBounds j true) a' w' (qO.step hj) PN (ready_mono hr (Ne.symm j5)) h3.1 (h3.2.1 vG) ?_⟩) h2;rw[Array.setIfInBounds_comm _ _ j5];exact h3.2.2
theorem Hr(i:Nat){oi:Oper}{v:Value}{fuel:Nat}{listed:Array Bool}{a:Act}{w:World}
 (hy:∀w,S w->(execOp a.eval oi).run P w=.ok (.value v) w) (h:l9 P md ops Q S last fuel (listed.setIfInBounds i true) (a.put oi.dst v) w)
 (hs:Region.noSelect ops=true:=by kernel_rfl) (hf:Region.free md ops listed i=true:=by kernel_rfl) (hr:(Region.ready md ops listed).contains i=true:=by kernel_rfl) (hl:JW md ops ops.size last i=true:=by kernel_rfl) (hc:ZY md ops listed=true:=by kernel_rfl) (hS:S w:=by first|exact ag|exact hHeld)
 (hi:ops[i]?=some oi:=by simp only[iL,iM,iN];rfl) (hwd:Region.wanted oi (yielded ops a.tmps)=true:=by rfl) (hQ:∀c a w,Q (.panic c) (a.put oi.dst v) w->Q (.panic c) a w:=by exactλ_ _ _ h=>h):l9 P md ops Q S last (fuel+1) listed a w:=
 qz3 hi (Region.noSelect_spec hs) hQ hl fuel listed a w (qrj hc) (Region.free_spec hi hf) (by simpa using hr) (.inl ⟨hwd,hy⟩) hS h
end
def Tz(bm bs bt:Nat)(m:Mo)(c0 c1 d0 d1:Value)(w:World):Prop:=(w.cell? ⟨bm,0,none⟩=some (.int .i64 m.a)/\w.cell? ⟨bm,1,none⟩=some (.int .i64 m.b)/\w.cell? ⟨bm,2,none⟩=some (.int .i64 m.c)/\w.cell? ⟨bm,3,none⟩=some (.int .i64 m.d))/\
 (w.cell? ⟨bs,0,none⟩=some c0/\w.cell? ⟨bs,1,none⟩=some c1)/\(w.cell? ⟨bt,0,none⟩=some d0/\w.cell? ⟨bt,1,none⟩=some d1)
theorem Tz.ext{bm bs bt:Nat}{m:Mo}{c0 c1 d0 d1:Value}{w w':World}(h:Tz bm bs bt m c0 c1 d0 d1 w)(he:Ext w w'):Tz bm bs bt m c0 c1 d0 d1 w':=by
 have h1:=World.block_lt_of_cell? _ _ h.1.1;have h2:=World.block_lt_of_cell? _ _ h.2.1.1;have h3:=World.block_lt_of_cell? _ _ h.2.2.1;unfold Tz;rw[he.cell h1,he.cell h1,he.cell h1,he.cell h1,he.cell h2,he.cell h2,he.cell h3,he.cell h3];exact h
theorem qnP(M:Nat->Prop)(x:PE)(l:List Tm)(B:Nat)(w:World)(hM:Mb M w)(h:PI M w x l)(hL:az (aC l)+1<=1099511627776)(hB:bn B l)(mF:B+1<=1099511627776):
 Calls Tryz.prog 116 #[.agg (ah x)] w (dH M w 4 (ai l [(-1,Mo.zero)])):=by
 obtain⟨aQ,F6,bO,dw⟩:=OD hM x;have HE:=Lib.hid (aQ.trans (Ext.refl _).drew);have HS:=Lib.hid (F6.ext (Ext.refl _).drew);have HB:=Lib.hid (bO.ext (Ext.refl _).drew);have HM:=Lib.hid (dw.ext (Ext.refl _).drew);have HX:=Lib.hid ((h.more (M':=Mx M w.heap.size (w.heap.size+2)) (Mx.more (Nat.le_refl _))).ext HE.out);have HD:=Lib.hid hB
 have HL:Hid (az (aC l)+az ((-1:Int)).natAbs<=1099511627776):=by
  show _<=_;rw[show az ((-1:Int)).natAbs=1 by decide];exact hL
 clear aQ F6 bO dw h hB hL
 go_enter Tryz.func116,Tryz.ntmps116
 go_wp2;refine fM (λw'=>P4 w' w.heap.size x) 3 (by kernel_rfl) HS.out (λhHeld=>?_);((refine Hr 0 (v:=?_) ?_ ?_;rotate_left 1;(intro wS hSw;obtain⟨S1,S2,S3,S4⟩:=hSw;go_simp;try with_reducible rfl);(try simp only[Act.put,aD,aF,aG])));((refine aK 1 ?_;intro K hK);go_simp;(refine(Jz (-1) _ HM.out (by omega) (by omega)).mono ?_);rintro e_ wz ⟨e0,e1,rfl,hc,af⟩;go_wp2_with (fail);(try clear ag);(have ag:=hHeld.ext af);(refine hK.out _ _ (λ_=>ag) ?_);clear hK K;(try simp only[Act.put,aD,aF,aG]));obtain⟨b2,a2,n2,p2,rfl,rfl⟩:=hc.form;((refine aK 2 ?_;intro K hK);go_simp;(refine(qdm _ x l B b2 a2 n2 p2 (-1) _ (HM.out.ext af) (HX.out.ext af) hc.eH HL.out HD.out mF).mono ?_);rintro e_ wz ⟨v,rfl,hv,aA⟩;go_wp2_with (fail);(try clear ag);(have ag:=hHeld.ext (af.trans aA));(refine hK.out _ _ (λ_=>ag) ?_);clear hK K;(try simp only[Act.put,aD,aF,aG]));obtain⟨⟨q0,q1,q2,q3⟩,⟨f0,f1,f2,f3⟩,⟨r0,r1,r2,r3⟩,HF⟩:=iW (M:=M) (w:=w) (HB.out.ext (af.trans aA)) (Mx.at (by omega)) (by omega) (HE.out.trans (af.trans aA)) hv Mx.sub;((refine aK 3 ?_;intro K hK);go_simp;(refine hK.out _ _ (λh=>absurd rfl h) ?_);clear hK K;refine ek ?_);clear af aA hc hv hHeld;go_wp2;exact bodyPost_ret (v:=.agg (ah v)) (by simp[results,Tryz.results116,go_sem,r0,r1,r2,r3]) rfl HF.out
theorem qnR(M:Nat->Prop)(x y:PE)(l r:List Tm)(B:Nat)(w:World)(hM:Mb M w)(h:PI M w x l)(k:PI M w y r)(hL:az (aC (l++ai r [(-1,Mo.zero)]))<=1099511627776)(hL2:az (aC r)+1<=1099511627776)(hB:bn B r)(mF:B+1<=1099511627776):
 Calls Tryz.prog 38 #[.agg (ah x),.agg (ah y)] w (dH M w 4 (l++ai r [(-1,Mo.zero)])):=by
 obtain⟨aQ,F5,uA,bO,dw⟩:=Bu hM x y;have HE:=Lib.hid (aQ.trans (Ext.refl _).drew);have HS:Hid (jM w.heap.size x y _):=jM.ext ⟨F5,uA⟩ (Ext.refl _).drew;have HB:=Lib.hid (bO.ext (Ext.refl _).drew);have HM:=Lib.hid (dw.ext (Ext.refl _).drew);have HX:=Lib.hid ((h.more (M':=Mx M w.heap.size (w.heap.size+3)) (Mx.more (Nat.le_refl _))).ext HE.out);have HY:=Lib.hid ((k.more (M':=Mx M w.heap.size (w.heap.size+3)) (Mx.more (Nat.le_refl _))).ext HE.out);have HD:=Lib.hid hB
 have Si:Hid (az (aC r)+az ((-1:Int)).natAbs<=1099511627776):=by
  show _<=_;rw[show az ((-1:Int)).natAbs=1 by decide];exact hL2
 clear aQ F5 uA bO dw h k hB hL2
 go_enter Tryz.func38,Tryz.ntmps38
 go_wp2;refine fM (jM w.heap.size x y) 9 (by kernel_rfl) HS.out (λhHeld=>?_);((refine Hr 0 (v:=?_) ?_ ?_;rotate_left 1;(intro wS hSw;obtain⟨⟨S1,S2,S3,S4⟩,S5,S6,S7,S8⟩:=hSw;go_simp;try with_reducible rfl);(try simp only[Act.put,aD,aF,aG]));(refine Hr 2 (v:=?_) ?_ ?_;rotate_left 1;(intro wS hSw;obtain⟨⟨S1,S2,S3,S4⟩,S5,S6,S7,S8⟩:=hSw;go_simp;try with_reducible rfl);(try simp only[Act.put,aD,aF,aG])));((refine aK 1 ?_;intro K hK);go_simp;(refine(yx _ x l _ HM.out HX.out).mono ?_);rintro e_ wz ⟨x1,rfl,fG,af⟩;go_wp2_with (fail);(try clear ag);(have ag:=hHeld.ext af);(refine hK.out _ _ (λ_=>ag) ?_);clear hK K;(try simp only[Act.put,aD,aF,aG]));((refine aK 3 ?_;intro K hK);go_simp;(refine(yx _ y r _ (HM.out.ext af) (HY.out.ext af)).mono ?_);rintro e_ wz ⟨y1,rfl,iy,aA⟩;go_wp2_with (fail);(try clear ag);(have ag:=hHeld.ext (af.trans aA));(refine hK.out _ _ (λ_=>ag) ?_);clear hK K;(try simp only[Act.put,aD,aF,aG]));have UJ:=af.trans aA;((refine aK 4 ?_;intro K hK);go_simp;(refine(Jz (-1) _ (HM.out.ext UJ) (by omega) (by omega)).mono ?_);rintro e_ wz ⟨e0,e1,rfl,hc,aT⟩;go_wp2_with (fail);(try clear ag);(have ag:=hHeld.ext (UJ.trans aT));(refine hK.out _ _ (λ_=>ag) ?_);clear hK K;(try simp only[Act.put,aD,aF,aG]));obtain⟨b2,a2,n2,p2,rfl,rfl⟩:=hc.form
 have UL:=UJ.trans aT;((refine aK 5 ?_;intro K hK);go_simp;(refine(qnY _ 4 y1 r B b2 a2 n2 p2 (-1) _ (HM.out.ext UL) (iy.ext aT) hc.eH Si.out HD.out mF).mono ?_);rintro e_ wz ⟨z1,rfl,hz1,aW⟩;go_wp2_with (fail);(try clear ag);(have ag:=hHeld.ext (UL.trans aW));(refine hK.out _ _ (λ_=>ag) ?_);clear hK K;(try simp only[Act.put,aD,aF,aG]));rename_i wz;have qbx:=UL.trans aW;have jf:=HM.out.ext qbx;have rQ:=qcE jf ((fG.ext (aA.trans aT)).ext aW) hz1;have aR:Ext _ (wz.alloc (.cells #[.int .i64 x1.lv,.bool x1.b,.slice x1.a x1.n x1.p,.slice x1.ka x1.kn x1.kp,.int .i64 z1.lv,.bool z1.b,.slice z1.a z1.n z1.p,.slice z1.ka z1.kn z1.kp] 33)):=qbx.alloc _;(refine aK 6 ?_;intro K hK);go_simp;refine hK.out _ _ (λ_=>hHeld.ext aR) ?_;clear hK K;(try simp only[Act.put,aD,aF,aG]);((refine aK 7 ?_;intro K hK);go_simp;(refine(qnU _ 4 _ 2 _ _ (HM.out.ext aR) rQ (by rw[VU];exact hL)).mono ?_);rintro e_ wz ⟨u,rfl,hu,fe⟩;go_wp2_with (fail);(try clear ag);(have ag:=hHeld.ext (aR.trans fe));(refine hK.out _ _ (λ_=>ag) ?_);clear hK K;(try simp only[Act.put,aD,aF,aG]));rw[VU]at hu;((refine aK 8 ?_;intro K hK);go_simp;(refine(Hd _ 4 u _ _ (HM.out.ext (aR.trans fe)) hu).mono ?_);rintro e_ wz ⟨v,rfl,hv,fE⟩;go_wp2_with (fail);(try clear ag);(have ag:=hHeld.ext ((aR.trans fe).trans fE));(refine hK.out _ _ (λ_=>ag) ?_);clear hK K;(try simp only[Act.put,aD,aF,aG]))
 obtain⟨⟨q0,q1,q2,q3⟩,⟨f0,f1,f2,f3⟩,⟨r0,r1,r2,r3⟩,HF⟩:=iW (M:=M) (w:=w) (HB.out.ext ((aR.trans fe).trans fE)) (Mx.at (by omega)) (by omega) (HE.out.trans ((aR.trans fe).trans fE)) hv Mx.sub;((refine aK 9 ?_;intro K hK);go_simp;(refine hK.out _ _ (λh=>absurd rfl h) ?_);clear hK K;refine ek ?_);clear af aA aT aW aR fe fE UJ UL qbx fG iy hz1 hc hu hv hHeld rQ jf;go_wp2;exact bodyPost_ret (v:=.agg (ah v)) (by simp[results,Tryz.results38,go_sem,r0,r1,r2,r3]) rfl HF.out
end Go.Proofs.YtmcfpnmoklnhoaaGreat
