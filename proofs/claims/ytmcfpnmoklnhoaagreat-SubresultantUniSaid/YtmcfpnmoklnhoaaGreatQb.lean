/- Qb -/
import Derived.Test.YtmcfpnmoklnhoaaGreatEg
import Derived.Test.YtmcfpnmoklnhoaaGreatBj
set_option linter.unusedVariables false
set_option maxRecDepth 100000
set_option maxHeartbeats 400000000
set_option linter.unusedSimpArgs false
namespace Go.Proofs.YtmcfpnmoklnhoaaGreat
open Go.RowKit
noncomputable def JV(l r:List Tm):List Tm:=open Classical in if h:¬ae r []/\Dv r l then norm h.2.choose else[]
theorem qnK{l r q:List Tm}(hq:NN q)(hr:NN r)(hz:¬ae r [])(h:ae (ai q r) l):JV l r=norm q:=by
 have hd:Dv r l:=⟨q,hq,h⟩;unfold JV;rw[dif_pos ⟨hz,hd⟩];have hs:=hd.choose_spec;exact(Q7 hs.1 hq hr hz (hs.2.trans h.symm)).norm
theorem qnJ{l r:List Tm}(h:ae r []\/¬Dv r l):JV l r=[]:=by
 unfold JV;rw[dif_neg];rintro⟨h1,h2⟩;exact h.elim h1 λh=>h h2
def qgA(M:Nat->Prop)(w:World)(q:List Tm)(A:Nat)(e:Ending)(w':World):Prop:=∃v:PE,e=.returned (.agg (ah v))/\aI M w' 4 v q/\az (aC q)<=A/\Ext w w'
theorem qyh{M:Nat->Prop}{w':World}{l r:List Tm}{A:Nat}{v:PE}{er:Int}(hr:NN r)(h:(er=2/\ae r []/\v=PE.z)\/(er=0/\¬ae r []/\∃q,aI M w' 4 v q/\ae (ai q r) l/\az (aC q)<=A)\/(er=3/\v=PE.z/\¬ae r []/\¬Dv r l)):aI M w' 4 v (JV l r)/\az (aC (JV l r))<=A:=by
 rcases h with⟨_,h1,rfl⟩|⟨_,h1,q,h2,h3,h4⟩|⟨_,rfl,h1,h2⟩
 ·rw[qnJ (.inl h1)];exact⟨CR.zero _ _ _,Nat.zero_le _⟩
 ·rw[qnK h2.nn hr h1 h3];exact⟨h2.bZ (l7 h2.nn).symm,Nat.le_trans (ji (qw6 q)) h4⟩
 ·rw[qnJ (.inr h2)];exact⟨CR.zero _ _ _,Nat.zero_le _⟩
theorem dH.qt{M:Nat->Prop}{w w':World}{q:List Tm}{e:Ending}{A:Nat}(h:dH M w 4 q e w')(hb:az (aC q)<=A):qgA M w q A e w':=by
 obtain⟨y,e1,c,x⟩:=h;exact⟨y,e1,c,hb,x⟩
theorem qwZ(w:World)(x:PE):eX (w.alloc (.cells (ah x) 33)) w.heap.size 0 x:=by
 have hB:=ak.bf w (ah x) 33 4 rfl;exact⟨hB.cell (i:=0) (by omega),hB.cell (i:=1) (by omega),hB.cell (i:=2) (by omega),hB.cell (i:=3) (by omega)⟩
theorem qza(M:Nat->Prop)(l r:List Tm)(x y:PE)(AA:Nat)(w:World)(hM:Mb M w)(h:PI M w x l)(hy:PI M w y r)(hr:NN r)(hC:∀(M':Nat->Prop)(W:World),Mb M' W->PI M' W x l->PI M' W y r->Calls Tryz.prog 14 #[.agg (ah x),.agg (ah y)] W (KQ M' W l r AA)):
 Calls Tryz.prog 196 #[.agg (ah x),.agg (ah y)] w (qgA M w (JV l r) AA):=by
 obtain⟨hE,⟨x0,x1,x2,x3⟩,⟨y0,y1,y2,y3⟩,cZ,eG⟩:=Bu hM x y;have h2:=(h.more (M':=Mx M w.heap.size (w.heap.size+3)) (Mx.more (Nat.le_refl _))).ext hE;have qx:=(hy.more (M':=Mx M w.heap.size (w.heap.size+3)) (Mx.more (Nat.le_refl _))).ext hE;have CT:=Lib.hid (hC _ _ eG h2 qx);have HQ:Hid (NN r):=hr;have HB:=Lib.hid cZ;have HE:=Lib.hid hE;clear h2 qx h hy hr hC eG cZ hE hM
 go_enter Tryz.func196,Tryz.ntmps196
 go_wp2_with (fail);refine CT.out.mono ?_;rintro e w1 ⟨v,er,rfl,hc,af⟩;obtain⟨hq,hqd⟩:=qyh HQ.out hc;have fZ:=(Ext.refl w1).alloc (.cells (ah v) 33);obtain⟨b0,b1,b2,b3⟩:=qwZ w1 v;have hq2:=hq.ext fZ;have NZ:=Lib.hid hqd;have ku:=Lib.hid (af.trans fZ);generalize jg:w1.alloc (.cells (ah v) 33)=W2 at*;have uS:=Lib.hid jg;clear CT hc af hq hqd fZ jg x0 x1 x2 x3 y0 y1 y2 y3
 go_upto_region 2 with(fail)
 rw[uS.out];generalize w1.heap.size=g1 at*;clear uS;obtain⟨⟨q0,q1,q2,q3⟩,⟨f0,f1,f2,f3⟩,⟨r0,r1,r2,r3⟩,HF⟩:=iW (M:=M) (w:=w) (HB.out.ext ku.out) (Mx.at (by omega)) (by omega) (HE.out.trans ku.out) hq2 Mx.sub;have HR:=Lib.hid (dH.qt HF.out NZ.out);clear HF hq2;go_wp2;exact bodyPost_ret (v:=.agg (ah v)) (by simp[results,Tryz.results196,go_sem,r0,r1,r2,r3]) rfl HR.out
theorem bD.neg{L n:Nat}{l:List Tm}(h:bD L (di l) n):bD L l n:=
 ⟨λm hm=>h.1 m (by rw[qA];omega),h.2.imp id λ⟨m,h1,h2⟩=>⟨m,by rw[qA]at h1;omega,h2⟩⟩
def qgB(M:Nat->Prop)(w:World)(f g:List Tm)(J:Nat)(e:Ending)(w':World):Prop:=∃(y:PE)(n V:Nat),e=.returned (.agg (ah y))/\bD J g n/\rF J f n V/\aI M w' 4 y (kg J n V f (di g))/\Ext w w'
def oC(g:Nat)(x y:PE)(w:World):Prop:=P4 w g x/\P4 w (g+1) y
theorem oC.ext{g:Nat}{x y:PE}{w w':World}(h:oC g x y w)(he:Ext w w'):oC g x y w':=⟨h.1.ext he,h.2.ext he⟩
theorem qcS(w:World):Ext w (w.alloc (.cells zA 33))/\ak (w.alloc (.cells zA 33)) w.heap.size 33 4 (arr zA):=⟨(Ext.refl _).alloc _,ak.bf w zA 33 4 rfl⟩
theorem qq0{w:World}{g:Nat}{t:TypeId}{f:Nat->Value}(h:ak w g t 4 f)(x:PE):ak (aH w g 0 (.int .i64 x.lv) (.bool x.b) (.slice x.a x.n x.p) (.slice x.ka x.kn x.kp)) g t 4 (arr (ah x)):=
 (h.aH 0 (.int .i64 x.lv) (.bool x.b) (.slice x.a x.n x.p) (.slice x.ka x.kn x.kp)).congr λi hi=>match i,hi with
  |0,_=>Cy f 0 _ _ _ _
  |1,_=>Cz f 0 _ _ _ _
  |2,_=>CB f 0 _ _ _ _
  |3,_=>CV f 0 _ _ _ _
theorem qzb(T:Nat)(M:Nat->Prop)(f g:List Tm)(x y:PE)(J B C A D:Nat)(w:World)(h1:1<=J)(h4:J<=4)(hM:Mb M w)(h:PI M w x f)(k:PI M w y g)(nf:NN f)(ng:NN g)(hz:¬ae g [])(hB:bn B f)(hC:bn C g)(qN:C+1<=1099511627776)(hA:az (aC f)<=A)(hD:az (aC g)<=D)(DZ:D+1<=1099511627776)(hN:WZ T B C A D)(hT:∀n V:Nat,bD J g n->rF J f n V->V<=T):
 Calls Tryz.prog 195 #[.agg (ah x),.agg (ah y),.int .i64 (J:Int)] w (qgB M w f g J):=by
 obtain⟨hE,hX,hY,FU,eG⟩:=Bu hM x y;have h2:=(h.more (M':=Mx M w.heap.size (w.heap.size+3)) (Mx.more (Nat.le_refl _))).ext hE;have k2:=(k.more (M':=Mx M w.heap.size (w.heap.size+3)) (Mx.more (Nat.le_refl _))).ext hE;have lX:Mx M w.heap.size (w.heap.size+3) (w.heap.size+2):=Mx.at (by omega);have hMs:∀b,M b->Mx M w.heap.size (w.heap.size+3) b:=Mx.sub;generalize hW:((w.alloc (.cells (ah x) 33)).alloc (.cells (ah y) 33)).alloc (.cells zA 33)=W at*;generalize Mx M w.heap.size (w.heap.size+3)=M' at*;have CN:Hid (∀(Mk:Nat->Prop)(wk:World),Ext W wk->Mb Mk wk->(∀b,Mk b->M' b\/W.heap.size<=b)->Calls Tryz.prog 116 #[.agg (ah y)] wk (dH Mk wk 4 (di g))):=λMk wk he hm hs=>qnP Mk y g C wk hm ((k2.more hs).ext he) (by omega) hC qN
 have CR:Hid (∀(Mk:Nat->Prop)(wk:World)(u:PE),Ext W wk->Mb Mk wk->(∀b,Mk b->M' b\/W.heap.size<=b)->aI Mk wk 4 u (di g)->Calls Tryz.prog 206 #[.agg (ah x),.agg (ah u),.int .i64 (J:Int)] wk λe w'=>∃(y:PE)(er:Int)(n V:Nat),e=.returned (.tuple #[.agg (ah y),.int .i64 er])/\aI Mk w' 4 y (kg J n V f (di g))/\bD J g n/\rF J f n V/\Ext wk w'):=λMk wk u he hm hs hu=>by
  refine(qxT T Mk x u f (di g) (J:Int) B C A D wk hm ((h2.more hs).ext he) hu.pi nf (qB ng) hB (QV hC) hA (by rw[qcP];exact hD) hN λJ' n V e hd hs=>by(obtain rfl:J=J':=by omega);exact hT n V hd.neg hs).mono ?_;rintro e w' ⟨y',er,rfl,hr,Jg⟩;rcases hr with⟨h5,_⟩|⟨_,h5,_⟩|⟨J',n,V,e1,_,_,_,hd,kC,_,hc⟩
  ·exact absurd ⟨by omega,by omega⟩ h5
  ·exact absurd (λm=>by have:=h5 m;rw[qA]at this;simp only[aB]at this⊢;omega) hz
  ·have:J'=J:=by omega
   subst this;exact⟨y',er,n,V,rfl,hc,hd.neg,kC,Jg⟩
 have HS:Hid (oC w.heap.size x y W):=⟨hX,hY⟩;have jE:=Lib.hid FU;have HE:=Lib.hid hE;have jb:=Lib.hid eG;have jh:=Lib.hid lX;have HMS:=Lib.hid hMs;have HW:=Lib.hid hW;clear hE hX hY FU eG h2 k2 lX hMs hW hM h k nf ng hz hB hC qN hA hD DZ hN hT h1 h4
 go_enter Tryz.func195,Tryz.ntmps195
 go_upto_region 1 with(fail)
 rw[HW.out];obtain⟨gz,Cb⟩:∃q,q=w.heap.size:=⟨_,rfl⟩;have xn:=Lib.hid Cb;rw[<-Cb]at HS jE jh⊢;clear Cb HW;have hS:oC gz x y W.drew:=HS.out.ext (Ext.refl W).drew;have uu:=(Ext.refl W).drew;have dL:Hid (Mb M' W.drew):=jb.out.ext uu;have qfK:Hid (∀b,M' b->M' b\/W.heap.size<=b):=λb h=>.inl h;refine fM (oC gz x y) 10 (by kernel_rfl) hS (λhHeld=>?_);clear hS;generalize W.drew=wd at*;have ic:=Lib.hid uu;clear uu;(refine dF [0,1,3] ?_;(iterate 3 (refine dD (v:=?_) ?_ ?_;rotate_left 1;(intro wS hSw;obtain⟨⟨A0,A1,A2,A3⟩,B0,B1,B2,B3⟩:=hSw;go_simp;try with_reducible rfl);(try simp only[Act.put,aD,aF,aG])));refine dG ?_);(refine xe 2 8 (oi:=?_) (oj:=?_) (by kernel_rfl) ?_ ?_ ?_ ?_;rotate_left 2;(simp only[iL,iM,iN];rfl);(simp only[iL,iM,iN];rfl);all_goals intro K hK)
 focus
  go_simp;refine(CN.out M' wd ic.out dL.out qfK.out).mono ?_;rintro e v1 ⟨u,rfl,hu,d1⟩;go_wp2_with (fail)
  try clear ag
  have ag:=hHeld.ext (d1);refine hK.out _ _ (λ_=>ag) ?_;clear hK K;(try simp only[Act.put,aD,aF,aG]);(refine xe 4 8 (oi:=?_) (oj:=?_) (by kernel_rfl) ?_ ?_ ?_ ?_;rotate_left 2;(simp only[iL,iM,iN];rfl);(simp only[iL,iM,iN];rfl);all_goals intro K hK)
  focus
   go_simp;refine(CR.out M' v1 u (ic.out.trans d1) (dL.out.ext d1) qfK.out hu).mono ?_;rintro e v2 ⟨z,er,n,V,rfl,hz,sM,iT,d2⟩;go_wp2_with (fail)
   try clear ag
   have ag:=hHeld.ext (d1.trans d2);refine hK.out _ _ (λ_=>ag) ?_;clear hK K;(try simp only[Act.put,aD,aF,aG]);(refine dF [5,6,7] ?_;(iterate 3 (refine dD (v:=?_) ?_ ?_;rotate_left 1;(intro wS hSw;obtain⟨⟨A0,A1,A2,A3⟩,B0,B1,B2,B3⟩:=hSw;go_simp;try with_reducible rfl);(try simp only[Act.put,aD,aF,aG])));refine dG ?_);(refine aK 8 ?_;intro K hK);go_simp;obtain⟨dA,nM⟩:=qcS v2
   try clear ag
   have ag:=hHeld.ext ((d1.trans d2).trans dA);refine hK.out _ _ (λ_=>ag) ?_;clear hK K;(try simp only[Act.put,aD,aF,aG]);have Mh:=(d1.trans d2).size;have Gz:v2.heap.size<(v2.alloc (.cells zA 33)).heap.size:=nM.lt;generalize v2.alloc (.cells zA 33)=vF at*;have GR:aI (λb=>M' b\/b=v2.heap.size) vF 4 z (kg J n V f (di g)):=(hz.more (λb hb=>hb.imp id λh=>by omega)).ext dA;have EF:=(d1.trans d2).trans dA;generalize v2.heap.size=gq at*;clear hz hu d1 d2 dA Gz
  rotate_left
  focus
   go_simp;obtain⟨dA,nM⟩:=qcS v1
   try clear ag
   have ag:=hHeld.ext ((d1).trans dA);refine hK.out _ _ (λ_=>ag) ?_;clear hK K;(try simp only[Act.put,aD,aF,aG]);have Mh:=(d1).size;have Gz:v1.heap.size<(v1.alloc (.cells zA 33)).heap.size:=nM.lt;generalize v1.alloc (.cells zA 33)=v2 at*
   have I6:Mb (λb=>M' b\/b=v1.heap.size) v2:=λb hb=>hb.elim (λh=>((dL.out.ext d1).ext dA) b h) λh=>by rw[h];exact Gz
   replace hu:aI (λb=>M' b\/b=v1.heap.size) v2 4 u (di g):=(hu.more (λb hb=>hb.imp id λh=>by omega)).ext dA
   have GG:∀b,(M' b\/b=v1.heap.size)->M' b\/W.heap.size<=b:=λb hb=>hb.imp id λh=>by have:=ic.out.size;omega
   generalize v1.heap.size=gq at*;(refine aK 4 ?_;intro K hK);go_simp;refine(CR.out (λb=>M' b\/b=gq) v2 u ((ic.out.trans d1).trans dA) I6 GG hu).mono ?_;rintro e vF ⟨z,er,n,V,rfl,hz,sM,iT,d2⟩;go_wp2_with (fail)
   try clear ag
   have ag:=hHeld.ext ((d1.trans dA).trans d2);refine hK.out _ _ (λ_=>ag) ?_;clear hK K;(try simp only[Act.put,aD,aF,aG]);(refine dF [5,6,7] ?_;(iterate 3 (refine dD (v:=?_) ?_ ?_;rotate_left 1;(intro wS hSw;obtain⟨⟨A0,A1,A2,A3⟩,B0,B1,B2,B3⟩:=hSw;go_simp;try with_reducible rfl);(try simp only[Act.put,aD,aF,aG])));refine dG ?_);have GR:=hz;have EF:=(d1.trans dA).trans d2;replace nM:=nM.ext d2;clear hz hu d1 d2 dA Gz I6 GG
 rotate_left
 rotate_left
 focus
  go_simp;obtain⟨dA,nM⟩:=qcS wd
  try clear ag
  have ag:=hHeld.ext (((Ext.refl wd)).trans dA);refine hK.out _ _ (λ_=>ag) ?_;clear hK K;(try simp only[Act.put,aD,aF,aG]);have Mh:=((Ext.refl wd)).size;have Gz:wd.heap.size<(wd.alloc (.cells zA 33)).heap.size:=nM.lt;generalize wd.alloc (.cells zA 33)=v0 at*
  have I6:Mb (λb=>M' b\/b=wd.heap.size) v0:=λb hb=>hb.elim (λh=>(dL.out.ext dA) b h) λh=>by rw[h];exact Gz
  have GG:∀b,(M' b\/b=wd.heap.size)->M' b\/W.heap.size<=b:=λb hb=>hb.imp id λh=>by have:=ic.out.size;omega
  obtain⟨gq,zT⟩:∃q,q=wd.heap.size:=⟨_,rfl⟩;rw[<-zT]at I6 GG nM Gz⊢
  replace Mh:wd.heap.size<=gq:=by omega
  clear zT;(refine aK 2 ?_;intro K hK);go_simp;refine(CN.out (λb=>M' b\/b=gq) v0 (ic.out.trans dA) I6 GG).mono ?_;rintro e v1 ⟨u,rfl,hu,d1⟩;go_wp2_with (fail)
  try clear ag
  have ag:=hHeld.ext (dA.trans d1);refine hK.out _ _ (λ_=>ag) ?_;clear hK K;(try simp only[Act.put,aD,aF,aG]);(refine aK 4 ?_;intro K hK);go_simp;refine(CR.out (λb=>M' b\/b=gq) v1 u ((ic.out.trans dA).trans d1) (I6.ext d1) GG hu).mono ?_;rintro e vF ⟨z,er,n,V,rfl,hz,sM,iT,d2⟩;go_wp2_with (fail)
  try clear ag
  have ag:=hHeld.ext ((dA.trans d1).trans d2);refine hK.out _ _ (λ_=>ag) ?_;clear hK K;(try simp only[Act.put,aD,aF,aG]);(refine dF [5,6,7] ?_;(iterate 3 (refine dD (v:=?_) ?_ ?_;rotate_left 1;(intro wS hSw;obtain⟨⟨A0,A1,A2,A3⟩,B0,B1,B2,B3⟩:=hSw;go_simp;try with_reducible rfl);(try simp only[Act.put,aD,aF,aG])));refine dG ?_);have GR:=hz;have EF:=(dA.trans d1).trans d2;replace nM:=(nM.ext d1).ext d2;clear hz hu d1 d2 dA Gz I6 GG
 all_goals
  have J5:Hid (ak vF (gz+2) 33 4 (arr zA)):=jE.out.ext (ic.out.trans EF);have bM:=qq0 nM z;have aZ:Kp (λb=>M' b\/b=gq) vF (aH vF gq 0 (.int .i64 z.lv) (.bool z.b) (.slice z.a z.n z.p) (.slice z.ka z.kn z.kp)):=Kp.aH (.inr rfl) _ _ _ _ _
  have hle:wd.heap.size<=gq:=by omega
  have cO:=EF.aH hle 0 (.int .i64 z.lv) (.bool z.b) (.slice z.a z.n z.p) (.slice z.ka z.kn z.kp);have hz1:=GR.kp aZ;obtain⟨q0,q1,q2,q3⟩:vF.cell? ⟨gq,0,none⟩=some (.int .i64 0)/\vF.cell? ⟨gq,1,none⟩=some (.bool false)/\vF.cell? ⟨gq,2,none⟩=some (.slice none 0 0)/\vF.cell? ⟨gq,3,none⟩=some (.slice none 0 0):=⟨nM.cell (i:=0) (by omega),nM.cell (i:=1) (by omega),nM.cell (i:=2) (by omega),nM.cell (i:=3) (by omega)⟩;obtain⟨f0,f1,f2,f3⟩:vF.frozen? ⟨gq,0,none⟩=false/\vF.frozen? ⟨gq,1,none⟩=false/\vF.frozen? ⟨gq,2,none⟩=false/\vF.frozen? ⟨gq,3,none⟩=false:=⟨nM.frozen 0,nM.frozen 1,nM.frozen 2,nM.frozen 3⟩;obtain⟨W1,hW1⟩:∃W1,W1=aH vF gq 0 (.int .i64 z.lv) (.bool z.b) (.slice z.a z.n z.p) (.slice z.ka z.kn z.kp):=⟨_,rfl⟩;rw[<-hW1]at bM aZ cO hz1;unfold aH at hW1;have vB:=hHeld.ext cO
  try clear ag
  (refine aK 9 ?_;intro K hK);go_simp;rw[<-hW1];clear hW1;refine hK.out _ _ (λ_=>vB) ?_;clear hK K q0 q1 q2 q3 f0 f1 f2 f3;(try simp only[Act.put,aD,aF,aG]);have cB:=Lib.hid bM;have qir:ak W1 (gz+2) 33 4 (arr zA):=jE.out.ext (ic.out.trans cO)
  have hHN:w.heap.size<=gz+2:=by have:=xn.out;omega
  obtain⟨⟨q0,q1,q2,q3⟩,⟨f0,f1,f2,f3⟩,⟨r0,r1,r2,r3⟩,HF⟩:=iW (M:=M) (w:=w) qir jh.out hHN (HE.out.trans (ic.out.trans cO)) (hz1.more (M':=M') λb hb=>.inl (.inl hb)) HMS.out;have HR:Hid (qgB M w f g J (.returned (.agg (ah z))) _):=⟨_,n,V,HF.out.choose_spec.1,sM,iT,HF.out.choose_spec.2.1,HF.out.choose_spec.2.2⟩;obtain⟨b0,b1,b2,b3⟩:W1.cell? ⟨gq,0,none⟩=some (.int .i64 z.lv)/\W1.cell? ⟨gq,1,none⟩=some (.bool z.b)/\W1.cell? ⟨gq,2,none⟩=some (.slice z.a z.n z.p)/\W1.cell? ⟨gq,3,none⟩=some (.slice z.ka z.kn z.kp):=⟨cB.out.cell (i:=0) (by omega),cB.out.cell (i:=1) (by omega),cB.out.cell (i:=2) (by omega),cB.out.cell (i:=3) (by omega)⟩;clear GR aZ hz1 nM bM cB qir J5 cO EF vB hHeld HF sM iT hle Mh hHN;((refine aK 10 ?_;intro K hK);go_simp;(refine hK.out _ _ (λh=>absurd rfl h) ?_);clear hK K;refine ek ?_);go_wp2;exact bodyPost_ret (v:=.agg (ah z)) (by simp[results,Tryz.results195,go_sem,r0,r1,r2,r3]) rfl HR.out
def KO(f g:List Tm)(L:Int)(w:World)(e:Ending)(w':World):Prop:=∃er:Int,e=.returned (.int .i64 er)/\((¬(1<=L/\L<=4)/\er=4)\/((1<=L/\L<=4)/\(ae f []\/ae g [])/\er=2)\/((1<=L/\L<=4)/\¬ae f []/\¬ae g []/\er=0))/\Ext w w'
theorem MI(w:World)(x y:PE):P4 ((w.alloc (.cells (ah x) 33)).alloc (.cells (ah y) 33)) w.heap.size x/\P4 ((w.alloc (.cells (ah x) 33)).alloc (.cells (ah y) 33)) (w.heap.size+1) y:=by
 have h1:=ak.bf (w.alloc (.cells (ah x) 33)) (ah y) 33 4 rfl;have h2:=(ak.bf w (ah x) 33 4 rfl).alloc (.cells (ah y) 33);simp only[World.size_alloc]at h1 h2;exact⟨h2.p4,h1.p4⟩
theorem qy8(M:Nat->Prop)(f g:List Tm)(x y:PE)(L:Int)(w:World)(hM:Mb M w)(h:PI M w x f)(k:PI M w y g):Calls Tryz.prog 163 #[.agg (ah x),.agg (ah y),.int .i64 L] w (KO f g L w):=by
 have hX:=((Ext.refl w).alloc (.cells (ah x) 33)).alloc (.cells (ah y) 33);have hB:=MI w x y;have CF:Hid (∀W',Ext w W'->Calls Tryz.prog 72 #[.agg (ah x)] W' λe w'=>∃b:Bool,e=.returned (.bool b)/\(b=true↔ae f [])/\Ext W' w'):=λW' he=>ES M x f W' (hM.ext he) (h.ext he);have CG:Hid (∀W',Ext w W'->Calls Tryz.prog 72 #[.agg (ah y)] W' λe w'=>∃b:Bool,e=.returned (.bool b)/\(b=true↔ae g [])/\Ext W' w'):=λW' he=>ES M y g W' (hM.ext he) (k.ext he);clear hM h k;generalize hW:(w.alloc (.cells (ah x) 33)).alloc (.cells (ah y) 33)=W at*;have HW:=Lib.hid hW;have HX:=Lib.hid hX;have HB:=Lib.hid hB;clear hX hB hW
 by_cases l1:L<1
 ·have HR:Hid (KO f g L w (.returned (.int .i64 4)) W):=⟨4,rfl,.inl ⟨by omega,rfl⟩,HX.out⟩;clear CF CG
  go_enter Tryz.func163,Tryz.ntmps163
  go_upto_region 1 with(fail)
  rw[HW.out];go_wp2;go_ret;exact HR.out
 by_cases l4:4<L
 ·have HR:Hid (KO f g L w (.returned (.int .i64 4)) W):=⟨4,rfl,.inl ⟨by omega,rfl⟩,HX.out⟩;clear CF CG
  go_enter Tryz.func163,Tryz.ntmps163
  go_upto_region 1 with(fail)
  rw[HW.out];go_wp2;go_ret;exact HR.out
 have HL:Hid (1<=L/\L<=4):=⟨by omega,by omega⟩
 go_enter Tryz.func163,Tryz.ntmps163
 go_upto_region 1 with(fail)
 rw[HW.out];generalize w.heap.size=gz at*;obtain⟨⟨x0,x1,x2,x3⟩,y0,y1,y2,y3⟩:=HB.out;go_wp2_with (fail);refine(CF.out _ HX.out).mono ?_;rintro e w1 ⟨b,rfl,hb,af⟩;have ku:=Lib.hid (HX.out.trans af);have Xn:=Lib.hid hb;obtain⟨⟨x0,x1,x2,x3⟩,y0,y1,y2,y3⟩:P4 w1 gz x/\P4 w1 (gz+1) y:=⟨HB.out.1.ext af,HB.out.2.ext af⟩;clear hb af CF HB HX;cases b
 rotate_left
 ·have HR:Hid (KO f g L w (.returned (.int .i64 2)) w1):=⟨2,rfl,.inr (.inl ⟨HL.out,.inl (Xn.out.1 rfl),rfl⟩),ku.out⟩;go_wp2;go_ret;exact HR.out
 have Yg:Hid (¬ae f []):=λh=>absurd (Xn.out.2 h) (by decide);clear Xn;go_wp2_with (fail);refine(CG.out _ ku.out).mono ?_;rintro e w2 ⟨b,rfl,hb,aA⟩;have ow:=Lib.hid (ku.out.trans aA);have HBG:=Lib.hid hb;clear hb aA CG ku;cases b
 ·have HR:Hid (KO f g L w (.returned (.int .i64 0)) w2):=⟨0,rfl,.inr (.inr ⟨HL.out,Yg.out,λh=>absurd (HBG.out.2 h) (by decide),rfl⟩),ow.out⟩;go_wp2;go_ret;exact HR.out
 ·have HR:Hid (KO f g L w (.returned (.int .i64 2)) w2):=⟨2,rfl,.inr (.inl ⟨HL.out,.inr (HBG.out.1 rfl),rfl⟩),ow.out⟩;go_wp2;go_ret;exact HR.out
def M9(M':Nat->Prop)(A B:Option Nat):Nat->Prop:=λg=>M' g\/A=some g\/B=some g
structure S9(M':Nat->Prop)(wd wk:World)(A B:Option Nat):Prop where
 e:Ext wd wk
 m:Mb M' wd
 a:∀g,A=some g->ak wk g 33 4 (arr zA)/\wd.heap.size<=g
 b:∀g,B=some g->ak wk g 33 4 (arr zA)/\wd.heap.size<=g
 ne:∀g,A=some g->B≠some g
theorem S9.lt{M':Nat->Prop}{wd wk:World}{A B:Option Nat}(h:S9 M' wd wk A B)(g:Nat)(hg:A=some g\/B=some g):wd.heap.size<=g/\g<wk.heap.size:=by
 rcases hg with hg|hg
 ·exact⟨(h.a g hg).2,(h.a g hg).1.lt⟩
 ·exact⟨(h.b g hg).2,(h.b g hg).1.lt⟩
theorem S9.mb{M':Nat->Prop}{wd wk:World}{A B:Option Nat}(h:S9 M' wd wk A B):Mb (M9 M' A B) wk:=λg hg=>hg.elim (λq=>Nat.lt_of_lt_of_le (h.m g q) h.e.size) λq=>(h.lt g q).2
theorem S9.start{M':Nat->Prop}{wd:World}(hm:Mb M' wd):S9 M' wd wd none none:=⟨Ext.refl _,hm,(λg h=>by cases h),(λg h=>by cases h),λg h=>by cases h⟩
theorem S9.call{M':Nat->Prop}{wd wk w':World}{A B:Option Nat}(h:S9 M' wd wk A B)(d:Ext wk w'):S9 M' wd w' A B:=⟨h.e.trans d,h.m,λg hg=>⟨(h.a g hg).1.ext d,(h.a g hg).2⟩,λg hg=>⟨(h.b g hg).1.ext d,(h.b g hg).2⟩,h.ne⟩
theorem S9.sub{M':Nat->Prop}{wd wk:World}{A B:Option Nat}(h:S9 M' wd wk A B):∀g,M9 M' A B g->M' g\/wd.heap.size<=g:=λg hg=>hg.imp id λq=>(h.lt g q).1
theorem S9.Oy{M':Nat->Prop}{wd wk:World}{B:Option Nat}(h:S9 M' wd wk none B):S9 M' wd (wk.alloc (.cells zA 33)) (some wk.heap.size) B:=by
 have d:Ext wk (wk.alloc (.cells zA 33)):=(Ext.refl wk).alloc _;refine⟨h.e.trans d,h.m,λg hg=>?_,λg hg=>⟨(h.b g hg).1.ext d,(h.b g hg).2⟩,λg hg hb=>?_⟩
 ·cases hg;exact⟨ak.bf wk zA 33 4 rfl,h.e.size⟩
 ·cases hg;have:=(h.b _ hb).1.lt;omega
theorem S9.qqU{M':Nat->Prop}{wd wk:World}{A:Option Nat}(h:S9 M' wd wk A none):S9 M' wd (wk.alloc (.cells zA 33)) A (some wk.heap.size):=by
 have d:Ext wk (wk.alloc (.cells zA 33)):=(Ext.refl wk).alloc _;refine⟨h.e.trans d,h.m,λg hg=>⟨(h.a g hg).1.ext d,(h.a g hg).2⟩,λg hg=>?_,λg hg hb=>?_⟩
 ·cases hg;exact⟨ak.bf wk zA 33 4 rfl,h.e.size⟩
 ·cases hb;have:=(h.a _ hg).1.lt;omega
theorem S9.JB{M':Nat->Prop}{wd wk:World}{B:Option Nat}{x:PE}{l:List Tm}(_:S9 M' wd wk none B)(hx:aI (M9 M' none B) wk 4 x l):aI (M9 M' (some wk.heap.size) B) (wk.alloc (.cells zA 33)) 4 x l:=by
 refine(hx.more (M':=M9 M' (some wk.heap.size) B) λg hg=>?_).ext ((Ext.refl wk).alloc _);rcases hg with hg|hg|hg
 ·exact .inl (.inl hg)
 ·cases hg;exact .inr (Nat.le_refl _)
 ·exact .inl (.inr (.inr hg))
theorem S9.qwb{M':Nat->Prop}{wd wk:World}{A:Option Nat}{x:PE}{l:List Tm}(_:S9 M' wd wk A none)(hx:aI (M9 M' A none) wk 4 x l):aI (M9 M' A (some wk.heap.size)) (wk.alloc (.cells zA 33)) 4 x l:=by
 refine(hx.more (M':=M9 M' A (some wk.heap.size)) λg hg=>?_).ext ((Ext.refl wk).alloc _);rcases hg with hg|hg|hg
 ·exact .inl (.inl hg)
 ·exact .inl (.inr (.inl hg))
 ·cases hg;exact .inr (Nat.le_refl _)
def qf(a b:Nat)(x y:PE)(w:World):Prop:=P4 w a x/\P4 w b y
theorem qf.ext{a b:Nat}{x y:PE}{w w':World}(h:qf a b x y w)(he:Ext w w'):qf a b x y w':=⟨h.1.ext he,h.2.ext he⟩
def qqG(M:Nat->Prop)(w:World)(r:List Tm)(e:Ending)(w':World):Prop:=∃gl:Nat,e=.returned (.tuple #[.slice (some ⟨gl,0,none⟩) 1 1,.int .i64 0])/\w.heap.size<=gl/\Kids (λb=>M b\/b=gl) w' 4 gl 1 (λ_=>r)/\Ext w w'
theorem qwF(M:Nat->Prop)(x:PE)(l:List Tm)(J i:Nat)(B:Nat)(w:World)(h1:1<=J)(h4:J<=4)(nl:NN l)(hM:Mb M w)(h:PI M w x l)(hB:bn B l)(kv:(B+1)^4<=1099511627776)(cZ:B+1<=1073741824)(hR:az (aC l)<=1099511627776):Calls Tryz.prog 135 #[.agg (ah x),.int .i64 (J:Int),.int .i64 (i:Int)] w (dH M w 4 (ck J (i:Int) l)):=by
 obtain⟨aQ,nO,bO,dw⟩:=OD hM x;have CC:=Lib.hid (VB _ x l (J:Int) B _ dw ((h.more (M':=Mx M w.heap.size (w.heap.size+2)) (Mx.more (Nat.le_refl _))).ext aQ) hB kv cZ hR);have HE:=Lib.hid aQ;have HB:=Lib.hid bO;have HM:=Lib.hid hM;obtain⟨x0,x1,x2,x3⟩:=nO;have Jm:Hid (∀K n:Nat,bD K l n->n<=B):=λK n hd=>qai hd hB;have fH:=Lib.hid cZ;have HJ:Hid (1<=J/\J<=4):=⟨h1,h4⟩;have HN:=Lib.hid nl;have UQ:(0:Int)<=(i:Int):=Int.natCast_nonneg _
 have UR:¬(i:Int)<0:=by omega
 clear aQ bO dw hM h hB kv hR cZ h1 h4 nl
 go_enter Tryz.func135,Tryz.ntmps135
 go_wp2_with (fail);refine CC.out.mono ?_;rintro e w1 ⟨hr,af⟩;have aL:=Lib.hid (HE.out.trans af);have bM:=HB.out.ext af;clear af CC x0 x1 x2 x3 HB HE;rcases hr with⟨hz,rfl⟩|⟨hz,hl,g,rfl,hg,hk⟩|⟨hz,K,n,g,hKJ,D7,eF,rfl,hg,hd,hk⟩
 ·have hs:ae [] (ck J (i:Int) l):=(show ae (ck J (i:Int) l) []from gV hz).symm;obtain⟨⟨q0,q1,q2,q3⟩,⟨f0,f1,f2,f3⟩,⟨r0,r1,r2,r3⟩,HF⟩:=iW (M:=M) (M':=Mx M w.heap.size (w.heap.size+2)) (w:=w) (L:=4) (l:=ck J (i:Int) l) (y:=PE.z) bM (Mx.at (by omega)) (by omega) aL.out (aI.bZ (CR.zero _ _ 4) hs) Mx.sub;simp only[PE.z]at r0 r1 r2 r3 q0 q1 q2 q3;have dY:=Lib.hid HF.out;clear HF bM hz hs;go_wp2;exact bodyPost_ret (v:=.agg (ah PE.z)) (by simp[results,Tryz.results135,go_sem,r0,r1,r2,r3,PE.z]) rfl dY.out
 ·exact absurd ⟨by have:=HJ.out;omega,by have:=HJ.out;omega⟩ hl
 ·obtain rfl:J=K:=by omega
  have dZ:=hk.lt
  have Jn:(n:Int)+1<=1099511627776:=by have:=Jm.out J n hd;have:=fH.out;omega
  have iw:(0:Int)<=(n:Int):=Int.natCast_nonneg _
  have hnN:n+1<=1099511627776:=by omega
  have zN:n<i->ae [] (ck J (i:Int) l):=λh=>(qg3 D7 eF hd.1 h).symm;clear Jn iw hd Jm fH hKJ D7 eF HM HN HJ hz;obtain⟨N,hN⟩:∃N,n+1=N:=⟨_,rfl⟩;have qbt:N<=i->ae [] (ck J (i:Int) l):=λh=>zN (by omega);rw[hN]at hk hnN⊢;clear zN hN
  have BP:(N:Int)<=1099511627776:=by omega
  by_cases lQ:i<N
  ·obtain⟨y,⟨c0,c1,c2,c3⟩,hy⟩:=hk.jH i lQ
   have hlt:(i:Int)<(N:Int):=by omega
   have iZ:¬(N:Int)<=(i:Int):=by omega
   obtain⟨⟨q0,q1,q2,q3⟩,⟨f0,f1,f2,f3⟩,⟨r0,r1,r2,r3⟩,HF⟩:=iW (M:=M) (w:=w) (L:=4) (l:=ck J (i:Int) l) (y:=y) bM (Mx.at (by omega)) (by omega) aL.out (hy.more (M':=Mx M w.heap.size (w.heap.size+2)) λb hb=>.inl (.inl hb)) Mx.sub;have dY:=Lib.hid HF.out;clear HF bM hk hy lQ hnN aL qbt;go_wp2;exact bodyPost_ret (v:=.agg (ah y)) (by simp[results,Tryz.results135,go_sem,r0,r1,r2,r3]) rfl dY.out
  ·have hs:=qbt (by omega)
   have hlt:¬(i:Int)<(N:Int):=by omega
   have iZ:(N:Int)<=(i:Int):=by omega
   obtain⟨⟨q0,q1,q2,q3⟩,⟨f0,f1,f2,f3⟩,⟨r0,r1,r2,r3⟩,HF⟩:=iW (M:=M) (M':=Mx M w.heap.size (w.heap.size+2)) (w:=w) (L:=4) (l:=ck J (i:Int) l) (y:=PE.z) bM (Mx.at (by omega)) (by omega) aL.out (aI.bZ (CR.zero _ _ 4) hs) Mx.sub;simp only[PE.z]at r0 r1 r2 r3 q0 q1 q2 q3;have dY:=Lib.hid HF.out;clear HF bM hs hk lQ hnN aL qbt;go_wp2;exact bodyPost_ret (v:=.agg (ah PE.z)) (by simp[results,Tryz.results135,go_sem,r0,r1,r2,r3,PE.z]) rfl dY.out
def qF:List Tm:=bA (ni 1) 2++ni 2
def qG:List Tm:=ai (ni 1) [(2,Mo.zero)]
def qY:List Tm:=ai (ni 2) [(4,Mo.zero)]
theorem qdg:NN qF:=Aq (by decide)
theorem qdh:NN qG:=Aq (by decide)
theorem qx6:bn 2 qF:=qhm qdg (by decide)
theorem qya:bn 1 qG:=qhm qdh (by decide)
theorem qmF{l:List Tm}{m:Mo}(h:aB l m≠0):¬ae l []:=λhs=>h (hs m)
theorem qx9:¬ae qF []:=qmF (m:=⟨0,1,0,0⟩) (by decide)
theorem qyd:¬ae qG []:=qmF (m:=⟨1,0,0,0⟩) (by decide)
theorem qhv{L n:Nat}{l:List Tm}(h:∀s∈l,s.2.get L<=(n:Int))(m:Mo)(hm:aB l m≠0):m.get L<=(n:Int):=
 Classical.byContradiction λhc=>hm (qh λt ht e=>hc (e ▸ h t ht))
theorem qx7:bD 1 qF 2:=⟨qhv (by decide),.inr ⟨⟨2,0,0,0⟩,by decide,by decide⟩⟩
theorem qyb:bD 1 qG 1:=⟨qhv (by decide),.inr ⟨⟨1,0,0,0⟩,by decide,by decide⟩⟩
theorem qx8:az (aC qF)<=2:=by decide
theorem qyc:az (aC qG)<=2:=by decide
def KW(g1 g2 g3:Nat)(x y v:PE)(w:World):Prop:=P4 w g1 x/\P4 w g2 y/\P4 w g3 v
theorem KW.ext{g1 g2 g3:Nat}{x y v:PE}{w w':World}(h:KW g1 g2 g3 x y v w)(he:Ext w w'):KW g1 g2 g3 x y v w':=⟨h.1.ext he,h.2.1.ext he,h.2.2.ext he⟩
theorem qlV(z:Int)(hz: -100<=z/\z<=100)(W':World):Calls Tryz.prog 22 #[.int .i64 z] W' λe w'=>∃b a n p,e=.returned (.agg #[.bool b,.slice a n p])/\dB M0 w' (.bool b) (.slice a n p) z/\Ext W' w':=by
 refine(Jz z W' (yt _) (by omega) (by omega)).mono ?_;rintro e w' ⟨e0,e1,rfl,hI,he⟩;obtain⟨b,a,n,p,rfl,rfl⟩:=hI.form;exact⟨b,a,n,p,rfl,hI.eH,he⟩
def qgs:Prop:=∀(M:Nat->Prop)(w:World)(x y:PE),Mb M w->aI M w 4 x qF->aI M w 4 y qG->Calls Tryz.prog 85 #[.agg (ah x),.agg (ah y),.int .i64 1] w (qqG M w qY)
theorem qwh(rT:qgs)(w:World):Calls Tryz.prog 30 #[] w λe w'=>e=.returned (.bool true)/\Ext w w':=by
 have HQP:=Lib.hid rT;clear rT
 go_enter Tryz.func30,Tryz.ntmps30
 go_wp2_with (fail);refine(qnS M0 1 _ (yt _)).mono ?_;rintro e w1 ⟨x,rfl,hx,af⟩;go_wp2_with (fail);refine(qnS M0 2 _ (yt _)).mono ?_;rintro e w2 ⟨y,rfl,hy,aA⟩;have hb1:=ak.bf w2 (ah x) 33 4 rfl;have gX:=ak.bf (w2.alloc (.cells (ah x) 33)) (ah y) 33 4 rfl;simp only[World.size_alloc]at gX;have jl:Ext w2 ((w2.alloc (.cells (ah x) 33)).alloc (.cells (ah y) 33)):=((Ext.refl w2).alloc _).alloc _;have sF:Hid (qf w2.heap.size (w2.heap.size+1) x y ((w2.alloc (.cells (ah x) 33)).alloc (.cells (ah y) 33))):=⟨(hb1.alloc _).p4,gX.p4⟩;have HX:=Lib.hid ((hx.ext aA).ext jl);have HY:=Lib.hid (hy.ext jl);have HE:=Lib.hid ((af.trans aA).trans jl);clear hb1 gX jl hx hy af aA
 go_upto_region 2 with(fail)
 generalize (w2.alloc (.cells (ah x) 33)).alloc (.cells (ah y) 33)=W at*;generalize w2.heap.size=g0 at*;have HSd:Hid (qf g0 (g0+1) x y W.drew):=sF.out.ext (Ext.refl W).drew;have Ol:=Lib.hid (HX.out.ext (Ext.refl W).drew);have Y1:=Lib.hid (HY.out.ext (Ext.refl W).drew);have HEd:=Lib.hid (HE.out.trans (Ext.refl W).drew);clear HX HY HE sF;refine fM (qf g0 (g0+1) x y) 13 (by kernel_rfl) HSd.out (λhHeld=>?_);generalize W.drew=wd at*;have C1:Hid (∀W',Ext wd W'->Calls Tryz.prog 53 #[.agg (ah x),.int .i64 2] W' (dH M0 W' 4 (bA (ni 1) 2))):=λW' h=>qnQ M0 x (ni 1) 1 2 W' (yt _) (Ol.out.ext h).pi (by decide) (by decide) (qag 1) (by decide);have C3:Hid (∀W' p,Ext wd W'->aI M0 W' 4 p (bA (ni 1) 2)->Calls Tryz.prog 54 #[.agg (ah p),.agg (ah y)] W' (dH M0 W' 4 qF)):=λW' p h hp=>qys M0 p y _ _ W' (yt _) hp.pi (Y1.out.ext h).pi (by decide);have C6:Hid (∀W' b a n p,Ext wd W'->dB M0 W' (.bool b) (.slice a n p) 2->Calls Tryz.prog 74 #[.agg (ah x),.agg #[.bool b,.slice a n p]] W' (dH M0 W' 4 qG)):=λW' b a n p h hp=>qdm M0 x (ni 1) 1 b a n p 2 W' (yt _) (Ol.out.ext h).pi hp (by decide) (qag 1) (by decide);clear Ol;(refine dF [0,2,4] ?_;(iterate 3 (refine dD (v:=?_) ?_ ?_;rotate_left 1;(intro wS hSw;obtain⟨⟨S1,S2,S3,S4⟩,S5,S6,S7,S8⟩:=hSw;go_simp;try with_reducible rfl);(try simp only[Act.put,aD,aF,aG])));refine dG ?_);((refine aK 1 ?_;intro K hK);go_simp;(refine(C1.out wd (Ext.refl wd)).mono ?_);rintro e_ v1 ⟨p,rfl,hp,d1⟩;go_wp2_with (fail);(try clear ag);(have ag:=hHeld.ext d1);(refine hK.out _ _ (λ_=>ag) ?_);clear hK K;(try simp only[Act.put,aD,aF,aG]))
 ((refine aK 3 ?_;intro K hK);go_simp;(refine(C3.out v1 p d1 hp).mono ?_);rintro e_ v3 ⟨q,rfl,hq,d3⟩;go_wp2_with (fail);(try clear ag);(have ag:=hHeld.ext (d1.trans d3));(refine hK.out _ _ (λ_=>ag) ?_);clear hK K;(try simp only[Act.put,aD,aF,aG]));((refine aK 5 ?_;intro K hK);go_simp;(refine(qlV 2 (by omega) v3).mono ?_);rintro e_ v5 ⟨ib,ia,ik,ip,rfl,hI,d5⟩;go_wp2_with (fail);(try clear ag);(have ag:=hHeld.ext ((d1.trans d3).trans d5));(refine hK.out _ _ (λ_=>ag) ?_);clear hK K;(try simp only[Act.put,aD,aF,aG]));((refine aK 6 ?_;intro K hK);go_simp;(refine(C6.out v5 ib ia ik ip ((d1.trans d3).trans d5) hI).mono ?_);rintro e_ v6 ⟨r,rfl,hr,d6⟩;go_wp2_with (fail);(try clear ag);(have ag:=hHeld.ext (((d1.trans d3).trans d5).trans d6));(refine hK.out _ _ (λ_=>ag) ?_);clear hK K;(try simp only[Act.put,aD,aF,aG]));((refine aK 7 ?_;intro K hK);go_simp;(refine(HQP.out M0 v6 q r (yt _) ((hq.ext d5).ext d6) hr).mono ?_);rintro e_ v7 ⟨gl,rfl,hg,hk,d7⟩;go_wp2_with (fail);(try clear ag);(have ag:=hHeld.ext ((((d1.trans d3).trans d5).trans d6).trans d7));(refine hK.out _ _ (λ_=>ag) ?_);clear hK K;(try simp only[Act.put,aD,aF,aG]));have iB:=Lib.hid ((((d1.trans d3).trans d5).trans d6).trans d7);obtain⟨z,⟨z0,z1,z2,z3⟩,hz⟩:=hk.jH 0 (by omega);simp only[Nat.zero_mul,Nat.zero_add]at z0 z1 z2 z3;have HZ:=Lib.hid hz;have NW:Hid (P4 v7 gl z):=⟨z0,z1,z2,z3⟩
 have Kt:Hid (qf g0 (g0+1) x y v7):=ag;have HL:Hid (gl<v7.heap.size):=hk.lt;(refine dF [8,9,10,11,12] ?_;(iterate 5 (refine dD (v:=?_) ?_ ?_;rotate_left 1;(intro wS hSw;obtain⟨⟨S1,S2,S3,S4⟩,S5,S6,S7,S8⟩:=hSw;go_simp;try with_reducible rfl);(try simp only[Act.put,aD,aF,aG])));refine dG ?_);refine ek ?_;clear hHeld ag d1 d3 d5 d6 d7 hp hq hI hr hg hk z0 z1 z2 z3 C1 C3 C6 hz
 go_upto_region 3 with(fail)
 have HSJ:Hid (KW g0 (g0+1) gl x y z v7.drew):=KW.ext ⟨Kt.out.1,Kt.out.2,NW.out⟩ (Ext.refl _).drew;have HYe:=Lib.hid ((Y1.out.ext iB.out).ext (Ext.refl v7).drew);have HZe:=Lib.hid (HZ.out.ext (Ext.refl v7).drew);have HEe:=Lib.hid ((HEd.out.trans iB.out).trans (Ext.refl v7).drew);clear Y1 HZ iB HEd Kt NW HSd HL;refine fM (KW g0 (g0+1) gl x y z) 17 (by kernel_rfl) HSJ.out (λhHeld=>?_);generalize v7.drew=we at*;have Nf:Hid (∀W' b a n p,Ext we W'->dB M0 W' (.bool b) (.slice a n p) 4->Calls Tryz.prog 74 #[.agg (ah y),.agg #[.bool b,.slice a n p]] W' (dH M0 W' 4 qY)):=λW' b a n p h hp=>qdm M0 y (ni 2) 1 b a n p 4 W' (yt _) (HYe.out.ext h).pi hp (by decide) (qag 2) (by decide);(refine dF [0,1,2,3,4,5,6,7,8,9,10,11] ?_;(iterate 12 (refine dD (v:=?_) ?_ ?_;rotate_left 1;(intro wS hSw;obtain⟨⟨S1,S2,S3,S4⟩,⟨S5,S6,S7,S8⟩,S9,vZ,yZ,wh⟩:=hSw;go_simp;try with_reducible rfl);(try simp only[Act.put,aD,aF,aG])));refine dG ?_);((refine aK 12 ?_;intro K hK);go_simp;(refine(qlV 4 (by omega) we).mono ?_);rintro e_ v1 ⟨ib,ia,ik,ip,rfl,hI,d1⟩;go_wp2_with (fail);(try clear ag);(have ag:=hHeld.ext d1);(refine hK.out _ _ (λ_=>ag) ?_);clear hK K;(try simp only[Act.put,aD,aF,aG]));((refine aK 13 ?_;intro K hK);go_simp;(refine(Nf.out v1 ib ia ik ip d1 hI).mono ?_);rintro e_ v2 ⟨q,rfl,hq,d2⟩;go_wp2_with (fail);(try clear ag);(have ag:=hHeld.ext (d1.trans d2));(refine hK.out _ _ (λ_=>ag) ?_);clear hK K;(try simp only[Act.put,aD,aF,aG]))
 have CS:=Lib.hid (qyF z q qY qY v2 true ((HZe.out.more (M':=M0) λb hb=>.inl (.inl hb)).ext (d1.trans d2)).pi hq.pi (by simp[ae.refl]));((refine aK 14 ?_;intro K hK);go_simp;(refine(CS.out).mono ?_);rintro e_ v3 ⟨rfl,d3⟩;go_wp2_with (fail);(try clear ag);(have ag:=hHeld.ext ((d1.trans d2).trans d3));(refine hK.out _ _ (λ_=>ag) ?_);clear hK K;(try simp only[Act.put,aD,aF,aG]));(refine dF [15,16] ?_;(iterate 2 (refine dD (v:=?_) ?_ ?_;rotate_left 1;(intro wS hSw;obtain⟨⟨S1,S2,S3,S4⟩,⟨S5,S6,S7,S8⟩,S9,vZ,yZ,wh⟩:=hSw;go_simp;try with_reducible rfl);(try simp only[Act.put,aD,aF,aG])));refine dG ?_);refine ek ?_;have HF:=Lib.hid (HEe.out.trans ((d1.trans d2).trans d3));clear hHeld ag CS Nf HSJ HYe HZe HEe d1 d2 d3 hq hI;go_wp2;go_ret;exact⟨rfl,HF.out⟩
end Go.Proofs.YtmcfpnmoklnhoaaGreat
