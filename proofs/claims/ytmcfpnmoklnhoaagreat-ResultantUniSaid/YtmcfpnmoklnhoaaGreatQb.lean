/- Qb -/
import Derived.Test.YtmcfpnmoklnhoaaGreatEe
import Derived.Test.YtmcfpnmoklnhoaaGreatBj
set_option linter.unusedVariables false
set_option maxRecDepth 100000
set_option maxHeartbeats 400000000
set_option linter.unusedSimpArgs false
namespace Go.Proofs.YtmcfpnmoklnhoaaGreat
open Go.RowKit
noncomputable def LA(l r:List Tm):List Tm:=open Classical in if h:¬af r []/\Dv r l then norm h.2.choose else[]
theorem qpM{l r q:List Tm}(hq:NN q)(hr:NN r)(hz:¬af r [])(h:af (aF q r) l):LA l r=norm q:=by
 have hd:Dv r l:=⟨q,hq,h⟩;unfold LA;rw[dif_pos ⟨hz,hd⟩];have hs:=hd.choose_spec;exact(Lj hs.1 hq hr hz (hs.2.trans h.symm)).norm
theorem qpL{l r:List Tm}(h:af r []\/¬Dv r l):LA l r=[]:=by
 unfold LA;rw[dif_neg];rintro⟨h1,h2⟩;exact h.elim h1 λh=>h h2
def qiu(M:Nat->Prop)(w:World)(q:List Tm)(A:Nat)(e:Ending)(w':World):Prop:=∃v:PE,e=.returned (.agg (ak v))/\aN M w' 4 v q/\aH (aK q)<=A/\Ext w w'
theorem qAG{M:Nat->Prop}{w':World}{l r:List Tm}{A:Nat}{v:PE}{er:Int}(hr:NN r)(h:(er=2/\af r []/\v=PE.z)\/(er=0/\¬af r []/\∃q,aN M w' 4 v q/\af (aF q r) l/\aH (aK q)<=A)\/(er=3/\v=PE.z/\¬af r []/\¬Dv r l)):aN M w' 4 v (LA l r)/\aH (aK (LA l r))<=A:=by
 rcases h with⟨_,h1,rfl⟩|⟨_,h1,q,h2,h3,h4⟩|⟨_,rfl,h1,h2⟩
 ·rw[qpL (.inl h1)];exact⟨CR.zero _ _ _,bK _⟩
 ·rw[qpM h2.nn hr h1 h3];exact⟨h2.dh (ow h2.nn).symm,aR (jB (qzC q)) h4⟩
 ·rw[qpL (.inr h2)];exact⟨CR.zero _ _ _,bK _⟩
theorem dO.qt{M:Nat->Prop}{w w':World}{q:List Tm}{e:Ending}{A:Nat}(h:dO M w 4 q e w')(hb:aH (aK q)<=A):qiu M w q A e w':=by
 obtain⟨y,e1,c,x⟩:=h;exact⟨y,e1,c,hb,x⟩
theorem qzu(w:World)(x:PE):jK (w.alloc (.cells (ak x) 33)) w.heap.size 0 x:=by
 have hB:=aG.bq w (ak x) 33 4 rfl;exact⟨hB.cell (i:=0) (by omega),hB.cell (i:=1) (by omega),hB.cell (i:=2) (by omega),hB.cell (i:=3) (by omega)⟩
theorem qBD(M:Nat->Prop)(l r:List Tm)(x y:PE)(AA:Nat)(w:World)(hM:Mb M w)(h:PI M w x l)(hy:PI M w y r)(hr:NN r)(hC:∀(M':Nat->Prop)(W:World),Mb M' W->PI M' W x l->PI M' W y r->Calls Tryz.prog 14 #[.agg (ak x),.agg (ak y)] W (ML M' W l r AA)):
 Calls Tryz.prog 196 #[.agg (ak x),.agg (ak y)] w (qiu M w (LA l r) AA):=by
 obtain⟨hE,⟨x0,x1,x2,x3⟩,⟨y0,y1,y2,y3⟩,dJ,fu⟩:=yN hM x y;have h2:=(h.more (M':=Mx M w.heap.size (w.heap.size+3)) (Mx.more (aI _))).ext hE;have rC:=(hy.more (M':=Mx M w.heap.size (w.heap.size+3)) (Mx.more (aI _))).ext hE;have CT:=ae (hC _ _ fu h2 rC);have HQ:Hid (NN r):=hr;have HB:=ae dJ;have HE:=ae hE;clear h2 rC h hy hr hC fu dJ hE hM
 go_enter Tryz.func196,Tryz.ntmps196
 go_wp2_with (fail);refine CT.out.mono ?_;rintro e w1 ⟨v,er,rfl,hc,az⟩;obtain⟨hq,hqd⟩:=qAG HQ.out hc;have jl:=(aA w1).alloc (.cells (ak v) 33);obtain⟨b0,b1,b2,b3⟩:=qzu w1 v;have hq2:=hq.ext jl;have PS:=ae hqd;have lH:=ae (az.trans jl);generalize jW:w1.alloc (.cells (ak v) 33)=W2 at*;have wG:=ae jW;clear CT hc az hq hqd jl jW x0 x1 x2 x3 y0 y1 y2 y3
 go_upto_region 2 with(fail)
 rw[wG.out];generalize w1.heap.size=g1 at*;clear wG;obtain⟨⟨q0,q1,q2,q3⟩,⟨f0,f1,f2,f3⟩,⟨r0,r1,r2,r3⟩,HF⟩:=iF (M:=M) (w:=w) (HB.out.ext lH.out) (Mx.at (by omega)) (by omega) (HE.out.trans lH.out) hq2 Mx.sub;have HR:=ae (dO.qt HF.out PS.out);clear HF hq2;go_wp2;exact bu (v:=.agg (ak v)) (by simp[results,Tryz.results196,go_sem,r0,r1,r2,r3]) rfl HR.out
theorem bE.neg{L n:Nat}{l:List Tm}(h:bE L (dN l) n):bE L l n:=
 ⟨λm hm=>h.1 m (by rw[qO];omega),h.2.imp id λ⟨m,h1,h2⟩=>⟨m,by rw[qO]at h1;omega,h2⟩⟩
def qiv(M:Nat->Prop)(w:World)(f g:List Tm)(J:Nat)(e:Ending)(w':World):Prop:=∃(y:PE)(n V:Nat),e=.returned (.agg (ak y))/\bE J g n/\uu J f n V/\aN M w' 4 y (lQ J n V f (dN g))/\Ext w w'
def uo(g:Nat)(x y:PE)(w:World):Prop:=P4 w g x/\P4 w (g+1) y
theorem uo.ext{g:Nat}{x y:PE}{w w':World}(h:uo g x y w)(he:Ext w w'):uo g x y w':=⟨h.1.ext he,h.2.ext he⟩
theorem qed(w:World):Ext w (w.alloc (.cells zA 33))/\aG (w.alloc (.cells zA 33)) w.heap.size 33 4 (arr zA):=⟨(aA _).alloc _,aG.bq w zA 33 4 rfl⟩
theorem qta{w:World}{g:Nat}{t:TypeId}{f:Nat->Value}(h:aG w g t 4 f)(x:PE):aG (aM w g 0 (.int .i64 x.lv) (.bool x.b) (.slice x.a x.n x.p) (.slice x.ka x.kn x.kp)) g t 4 (arr (ak x)):=
 (h.aM 0 (.int .i64 x.lv) (.bool x.b) (.slice x.a x.n x.p) (.slice x.ka x.kn x.kp)).congr λi hi=>match i,hi with
  |0,_=>F4 f 0 _ _ _ _
  |1,_=>F5 f 0 _ _ _ _
  |2,_=>F6 f 0 _ _ _ _
  |3,_=>F7 f 0 _ _ _ _
theorem qBE(T:Nat)(M:Nat->Prop)(f g:List Tm)(x y:PE)(J B C A D:Nat)(w:World)(h1:1<=J)(h4:J<=4)(hM:Mb M w)(h:PI M w x f)(k:PI M w y g)(nf:NN f)(ng:NN g)(hz:¬af g [])(hB:bH B f)(hC:bH C g)(rV:C+1<=1099511627776)(hA:aH (aK f)<=A)(hD:aH (aK g)<=D)(E9:D+1<=1099511627776)(hN:Y4 T B C A D)(hT:∀n V:Nat,bE J g n->uu J f n V->V<=T):
 Calls Tryz.prog 195 #[.agg (ak x),.agg (ak y),.int .i64 (J:Int)] w (qiv M w f g J):=by
 obtain⟨hE,hX,hY,QU,fu⟩:=yN hM x y;have h2:=(h.more (M':=Mx M w.heap.size (w.heap.size+3)) (Mx.more (aI _))).ext hE;have k2:=(k.more (M':=Mx M w.heap.size (w.heap.size+3)) (Mx.more (aI _))).ext hE;have o9:Mx M w.heap.size (w.heap.size+3) (w.heap.size+2):=Mx.at (by omega);have hMs:∀b,M b->Mx M w.heap.size (w.heap.size+3) b:=Mx.sub;generalize hW:((w.alloc (.cells (ak x) 33)).alloc (.cells (ak y) 33)).alloc (.cells zA 33)=W at*;generalize Mx M w.heap.size (w.heap.size+3)=M' at*;have CN:Hid (∀(Mk:Nat->Prop)(wk:World),Ext W wk->Mb Mk wk->(∀b,Mk b->M' b\/W.heap.size<=b)->Calls Tryz.prog 116 #[.agg (ak y)] wk (dO Mk wk 4 (dN g))):=λMk wk he hm hs=>Yn Mk y g C wk hm ((k2.more hs).ext he) (by omega) hC rV
 have CR:Hid (∀(Mk:Nat->Prop)(wk:World)(u:PE),Ext W wk->Mb Mk wk->(∀b,Mk b->M' b\/W.heap.size<=b)->aN Mk wk 4 u (dN g)->Calls Tryz.prog 206 #[.agg (ak x),.agg (ak u),.int .i64 (J:Int)] wk λe w'=>∃(y:PE)(er:Int)(n V:Nat),e=.returned (.tuple #[.agg (ak y),.int .i64 er])/\aN Mk w' 4 y (lQ J n V f (dN g))/\bE J g n/\uu J f n V/\Ext wk w'):=λMk wk u he hm hs hu=>by
  refine(qAs T Mk x u f (dN g) (J:Int) B C A D wk hm ((h2.more hs).ext he) hu.pi nf (qP ng) hB (Tf hC) hA (by rw[qea];exact hD) hN λJ' n V e hd hs=>by(obtain rfl:J=J':=by omega);exact hT n V hd.neg hs).mono ?_;rintro e w' ⟨y',er,rfl,hr,wP⟩;rcases hr with⟨h5,_⟩|⟨_,h5,_⟩|⟨J',n,V,e1,_,_,_,hd,kC,_,hc⟩
  ·exact absurd ⟨by omega,by omega⟩ h5
  ·exact absurd (λm=>by have:=h5 m;rw[qO]at this;simp only[aL]at this⊢;omega) hz
  ·have:J'=J:=by omega
   subst this;exact⟨y',er,n,V,rfl,hc,hd.neg,kC,wP⟩
 have HS:Hid (uo w.heap.size x y W):=⟨hX,hY⟩;have kF:=ae QU;have HE:=ae hE;have gJ:=ae fu;have kY:=ae o9;have HMS:=ae hMs;have HW:=ae hW;clear hE hX hY QU fu h2 k2 o9 hMs hW hM h k nf ng hz hB hC rV hA hD E9 hN hT h1 h4
 go_enter Tryz.func195,Tryz.ntmps195
 go_upto_region 1 with(fail)
 rw[HW.out];obtain⟨gz,DN⟩:∃q,q=w.heap.size:=⟨_,rfl⟩;have yx:=ae DN;rw[<-DN]at HS kF kY⊢;clear DN HW;have hS:uo gz x y W.drew:=HS.out.ext (aA W).drew;have vE:=(aA W).drew;have eP:Hid (Mb M' W.drew):=gJ.out.ext vE;have qhE:Hid (∀b,M' b->M' b\/W.heap.size<=b):=λb h=>.inl h;refine gB (uo gz x y) 10 (by kernel_rfl) hS (λhHeld=>?_);clear hS;generalize W.drew=wd at*;have jN:=ae vE;clear vE;(refine cB [0,1,3] ?_;(iterate 3 (refine bZ (v:=?_) ?_ ?_;rotate_left 1;(intro wS hSw;obtain⟨⟨A0,A1,A2,A3⟩,B0,B1,B2,B3⟩:=hSw;go_simp;try with_reducible rfl);(try simp only[Act.put,aB,aC,aD])));refine cK ?_);(refine pI 2 8 (oi:=?_) (oj:=?_) (by kernel_rfl) ?_ ?_ ?_ ?_;rotate_left 2;(simp only[fC,fD,fE];rfl);(simp only[fC,fD,fE];rfl);all_goals intro K hK)
 focus
  go_simp;refine(CN.out M' wd jN.out eP.out qhE.out).mono ?_;rintro e v1 ⟨u,rfl,hu,d1⟩;go_wp2_with (fail)
  try clear ag
  have ag:=hHeld.ext (d1);refine hK.out _ _ (λ_=>ag) ?_;clear hK K;(try simp only[Act.put,aB,aC,aD]);(refine pI 4 8 (oi:=?_) (oj:=?_) (by kernel_rfl) ?_ ?_ ?_ ?_;rotate_left 2;(simp only[fC,fD,fE];rfl);(simp only[fC,fD,fE];rfl);all_goals intro K hK)
  focus
   go_simp;refine(CR.out M' v1 u (jN.out.trans d1) (eP.out.ext d1) qhE.out hu).mono ?_;rintro e v2 ⟨z,er,n,V,rfl,hz,pW,jG,d2⟩;go_wp2_with (fail)
   try clear ag
   have ag:=hHeld.ext (d1.trans d2);refine hK.out _ _ (λ_=>ag) ?_;clear hK K;(try simp only[Act.put,aB,aC,aD]);(refine cB [5,6,7] ?_;(iterate 3 (refine bZ (v:=?_) ?_ ?_;rotate_left 1;(intro wS hSw;obtain⟨⟨A0,A1,A2,A3⟩,B0,B1,B2,B3⟩:=hSw;go_simp;try with_reducible rfl);(try simp only[Act.put,aB,aC,aD])));refine cK ?_);(refine aO 8 ?_;intro K hK);go_simp;obtain⟨dA,kv⟩:=qed v2
   try clear ag
   have ag:=hHeld.ext ((d1.trans d2).trans dA);refine hK.out _ _ (λ_=>ag) ?_;clear hK K;(try simp only[Act.put,aB,aC,aD]);have Og:=(d1.trans d2).size;have Ir:v2.heap.size<(v2.alloc (.cells zA 33)).heap.size:=kv.lt;generalize v2.alloc (.cells zA 33)=vF at*;have IL:aN (λb=>M' b\/b=v2.heap.size) vF 4 z (lQ J n V f (dN g)):=(hz.more (λb hb=>hb.imp id λh=>by omega)).ext dA;have EF:=(d1.trans d2).trans dA;generalize v2.heap.size=gq at*;clear hz hu d1 d2 dA Ir
  rotate_left
  focus
   go_simp;obtain⟨dA,kv⟩:=qed v1
   try clear ag
   have ag:=hHeld.ext ((d1).trans dA);refine hK.out _ _ (λ_=>ag) ?_;clear hK K;(try simp only[Act.put,aB,aC,aD]);have Og:=(d1).size;have Ir:v1.heap.size<(v1.alloc (.cells zA 33)).heap.size:=kv.lt;generalize v1.alloc (.cells zA 33)=v2 at*
   have Kv:Mb (λb=>M' b\/b=v1.heap.size) v2:=λb hb=>hb.elim (λh=>((eP.out.ext d1).ext dA) b h) λh=>by rw[h];exact Ir
   replace hu:aN (λb=>M' b\/b=v1.heap.size) v2 4 u (dN g):=(hu.more (λb hb=>hb.imp id λh=>by omega)).ext dA
   have Iw:∀b,(M' b\/b=v1.heap.size)->M' b\/W.heap.size<=b:=λb hb=>hb.imp id λh=>by have:=jN.out.size;omega
   generalize v1.heap.size=gq at*;(refine aO 4 ?_;intro K hK);go_simp;refine(CR.out (λb=>M' b\/b=gq) v2 u ((jN.out.trans d1).trans dA) Kv Iw hu).mono ?_;rintro e vF ⟨z,er,n,V,rfl,hz,pW,jG,d2⟩;go_wp2_with (fail)
   try clear ag
   have ag:=hHeld.ext ((d1.trans dA).trans d2);refine hK.out _ _ (λ_=>ag) ?_;clear hK K;(try simp only[Act.put,aB,aC,aD]);(refine cB [5,6,7] ?_;(iterate 3 (refine bZ (v:=?_) ?_ ?_;rotate_left 1;(intro wS hSw;obtain⟨⟨A0,A1,A2,A3⟩,B0,B1,B2,B3⟩:=hSw;go_simp;try with_reducible rfl);(try simp only[Act.put,aB,aC,aD])));refine cK ?_);have IL:=hz;have EF:=(d1.trans dA).trans d2;replace kv:=kv.ext d2;clear hz hu d1 d2 dA Ir Kv Iw
 rotate_left
 rotate_left
 focus
  go_simp;obtain⟨dA,kv⟩:=qed wd
  try clear ag
  have ag:=hHeld.ext (((aA wd)).trans dA);refine hK.out _ _ (λ_=>ag) ?_;clear hK K;(try simp only[Act.put,aB,aC,aD]);have Og:=((aA wd)).size;have Ir:wd.heap.size<(wd.alloc (.cells zA 33)).heap.size:=kv.lt;generalize wd.alloc (.cells zA 33)=v0 at*
  have Kv:Mb (λb=>M' b\/b=wd.heap.size) v0:=λb hb=>hb.elim (λh=>(eP.out.ext dA) b h) λh=>by rw[h];exact Ir
  have Iw:∀b,(M' b\/b=wd.heap.size)->M' b\/W.heap.size<=b:=λb hb=>hb.imp id λh=>by have:=jN.out.size;omega
  obtain⟨gq,Bn⟩:∃q,q=wd.heap.size:=⟨_,rfl⟩;rw[<-Bn]at Kv Iw kv Ir⊢
  replace Og:wd.heap.size<=gq:=by omega
  clear Bn;(refine aO 2 ?_;intro K hK);go_simp;refine(CN.out (λb=>M' b\/b=gq) v0 (jN.out.trans dA) Kv Iw).mono ?_;rintro e v1 ⟨u,rfl,hu,d1⟩;go_wp2_with (fail)
  try clear ag
  have ag:=hHeld.ext (dA.trans d1);refine hK.out _ _ (λ_=>ag) ?_;clear hK K;(try simp only[Act.put,aB,aC,aD]);(refine aO 4 ?_;intro K hK);go_simp;refine(CR.out (λb=>M' b\/b=gq) v1 u ((jN.out.trans dA).trans d1) (Kv.ext d1) Iw hu).mono ?_;rintro e vF ⟨z,er,n,V,rfl,hz,pW,jG,d2⟩;go_wp2_with (fail)
  try clear ag
  have ag:=hHeld.ext ((dA.trans d1).trans d2);refine hK.out _ _ (λ_=>ag) ?_;clear hK K;(try simp only[Act.put,aB,aC,aD]);(refine cB [5,6,7] ?_;(iterate 3 (refine bZ (v:=?_) ?_ ?_;rotate_left 1;(intro wS hSw;obtain⟨⟨A0,A1,A2,A3⟩,B0,B1,B2,B3⟩:=hSw;go_simp;try with_reducible rfl);(try simp only[Act.put,aB,aC,aD])));refine cK ?_);have IL:=hz;have EF:=(dA.trans d1).trans d2;replace kv:=(kv.ext d1).ext d2;clear hz hu d1 d2 dA Ir Kv Iw
 all_goals
  have LQ:Hid (aG vF (gz+2) 33 4 (arr zA)):=kF.out.ext (jN.out.trans EF);have dm:=qta kv z;have bD:Kp (λb=>M' b\/b=gq) vF (aM vF gq 0 (.int .i64 z.lv) (.bool z.b) (.slice z.a z.n z.p) (.slice z.ka z.kn z.kp)):=Kp.aM (.inr rfl) _ _ _ _ _
  have hle:wd.heap.size<=gq:=by omega
  have bI:=EF.aM hle 0 (.int .i64 z.lv) (.bool z.b) (.slice z.a z.n z.p) (.slice z.ka z.kn z.kp);have hz1:=IL.kp bD;obtain⟨q0,q1,q2,q3⟩:vF.cell? ⟨gq,0,none⟩=some (.int .i64 0)/\vF.cell? ⟨gq,1,none⟩=some (.bool false)/\vF.cell? ⟨gq,2,none⟩=some (.slice none 0 0)/\vF.cell? ⟨gq,3,none⟩=some (.slice none 0 0):=⟨kv.cell (i:=0) (by omega),kv.cell (i:=1) (by omega),kv.cell (i:=2) (by omega),kv.cell (i:=3) (by omega)⟩;obtain⟨f0,f1,f2,f3⟩:vF.frozen? ⟨gq,0,none⟩=false/\vF.frozen? ⟨gq,1,none⟩=false/\vF.frozen? ⟨gq,2,none⟩=false/\vF.frozen? ⟨gq,3,none⟩=false:=⟨kv.frozen 0,kv.frozen 1,kv.frozen 2,kv.frozen 3⟩;obtain⟨W1,hW1⟩:∃W1,W1=aM vF gq 0 (.int .i64 z.lv) (.bool z.b) (.slice z.a z.n z.p) (.slice z.ka z.kn z.kp):=⟨_,rfl⟩;rw[<-hW1]at dm bD bI hz1;unfold aM at hW1;have je:=hHeld.ext bI
  try clear ag
  (refine aO 9 ?_;intro K hK);go_simp;rw[<-hW1];clear hW1;refine hK.out _ _ (λ_=>je) ?_;clear hK K q0 q1 q2 q3 f0 f1 f2 f3;(try simp only[Act.put,aB,aC,aD]);have dF:=ae dm;have qkl:aG W1 (gz+2) 33 4 (arr zA):=kF.out.ext (jN.out.trans bI)
  have hHN:w.heap.size<=gz+2:=by have:=yx.out;omega
  obtain⟨⟨q0,q1,q2,q3⟩,⟨f0,f1,f2,f3⟩,⟨r0,r1,r2,r3⟩,HF⟩:=iF (M:=M) (w:=w) qkl kY.out hHN (HE.out.trans (jN.out.trans bI)) (hz1.more (M':=M') λb hb=>.inl (.inl hb)) HMS.out;have HR:Hid (qiv M w f g J (.returned (.agg (ak z))) _):=⟨_,n,V,HF.out.choose_spec.1,pW,jG,HF.out.choose_spec.2.1,HF.out.choose_spec.2.2⟩;obtain⟨b0,b1,b2,b3⟩:W1.cell? ⟨gq,0,none⟩=some (.int .i64 z.lv)/\W1.cell? ⟨gq,1,none⟩=some (.bool z.b)/\W1.cell? ⟨gq,2,none⟩=some (.slice z.a z.n z.p)/\W1.cell? ⟨gq,3,none⟩=some (.slice z.ka z.kn z.kp):=⟨dF.out.cell (i:=0) (by omega),dF.out.cell (i:=1) (by omega),dF.out.cell (i:=2) (by omega),dF.out.cell (i:=3) (by omega)⟩;clear IL bD hz1 kv dm dF qkl LQ bI EF je hHeld HF pW jG hle Og hHN;((refine aO 10 ?_;intro K hK);go_simp;(refine hK.out _ _ (λh=>absurd rfl h) ?_);clear hK K;refine dX ?_);go_wp2;exact bu (v:=.agg (ak z)) (by simp[results,Tryz.results195,go_sem,r0,r1,r2,r3]) rfl HR.out
def MK(f g:List Tm)(L:Int)(w:World)(e:Ending)(w':World):Prop:=∃er:Int,e=.returned (.int .i64 er)/\((¬(1<=L/\L<=4)/\er=4)\/((1<=L/\L<=4)/\(af f []\/af g [])/\er=2)\/((1<=L/\L<=4)/\¬af f []/\¬af g []/\er=0))/\Ext w w'
theorem XY(w:World)(x y:PE):P4 ((w.alloc (.cells (ak x) 33)).alloc (.cells (ak y) 33)) w.heap.size x/\P4 ((w.alloc (.cells (ak x) 33)).alloc (.cells (ak y) 33)) (w.heap.size+1) y:=by
 have h1:=aG.bq (w.alloc (.cells (ak x) 33)) (ak y) 33 4 rfl;have h2:=(aG.bq w (ak x) 33 4 rfl).alloc (.cells (ak y) 33);simp only[World.size_alloc]at h1 h2;exact⟨h2.p4,h1.p4⟩
theorem qBB(M:Nat->Prop)(f g:List Tm)(x y:PE)(L:Int)(w:World)(hM:Mb M w)(h:PI M w x f)(k:PI M w y g):Calls Tryz.prog 163 #[.agg (ak x),.agg (ak y),.int .i64 L] w (MK f g L w):=by
 have hX:=((aA w).alloc (.cells (ak x) 33)).alloc (.cells (ak y) 33);have hB:=XY w x y;have CF:Hid (∀W',Ext w W'->Calls Tryz.prog 72 #[.agg (ak x)] W' λe w'=>∃b:Bool,e=.returned (.bool b)/\(b=true↔af f [])/\Ext W' w'):=λW' he=>Jb M x f W' (hM.ext he) (h.ext he);have CG:Hid (∀W',Ext w W'->Calls Tryz.prog 72 #[.agg (ak y)] W' λe w'=>∃b:Bool,e=.returned (.bool b)/\(b=true↔af g [])/\Ext W' w'):=λW' he=>Jb M y g W' (hM.ext he) (k.ext he);clear hM h k;generalize hW:(w.alloc (.cells (ak x) 33)).alloc (.cells (ak y) 33)=W at*;have HW:=ae hW;have HX:=ae hX;have HB:=ae hB;clear hX hB hW
 by_cases l1:L<1
 ·have HR:Hid (MK f g L w (.returned (.int .i64 4)) W):=⟨4,rfl,.inl ⟨by omega,rfl⟩,HX.out⟩;clear CF CG
  go_enter Tryz.func163,Tryz.ntmps163
  go_upto_region 1 with(fail)
  rw[HW.out];go_wp2;go_ret;exact HR.out
 by_cases l4:4<L
 ·have HR:Hid (MK f g L w (.returned (.int .i64 4)) W):=⟨4,rfl,.inl ⟨by omega,rfl⟩,HX.out⟩;clear CF CG
  go_enter Tryz.func163,Tryz.ntmps163
  go_upto_region 1 with(fail)
  rw[HW.out];go_wp2;go_ret;exact HR.out
 have HL:Hid (1<=L/\L<=4):=⟨by omega,by omega⟩
 go_enter Tryz.func163,Tryz.ntmps163
 go_upto_region 1 with(fail)
 rw[HW.out];generalize w.heap.size=gz at*;obtain⟨⟨x0,x1,x2,x3⟩,y0,y1,y2,y3⟩:=HB.out;go_wp2_with (fail);refine(CF.out _ HX.out).mono ?_;rintro e w1 ⟨b,rfl,hb,az⟩;have lH:=ae (HX.out.trans az);have Zf:=ae hb;obtain⟨⟨x0,x1,x2,x3⟩,y0,y1,y2,y3⟩:P4 w1 gz x/\P4 w1 (gz+1) y:=⟨HB.out.1.ext az,HB.out.2.ext az⟩;clear hb az CF HB HX;cases b
 rotate_left
 ·have HR:Hid (MK f g L w (.returned (.int .i64 2)) w1):=⟨2,rfl,.inr (.inl ⟨HL.out,.inl (Zf.out.1 rfl),rfl⟩),lH.out⟩;go_wp2;go_ret;exact HR.out
 have ZW:Hid (¬af f []):=λh=>absurd (Zf.out.2 h) (by decide);clear Zf;go_wp2_with (fail);refine(CG.out _ lH.out).mono ?_;rintro e w2 ⟨b,rfl,hb,aJ⟩;have lY:=ae (lH.out.trans aJ);have HBG:=ae hb;clear hb aJ CG lH;cases b
 ·have HR:Hid (MK f g L w (.returned (.int .i64 0)) w2):=⟨0,rfl,.inr (.inr ⟨HL.out,ZW.out,λh=>absurd (HBG.out.2 h) (by decide),rfl⟩),lY.out⟩;go_wp2;go_ret;exact HR.out
 ·have HR:Hid (MK f g L w (.returned (.int .i64 2)) w2):=⟨2,rfl,.inr (.inl ⟨HL.out,.inr (HBG.out.1 rfl),rfl⟩),lY.out⟩;go_wp2;go_ret;exact HR.out
def M9(M':Nat->Prop)(A B:Option Nat):Nat->Prop:=λg=>M' g\/A=some g\/B=some g
structure S9(M':Nat->Prop)(wd wk:World)(A B:Option Nat):Prop where
 e:Ext wd wk
 m:Mb M' wd
 a:∀g,A=some g->aG wk g 33 4 (arr zA)/\wd.heap.size<=g
 b:∀g,B=some g->aG wk g 33 4 (arr zA)/\wd.heap.size<=g
 ne:∀g,A=some g->B≠some g
theorem S9.lt{M':Nat->Prop}{wd wk:World}{A B:Option Nat}(h:S9 M' wd wk A B)(g:Nat)(hg:A=some g\/B=some g):wd.heap.size<=g/\g<wk.heap.size:=by
 rcases hg with hg|hg
 ·exact⟨(h.a g hg).2,(h.a g hg).1.lt⟩
 ·exact⟨(h.b g hg).2,(h.b g hg).1.lt⟩
theorem S9.mb{M':Nat->Prop}{wd wk:World}{A B:Option Nat}(h:S9 M' wd wk A B):Mb (M9 M' A B) wk:=λg hg=>hg.elim (λq=>dH (h.m g q) h.e.size) λq=>(h.lt g q).2
theorem S9.start{M':Nat->Prop}{wd:World}(hm:Mb M' wd):S9 M' wd wd none none:=⟨aA _,hm,(λg h=>by cases h),(λg h=>by cases h),λg h=>by cases h⟩
theorem S9.call{M':Nat->Prop}{wd wk w':World}{A B:Option Nat}(h:S9 M' wd wk A B)(d:Ext wk w'):S9 M' wd w' A B:=⟨h.e.trans d,h.m,λg hg=>⟨(h.a g hg).1.ext d,(h.a g hg).2⟩,λg hg=>⟨(h.b g hg).1.ext d,(h.b g hg).2⟩,h.ne⟩
theorem S9.sub{M':Nat->Prop}{wd wk:World}{A B:Option Nat}(h:S9 M' wd wk A B):∀g,M9 M' A B g->M' g\/wd.heap.size<=g:=λg hg=>hg.imp id λq=>(h.lt g q).1
theorem S9.ve{M':Nat->Prop}{wd wk:World}{B:Option Nat}(h:S9 M' wd wk none B):S9 M' wd (wk.alloc (.cells zA 33)) (some wk.heap.size) B:=by
 have d:Ext wk (wk.alloc (.cells zA 33)):=(aA wk).alloc _;refine⟨h.e.trans d,h.m,λg hg=>?_,λg hg=>⟨(h.b g hg).1.ext d,(h.b g hg).2⟩,λg hg hb=>?_⟩
 ·cases hg;exact⟨aG.bq wk zA 33 4 rfl,h.e.size⟩
 ·cases hg;have:=(h.b _ hb).1.lt;omega
theorem S9.qs3{M':Nat->Prop}{wd wk:World}{A:Option Nat}(h:S9 M' wd wk A none):S9 M' wd (wk.alloc (.cells zA 33)) A (some wk.heap.size):=by
 have d:Ext wk (wk.alloc (.cells zA 33)):=(aA wk).alloc _;refine⟨h.e.trans d,h.m,λg hg=>⟨(h.a g hg).1.ext d,(h.a g hg).2⟩,λg hg=>?_,λg hg hb=>?_⟩
 ·cases hg;exact⟨aG.bq wk zA 33 4 rfl,h.e.size⟩
 ·cases hb;have:=(h.a _ hg).1.lt;omega
theorem S9.mK{M':Nat->Prop}{wd wk:World}{B:Option Nat}{x:PE}{l:List Tm}(_:S9 M' wd wk none B)(hx:aN (M9 M' none B) wk 4 x l):aN (M9 M' (some wk.heap.size) B) (wk.alloc (.cells zA 33)) 4 x l:=by
 refine(hx.more (M':=M9 M' (some wk.heap.size) B) λg hg=>?_).ext ((aA wk).alloc _);rcases hg with hg|hg|hg
 ·exact .inl (.inl hg)
 ·cases hg;exact .inr (aI _)
 ·exact .inl (.inr (.inr hg))
theorem S9.qyG{M':Nat->Prop}{wd wk:World}{A:Option Nat}{x:PE}{l:List Tm}(_:S9 M' wd wk A none)(hx:aN (M9 M' A none) wk 4 x l):aN (M9 M' A (some wk.heap.size)) (wk.alloc (.cells zA 33)) 4 x l:=by
 refine(hx.more (M':=M9 M' A (some wk.heap.size)) λg hg=>?_).ext ((aA wk).alloc _);rcases hg with hg|hg|hg
 ·exact .inl (.inl hg)
 ·exact .inl (.inr (.inl hg))
 ·cases hg;exact .inr (aI _)
def uZ(a b:Nat)(x y:PE)(w:World):Prop:=P4 w a x/\P4 w b y
theorem uZ.ext{a b:Nat}{x y:PE}{w w':World}(h:uZ a b x y w)(he:Ext w w'):uZ a b x y w':=⟨h.1.ext he,h.2.ext he⟩
theorem qbv{L n:Nat}{l:List Tm}(h:∀s∈l,s.2.get L<=(n:Int))(m:Mo)(hm:aL l m≠0):m.get L<=(n:Int):=
 eF λhc=>hm (rQ λt ht e=>hc (e ▸ h t ht))
def MU(g1 g2 g3:Nat)(x y v:PE)(w:World):Prop:=P4 w g1 x/\P4 w g2 y/\P4 w g3 v
theorem MU.ext{g1 g2 g3:Nat}{x y v:PE}{w w':World}(h:MU g1 g2 g3 x y v w)(he:Ext w w'):MU g1 g2 g3 x y v w':=⟨h.1.ext he,h.2.1.ext he,h.2.2.ext he⟩
theorem XE(z:Int)(hz: -100<=z/\z<=100)(W':World):Calls Tryz.prog 22 #[.int .i64 z] W' λe w'=>∃b a n p,e=.returned (.agg #[.bool b,.slice a n p])/\dQ M0 w' (.bool b) (.slice a n p) z/\Ext W' w':=by
 refine(IQ z W' (qN _) (by omega) (by omega)).mono ?_;rintro e w' ⟨e0,e1,rfl,hI,he⟩;obtain⟨b,a,n,p,rfl,rfl⟩:=hI.form;exact⟨b,a,n,p,rfl,hI.fB,he⟩
end Go.Proofs.YtmcfpnmoklnhoaaGreat
