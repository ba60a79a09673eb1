/- Sb -/
import Derived.Test.YtmcfpnmoklnhoaaGreatSa
set_option linter.unusedVariables false
set_option maxRecDepth 100000
set_option maxHeartbeats 400000000
set_option linter.unusedSimpArgs false
namespace Go.Proofs.YtmcfpnmoklnhoaaGreat
open Go.RowKit
def qsP(a c:List Tm):Prop:=∀(M:Nat->Prop)(W:World)(x:PE),Mb M W->aN M W 4 x a->Calls Tryz.prog 116 #[.agg (ak x)] W (dO M W 4 c)
structure ChN(M:Nat->Prop)(w:World)(x y:PE)(J m n N:Nat)(F:Nat->List Tm):Prop where
 ck:∀wk,Ext w wk->Calls Tryz.prog 163 #[.agg (ak x),.agg (ak y),.int .i64 (J:Int)] wk λe w'=>e=.returned (.int .i64 0)/\Ext wk w'
 dx:∀wk,Ext w wk->Calls Tryz.prog 43 #[.agg (ak x),.int .i64 (J:Int)] wk λe w'=>e=.returned (.int .i64 (m:Int))/\Ext wk w'
 dy:∀wk,Ext w wk->Calls Tryz.prog 43 #[.agg (ak y),.int .i64 (J:Int)] wk λe w'=>e=.returned (.int .i64 (n:Int))/\Ext wk w'
 ds:n<=m->∀wk,Ext w wk->Calls Tryz.prog 164 #[.agg (ak x),.agg (ak y),.int .i64 (J:Int),.int .i64 (m:Int),.int .i64 (n:Int)] wk (J2 M wk N F)
 dt:m<n->∀wk,Ext w wk->Calls Tryz.prog 164 #[.agg (ak y),.agg (ak x),.int .i64 (J:Int),.int .i64 (n:Int),.int .i64 (m:Int)] wk (J2 M wk N F)
def Vj(M:Nat->Prop)(w:World)(N:Nat)(F:Nat->List Tm)(e:Ending)(w':World):Prop:=∃gl:Nat,e=.returned (.tuple #[.slice (some ⟨gl,0,none⟩) N N,.int .i64 0])/\w.heap.size<=gl/\Kids (λb=>M b\/b=gl) w' 4 gl N F/\Ext w w'
def SgC(m n N:Nat)(F F':Nat->List Tm):Prop:=∀j,j<N->(m<n/\((m-j)*(n-j))%2=1/\qsP (F j) (F' j))\/(¬(m<n/\((m-j)*(n-j))%2=1)/\af (F j) (F' j))
def BV(k:Nat)(F F':Nat->List Tm):Nat->List Tm:=λi=>if i<k then F' i else F i
theorem qeV(k:Nat)(F F':Nat->List Tm)(i:Nat):af (if i=k then F' k else BV k F F' i) (BV (k+1) F F' i):=by
 unfold BV
 by_cases h:i=k
 ·subst h;rw[ai rfl,ai (by omega)];exact af.refl _
 ·rw[ah h]
  by_cases h2:i<k
  ·rw[ai h2,ai (by omega)];exact af.refl _
  ·rw[ah h2,ah (by omega)];exact af.refl _
theorem qq1{a b:Nat}(ha:a<=100)(hb:b<=100):IntKind.i64.wrap ((a:Int)*(b:Int))=((a*b:Nat):Int):=by
 have h:a*b<=10000:=Nat.mul_le_mul ha hb;rw[<-Int.natCast_mul,IntWalk.i64_in _ (by omega)]
theorem qB6{p:Nat}(h:p%2=1):((p:Nat):Int).tmod 2=1:=by
 rw[Int.tmod_eq_emod_of_nonneg (iw _)];omega
theorem qB5{p:Nat}(h:p%2=0):((p:Nat):Int).tmod 2=0:=by
 rw[Int.tmod_eq_emod_of_nonneg (iw _)];omega
theorem qqt(M:Nat->Prop)(x y:PE)(J m n N:Nat)(F F':Nat->List Tm)(w:World)(hM:Mb M w)(hm:1<=m)(hn:1<=n)(vL:m<=100)(mg:n<=100)(hN:N=min m n)(H:ChN M w x y J m n N F)(S:SgC m n N F F'):
 Calls Tryz.prog 133 #[.agg (ak x),.agg (ak y),.int .i64 (J:Int)] w (Vj M w N F'):=by
 have hE:=((aA w).alloc (.cells (ak x) 33)).alloc (.cells (ak y) 33);have kM:=XY w x y;generalize hW:(w.alloc (.cells (ak x) 33)).alloc (.cells (ak y) 33)=W at*;have HW:=ae hW;have HE:=ae hE;have qV:Hid (uo w.heap.size x y W):=kM;have HM:=ae hM;have HH:=ae H;have Cw:=ae S;have gK:Hid (1<=m/\1<=n/\m<=100/\n<=100/\N<=m/\N<=n):=⟨hm,hn,vL,mg,by omega,by omega⟩;clear hE kM hW hM H S hm hn vL mg hN
 go_enter Tryz.func133,Tryz.ntmps133
 go_upto_region 1 with(fail)
 rw[HW.out];obtain⟨g0,vK⟩:∃g0,g0=w.heap.size:=⟨_,rfl⟩;rw[<-vK]at qV⊢;clear vK HW;obtain⟨⟨x0,x1,x2,x3⟩,y0,y1,y2,y3⟩:=qV.out;go_wp2_with (fail);refine(HH.out.ck W HE.out).mono ?_;rintro e w1 ⟨rfl,e1⟩;have dF:=ae (qV.out.ext e1);have aS:=ae (HE.out.trans e1);clear x0 x1 x2 x3 y0 y1 y2 y3 qV HE e1
 go_upto_region 4 with(fail)
 have qx:Hid (uo g0 x y w1.drew):=dF.out.ext (aA _).drew;have jN:Hid (Ext w w1.drew):=aS.out.trans (aA _).drew;refine gB (uo g0 x y) 8 (by kernel_rfl) qx.out (λhHeld=>?_);generalize w1.drew=wd at*;(refine cB [0,1,3,4] ?_;(iterate 4 (refine bZ (v:=?_) ?_ ?_;rotate_left 1;(intro wS hSw;obtain⟨⟨A0,A1,A2,A3⟩,B0,B1,B2,B3⟩:=hSw;go_simp;try with_reducible rfl);(try simp only[Act.put,aB,aC,aD])));refine cK ?_);((refine aO 2 ?_;intro K hK);go_simp;(refine(HH.out.dx wd jN.out).mono ?_);rintro e_ w5 ⟨rfl,e2⟩;go_wp2_with (fail);(try clear ag);(have ag:=hHeld.ext e2);(refine hK.out _ _ (λ_=>ag) ?_);clear hK K;(try simp only[Act.put,aB,aC,aD]));((refine aO 5 ?_;intro K hK);go_simp;(refine(HH.out.dy w5 (jN.out.trans e2)).mono ?_);rintro e_ w6 ⟨rfl,e5⟩;go_wp2_with (fail);(try clear ag);(have ag:=hHeld.ext (e2.trans e5));(refine hK.out _ _ (λ_=>ag) ?_);clear hK K;(try simp only[Act.put,aB,aC,aD]));(refine cB [6,7] ?_;(iterate 2 (refine bZ (v:=?_) ?_ ?_;rotate_left 1;(intro wS hSw;obtain⟨⟨A0,A1,A2,A3⟩,B0,B1,B2,B3⟩:=hSw;go_simp;try with_reducible rfl);(try simp only[Act.put,aB,aC,aD])));refine cK ?_);refine dX ?_;have fT:=ae (jN.out.trans (e2.trans e5));have oU:=ae (hHeld.ext (e2.trans e5));clear hHeld ag e2 e5 qx jN dF aS;obtain⟨mn,Bq⟩:∃mn:Int,mn=min (m:Int) (n:Int):=⟨_,rfl⟩
 have qdk:¬min (m:Int) (n:Int)=0:=by have:=gK.out;omega
 have qxk:(min (m:Int) (n:Int)==0)=false:=beq_eq_false_iff_ne.2 qdk;clear Bq
 go_upto_if 32 with(fail)
 clear qdk qxk
 go_cut [11] (λs11 wx=>∃gl:Nat,s11=.slice (some ⟨gl,0,none⟩) N N/\w.heap.size<=gl/\Kids (λb=>M b\/b=gl) wx 4 gl N F/\Ext w wx)
 case first=>
  by_cases iP:n<=m
  ·have jS:(m:Int) ≥ (n:Int):=by omega
   have CD:=ae (HH.out.ds iP w6 fT.out);obtain⟨⟨x0,x1,x2,x3⟩,y0,y1,y2,y3⟩:=oU.out;clear iP HH Cw;go_wp2_with (fail);refine CD.out.mono ?_;rintro e w7 ⟨gl,rfl,fA,hk,e7⟩;have HF:Hid (w.heap.size<=gl/\Kids (λb=>M b\/b=gl) w7 4 gl N F/\Ext w w7):=⟨aR fT.out.size fA,hk,fT.out.trans e7⟩;clear fA hk e7 x0 x1 x2 x3 y0 y1 y2 y3 CD;go_wp2_with (fail)
   go_meet
   exact⟨gl,rfl,HF.out⟩
  ·have jS:¬(m:Int) ≥ (n:Int):=by omega
   have CD:=ae (HH.out.dt (by omega) w6 fT.out);obtain⟨⟨x0,x1,x2,x3⟩,y0,y1,y2,y3⟩:=oU.out;clear iP HH Cw;go_wp2_with (fail);refine CD.out.mono ?_;rintro e w7 ⟨gl,rfl,fA,hk,e7⟩;have HF:Hid (w.heap.size<=gl/\Kids (λb=>M b\/b=gl) w7 4 gl N F/\Ext w w7):=⟨aR fT.out.size fA,hk,fT.out.trans e7⟩;clear fA hk e7 x0 x1 x2 x3 y0 y1 y2 y3 CD;go_wp2_with (fail)
   go_meet
   exact⟨gl,rfl,HF.out⟩
 case rest=>
  obtain⟨gl,rfl,fA,hk,e7⟩:=hcut;have Rp:=hk.lt;have qY:Hid (w.heap.size<=gl):=fA;have Mc:Hid (Mb (λb=>M b\/b=gl) wc):=pz (HM.out.ext e7) Rp
  have UA:Hid (Kids (λb=>M b\/b=gl) wc 4 gl N (BV 0 F F')):=hk.congr λi _=>by unfold BV;rw[ah (Nat.not_lt_zero _)];exact af.refl _
  have ni:=ae e7;have kY:Hid ((λb=>M b\/b=gl) gl):=.inr rfl;have HMQ:Hid (∀b,M b\/b=gl->(λb=>M b\/b=gl) b):=λb h=>h;have Wq:(0:Int)<=(N:Int):=iw _
  have Kw:(N:Int)<=100:=by have:=gK.out;omega
  clear fA hk e7 fT HH HM oU Rp;generalize (λb=>M b\/b=gl)=M' at*;go_wp2
  go_loopw [47] (λiv wr=>∃k:Nat,k<=N/\iv=.int .i64 (k:Int)/\Hid (Kids M' wr 4 gl N (BV k F F'))/\Hid (Mb M' wr)/\Hid (Ext w wr)) (λiv _=>N-(intOf iv).toNat)
  case atStart=>exact⟨0,by omega,rfl,UA,Mc,ni⟩
  case round=>
   clear UA Mc ni;obtain⟨k,j5,rfl,HK,eP,HE⟩:=hrel;have iO:(0:Int)<=(k:Int):=iw _
   by_cases KM:k<N
   ·have NZ:(k:Int)<(N:Int):=by omega
    obtain⟨z,⟨z0,z1,z2,z3⟩,hz⟩:=HK.out.kI k KM
    have hz2:aN M' wr 4 z (F k):=by
     have h:BV k F F' k=F k:=ah (Nat.lt_irrefl _);rw[h]at hz;exact hz
    have jX:Hid (k<N):=KM;rcases Cw.out k KM with⟨hlt,Bt,wT⟩|⟨hno,fJ⟩
    ·have CN:=ae (wT M' wr z eP.out hz2)
     have qmH:(m:Int)<(n:Int):=by omega
     have Ij:=gK.out;obtain⟨a,ha⟩:∃a,a=m-k:=⟨_,rfl⟩;obtain⟨b,hb⟩:∃b,b=n-k:=⟨_,rfl⟩;rw[<-ha, <-hb]at Bt
     have hw1:IntKind.i64.wrap ((m:Int)-(k:Int))=(a:Int):=by rw[IntWalk.i64_in _ (by omega)];omega
     have iQ:IntKind.i64.wrap ((n:Int)-(k:Int))=(b:Int):=by rw[IntWalk.i64_in _ (by omega)];omega
     have lC:IntKind.i64.wrap ((a:Int)*(b:Int))=((a*b:Nat):Int):=qq1 (by omega) (by omega);have IC:((a*b:Nat):Int).tmod 2=1:=qB6 Bt;obtain⟨ab,Hu⟩:∃ab,ab=a*b:=⟨_,rfl⟩;rw[<-Hu]at lC IC;clear ha hb Bt Hu Ij wT hz hz2 hlt KM j5 gK Cw;go_wp2_with (fail);refine CN.out.mono ?_;rintro e w8 ⟨u,rfl,hu,e8⟩;have Ag:=ae (HK.out.ext e8);obtain⟨⟨_,q0⟩,⟨_,q1⟩,⟨_,q2⟩,⟨_,q3⟩,eT,_⟩:=Ag.out.at k jX.out;have f0:=eT (k*4);have f1:=eT (k*4+1);have f2:=eT (k*4+2);have f3:=eT (k*4+3);have Be:=Ag.out.set kY.out k jX.out hu;have tu:=(HE.out.trans e8).aM (g:=gl) qY.out (k*4) (.int .i64 u.lv) (.bool u.b) (.slice u.a u.n u.p) (.slice u.ka u.kn u.kp);have Bc:=(eP.out.ext e8).size (Kp.aM (M:=M') kY.out (k*4) (.int .i64 u.lv) (.bool u.b) (.slice u.a u.n u.p) (.slice u.ka u.kn u.kp)).1;obtain⟨W9,rX⟩:∃W9,W9=aM w8 gl (k*4) (.int .i64 u.lv) (.bool u.b) (.slice u.a u.n u.p) (.slice u.ka u.kn u.kp):=⟨_,rfl⟩;rw[<-rX]at Be tu Bc;unfold aM at rX;have Av:=ae rX;have HF:Hid (Kids M' W9 4 gl N (BV (k+1) F F')/\Mb M' W9/\Ext w W9):=⟨Be.congr λi hi=>qeV k F F' i,Bc,tu⟩;clear Be tu Bc rX eT hu e8 Ag HK eP HE CN z0 z1 z2 z3;go_wp2;rw[<-Av.out];clear Av q0 q1 q2 q3 f0 f1 f2 f3
     go_roundw
     case rel=>exact⟨k+1,jX.out,by go_num,HF.out.1,HF.out.2.1,HF.out.2.2⟩
     case measure=>have:=jX.out;simp[intOf];omega
    ·have CN:Hid (Calls Tryz.prog 68 #[.agg (ak z)] wr (dO M' wr 4 (F' k))):=(Jc M' z (F k) wr eP.out hz2.pi).mono λ_ _ h=>h.dh fJ
     by_cases hlt:m<n
     ·have Bt:(m-k)*(n-k)%2=0:=by
       have:¬(m-k)*(n-k)%2=1:=λh=>hno ⟨hlt,h⟩;omega
      have qmH:(m:Int)<(n:Int):=by omega
      have Ij:=gK.out;obtain⟨a,ha⟩:∃a,a=m-k:=⟨_,rfl⟩;obtain⟨b,hb⟩:∃b,b=n-k:=⟨_,rfl⟩;rw[<-ha, <-hb]at Bt
      have hw1:IntKind.i64.wrap ((m:Int)-(k:Int))=(a:Int):=by rw[IntWalk.i64_in _ (by omega)];omega
      have iQ:IntKind.i64.wrap ((n:Int)-(k:Int))=(b:Int):=by rw[IntWalk.i64_in _ (by omega)];omega
      have lC:IntKind.i64.wrap ((a:Int)*(b:Int))=((a*b:Nat):Int):=qq1 (by omega) (by omega);have IC:((a*b:Nat):Int).tmod 2=0:=qB5 Bt;obtain⟨ab,Hu⟩:∃ab,ab=a*b:=⟨_,rfl⟩;rw[<-Hu]at lC IC;clear ha hb Bt Hu Ij hno fJ hz hz2 hlt KM j5 gK Cw;go_wp2_with (fail);refine CN.out.mono ?_;rintro e w8 ⟨u,rfl,hu,e8⟩;have Ag:=ae (HK.out.ext e8);obtain⟨⟨_,q0⟩,⟨_,q1⟩,⟨_,q2⟩,⟨_,q3⟩,eT,_⟩:=Ag.out.at k jX.out;have f0:=eT (k*4);have f1:=eT (k*4+1);have f2:=eT (k*4+2);have f3:=eT (k*4+3);have Be:=Ag.out.set kY.out k jX.out hu;have tu:=(HE.out.trans e8).aM (g:=gl) qY.out (k*4) (.int .i64 u.lv) (.bool u.b) (.slice u.a u.n u.p) (.slice u.ka u.kn u.kp);have Bc:=(eP.out.ext e8).size (Kp.aM (M:=M') kY.out (k*4) (.int .i64 u.lv) (.bool u.b) (.slice u.a u.n u.p) (.slice u.ka u.kn u.kp)).1;obtain⟨W9,rX⟩:∃W9,W9=aM w8 gl (k*4) (.int .i64 u.lv) (.bool u.b) (.slice u.a u.n u.p) (.slice u.ka u.kn u.kp):=⟨_,rfl⟩;rw[<-rX]at Be tu Bc;unfold aM at rX;have Av:=ae rX;have HF:Hid (Kids M' W9 4 gl N (BV (k+1) F F')/\Mb M' W9/\Ext w W9):=⟨Be.congr λi hi=>qeV k F F' i,Bc,tu⟩;clear Be tu Bc rX eT hu e8 Ag HK eP HE CN z0 z1 z2 z3;go_wp2;rw[<-Av.out];clear Av q0 q1 q2 q3 f0 f1 f2 f3
      go_roundw
      case rel=>exact⟨k+1,jX.out,by go_num,HF.out.1,HF.out.2.1,HF.out.2.2⟩
      case measure=>have:=jX.out;simp[intOf];omega
     ·have qmH:¬(m:Int)<(n:Int):=by omega
      clear hno fJ hz hz2 hlt KM j5 gK Cw;go_wp2_with (fail);refine CN.out.mono ?_;rintro e w8 ⟨u,rfl,hu,e8⟩;have Ag:=ae (HK.out.ext e8);obtain⟨⟨_,q0⟩,⟨_,q1⟩,⟨_,q2⟩,⟨_,q3⟩,eT,_⟩:=Ag.out.at k jX.out;have f0:=eT (k*4);have f1:=eT (k*4+1);have f2:=eT (k*4+2);have f3:=eT (k*4+3);have Be:=Ag.out.set kY.out k jX.out hu;have tu:=(HE.out.trans e8).aM (g:=gl) qY.out (k*4) (.int .i64 u.lv) (.bool u.b) (.slice u.a u.n u.p) (.slice u.ka u.kn u.kp);have Bc:=(eP.out.ext e8).size (Kp.aM (M:=M') kY.out (k*4) (.int .i64 u.lv) (.bool u.b) (.slice u.a u.n u.p) (.slice u.ka u.kn u.kp)).1;obtain⟨W9,rX⟩:∃W9,W9=aM w8 gl (k*4) (.int .i64 u.lv) (.bool u.b) (.slice u.a u.n u.p) (.slice u.ka u.kn u.kp):=⟨_,rfl⟩;rw[<-rX]at Be tu Bc;unfold aM at rX;have Av:=ae rX;have HF:Hid (Kids M' W9 4 gl N (BV (k+1) F F')/\Mb M' W9/\Ext w W9):=⟨Be.congr λi hi=>qeV k F F' i,Bc,tu⟩;clear Be tu Bc rX eT hu e8 Ag HK eP HE CN z0 z1 z2 z3;go_wp2;rw[<-Av.out];clear Av q0 q1 q2 q3 f0 f1 f2 f3
      go_roundw
      case rel=>exact⟨k+1,jX.out,by go_num,HF.out.1,HF.out.2.1,HF.out.2.2⟩
      case measure=>have:=jX.out;simp[intOf];omega
   ·obtain rfl:k=N:=by omega
    have qEc:¬(k:Int)<(k:Int):=by omega
    have HF:Hid (Vj M w k F' (.returned (.tuple #[.slice (some ⟨gl,0,none⟩) k k,.int .i64 0])) wr):=⟨gl,rfl,qY.out,(HK.out.more λb hb=>.inl (HMQ.out b hb)).congr λi hi=>by unfold BV;rw[ai hi];exact af.refl _,HE.out⟩;clear HK eP HE kY HMQ qY gK Cw j5 KM;go_wp2;exact bu (v:=.tuple #[.slice (some ⟨gl,0,none⟩) k k,.int .i64 0]) (by simp[results,Tryz.results133,go_sem]) rfl HF.out
def LiV(M:Nat->Prop)(w w':World)(v:Value)(N:Nat)(F:Nat->List Tm):Prop:=(N=0/\v=.slice none 0 0)\/∃gl:Nat,v=.slice (some ⟨gl,0,none⟩) N N/\w.heap.size<=gl/\Kids (λb=>M b\/b=gl) w' 4 gl N F
def Qj(M:Nat->Prop)(w:World)(N:Nat)(F:Nat->List Tm)(er:Int)(e:Ending)(w':World):Prop:=∃v,e=.returned (.tuple #[v,.int .i64 er])/\LiV M w w' v N F/\Ext w w'
theorem Vj.li{M:Nat->Prop}{w w':World}{N:Nat}{F:Nat->List Tm}{e:Ending}(h:Vj M w N F e w'):Qj M w N F 0 e w':=by
 obtain⟨gl,rfl,h1,h2,h3⟩:=h;exact⟨_,rfl,.inr ⟨gl,rfl,h1,h2⟩,h3⟩
theorem qBA(M:Nat->Prop)(x y:PE)(J m n:Nat)(F:Nat->List Tm)(w:World)(Bq:m=0\/n=0)
 (Bj:∀wk,Ext w wk->Calls Tryz.prog 163 #[.agg (ak x),.agg (ak y),.int .i64 (J:Int)] wk λe w'=>e=.returned (.int .i64 0)/\Ext wk w')
 (Fy:∀wk,Ext w wk->Calls Tryz.prog 43 #[.agg (ak x),.int .i64 (J:Int)] wk λe w'=>e=.returned (.int .i64 (m:Int))/\Ext wk w')
 (NU:∀wk,Ext w wk->Calls Tryz.prog 43 #[.agg (ak y),.int .i64 (J:Int)] wk λe w'=>e=.returned (.int .i64 (n:Int))/\Ext wk w'):
 Calls Tryz.prog 133 #[.agg (ak x),.agg (ak y),.int .i64 (J:Int)] w (Qj M w 0 F 0):=by
 have hE:=((aA w).alloc (.cells (ak x) 33)).alloc (.cells (ak y) 33);have kM:=XY w x y;generalize hW:(w.alloc (.cells (ak x) 33)).alloc (.cells (ak y) 33)=W at*;have HW:=ae hW;have HE:=ae hE;have qV:Hid (uo w.heap.size x y W):=kM;have HCK:=ae Bj;have HDX:=ae Fy;have HDY:=ae NU
 have qdk:min (m:Int) (n:Int)=0:=by omega
 clear hE kM hW Bj Fy NU Bq
 go_enter Tryz.func133,Tryz.ntmps133
 go_upto_region 1 with(fail)
 rw[HW.out];obtain⟨g0,vK⟩:∃g0,g0=w.heap.size:=⟨_,rfl⟩;rw[<-vK]at qV⊢;clear vK HW;obtain⟨⟨x0,x1,x2,x3⟩,y0,y1,y2,y3⟩:=qV.out;go_wp2_with (fail);refine(HCK.out W HE.out).mono ?_;rintro e w1 ⟨rfl,e1⟩;have dF:=ae (qV.out.ext e1);have aS:=ae (HE.out.trans e1);clear x0 x1 x2 x3 y0 y1 y2 y3 qV HE e1
 go_upto_region 4 with(fail)
 have qx:Hid (uo g0 x y w1.drew):=dF.out.ext (aA _).drew;have jN:Hid (Ext w w1.drew):=aS.out.trans (aA _).drew;refine gB (uo g0 x y) 8 (by kernel_rfl) qx.out (λhHeld=>?_);generalize w1.drew=wd at*;(refine cB [0,1,3,4] ?_;(iterate 4 (refine bZ (v:=?_) ?_ ?_;rotate_left 1;(intro wS hSw;obtain⟨⟨A0,A1,A2,A3⟩,B0,B1,B2,B3⟩:=hSw;go_simp;try with_reducible rfl);(try simp only[Act.put,aB,aC,aD])));refine cK ?_);((refine aO 2 ?_;intro K hK);go_simp;(refine(HDX.out wd jN.out).mono ?_);rintro e_ w5 ⟨rfl,e2⟩;go_wp2_with (fail);(try clear ag);(have ag:=hHeld.ext e2);(refine hK.out _ _ (λ_=>ag) ?_);clear hK K;(try simp only[Act.put,aB,aC,aD]));((refine aO 5 ?_;intro K hK);go_simp;(refine(HDY.out w5 (jN.out.trans e2)).mono ?_);rintro e_ w6 ⟨rfl,e5⟩;go_wp2_with (fail);(try clear ag);(have ag:=hHeld.ext (e2.trans e5));(refine hK.out _ _ (λ_=>ag) ?_);clear hK K;(try simp only[Act.put,aB,aC,aD]));(refine cB [6,7] ?_;(iterate 2 (refine bZ (v:=?_) ?_ ?_;rotate_left 1;(intro wS hSw;obtain⟨⟨A0,A1,A2,A3⟩,B0,B1,B2,B3⟩:=hSw;go_simp;try with_reducible rfl);(try simp only[Act.put,aB,aC,aD])));refine cK ?_);refine dX ?_;have HF:Hid (Qj M w 0 F 0 (.returned (.tuple #[.slice none 0 0,.int .i64 0])) w6):=⟨_,rfl,.inl ⟨rfl,rfl⟩,jN.out.trans (e2.trans e5)⟩;clear hHeld ag e2 e5 qx jN dF aS HCK HDX HDY;go_wp2
 exact bu (v:=.tuple #[.slice none 0 0,.int .i64 0]) (by simp[results,Tryz.results133,go_sem]) rfl HF.out
end Go.Proofs.YtmcfpnmoklnhoaaGreat
