/- Sb -/
import Derived.Test.YtmcfpnmoklnhoaaGreatSa
set_option linter.unusedVariables false
set_option maxRecDepth 100000
set_option maxHeartbeats 400000000
set_option linter.unusedSimpArgs false
namespace Go.Proofs.YtmcfpnmoklnhoaaGreat
open Go.RowKit
def qqE(a c:List Tm):Prop:=∀(M:Nat->Prop)(W:World)(x:PE),Mb M W->aI M W 4 x a->Calls Tryz.prog 116 #[.agg (ah x)] W (dH M W 4 c)
structure ChN(M:Nat->Prop)(w:World)(x y:PE)(J m n N:Nat)(F:Nat->List Tm):Prop where
 ck:∀wk,Ext w wk->Calls Tryz.prog 163 #[.agg (ah x),.agg (ah y),.int .i64 (J:Int)] wk λe w'=>e=.returned (.int .i64 0)/\Ext wk w'
 dx:∀wk,Ext w wk->Calls Tryz.prog 43 #[.agg (ah x),.int .i64 (J:Int)] wk λe w'=>e=.returned (.int .i64 (m:Int))/\Ext wk w'
 dy:∀wk,Ext w wk->Calls Tryz.prog 43 #[.agg (ah y),.int .i64 (J:Int)] wk λe w'=>e=.returned (.int .i64 (n:Int))/\Ext wk w'
 ds:n<=m->∀wk,Ext w wk->Calls Tryz.prog 164 #[.agg (ah x),.agg (ah y),.int .i64 (J:Int),.int .i64 (m:Int),.int .i64 (n:Int)] wk (IC M wk N F)
 dt:m<n->∀wk,Ext w wk->Calls Tryz.prog 164 #[.agg (ah y),.agg (ah x),.int .i64 (J:Int),.int .i64 (n:Int),.int .i64 (m:Int)] wk (IC M wk N F)
def Tn(M:Nat->Prop)(w:World)(N:Nat)(F:Nat->List Tm)(e:Ending)(w':World):Prop:=∃gl:Nat,e=.returned (.tuple #[.slice (some ⟨gl,0,none⟩) N N,.int .i64 0])/\w.heap.size<=gl/\Kids (λb=>M b\/b=gl) w' 4 gl N F/\Ext w w'
def SgC(m n N:Nat)(F F':Nat->List Tm):Prop:=∀j,j<N->(m<n/\((m-j)*(n-j))%2=1/\qqE (F j) (F' j))\/(¬(m<n/\((m-j)*(n-j))%2=1)/\ae (F j) (F' j))
def rY(k:Nat)(F F':Nat->List Tm):Nat->List Tm:=λi=>if i<k then F' i else F i
theorem Wh(k:Nat)(F F':Nat->List Tm)(i:Nat):ae (if i=k then F' k else rY k F F' i) (rY (k+1) F F' i):=by
 unfold rY
 by_cases h:i=k
 ·subst h;rw[if_pos rfl,if_pos (by omega)];exact ae.refl _
 ·rw[if_neg h]
  by_cases h2:i<k
  ·rw[if_pos h2,if_pos (by omega)];exact ae.refl _
  ·rw[if_neg h2,if_neg (by omega)];exact ae.refl _
theorem qoP{a b:Nat}(ha:a<=100)(hb:b<=100):IntKind.i64.wrap ((a:Int)*(b:Int))=((a*b:Nat):Int):=by
 have h:a*b<=10000:=Nat.mul_le_mul ha hb;rw[<-Int.natCast_mul,IntWalk.i64_in _ (by omega)]
theorem qzC{p:Nat}(h:p%2=1):((p:Nat):Int).tmod 2=1:=by
 rw[Int.tmod_eq_emod_of_nonneg (Int.natCast_nonneg _)];omega
theorem qzB{p:Nat}(h:p%2=0):((p:Nat):Int).tmod 2=0:=by
 rw[Int.tmod_eq_emod_of_nonneg (Int.natCast_nonneg _)];omega
theorem qoi(M:Nat->Prop)(x y:PE)(J m n N:Nat)(F F':Nat->List Tm)(w:World)(hM:Mb M w)(hm:1<=m)(hn:1<=n)(Ey:m<=100)(lu:n<=100)(hN:N=min m n)(H:ChN M w x y J m n N F)(S:SgC m n N F F'):
 Calls Tryz.prog 133 #[.agg (ah x),.agg (ah y),.int .i64 (J:Int)] w (Tn M w N F'):=by
 have hE:=((Ext.refl w).alloc (.cells (ah x) 33)).alloc (.cells (ah y) 33);have je:=MI w x y;generalize hW:(w.alloc (.cells (ah x) 33)).alloc (.cells (ah y) 33)=W at*;have HW:=Lib.hid hW;have HE:=Lib.hid hE;have jW:Hid (oC w.heap.size x y W):=je;have HM:=Lib.hid hM;have HH:=Lib.hid H;have Bd:=Lib.hid S;have jG:Hid (1<=m/\1<=n/\m<=100/\n<=100/\N<=m/\N<=n):=⟨hm,hn,Ey,lu,by omega,by omega⟩;clear hE je hW hM H S hm hn Ey lu hN
 go_enter Tryz.func133,Tryz.ntmps133
 go_upto_region 1 with(fail)
 rw[HW.out];obtain⟨g0,rO⟩:∃g0,g0=w.heap.size:=⟨_,rfl⟩;rw[<-rO]at jW⊢;clear rO HW;obtain⟨⟨x0,x1,x2,x3⟩,y0,y1,y2,y3⟩:=jW.out;go_wp2_with (fail);refine(HH.out.ck W HE.out).mono ?_;rintro e w1 ⟨rfl,e1⟩;have cB:=Lib.hid (jW.out.ext e1);have aL:=Lib.hid (HE.out.trans e1);clear x0 x1 x2 x3 y0 y1 y2 y3 jW HE e1
 go_upto_region 4 with(fail)
 have mq:Hid (oC g0 x y w1.drew):=cB.out.ext (Ext.refl _).drew;have ic:Hid (Ext w w1.drew):=aL.out.trans (Ext.refl _).drew;refine fM (oC g0 x y) 8 (by kernel_rfl) mq.out (λhHeld=>?_);generalize w1.drew=wd at*;(refine dF [0,1,3,4] ?_;(iterate 4 (refine dD (v:=?_) ?_ ?_;rotate_left 1;(intro wS hSw;obtain⟨⟨A0,A1,A2,A3⟩,B0,B1,B2,B3⟩:=hSw;go_simp;try with_reducible rfl);(try simp only[Act.put,aD,aF,aG])));refine dG ?_);((refine aK 2 ?_;intro K hK);go_simp;(refine(HH.out.dx wd ic.out).mono ?_);rintro e_ w5 ⟨rfl,e2⟩;go_wp2_with (fail);(try clear ag);(have ag:=hHeld.ext e2);(refine hK.out _ _ (λ_=>ag) ?_);clear hK K;(try simp only[Act.put,aD,aF,aG]));((refine aK 5 ?_;intro K hK);go_simp;(refine(HH.out.dy w5 (ic.out.trans e2)).mono ?_);rintro e_ w6 ⟨rfl,e5⟩;go_wp2_with (fail);(try clear ag);(have ag:=hHeld.ext (e2.trans e5));(refine hK.out _ _ (λ_=>ag) ?_);clear hK K;(try simp only[Act.put,aD,aF,aG]));(refine dF [6,7] ?_;(iterate 2 (refine dD (v:=?_) ?_ ?_;rotate_left 1;(intro wS hSw;obtain⟨⟨A0,A1,A2,A3⟩,B0,B1,B2,B3⟩:=hSw;go_simp;try with_reducible rfl);(try simp only[Act.put,aD,aF,aG])));refine dG ?_);refine ek ?_;have fw:=Lib.hid (ic.out.trans (e2.trans e5));have jV:=Lib.hid (hHeld.ext (e2.trans e5));clear hHeld ag e2 e5 mq ic cB aL;obtain⟨mn,vH⟩:∃mn:Int,mn=min (m:Int) (n:Int):=⟨_,rfl⟩
 have qbX:¬min (m:Int) (n:Int)=0:=by have:=jG.out;omega
 have quR:(min (m:Int) (n:Int)==0)=false:=beq_eq_false_iff_ne.2 qbX;clear vH
 go_upto_if 32 with(fail)
 clear qbX quR
 go_cut [11] (λs11 wx=>∃gl:Nat,s11=.slice (some ⟨gl,0,none⟩) N N/\w.heap.size<=gl/\Kids (λb=>M b\/b=gl) wx 4 gl N F/\Ext w wx)
 case first=>
  by_cases gY:n<=m
  ·have iZ:(m:Int) ≥ (n:Int):=by omega
   have CD:=Lib.hid (HH.out.ds gY w6 fw.out);obtain⟨⟨x0,x1,x2,x3⟩,y0,y1,y2,y3⟩:=jV.out;clear gY HH Bd;go_wp2_with (fail);refine CD.out.mono ?_;rintro e w7 ⟨gl,rfl,dZ,hk,e7⟩;have HF:Hid (w.heap.size<=gl/\Kids (λb=>M b\/b=gl) w7 4 gl N F/\Ext w w7):=⟨Nat.le_trans fw.out.size dZ,hk,fw.out.trans e7⟩;clear dZ hk e7 x0 x1 x2 x3 y0 y1 y2 y3 CD;go_wp2_with (fail)
   go_meet
   exact⟨gl,rfl,HF.out⟩
  ·have iZ:¬(m:Int) ≥ (n:Int):=by omega
   have CD:=Lib.hid (HH.out.dt (by omega) w6 fw.out);obtain⟨⟨x0,x1,x2,x3⟩,y0,y1,y2,y3⟩:=jV.out;clear gY HH Bd;go_wp2_with (fail);refine CD.out.mono ?_;rintro e w7 ⟨gl,rfl,dZ,hk,e7⟩;have HF:Hid (w.heap.size<=gl/\Kids (λb=>M b\/b=gl) w7 4 gl N F/\Ext w w7):=⟨Nat.le_trans fw.out.size dZ,hk,fw.out.trans e7⟩;clear dZ hk e7 x0 x1 x2 x3 y0 y1 y2 y3 CD;go_wp2_with (fail)
   go_meet
   exact⟨gl,rfl,HF.out⟩
 case rest=>
  obtain⟨gl,rfl,dZ,hk,e7⟩:=hcut;have Jk:=hk.lt;have mi:Hid (w.heap.size<=gl):=dZ;have Dn:Hid (Mb (λb=>M b\/b=gl) wc):=mO (HM.out.ext e7) Jk
  have Ig:Hid (Kids (λb=>M b\/b=gl) wc 4 gl N (rY 0 F F')):=hk.congr λi _=>by unfold rY;rw[if_neg (Nat.not_lt_zero _)];exact ae.refl _
  have iB:=Lib.hid e7;have jh:Hid ((λb=>M b\/b=gl) gl):=.inr rfl;have NU:Hid (∀b,M b\/b=gl->(λb=>M b\/b=gl) b):=λb h=>h;have Pm:(0:Int)<=(N:Int):=Int.natCast_nonneg _
  have BP:(N:Int)<=100:=by have:=jG.out;omega
  clear dZ hk e7 fw HH HM jV Jk;generalize (λb=>M b\/b=gl)=M' at*;go_wp2
  go_loopw [47] (λiv wr=>∃k:Nat,k<=N/\iv=.int .i64 (k:Int)/\Hid (Kids M' wr 4 gl N (rY k F F'))/\Hid (Mb M' wr)/\Hid (Ext w wr)) (λiv _=>N-(intOf iv).toNat)
  case atStart=>exact⟨0,by omega,rfl,Ig,Dn,iB⟩
  case round=>
   clear Ig Dn iB;obtain⟨k,iq,rfl,HK,dL,HE⟩:=hrel;have fJ:(0:Int)<=(k:Int):=Int.natCast_nonneg _
   by_cases qP:k<N
   ·have Er:(k:Int)<(N:Int):=by omega
    obtain⟨z,⟨z0,z1,z2,z3⟩,hz⟩:=HK.out.jH k qP
    have hz2:aI M' wr 4 z (F k):=by
     have h:rY k F F' k=F k:=if_neg (Nat.lt_irrefl _);rw[h]at hz;exact hz
    have gF:Hid (k<N):=qP;rcases Bd.out k qP with⟨hlt,zZ,Ez⟩|⟨hno,eB⟩
    ·have CN:=Lib.hid (Ez M' wr z dL.out hz2)
     have qkT:(m:Int)<(n:Int):=by omega
     have Gu:=jG.out;obtain⟨a,ha⟩:∃a,a=m-k:=⟨_,rfl⟩;obtain⟨b,hb⟩:∃b,b=n-k:=⟨_,rfl⟩;rw[<-ha, <-hb]at zZ
     have hw1:IntKind.i64.wrap ((m:Int)-(k:Int))=(a:Int):=by rw[IntWalk.i64_in _ (by omega)];omega
     have kQ:IntKind.i64.wrap ((n:Int)-(k:Int))=(b:Int):=by rw[IntWalk.i64_in _ (by omega)];omega
     have l6:IntKind.i64.wrap ((a:Int)*(b:Int))=((a*b:Nat):Int):=qoP (by omega) (by omega);have GL:((a*b:Nat):Int).tmod 2=1:=qzC zZ;obtain⟨ab,Ga⟩:∃ab,ab=a*b:=⟨_,rfl⟩;rw[<-Ga]at l6 GL;clear ha hb zZ Ga Gu Ez hz hz2 hlt qP iq jG Bd;go_wp2_with (fail);refine CN.out.mono ?_;rintro e w8 ⟨u,rfl,hu,e8⟩;have tV:=Lib.hid (HK.out.ext e8);obtain⟨⟨_,q0⟩,⟨_,q1⟩,⟨_,q2⟩,⟨_,q3⟩,dI,_⟩:=tV.out.at k gF.out;have f0:=dI (k*4);have f1:=dI (k*4+1);have f2:=dI (k*4+2);have f3:=dI (k*4+3);have uC:=tV.out.set jh.out k gF.out hu;have oF:=(HE.out.trans e8).aH (g:=gl) mi.out (k*4) (.int .i64 u.lv) (.bool u.b) (.slice u.a u.n u.p) (.slice u.ka u.kn u.kp);have uz:=(dL.out.ext e8).size (Kp.aH (M:=M') jh.out (k*4) (.int .i64 u.lv) (.bool u.b) (.slice u.a u.n u.p) (.slice u.ka u.kn u.kp)).1;obtain⟨W9,mG⟩:∃W9,W9=aH w8 gl (k*4) (.int .i64 u.lv) (.bool u.b) (.slice u.a u.n u.p) (.slice u.ka u.kn u.kp):=⟨_,rfl⟩;rw[<-mG]at uC oF uz;unfold aH at mG;have uT:=Lib.hid mG;have HF:Hid (Kids M' W9 4 gl N (rY (k+1) F F')/\Mb M' W9/\Ext w W9):=⟨uC.congr λi hi=>Wh k F F' i,uz,oF⟩;clear uC oF uz mG dI hu e8 tV HK dL HE CN z0 z1 z2 z3;go_wp2;rw[<-uT.out];clear uT q0 q1 q2 q3 f0 f1 f2 f3
     go_roundw
     case rel=>exact⟨k+1,gF.out,by go_num,HF.out.1,HF.out.2.1,HF.out.2.2⟩
     case measure=>have:=gF.out;simp[intOf];omega
    ·have CN:Hid (Calls Tryz.prog 68 #[.agg (ah z)] wr (dH M' wr 4 (F' k))):=(Ha M' z (F k) wr dL.out hz2.pi).mono λ_ _ h=>h.bZ eB
     by_cases hlt:m<n
     ·have zZ:(m-k)*(n-k)%2=0:=by
       have:¬(m-k)*(n-k)%2=1:=λh=>hno ⟨hlt,h⟩;omega
      have qkT:(m:Int)<(n:Int):=by omega
      have Gu:=jG.out;obtain⟨a,ha⟩:∃a,a=m-k:=⟨_,rfl⟩;obtain⟨b,hb⟩:∃b,b=n-k:=⟨_,rfl⟩;rw[<-ha, <-hb]at zZ
      have hw1:IntKind.i64.wrap ((m:Int)-(k:Int))=(a:Int):=by rw[IntWalk.i64_in _ (by omega)];omega
      have kQ:IntKind.i64.wrap ((n:Int)-(k:Int))=(b:Int):=by rw[IntWalk.i64_in _ (by omega)];omega
      have l6:IntKind.i64.wrap ((a:Int)*(b:Int))=((a*b:Nat):Int):=qoP (by omega) (by omega);have GL:((a*b:Nat):Int).tmod 2=0:=qzB zZ;obtain⟨ab,Ga⟩:∃ab,ab=a*b:=⟨_,rfl⟩;rw[<-Ga]at l6 GL;clear ha hb zZ Ga Gu hno eB hz hz2 hlt qP iq jG Bd;go_wp2_with (fail);refine CN.out.mono ?_;rintro e w8 ⟨u,rfl,hu,e8⟩;have tV:=Lib.hid (HK.out.ext e8);obtain⟨⟨_,q0⟩,⟨_,q1⟩,⟨_,q2⟩,⟨_,q3⟩,dI,_⟩:=tV.out.at k gF.out;have f0:=dI (k*4);have f1:=dI (k*4+1);have f2:=dI (k*4+2);have f3:=dI (k*4+3);have uC:=tV.out.set jh.out k gF.out hu;have oF:=(HE.out.trans e8).aH (g:=gl) mi.out (k*4) (.int .i64 u.lv) (.bool u.b) (.slice u.a u.n u.p) (.slice u.ka u.kn u.kp);have uz:=(dL.out.ext e8).size (Kp.aH (M:=M') jh.out (k*4) (.int .i64 u.lv) (.bool u.b) (.slice u.a u.n u.p) (.slice u.ka u.kn u.kp)).1;obtain⟨W9,mG⟩:∃W9,W9=aH w8 gl (k*4) (.int .i64 u.lv) (.bool u.b) (.slice u.a u.n u.p) (.slice u.ka u.kn u.kp):=⟨_,rfl⟩;rw[<-mG]at uC oF uz;unfold aH at mG;have uT:=Lib.hid mG;have HF:Hid (Kids M' W9 4 gl N (rY (k+1) F F')/\Mb M' W9/\Ext w W9):=⟨uC.congr λi hi=>Wh k F F' i,uz,oF⟩;clear uC oF uz mG dI hu e8 tV HK dL HE CN z0 z1 z2 z3;go_wp2;rw[<-uT.out];clear uT q0 q1 q2 q3 f0 f1 f2 f3
      go_roundw
      case rel=>exact⟨k+1,gF.out,by go_num,HF.out.1,HF.out.2.1,HF.out.2.2⟩
      case measure=>have:=gF.out;simp[intOf];omega
     ·have qkT:¬(m:Int)<(n:Int):=by omega
      clear hno eB hz hz2 hlt qP iq jG Bd;go_wp2_with (fail);refine CN.out.mono ?_;rintro e w8 ⟨u,rfl,hu,e8⟩;have tV:=Lib.hid (HK.out.ext e8);obtain⟨⟨_,q0⟩,⟨_,q1⟩,⟨_,q2⟩,⟨_,q3⟩,dI,_⟩:=tV.out.at k gF.out;have f0:=dI (k*4);have f1:=dI (k*4+1);have f2:=dI (k*4+2);have f3:=dI (k*4+3);have uC:=tV.out.set jh.out k gF.out hu;have oF:=(HE.out.trans e8).aH (g:=gl) mi.out (k*4) (.int .i64 u.lv) (.bool u.b) (.slice u.a u.n u.p) (.slice u.ka u.kn u.kp);have uz:=(dL.out.ext e8).size (Kp.aH (M:=M') jh.out (k*4) (.int .i64 u.lv) (.bool u.b) (.slice u.a u.n u.p) (.slice u.ka u.kn u.kp)).1;obtain⟨W9,mG⟩:∃W9,W9=aH w8 gl (k*4) (.int .i64 u.lv) (.bool u.b) (.slice u.a u.n u.p) (.slice u.ka u.kn u.kp):=⟨_,rfl⟩;rw[<-mG]at uC oF uz;unfold aH at mG;have uT:=Lib.hid mG;have HF:Hid (Kids M' W9 4 gl N (rY (k+1) F F')/\Mb M' W9/\Ext w W9):=⟨uC.congr λi hi=>Wh k F F' i,uz,oF⟩;clear uC oF uz mG dI hu e8 tV HK dL HE CN z0 z1 z2 z3;go_wp2;rw[<-uT.out];clear uT q0 q1 q2 q3 f0 f1 f2 f3
      go_roundw
      case rel=>exact⟨k+1,gF.out,by go_num,HF.out.1,HF.out.2.1,HF.out.2.2⟩
      case measure=>have:=gF.out;simp[intOf];omega
   ·obtain rfl:k=N:=by omega
    have qko:¬(k:Int)<(k:Int):=by omega
    have HF:Hid (Tn M w k F' (.returned (.tuple #[.slice (some ⟨gl,0,none⟩) k k,.int .i64 0])) wr):=⟨gl,rfl,mi.out,(HK.out.more λb hb=>.inl (NU.out b hb)).congr λi hi=>by unfold rY;rw[if_pos hi];exact ae.refl _,HE.out⟩;clear HK dL HE jh NU mi jG Bd iq qP;go_wp2;exact bodyPost_ret (v:=.tuple #[.slice (some ⟨gl,0,none⟩) k k,.int .i64 0]) (by simp[results,Tryz.results133,go_sem]) rfl HF.out
def LiV(M:Nat->Prop)(w w':World)(v:Value)(N:Nat)(F:Nat->List Tm):Prop:=(N=0/\v=.slice none 0 0)\/∃gl:Nat,v=.slice (some ⟨gl,0,none⟩) N N/\w.heap.size<=gl/\Kids (λb=>M b\/b=gl) w' 4 gl N F
def Bo(M:Nat->Prop)(w:World)(N:Nat)(F:Nat->List Tm)(er:Int)(e:Ending)(w':World):Prop:=∃v,e=.returned (.tuple #[v,.int .i64 er])/\LiV M w w' v N F/\Ext w w'
theorem Tn.li{M:Nat->Prop}{w w':World}{N:Nat}{F:Nat->List Tm}{e:Ending}(h:Tn M w N F e w'):Bo M w N F 0 e w':=by
 obtain⟨gl,rfl,h1,h2,h3⟩:=h;exact⟨_,rfl,.inr ⟨gl,rfl,h1,h2⟩,h3⟩
theorem qy5(M:Nat->Prop)(x y:PE)(J m n:Nat)(F:Nat->List Tm)(w:World)(vH:m=0\/n=0)
 (zN:∀wk,Ext w wk->Calls Tryz.prog 163 #[.agg (ah x),.agg (ah y),.int .i64 (J:Int)] wk λe w'=>e=.returned (.int .i64 0)/\Ext wk w')
 (Ei:∀wk,Ext w wk->Calls Tryz.prog 43 #[.agg (ah x),.int .i64 (J:Int)] wk λe w'=>e=.returned (.int .i64 (m:Int))/\Ext wk w')
 (LV:∀wk,Ext w wk->Calls Tryz.prog 43 #[.agg (ah y),.int .i64 (J:Int)] wk λe w'=>e=.returned (.int .i64 (n:Int))/\Ext wk w'):
 Calls Tryz.prog 133 #[.agg (ah x),.agg (ah y),.int .i64 (J:Int)] w (Bo M w 0 F 0):=by
 have hE:=((Ext.refl w).alloc (.cells (ah x) 33)).alloc (.cells (ah y) 33);have je:=MI w x y;generalize hW:(w.alloc (.cells (ah x) 33)).alloc (.cells (ah y) 33)=W at*;have HW:=Lib.hid hW;have HE:=Lib.hid hE;have jW:Hid (oC w.heap.size x y W):=je;have HCK:=Lib.hid zN;have J9:=Lib.hid Ei;have Ka:=Lib.hid LV
 have qbX:min (m:Int) (n:Int)=0:=by omega
 clear hE je hW zN Ei LV vH
 go_enter Tryz.func133,Tryz.ntmps133
 go_upto_region 1 with(fail)
 rw[HW.out];obtain⟨g0,rO⟩:∃g0,g0=w.heap.size:=⟨_,rfl⟩;rw[<-rO]at jW⊢;clear rO HW;obtain⟨⟨x0,x1,x2,x3⟩,y0,y1,y2,y3⟩:=jW.out;go_wp2_with (fail);refine(HCK.out W HE.out).mono ?_;rintro e w1 ⟨rfl,e1⟩;have cB:=Lib.hid (jW.out.ext e1);have aL:=Lib.hid (HE.out.trans e1);clear x0 x1 x2 x3 y0 y1 y2 y3 jW HE e1
 go_upto_region 4 with(fail)
 have mq:Hid (oC g0 x y w1.drew):=cB.out.ext (Ext.refl _).drew;have ic:Hid (Ext w w1.drew):=aL.out.trans (Ext.refl _).drew;refine fM (oC g0 x y) 8 (by kernel_rfl) mq.out (λhHeld=>?_);generalize w1.drew=wd at*;(refine dF [0,1,3,4] ?_;(iterate 4 (refine dD (v:=?_) ?_ ?_;rotate_left 1;(intro wS hSw;obtain⟨⟨A0,A1,A2,A3⟩,B0,B1,B2,B3⟩:=hSw;go_simp;try with_reducible rfl);(try simp only[Act.put,aD,aF,aG])));refine dG ?_);((refine aK 2 ?_;intro K hK);go_simp;(refine(J9.out wd ic.out).mono ?_);rintro e_ w5 ⟨rfl,e2⟩;go_wp2_with (fail);(try clear ag);(have ag:=hHeld.ext e2);(refine hK.out _ _ (λ_=>ag) ?_);clear hK K;(try simp only[Act.put,aD,aF,aG]));((refine aK 5 ?_;intro K hK);go_simp;(refine(Ka.out w5 (ic.out.trans e2)).mono ?_);rintro e_ w6 ⟨rfl,e5⟩;go_wp2_with (fail);(try clear ag);(have ag:=hHeld.ext (e2.trans e5));(refine hK.out _ _ (λ_=>ag) ?_);clear hK K;(try simp only[Act.put,aD,aF,aG]));(refine dF [6,7] ?_;(iterate 2 (refine dD (v:=?_) ?_ ?_;rotate_left 1;(intro wS hSw;obtain⟨⟨A0,A1,A2,A3⟩,B0,B1,B2,B3⟩:=hSw;go_simp;try with_reducible rfl);(try simp only[Act.put,aD,aF,aG])));refine dG ?_);refine ek ?_;have HF:Hid (Bo M w 0 F 0 (.returned (.tuple #[.slice none 0 0,.int .i64 0])) w6):=⟨_,rfl,.inl ⟨rfl,rfl⟩,ic.out.trans (e2.trans e5)⟩;clear hHeld ag e2 e5 mq ic cB aL HCK J9 Ka;go_wp2
 exact bodyPost_ret (v:=.tuple #[.slice none 0 0,.int .i64 0]) (by simp[results,Tryz.results133,go_sem]) rfl HF.out
theorem qy7(M:Nat->Prop)(x y:PE)(L er:Int)(N:Nat)(F G:Nat->List Tm)(w:World)(hM:Mb M w)(hN:N<=100)
 (HC:∀wk,Ext w wk->Calls Tryz.prog 133 #[.agg (ah x),.agg (ah y),.int .i64 L] wk (Bo M wk N F er))
 (HG:∀j,j<N->∀(Mk:Nat->Prop)(wk:World)(z:PE),Mb Mk wk->aI Mk wk 4 z (F j)->Calls Tryz.prog 135 #[.agg (ah z),.int .i64 L,.int .i64 (j:Int)] wk (dH Mk wk 4 (G j))):
 Calls Tryz.prog 85 #[.agg (ah x),.agg (ah y),.int .i64 L] w (Bo M w N G er):=by
 have hE:=((Ext.refl w).alloc (.cells (ah x) 33)).alloc (.cells (ah y) 33);have je:=MI w x y;generalize hW:(w.alloc (.cells (ah x) 33)).alloc (.cells (ah y) 33)=W at*;have HW:=Lib.hid hW;have HE:=Lib.hid hE;have jW:Hid (oC w.heap.size x y W):=je;have HM:=Lib.hid hM;have xz:=Lib.hid hN;have HH:=Lib.hid HC;have nJ:=Lib.hid HG;clear hE je hW hM HC HG hN
 go_enter Tryz.func85,Tryz.ntmps85
 go_upto_region 1 with(fail)
 rw[HW.out];obtain⟨g0,rO⟩:∃g0,g0=w.heap.size:=⟨_,rfl⟩;rw[<-rO]at jW⊢;clear rO HW;obtain⟨⟨x0,x1,x2,x3⟩,y0,y1,y2,y3⟩:=jW.out;go_wp2_with (fail);refine(HH.out W HE.out).mono ?_;rintro e w7 ⟨v,rfl,hv,e7⟩;clear x0 x1 x2 x3 y0 y1 y2 y3 jW HH;rcases hv with⟨rfl,rfl⟩|⟨gl,rfl,dZ,hk⟩
 ·have HF:Hid (Bo M w 0 G er (.returned (.tuple #[.slice none 0 0,.int .i64 er])) w7):=⟨_,rfl,.inl ⟨rfl,rfl⟩,HE.out.trans e7⟩;clear e7 HE HM nJ;go_wp2
  go_loopw [20] (λiv wr=>iv=.int .i64 0/\wr=w7) (λ_ _=>0)
  case atStart=>exact⟨rfl,rfl⟩
  case round=>
   obtain⟨rfl,rfl⟩:=hrel;go_wp2;exact bodyPost_ret (v:=.tuple #[.slice none 0 0,.int .i64 er]) (by simp[results,Tryz.results85,go_sem]) rfl HF.out
 ·have Jk:=hk.lt;have mi:Hid (w.heap.size<=gl):=Nat.le_trans HE.out.size dZ;have Dn:Hid (Mb (λb=>M b\/b=gl) w7):=mO (HM.out.ext (HE.out.trans e7)) Jk
  have Ig:Hid (Kids (λb=>M b\/b=gl) w7 4 gl N (rY 0 F G)):=hk.congr λi _=>by unfold rY;rw[if_neg (Nat.not_lt_zero _)];exact ae.refl _
  have iB:=Lib.hid (HE.out.trans e7);have jh:Hid ((λb=>M b\/b=gl) gl):=.inr rfl;have NU:Hid (∀b,M b\/b=gl->(λb=>M b\/b=gl) b):=λb h=>h;have Pm:(0:Int)<=(N:Int):=Int.natCast_nonneg _
  have BP:(N:Int)<=100:=by have:=xz.out;omega
  clear dZ hk e7 HE HM Jk;generalize (λb=>M b\/b=gl)=M' at*;go_wp2
  go_loopw [20] (λiv wr=>∃k:Nat,k<=N/\iv=.int .i64 (k:Int)/\Hid (Kids M' wr 4 gl N (rY k F G))/\Hid (Mb M' wr)/\Hid (Ext w wr)) (λiv _=>N-(intOf iv).toNat)
  case atStart=>exact⟨0,by omega,rfl,Ig,Dn,iB⟩
  case round=>
   clear Ig Dn iB;obtain⟨k,iq,rfl,HK,dL,HE⟩:=hrel;have fJ:(0:Int)<=(k:Int):=Int.natCast_nonneg _
   by_cases qP:k<N
   ·have Er:(k:Int)<(N:Int):=by omega
    obtain⟨z,⟨z0,z1,z2,z3⟩,hz⟩:=HK.out.jH k qP
    have hz2:aI M' wr 4 z (F k):=by
     have h:rY k F G k=F k:=if_neg (Nat.lt_irrefl _);rw[h]at hz;exact hz
    have gF:Hid (k<N):=qP;have CN:=Lib.hid (nJ.out k qP M' wr z dL.out hz2);clear hz hz2 qP iq nJ;go_wp2_with (fail);refine CN.out.mono ?_;rintro e w8 ⟨u,rfl,hu,e8⟩;have tV:=Lib.hid (HK.out.ext e8);obtain⟨⟨_,q0⟩,⟨_,q1⟩,⟨_,q2⟩,⟨_,q3⟩,dI,_⟩:=tV.out.at k gF.out;have f0:=dI (k*4);have f1:=dI (k*4+1);have f2:=dI (k*4+2);have f3:=dI (k*4+3);have uC:=tV.out.set jh.out k gF.out hu;have oF:=(HE.out.trans e8).aH (g:=gl) mi.out (k*4) (.int .i64 u.lv) (.bool u.b) (.slice u.a u.n u.p) (.slice u.ka u.kn u.kp);have uz:=(dL.out.ext e8).size (Kp.aH (M:=M') jh.out (k*4) (.int .i64 u.lv) (.bool u.b) (.slice u.a u.n u.p) (.slice u.ka u.kn u.kp)).1;obtain⟨W9,mG⟩:∃W9,W9=aH w8 gl (k*4) (.int .i64 u.lv) (.bool u.b) (.slice u.a u.n u.p) (.slice u.ka u.kn u.kp):=⟨_,rfl⟩;rw[<-mG]at uC oF uz;unfold aH at mG;have uT:=Lib.hid mG;have HF:Hid (Kids M' W9 4 gl N (rY (k+1) F G)/\Mb M' W9/\Ext w W9):=⟨uC.congr λi hi=>Wh k F G i,uz,oF⟩;clear uC oF uz mG dI hu e8 tV HK dL HE CN z0 z1 z2 z3;go_wp2;rw[<-uT.out];clear uT q0 q1 q2 q3 f0 f1 f2 f3
    go_roundw
    case rel=>exact⟨k+1,gF.out,by go_num,HF.out.1,HF.out.2.1,HF.out.2.2⟩
    case measure=>have:=gF.out;simp[intOf];omega
   ·obtain rfl:k=N:=by omega
    have qko:¬(k:Int)<(k:Int):=by omega
    have HF:Hid (Bo M w k G er (.returned (.tuple #[.slice (some ⟨gl,0,none⟩) k k,.int .i64 er])) wr):=⟨_,rfl,.inr ⟨gl,rfl,mi.out,(HK.out.more λb hb=>.inl (NU.out b hb)).congr λi hi=>by unfold rY;rw[if_pos hi];exact ae.refl _⟩,HE.out⟩;clear HK dL HE jh NU mi nJ iq qP xz;go_wp2;exact bodyPost_ret (v:=.tuple #[.slice (some ⟨gl,0,none⟩) k k,.int .i64 er]) (by simp[results,Tryz.results85,go_sem]) rfl HF.out
def Tg(N:Nat)(G:Nat->List Tm)(k:Nat):Prop:=k<=N/\(∀j,j<k->ae (G j) [])/\(k<N->¬ae (G k) [])
theorem Tg.uniq{N:Nat}{G:Nat->List Tm}{k l:Nat}(h:Tg N G k)(h':Tg N G l):k=l:=by
 rcases Nat.lt_trichotomy k l with hl|hl|hl
 ·exact absurd (h'.2.1 k hl) (h.2.2 (by have:=h'.1;omega))
 ·exact hl
 ·exact absurd (h.2.1 l hl) (h'.2.2 (by have:=h.1;omega))
def Tq(w:World)(N:Nat)(G:Nat->List Tm)(er:Int)(e:Ending)(w':World):Prop:=∃k:Nat,e=.returned (.tuple #[.int .i64 (k:Int),.int .i64 er])/\(er≠0->k=0)/\(er=0->Tg N G k)/\Ext w w'
theorem qy6(M:Nat->Prop)(x y:PE)(L er:Int)(N m n:Nat)(G:Nat->List Tm)(w:World)(hM:Mb M w)(hN:N<=100)(vH:er=0->N=min m n)
 (HP:∀wk,Ext w wk->Calls Tryz.prog 85 #[.agg (ah x),.agg (ah y),.int .i64 L] wk (Bo M wk N G er))
 (HX:er=0->∀wk,Ext w wk->Calls Tryz.prog 43 #[.agg (ah x),.int .i64 L] wk λe w'=>e=.returned (.int .i64 (m:Int))/\Ext wk w')
 (HY:er=0->∀wk,Ext w wk->Calls Tryz.prog 43 #[.agg (ah y),.int .i64 L] wk λe w'=>e=.returned (.int .i64 (n:Int))/\Ext wk w'):
 Calls Tryz.prog 32 #[.agg (ah x),.agg (ah y),.int .i64 L] w (Tq w N G er):=by
 have hE:=((Ext.refl w).alloc (.cells (ah x) 33)).alloc (.cells (ah y) 33);have je:=MI w x y;generalize hW:(w.alloc (.cells (ah x) 33)).alloc (.cells (ah y) 33)=W at*;have HW:=Lib.hid hW;have HE:=Lib.hid hE;have jW:Hid (oC w.heap.size x y W):=je;have HM:=Lib.hid hM;have xz:=Lib.hid hN;have HH:=Lib.hid HP;have J9:=Lib.hid HX;have Ka:=Lib.hid HY;have X9:=Lib.hid vH;clear hE je hW hM HP HX HY hN vH
 go_enter Tryz.func32,Tryz.ntmps32
 go_upto_region 1 with(fail)
 rw[HW.out];obtain⟨g0,rO⟩:∃g0,g0=w.heap.size:=⟨_,rfl⟩;rw[<-rO]at jW⊢;clear rO HW;obtain⟨⟨x0,x1,x2,x3⟩,y0,y1,y2,y3⟩:=jW.out;go_wp2_with (fail);refine(HH.out W HE.out).mono ?_;rintro e w7 ⟨v,rfl,hv,e7⟩;clear x0 x1 x2 x3 y0 y1 y2 y3;have iB:=Lib.hid (HE.out.trans e7);have EZ:=Lib.hid (jW.out.ext e7)
 by_cases bW:er=0
 rotate_left
 ·have qBv:(er !=0)=true:=by simp[bW]
  have iw:∃u,v=.slice u N N:=by
   rcases hv with⟨rfl,rfl⟩|⟨gl,rfl,_⟩
   ·exact⟨_,rfl⟩
   ·exact⟨_,rfl⟩
  obtain⟨u,rfl⟩:=iw;have HF:Hid (Tq w N G er (.returned (.tuple #[.int .i64 0,.int .i64 er])) w7):=⟨0,rfl,λ_=>rfl,λh=>absurd h bW,iB.out⟩;clear hv e7 HE HM jW HH J9 Ka X9 iB EZ xz bW;go_wp2;exact bodyPost_ret (v:=.tuple #[.int .i64 0,.int .i64 er]) (by simp[results,Tryz.results32,go_sem]) rfl HF.out
 ·subst bW;have uR:=Lib.hid (X9.out rfl);have hDX:=Lib.hid (J9.out rfl);have hDY:=Lib.hid (Ka.out rfl);have Pm:(0:Int)<=(N:Int):=Int.natCast_nonneg _
  have BP:(N:Int)<=100:=by have:=xz.out;omega
  obtain⟨a,rfl,HA⟩:∃a,v=.slice a N N/\Hid (0<N->∃gl:Nat,a=some ⟨gl,0,none⟩/\Mb (λb=>M b\/b=gl) w7/\Kids (λb=>M b\/b=gl) w7 4 gl N G):=by
   rcases hv with⟨rfl,rfl⟩|⟨gl,rfl,dZ,hk⟩
   ·exact⟨_,rfl,λh=>absurd h (Nat.lt_irrefl _)⟩
   ·exact⟨_,rfl,λ_=>⟨gl,rfl,mO (HM.out.ext (HE.out.trans e7)) hk.lt,hk⟩⟩
  clear hv e7 HE HM jW HH J9 Ka X9;go_wp2
  go_loopw [24] (λiv wr=>∃k:Nat,k<=N/\iv=.int .i64 (k:Int)/\Hid (∀j,j<k->ae (G j) [])/\Hid (Ext w7 wr)) (λiv _=>N-(intOf iv).toNat)
  case atStart=>exact⟨0,by omega,rfl,λj hj=>absurd hj (Nat.not_lt_zero _),Ext.refl _⟩
  case round=>
   obtain⟨k,iq,rfl,HZ,HE⟩:=hrel;have fJ:(0:Int)<=(k:Int):=Int.natCast_nonneg _
   by_cases qP:k<N
   ·have Er:(k:Int)<(N:Int):=by omega
    obtain⟨gl,rfl,Ma,wM⟩:=HA.out (by omega);obtain⟨z,⟨z0,z1,z2,z3⟩,hz⟩:=(wM.ext HE.out).jH k qP;obtain⟨W8,vD⟩:∃W8,W8=wr.alloc (.cells #[.int .i64 z.lv,.bool z.b,.slice z.a z.n z.p,.slice z.ka z.kn z.kp] 33):=⟨_,rfl⟩
    have fZ:Ext wr W8:=by rw[vD];exact(Ext.refl wr).alloc _
    have Lp:ak W8 wr.heap.size 33 4 (arr (ah z)):=by rw[vD];exact ak.bf wr (ah z) 33 4 rfl
    have CZ:=Lib.hid (ES _ z (G k) W8 (Ma.ext (HE.out.trans fZ)) (hz.ext fZ).pi);have FB:=Lib.hid vD;have dW:=Lib.hid fZ;obtain⟨g11,LW⟩:∃g11,g11=wr.heap.size:=⟨_,rfl⟩;rw[<-LW]at Lp;have qeI:=Lib.hid LW;have AP:=Lib.hid Lp;have gF:Hid (k<N):=qP;clear vD fZ Lp LW hz Ma wM qP iq
    go_upto_region 7 with(fail)
    rw[<-FB.out, <-qeI.out];clear FB qeI z0 z1 z2 z3;obtain⟨b0,b1,b2,b3⟩:=AP.out.p4;go_wp2_with (fail);refine CZ.out.mono ?_;rintro e w9 ⟨bz,rfl,hb,e9⟩;have tT:=Lib.hid ((HE.out.trans dW.out).trans e9);clear b0 b1 b2 b3 AP CZ e9 dW HE
    cases bz with
    |true=>
     have HZ9:Hid (∀j,j<k+1->ae (G j) []):=λj hj=>by
      by_cases h:j<k
      ·exact HZ.out j h
      ·obtain rfl:j=k:=by omega
       exact hb.1 rfl
     clear hb HZ;go_wp2
     go_roundw
     case rel=>exact⟨k+1,gF.out,by go_num,HZ9.out,tT.out⟩
     case measure=>have:=gF.out;simp[intOf];omega
    |false=>
     have HF:Hid (Tq w N G 0 (.returned (.tuple #[.int .i64 (k:Int),.int .i64 0])) w9):=⟨k,rfl,λh=>absurd rfl h,λ_=>⟨Nat.le_of_lt gF.out,HZ.out,λ_ h=>absurd (hb.2 h) (by decide)⟩,iB.out.trans tT.out⟩;clear hb HZ tT iB HA EZ uR hDX hDY xz gF;go_wp2;exact bodyPost_ret (v:=.tuple #[.int .i64 (k:Int),.int .i64 0]) (by simp[results,Tryz.results32,go_sem]) rfl HF.out
   ·obtain rfl:k=N:=by omega
    have qko:¬(k:Int)<(k:Int):=by omega
    have mq:Hid (oC g0 x y wr.drew):=EZ.out.ext (HE.out.trans (Ext.refl _).drew);have ic:Hid (Ext w wr.drew):=iB.out.trans (HE.out.trans (Ext.refl _).drew);clear iq qP HE iB HA EZ xz
    go_upto_region 10 with(fail)
    refine fM (oC g0 x y) 9 (by kernel_rfl) mq.out (λhHeld=>?_);generalize wr.drew=wd at*;(refine dF [0,1,3,4] ?_;(iterate 4 (refine dD (v:=?_) ?_ ?_;rotate_left 1;(intro wS hSw;obtain⟨⟨A0,A1,A2,A3⟩,B0,B1,B2,B3⟩:=hSw;go_simp;try with_reducible rfl);(try simp only[Act.put,aD,aF,aG])));refine dG ?_);((refine aK 2 ?_;intro K hK);go_simp;(refine(hDX.out wd ic.out).mono ?_);rintro e_ w5 ⟨rfl,e2⟩;go_wp2_with (fail);(try clear ag);(have ag:=hHeld.ext e2);(refine hK.out _ _ (λ_=>ag) ?_);clear hK K;(try simp only[Act.put,aD,aF,aG]));((refine aK 5 ?_;intro K hK);go_simp;(refine(hDY.out w5 (ic.out.trans e2)).mono ?_);rintro e_ w6 ⟨rfl,e5⟩;go_wp2_with (fail);(try clear ag);(have ag:=hHeld.ext (e2.trans e5));(refine hK.out _ _ (λ_=>ag) ?_);clear hK K;(try simp only[Act.put,aD,aF,aG]));(refine dF [6,7,8] ?_;(iterate 3 (refine dD (v:=?_) ?_ ?_;rotate_left 1;(intro wS hSw;obtain⟨⟨A0,A1,A2,A3⟩,B0,B1,B2,B3⟩:=hSw;go_simp;try with_reducible rfl);(try simp only[Act.put,aD,aF,aG])));refine dG ?_);refine ek ?_
    have hmin:min (m:Int) (n:Int)=(k:Int):=by have:=uR.out;omega
    have HF:Hid (Tq w k G 0 (.returned (.tuple #[.int .i64 (k:Int),.int .i64 0])) w6):=⟨k,rfl,λh=>absurd rfl h,λ_=>⟨Nat.le_refl _,HZ.out,λh=>absurd h (Nat.lt_irrefl _)⟩,ic.out.trans (e2.trans e5)⟩;clear hHeld ag e2 e5 mq ic HZ hDX hDY uR;go_wp2;exact bodyPost_ret (v:=.tuple #[.int .i64 (k:Int),.int .i64 0]) (by simp[results,Tryz.results32,go_sem,hmin]) rfl HF.out
def Zr(ga gb o g0:Nat)(za zb x y:PE)(w:World):Prop:=(eX w ga o za/\ga<w.heap.size)/\(eX w gb o zb/\gb<w.heap.size)/\oC g0 x y w
theorem Zr.ext{ga gb o g0:Nat}{za zb x y:PE}{w w':World}(h:Zr ga gb o g0 za zb x y w)(he:Ext w w'):Zr ga gb o g0 za zb x y w':=⟨⟨h.1.1.ext h.1.2 he,Nat.lt_of_lt_of_le h.1.2 he.size⟩,⟨h.2.1.1.ext h.2.1.2 he,Nat.lt_of_lt_of_le h.2.1.2 he.size⟩,h.2.2.ext he⟩
end Go.Proofs.YtmcfpnmoklnhoaaGreat
