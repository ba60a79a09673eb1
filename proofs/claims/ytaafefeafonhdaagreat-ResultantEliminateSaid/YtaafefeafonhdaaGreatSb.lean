/- Sb -/
import Derived.Test.YtaafefeafonhdaaGreatSa
set_option linter.unusedVariables false
set_option maxRecDepth 100000
set_option maxHeartbeats 400000000
set_option linter.unusedSimpArgs false
namespace Go.Proofs.YtaafefeafonhdaaGreat
open Go.RowKit
def qtI(a c:List Tm):Prop:=∀(M:Nat->Prop)(W:World)(x:PE),Mb M W->aG M W 4 x a->Calls Tryz.prog 64 #[.agg (ag x)] W (di M W 4 c)
structure ChN(M:Nat->Prop)(w:World)(x y:PE)(J m n N:Nat)(F:Nat->List Tm):Prop where
 ck:∀wk,Ext w wk->Calls Tryz.prog 117 #[.agg (ag x),.agg (ag y),.int .i64 (J:Int)] wk λe w'=>e=.returned (.int .i64 0)/\Ext wk w'
 dx:∀wk,Ext w wk->Calls Tryz.prog 14 #[.agg (ag x),.int .i64 (J:Int)] wk λe w'=>e=.returned (.int .i64 (m:Int))/\Ext wk w'
 dy:∀wk,Ext w wk->Calls Tryz.prog 14 #[.agg (ag y),.int .i64 (J:Int)] wk λe w'=>e=.returned (.int .i64 (n:Int))/\Ext wk w'
 ds:n<=m->∀wk,Ext w wk->Calls Tryz.prog 118 #[.agg (ag x),.agg (ag y),.int .i64 (J:Int),.int .i64 (m:Int),.int .i64 (n:Int)] wk (JH M wk N F)
 dt:m<n->∀wk,Ext w wk->Calls Tryz.prog 118 #[.agg (ag y),.agg (ag x),.int .i64 (J:Int),.int .i64 (n:Int),.int .i64 (m:Int)] wk (JH M wk N F)
def Va(M:Nat->Prop)(w:World)(N:Nat)(F:Nat->List Tm)(e:Ending)(w':World):Prop:=∃gl:Nat,e=.returned (.tuple #[.slice (some ⟨gl,0,none⟩) N N,.int .i64 0])/\w.heap.size<=gl/\Kids (λb=>M b\/b=gl) w' 4 gl N F/\Ext w w'
def SgC(m n N:Nat)(F F':Nat->List Tm):Prop:=∀j,j<N->(m<n/\((m-j)*(n-j))%2=1/\qtI (F j) (F' j))\/(¬(m<n/\((m-j)*(n-j))%2=1)/\af (F j) (F' j))
def Bz(k:Nat)(F F':Nat->List Tm):Nat->List Tm:=λi=>if i<k then F' i else F i
theorem qfU(k:Nat)(F F':Nat->List Tm)(i:Nat):af (if i=k then F' k else Bz k F F' i) (Bz (k+1) F F' i):=by
 unfold Bz
 by_cases h:i=k
 ·subst h;rw[av rfl,av (by omega)];exact af.refl _
 ·rw[aj h]
  by_cases h2:i<k
  ·rw[av h2,av (by omega)];exact af.refl _
  ·rw[aj h2,aj (by omega)];exact af.refl _
theorem qrP{a b:Nat}(ha:a<=100)(hb:b<=100):IntKind.i64.wrap ((a:Int)*(b:Int))=((a*b:Nat):Int):=by
 have h:a*b<=10000:=Nat.mul_le_mul ha hb;rw[<-Int.natCast_mul,IntWalk.i64_in _ (by omega)]
theorem qEc{p:Nat}(h:p%2=1):((p:Nat):Int).tmod 2=1:=by
 rw[Int.tmod_eq_emod_of_nonneg (jE _)];omega
theorem qEb{p:Nat}(h:p%2=0):((p:Nat):Int).tmod 2=0:=by
 rw[Int.tmod_eq_emod_of_nonneg (jE _)];omega
theorem qDC(M:Nat->Prop)(x y:PE)(J m n N:Nat)(F F':Nat->List Tm)(w:World)(hM:Mb M w)(hm:1<=m)(hn:1<=n)(Oc:m<=100)(mI:n<=100)(hN:N=min m n)(H:ChN M w x y J m n N F)(S:SgC m n N F F'):
 Calls Tryz.prog 89 #[.agg (ag x),.agg (ag y),.int .i64 (J:Int)] w (Va M w N F'):=by
 have hE:=((ai w).alloc (.cells (ag x) 42)).alloc (.cells (ag y) 42);have kg:=XL w x y;generalize hW:(w.alloc (.cells (ag x) 42)).alloc (.cells (ag y) 42)=W at*;have HW:=ae hW;have HE:=ae hE;have qQ:Hid (rW w.heap.size x y W):=kg;have HM:=ae hM;have HH:=ae H;have uF:=ae S;have fQ:Hid (1<=m/\1<=n/\m<=100/\n<=100/\N<=m/\N<=n):=⟨hm,hn,Oc,mI,by omega,by omega⟩;clear hE kg hW hM H S hm hn Oc mI hN
 go_enter Tryz.func89,Tryz.ntmps89
 go_upto_region 1 with(fail)
 rw[HW.out];obtain⟨g0,sD⟩:∃g0,g0=w.heap.size:=⟨_,rfl⟩;rw[<-sD]at qQ⊢;clear sD HW;obtain⟨⟨x0,x1,x2,x3⟩,y0,y1,y2,y3⟩:=qQ.out;go_wp2_with (fail);refine(HH.out.ck W HE.out).mono ?_;rintro e w1 ⟨rfl,e1⟩;have bS:=ae (qQ.out.ext e1);have aP:=ae (HE.out.trans e1);clear x0 x1 x2 x3 y0 y1 y2 y3 qQ HE e1
 go_upto_region 4 with(fail)
 have pF:Hid (rW g0 x y w1.drew):=bS.out.ext (ai _).drew;have iV:Hid (Ext w w1.drew):=aP.out.trans (ai _).drew;refine fB (rW g0 x y) 8 pF.out λhHeld=>?_;generalize w1.drew=wd at*;refine bH [0,1,3,4] ?_;(iterate 4 refine bG ?_);refine bI ?_
 (refine aI 2 λK hK=>?_);go_simp;(refine(HH.out.dx wd iV.out).mono ?_);rintro e_ w5 ⟨rfl,e2⟩;go_wp2_with (fail);(try clear ak);(refine ny hK (hHeld.ext e2) λak=>?_);clear hK K
 (refine aI 5 λK hK=>?_);go_simp;(refine(HH.out.dy w5 (iV.out.trans e2)).mono ?_);rintro e_ w6 ⟨rfl,e5⟩;go_wp2_with (fail);(try clear ak);(refine ny hK (hHeld.ext (e2.trans e5)) λak=>?_);clear hK K
 refine bH [6,7] ?_;(iterate 2 refine bG ?_);refine bI ?_;refine kP ?_;have kZ:=ae (iV.out.trans (e2.trans e5));have vJ:=ae (hHeld.ext (e2.trans e5));clear hHeld ak e2 e5 pF iV bS aP;obtain⟨mn,pR⟩:∃mn:Int,mn=min (m:Int) (n:Int):=⟨_,rfl⟩
 have qeb:¬min (m:Int) (n:Int)=0:=by have:=fQ.out;omega
 have qyx:(min (m:Int) (n:Int)==0)=false:=beq_eq_false_iff_ne.2 qeb;clear pR
 go_upto_if 32 with(fail)
 clear qeb qyx
 go_cut [11] (λs11 wx=>∃gl:Nat,s11=.slice (some ⟨gl,0,none⟩) N N/\w.heap.size<=gl/\Kids (λb=>M b\/b=gl) wx 4 gl N F/\Ext w wx)
 case first=>
  by_cases yY:n<=m
  ·have jy:(m:Int) ≥ (n:Int):=by omega
   have CD:=ae (HH.out.ds yY w6 kZ.out);obtain⟨⟨x0,x1,x2,x3⟩,y0,y1,y2,y3⟩:=vJ.out;clear yY HH uF;go_wp2_with (fail);refine CD.out.mono ?_;rintro e w7 ⟨gl,rfl,gP,hk,e7⟩;have HF:Hid (w.heap.size<=gl/\Kids (λb=>M b\/b=gl) w7 4 gl N F/\Ext w w7):=⟨aK kZ.out.size gP,hk,kZ.out.trans e7⟩;clear gP hk e7 x0 x1 x2 x3 y0 y1 y2 y3 CD;go_wp2_with (fail)
   go_meet
   exact⟨gl,rfl,HF.out⟩
  ·have jy:¬(m:Int) ≥ (n:Int):=by omega
   have CD:=ae (HH.out.dt (by omega) w6 kZ.out);obtain⟨⟨x0,x1,x2,x3⟩,y0,y1,y2,y3⟩:=vJ.out;clear yY HH uF;go_wp2_with (fail);refine CD.out.mono ?_;rintro e w7 ⟨gl,rfl,gP,hk,e7⟩;have HF:Hid (w.heap.size<=gl/\Kids (λb=>M b\/b=gl) w7 4 gl N F/\Ext w w7):=⟨aK kZ.out.size gP,hk,kZ.out.trans e7⟩;clear gP hk e7 x0 x1 x2 x3 y0 y1 y2 y3 CD;go_wp2_with (fail)
   go_meet
   exact⟨gl,rfl,HF.out⟩
 case rest=>
  obtain⟨gl,rfl,gP,hk,e7⟩:=hcut;have RL:=hk.lt;have qR:Hid (w.heap.size<=gl):=gP;have zW:Hid (Mb (λb=>M b\/b=gl) wc):=Ij (HM.out.ext e7) RL
  have Uw:Hid (Kids (λb=>M b\/b=gl) wc 4 gl N (Bz 0 F F')):=hk.congr λi _=>by unfold Bz;rw[aj (Nat.not_lt_zero _)];exact af.refl _
  have rP:=ae e7;have jm:Hid ((λb=>M b\/b=gl) gl):=.inr rfl;have HMQ:Hid (∀b,M b\/b=gl->(λb=>M b\/b=gl) b):=λb h=>h;have VY:(0:Int)<=(N:Int):=jE _
  have Rs:(N:Int)<=100:=by have:=fQ.out;omega
  clear gP hk e7 kZ HH HM vJ RL;generalize (λb=>M b\/b=gl)=M' at*;go_wp2
  go_loopw [47] (λiv wr=>∃k:Nat,k<=N/\iv=.int .i64 (k:Int)/\Hid (Kids M' wr 4 gl N (Bz k F F'))/\Hid (Mb M' wr)/\Hid (Ext w wr)) (λiv _=>N-(intOf iv).toNat)
  case atStart=>exact⟨0,by omega,rfl,Uw,zW,rP⟩
  case round=>
   clear Uw zW rP;obtain⟨k,kU,rfl,HK,dQ,HE⟩:=hrel;have iq:(0:Int)<=(k:Int):=jE _
   by_cases KG:k<N
   ·have hkI:(k:Int)<(N:Int):=by omega
    obtain⟨z,⟨z0,z1,z2,z3⟩,hz⟩:=HK.out.Cr k KG
    have hz2:aG M' wr 4 z (F k):=by
     have h:Bz k F F' k=F k:=aj (Nat.lt_irrefl _);rw[h]at hz;exact hz
    have nE:Hid (k<N):=KG;rcases uF.out k KG with⟨hlt,KS,xP⟩|⟨hno,eB⟩
    ·have CN:=ae (xP M' wr z dQ.out hz2)
     have qno:(m:Int)<(n:Int):=by omega
     have hm3:=fQ.out;obtain⟨a,ha⟩:∃a,a=m-k:=⟨_,rfl⟩;obtain⟨b,hb⟩:∃b,b=n-k:=⟨_,rfl⟩;rw[<-ha, <-hb]at KS
     have hw1:IntKind.i64.wrap ((m:Int)-(k:Int))=(a:Int):=by rw[IntWalk.i64_in _ (by omega)];omega
     have iy:IntKind.i64.wrap ((n:Int)-(k:Int))=(b:Int):=by rw[IntWalk.i64_in _ (by omega)];omega
     have jW:IntKind.i64.wrap ((a:Int)*(b:Int))=((a*b:Nat):Int):=qrP (by omega) (by omega);have Ia:((a*b:Nat):Int).tmod 2=1:=qEc KS;obtain⟨ab,ry⟩:∃ab,ab=a*b:=⟨_,rfl⟩;rw[<-ry]at jW Ia;clear ha hb KS ry hm3 xP hz hz2 hlt KG kU fQ uF;go_wp2_with (fail);refine CN.out.mono ?_;rintro e w8 ⟨u,rfl,hu,e8⟩;have zU:=ae (HK.out.ext e8);obtain⟨⟨_,q0⟩,⟨_,q1⟩,⟨_,q2⟩,⟨_,q3⟩,dX,_⟩:=zU.out.at k nE.out;have f0:=dX (k*4);have f1:=dX (k*4+1);have f2:=dX (k*4+2);have f3:=dX (k*4+3);have Au:=zU.out.set jm.out k nE.out hu;have rZ:=(HE.out.trans e8).aD (g:=gl) qR.out (k*4) (.int .i64 u.lv) (.bool u.b) (.slice u.a u.n u.p) (.slice u.ka u.kn u.kp);have Ao:=(dQ.out.ext e8).size (Kp.aD (M:=M') jm.out (k*4) (.int .i64 u.lv) (.bool u.b) (.slice u.a u.n u.p) (.slice u.ka u.kn u.kp)).1;obtain⟨W9,vX⟩:∃W9,W9=aD w8 gl (k*4) (.int .i64 u.lv) (.bool u.b) (.slice u.a u.n u.p) (.slice u.ka u.kn u.kp):=⟨_,rfl⟩;rw[<-vX]at Au rZ Ao;unfold aD at vX;have F9:=ae vX;have HF:Hid (Kids M' W9 4 gl N (Bz (k+1) F F')/\Mb M' W9/\Ext w W9):=⟨Au.congr λi hi=>qfU k F F' i,Ao,rZ⟩;clear Au rZ Ao vX dX hu e8 zU HK dQ HE CN z0 z1 z2 z3;go_wp2;rw[<-F9.out];clear F9 q0 q1 q2 q3 f0 f1 f2 f3
     go_roundw
     case rel=>exact⟨k+1,nE.out,by go_num,HF.out.1,HF.out.2.1,HF.out.2.2⟩
     case measure=>have:=nE.out;simp[intOf];omega
    ·have CN:Hid (Calls Tryz.prog 50 #[.agg (ag z)] wr (di M' wr 4 (F' k))):=(Iz M' z (F k) wr dQ.out hz2.pi).mono λ_ _ h=>h.bP eB
     by_cases hlt:m<n
     ·have KS:(m-k)*(n-k)%2=0:=by
       have:¬(m-k)*(n-k)%2=1:=λh=>hno ⟨hlt,h⟩;omega
      have qno:(m:Int)<(n:Int):=by omega
      have hm3:=fQ.out;obtain⟨a,ha⟩:∃a,a=m-k:=⟨_,rfl⟩;obtain⟨b,hb⟩:∃b,b=n-k:=⟨_,rfl⟩;rw[<-ha, <-hb]at KS
      have hw1:IntKind.i64.wrap ((m:Int)-(k:Int))=(a:Int):=by rw[IntWalk.i64_in _ (by omega)];omega
      have iy:IntKind.i64.wrap ((n:Int)-(k:Int))=(b:Int):=by rw[IntWalk.i64_in _ (by omega)];omega
      have jW:IntKind.i64.wrap ((a:Int)*(b:Int))=((a*b:Nat):Int):=qrP (by omega) (by omega);have Ia:((a*b:Nat):Int).tmod 2=0:=qEb KS;obtain⟨ab,ry⟩:∃ab,ab=a*b:=⟨_,rfl⟩;rw[<-ry]at jW Ia;clear ha hb KS ry hm3 hno eB hz hz2 hlt KG kU fQ uF;go_wp2_with (fail);refine CN.out.mono ?_;rintro e w8 ⟨u,rfl,hu,e8⟩;have zU:=ae (HK.out.ext e8);obtain⟨⟨_,q0⟩,⟨_,q1⟩,⟨_,q2⟩,⟨_,q3⟩,dX,_⟩:=zU.out.at k nE.out;have f0:=dX (k*4);have f1:=dX (k*4+1);have f2:=dX (k*4+2);have f3:=dX (k*4+3);have Au:=zU.out.set jm.out k nE.out hu;have rZ:=(HE.out.trans e8).aD (g:=gl) qR.out (k*4) (.int .i64 u.lv) (.bool u.b) (.slice u.a u.n u.p) (.slice u.ka u.kn u.kp);have Ao:=(dQ.out.ext e8).size (Kp.aD (M:=M') jm.out (k*4) (.int .i64 u.lv) (.bool u.b) (.slice u.a u.n u.p) (.slice u.ka u.kn u.kp)).1;obtain⟨W9,vX⟩:∃W9,W9=aD w8 gl (k*4) (.int .i64 u.lv) (.bool u.b) (.slice u.a u.n u.p) (.slice u.ka u.kn u.kp):=⟨_,rfl⟩;rw[<-vX]at Au rZ Ao;unfold aD at vX;have F9:=ae vX;have HF:Hid (Kids M' W9 4 gl N (Bz (k+1) F F')/\Mb M' W9/\Ext w W9):=⟨Au.congr λi hi=>qfU k F F' i,Ao,rZ⟩;clear Au rZ Ao vX dX hu e8 zU HK dQ HE CN z0 z1 z2 z3;go_wp2;rw[<-F9.out];clear F9 q0 q1 q2 q3 f0 f1 f2 f3
      go_roundw
      case rel=>exact⟨k+1,nE.out,by go_num,HF.out.1,HF.out.2.1,HF.out.2.2⟩
      case measure=>have:=nE.out;simp[intOf];omega
     ·have qno:¬(m:Int)<(n:Int):=by omega
      clear hno eB hz hz2 hlt KG kU fQ uF;go_wp2_with (fail);refine CN.out.mono ?_;rintro e w8 ⟨u,rfl,hu,e8⟩;have zU:=ae (HK.out.ext e8);obtain⟨⟨_,q0⟩,⟨_,q1⟩,⟨_,q2⟩,⟨_,q3⟩,dX,_⟩:=zU.out.at k nE.out;have f0:=dX (k*4);have f1:=dX (k*4+1);have f2:=dX (k*4+2);have f3:=dX (k*4+3);have Au:=zU.out.set jm.out k nE.out hu;have rZ:=(HE.out.trans e8).aD (g:=gl) qR.out (k*4) (.int .i64 u.lv) (.bool u.b) (.slice u.a u.n u.p) (.slice u.ka u.kn u.kp);have Ao:=(dQ.out.ext e8).size (Kp.aD (M:=M') jm.out (k*4) (.int .i64 u.lv) (.bool u.b) (.slice u.a u.n u.p) (.slice u.ka u.kn u.kp)).1;obtain⟨W9,vX⟩:∃W9,W9=aD w8 gl (k*4) (.int .i64 u.lv) (.bool u.b) (.slice u.a u.n u.p) (.slice u.ka u.kn u.kp):=⟨_,rfl⟩;rw[<-vX]at Au rZ Ao;unfold aD at vX;have F9:=ae vX;have HF:Hid (Kids M' W9 4 gl N (Bz (k+1) F F')/\Mb M' W9/\Ext w W9):=⟨Au.congr λi hi=>qfU k F F' i,Ao,rZ⟩;clear Au rZ Ao vX dX hu e8 zU HK dQ HE CN z0 z1 z2 z3;go_wp2;rw[<-F9.out];clear F9 q0 q1 q2 q3 f0 f1 f2 f3
      go_roundw
      case rel=>exact⟨k+1,nE.out,by go_num,HF.out.1,HF.out.2.1,HF.out.2.2⟩
      case measure=>have:=nE.out;simp[intOf];omega
   ·obtain rfl:k=N:=by omega
    have qF3:¬(k:Int)<(k:Int):=by omega
    have HF:Hid (Va M w k F' (.returned (.tuple #[.slice (some ⟨gl,0,none⟩) k k,.int .i64 0])) wr):=⟨gl,rfl,qR.out,(HK.out.more λb hb=>.inl (HMQ.out b hb)).congr λi hi=>by unfold Bz;rw[av hi];exact af.refl _,HE.out⟩;clear HK dQ HE jm HMQ qR fQ uF kU KG;go_wp2;exact aV (v:=.tuple #[.slice (some ⟨gl,0,none⟩) k k,.int .i64 0]) (by simp[results,Tryz.results89,go_sem]) rfl HF.out
def LiV(M:Nat->Prop)(w w':World)(v:Value)(N:Nat)(F:Nat->List Tm):Prop:=(N=0/\v=.slice none 0 0)\/∃gl:Nat,v=.slice (some ⟨gl,0,none⟩) N N/\w.heap.size<=gl/\Kids (λb=>M b\/b=gl) w' 4 gl N F
def Qz(M:Nat->Prop)(w:World)(N:Nat)(F:Nat->List Tm)(er:Int)(e:Ending)(w':World):Prop:=∃v,e=.returned (.tuple #[v,.int .i64 er])/\LiV M w w' v N F/\Ext w w'
theorem Va.li{M:Nat->Prop}{w w':World}{N:Nat}{F:Nat->List Tm}{e:Ending}(h:Va M w N F e w'):Qz M w N F 0 e w':=by
 obtain⟨gl,rfl,h1,h2,h3⟩:=h;exact⟨_,rfl,.inr ⟨gl,rfl,h1,h2⟩,h3⟩
theorem qDB(M:Nat->Prop)(x y:PE)(J m n:Nat)(F:Nat->List Tm)(w:World)(pR:m=0\/n=0)
 (Kw:∀wk,Ext w wk->Calls Tryz.prog 117 #[.agg (ag x),.agg (ag y),.int .i64 (J:Int)] wk λe w'=>e=.returned (.int .i64 0)/\Ext wk w')
 (hdx:∀wk,Ext w wk->Calls Tryz.prog 14 #[.agg (ag x),.int .i64 (J:Int)] wk λe w'=>e=.returned (.int .i64 (m:Int))/\Ext wk w')
 (hdy:∀wk,Ext w wk->Calls Tryz.prog 14 #[.agg (ag y),.int .i64 (J:Int)] wk λe w'=>e=.returned (.int .i64 (n:Int))/\Ext wk w'):
 Calls Tryz.prog 89 #[.agg (ag x),.agg (ag y),.int .i64 (J:Int)] w (Qz M w 0 F 0):=by
 have hE:=((ai w).alloc (.cells (ag x) 42)).alloc (.cells (ag y) 42);have kg:=XL w x y;generalize hW:(w.alloc (.cells (ag x) 42)).alloc (.cells (ag y) 42)=W at*;have HW:=ae hW;have HE:=ae hE;have qQ:Hid (rW w.heap.size x y W):=kg;have HCK:=ae Kw;have IX:=ae hdx;have HDY:=ae hdy
 have qeb:min (m:Int) (n:Int)=0:=by omega
 clear hE kg hW Kw hdx hdy pR
 go_enter Tryz.func89,Tryz.ntmps89
 go_upto_region 1 with(fail)
 rw[HW.out];obtain⟨g0,sD⟩:∃g0,g0=w.heap.size:=⟨_,rfl⟩;rw[<-sD]at qQ⊢;clear sD HW;obtain⟨⟨x0,x1,x2,x3⟩,y0,y1,y2,y3⟩:=qQ.out;go_wp2_with (fail);refine(HCK.out W HE.out).mono ?_;rintro e w1 ⟨rfl,e1⟩;have bS:=ae (qQ.out.ext e1);have aP:=ae (HE.out.trans e1);clear x0 x1 x2 x3 y0 y1 y2 y3 qQ HE e1
 go_upto_region 4 with(fail)
 have pF:Hid (rW g0 x y w1.drew):=bS.out.ext (ai _).drew;have iV:Hid (Ext w w1.drew):=aP.out.trans (ai _).drew;refine fB (rW g0 x y) 8 pF.out λhHeld=>?_;generalize w1.drew=wd at*;refine bH [0,1,3,4] ?_;(iterate 4 refine bG ?_);refine bI ?_
 (refine aI 2 λK hK=>?_);go_simp;(refine(IX.out wd iV.out).mono ?_);rintro e_ w5 ⟨rfl,e2⟩;go_wp2_with (fail);(try clear ak);(refine ny hK (hHeld.ext e2) λak=>?_);clear hK K
 (refine aI 5 λK hK=>?_);go_simp;(refine(HDY.out w5 (iV.out.trans e2)).mono ?_);rintro e_ w6 ⟨rfl,e5⟩;go_wp2_with (fail);(try clear ak);(refine ny hK (hHeld.ext (e2.trans e5)) λak=>?_);clear hK K
 refine bH [6,7] ?_;(iterate 2 refine bG ?_);refine bI ?_;refine kP ?_;have HF:Hid (Qz M w 0 F 0 (.returned (.tuple #[.slice none 0 0,.int .i64 0])) w6):=⟨_,rfl,.inl ⟨rfl,rfl⟩,iV.out.trans (e2.trans e5)⟩;clear hHeld ak e2 e5 pF iV bS aP HCK IX HDY;go_wp2;exact aV (v:=.tuple #[.slice none 0 0,.int .i64 0]) (by simp[results,Tryz.results89,go_sem]) rfl HF.out
structure Two(J m n:Nat)(f g:List Tm):Prop where
 h1:1<=J
 h4:J<=4
 sf:Sz 3 10 f
 sg:Sz 3 10 g
 zf:¬af f []
 zg:¬af g []
 df:dJ J f m
 dg:dJ J g n
 m2:m<=2
 n2:n<=2
theorem qjp{J m n:Nat}{f g:List Tm}(H:Two J m n f g)(M:Nat->Prop)(x y:PE)(w:World)(hM:Mb M w)(hx:aG M w 4 x f)(hy:aG M w 4 y g):Calls Tryz.prog 117 #[.agg (ag x),.agg (ag y),.int .i64 (J:Int)] w λe w'=>e=.returned (.int .i64 0)/\Ext w w':=by
 refine(qDD M f g x y (J:Int) w hM hx.pi hy.pi).mono ?_;rintro e w' ⟨er,rfl,hc,he⟩;have h1:=H.h1;have h4:=H.h4;rcases hc with⟨h,_⟩|⟨_,h,_⟩|⟨_,_,_,rfl⟩
 ·exact absurd ⟨by omega,by omega⟩ h
 ·exact absurd h λhh=>hh.elim H.zf H.zg
 ·exact⟨rfl,he⟩
theorem Vz{J m n:Nat}{f g:List Tm}(H:Two J m n f g)(M:Nat->Prop)(x:PE)(w:World)(hM:Mb M w)(hx:aG M w 4 x f):Calls Tryz.prog 14 #[.agg (ag x),.int .i64 (J:Int)] w λe w'=>e=.returned (.int .i64 (m:Int))/\Ext w w':=Ik M x f J (m:Int) w H.h1 H.h4 H.sf.n (.inr ⟨H.zf,m,H.df,rfl⟩) hM hx.pi
theorem qbI{J m n:Nat}{f g:List Tm}(H:Two J m n f g)(M:Nat->Prop)(y:PE)(w:World)(hM:Mb M w)(hy:aG M w 4 y g):Calls Tryz.prog 14 #[.agg (ag y),.int .i64 (J:Int)] w λe w'=>e=.returned (.int .i64 (n:Int))/\Ext w w':=Ik M y g J (n:Int) w H.h1 H.h4 H.sg.n (.inr ⟨H.zg,n,H.dg,rfl⟩) hM hy.pi
theorem qui{J m n:Nat}{f g:List Tm}(H:Two J m n f g)(M:Nat->Prop)(x y:PE)(w:World)(hM:Mb M w)(hx:aG M w 4 x f)(hy:aG M w 4 y g):Calls Tryz.prog 89 #[.agg (ag x),.agg (ag y),.int .i64 (J:Int)] w (Qz M w (min m n) (DX J m n f g) 0):=by
 have Oc:=H.m2;have mI:=H.n2
 by_cases h0:m=0\/n=0
 ·rw[show min m n=0 by omega];exact qDB M x y J m n _ w h0 (λwk he=>qjp H M x y wk (hM.ext he) (hx.ext he) (hy.ext he)) (λwk he=>Vz H M x wk (hM.ext he) (hx.ext he)) λwk he=>qbI H M y wk (hM.ext he) (hy.ext he)
 ·refine(qDC M x y J m n (min m n) (DX J m n f g) (DX J m n f g) w hM (by omega) (by omega) (by omega) (by omega) rfl ⟨λwk he=>qjp H M x y wk (hM.ext he) (hx.ext he) (hy.ext he),λwk he=>Vz H M x wk (hM.ext he) (hx.ext he),λwk he=>qbI H M y wk (hM.ext he) (hy.ext he),λyY wk he=>?_,λpR wk he=>?_⟩ λj hj=>?_).mono λe w' h=>h.li
  ·rw[show min m n=n by omega,show DX J m n f g=DY J m n f g from funext λj=>aj (by omega)];exact qrg H.h1 H.h4 (by omega) yY Oc H.sf H.sg H.df H.dg M x y wk (hM.ext he) (hx.ext he) (hy.ext he)
  ·rw[show min m n=m by omega,show DX J m n f g=DY J n m g f from funext λj=>av pR];exact qrg H.h1 H.h4 (by omega) (by omega) mI H.sg H.sf H.dg H.df M y x wk (hM.ext he) (hy.ext he) (hx.ext he)
  ·refine .inr ⟨λ⟨k1,k2⟩=>?_,af.refl _⟩
   obtain rfl:m=1:=by omega
   obtain rfl:n=2:=by omega
   obtain rfl:j=0:=by omega
   exact absurd k2 (by decide)
def SK4(ga gb o g0:Nat)(za zb x y:PE)(w:World):Prop:=(eF w ga o za/\ga<w.heap.size)/\(eF w gb o zb/\gb<w.heap.size)/\rW g0 x y w
theorem SK4.ext{ga gb o g0:Nat}{za zb x y:PE}{w w':World}(h:SK4 ga gb o g0 za zb x y w)(he:Ext w w'):SK4 ga gb o g0 za zb x y w':=⟨⟨h.1.1.ext h.1.2 he,bB h.1.2 he.size⟩,⟨h.2.1.1.ext h.2.1.2 he,bB h.2.1.2 he.size⟩,h.2.2.ext he⟩
end Go.Proofs.YtaafefeafonhdaaGreat
namespace Go.Proofs.YtaafefeafonhdaaGreat
def quK(L:List (Nat->Int)):Nat->Nat->Int:=λr c=>L.getD c (λ_=>0) r
def dt(L:List (Nat->Int)):Int:=qZ L.length (quK L)
structure Pv where
 c:Nat->Int
 v:Int
def Pv.sh(ξ:Int)(i:Nat)(p:Pv):Pv:=⟨λk=>if k<i then 0 else p.c (k-i),ξ^i*p.v⟩
def dn:Nat->List Nat
 |0=>[]
 |n+1=>n::dn n
def sm(f:Nat->Int):Nat->Int
 |0=>0
 |n+1=>f n+sm f n
def bl(ξ:Int)(P:Pv)(n:Nat):List Pv:=(dn n).map λi=>P.sh ξ i
end Go.Proofs.YtaafefeafonhdaaGreat
namespace Go.Proofs.YtaafefeafonhdaaGreat
open Go.RowKit
def pv(J:Nat)(x:Nat->Int)(F:List Tm):Pv:=⟨λk=>ev x (ck J (k:Int) F),ev x F⟩
section
end
theorem qBf:¬af [((1:Int),Mo.zero)] []:=λh=>by have:=h Mo.zero;simp[aH]at this
theorem qwv(J:Nat):kQ J [((1:Int),Mo.zero)]:=λm hm=>by
 have h:m=Mo.zero:=gQ λhc=>hm (by simp only[aH];rw[aj λe=>hc e.symm];rfl);rw[h,CO]
section
end
section
end
section
end
def Dk(k B:Nat)(l:List Tm):Prop:=∀m,aH l m≠0->m.get k<=B
theorem Dk.mono{k B C:Nat}{l:List Tm}(h:Dk k B l)(hs:B<=C):Dk k C l:=λm hm=>by have:=h m hm;omega
section
end
section
end
section
end
def SKD(ga gb o gd:Nat)(za zb:PE)(dm dn:Int)(w:World):Prop:=(eF w ga o za/\ga<w.heap.size)/\(eF w gb o zb/\gb<w.heap.size)/\(w.cell? ⟨gd,0,none⟩=some (.int .i64 dm)/\w.cell? ⟨gd,1,none⟩=some (.int .i64 dn))/\gd<w.heap.size
theorem SKD.ext{ga gb o gd:Nat}{za zb:PE}{dm dn:Int}{w w':World}(h:SKD ga gb o gd za zb dm dn w)(he:Ext w w'):SKD ga gb o gd za zb dm dn w':=⟨⟨h.1.1.ext h.1.2 he,bB h.1.2 he.size⟩,⟨h.2.1.1.ext h.2.1.2 he,bB h.2.1.2 he.size⟩,⟨by rw[he.cell h.2.2.2];exact h.2.2.1.1,by rw[he.cell h.2.2.2];exact h.2.2.1.2⟩,bB h.2.2.2 he.size⟩
def U7(J:Nat)(z f:List Tm):Prop:=∃c q,NN c/\kQ J c/\¬af c []/\NN q/\af (aC c f) (aC q z)
theorem qBl(l:List Tm):af (aC [((1:Int),Mo.zero)] l) l:=(af.zB _ _).trans (XU l)
theorem U7.zero{J:Nat}{z r:List Tm}(h:af r []):U7 J z r:=⟨_,[],xV 1,qwv J,qBf,NN.nil,(qBl r).trans h⟩
theorem U7.free{J:Nat}{z r:List Tm}(nz:NN z)(fz:kQ J z)(hz:¬af z [])(nr:NN r):U7 J z r:=⟨z,r,nz,fz,hz,nr,af.zB _ _⟩
section
end
def JL(g:Nat)(x y z:PE)(w:World):Prop:=P4 w g x/\P4 w (g+1) y/\P4 w (g+2) z
theorem JL.ext{g:Nat}{x y z:PE}{w w':World}(h:JL g x y z w)(he:Ext w w'):JL g x y z w':=⟨h.1.ext he,h.2.1.ext he,h.2.2.ext he⟩
theorem qAN(w:World)(x y z:PE):JL w.heap.size x y z (((w.alloc (.cells (ag x) 42)).alloc (.cells (ag y) 42)).alloc (.cells (ag z) 42)):=by
 have b1:=au.aO (w.alloc (.cells (ag x) 42)) (ag y) 42 4 rfl;have b2:=au.aO ((w.alloc (.cells (ag x) 42)).alloc (.cells (ag y) 42)) (ag z) 42 4 rfl;simp only[World.size_alloc]at b1 b2;exact⟨(((au.aO w (ag x) 42 4 rfl).alloc _).alloc _).p4,(b1.alloc _).p4,b2.p4⟩
end Go.Proofs.YtaafefeafonhdaaGreat
namespace Go.Proofs.YtaafefeafonhdaaGreat
open Go.ChangeShapes Go.WideShapes Go.ChangeAt Go.RowKit Go.Deep
namespace subresultantGcd
end subresultantGcd
end Go.Proofs.YtaafefeafonhdaaGreat
namespace Go.Proofs.YtaafefeafonhdaaGreat
open Go.RowKit
def hrn(ξ:Int):List Int->Int
 |[]=>0
 |a::l=>a+ξ*hrn ξ l
end Go.Proofs.YtaafefeafonhdaaGreat
namespace Go.Proofs.YtaafefeafonhdaaGreat
set_option maxRecDepth 10000
def cv(m p:Nat)(F H:Nat->Int)(k:Nat):Int:=sm (λi=>F i*(if k<i then 0 else if p<k-i then 0 else H (k-i))) (m+1)
end Go.Proofs.YtaafefeafonhdaaGreat
namespace Go.Proofs.YtaafefeafonhdaaGreat
open Go.RowKit
section
end
section
end
section
end
section
end
section
end
section
end
section
end
def zC(n:Nat)(l:List Tm):List Tm:=if n%4>1 then cB l else l
theorem qpw{n:Nat}{l:List Tm}(h:NN l):NN (zC n l):=by
 unfold zC
 split
 ·exact oq h
 ·exact h
section
end
theorem Yd(l:Int)(w:World):Calls Tryz.prog 45 #[.int .i64 l] w λe w'=>e=.returned (.bool (eH l))/\w=w':=by
 by_cases h1:1<=l
 ·by_cases h2:l<=4
  ·have H:Hid (eH l=true):=by show _=_;unfold eH;simp[h1,h2]
   go_enter Tryz.func45,Tryz.ntmps45
   go_wp2;go_ret;exact⟨by rw[H.out];rfl,rfl⟩
  ·have H:Hid (eH l=false):=by show _=_;unfold eH;simp[h2]
   go_enter Tryz.func45,Tryz.ntmps45
   go_wp2;go_ret;exact⟨by rw[H.out];rfl,rfl⟩
 ·have H:Hid (eH l=false):=by show _=_;unfold eH;simp[h1]
  go_enter Tryz.func45,Tryz.ntmps45
  go_wp2;go_ret;exact⟨by rw[H.out];rfl,rfl⟩
theorem qo3{J:Nat}(h1:1<=J)(h4:J<=4):eH (J:Int)=true:=by unfold eH;simp;omega
theorem qz4{L:Int}(h:¬(1<=L/\L<=4)):eH L=false:=by unfold eH;simp only[decide_eq_false_iff_not];exact h
theorem LiV.qBm{M:Nat->Prop}{w w':World}{v:Value}{N:Nat}{F:Nat->List Tm}(h:LiV M w w' v N F):∃u,v=.slice u N N/\Hid (0<N->∃gl:Nat,u=some ⟨gl,0,none⟩/\w.heap.size<=gl/\Kids (λb=>M b\/b=gl) w' 4 gl N F):=by
 rcases h with⟨h0,rfl⟩|⟨gl,rfl,gP,hk⟩
 ·exact⟨none,by rw[h0],λh=>by omega⟩
 ·exact⟨_,rfl,λ_=>⟨gl,rfl,gP,hk⟩⟩
structure RsC(M:Nat->Prop)(w:World)(x y:PE)(J:Int)(m n:Int)(N:Nat)(F:Nat->List Tm)(r:List Tm):Prop where
 hJ:eH J=true
 b: -1<=m/\m<=100/\ -1<=n/\n<=100/\N<=100
 dx:∀wk,Ext w wk->Calls Tryz.prog 14 #[.agg (ag x),.int .i64 J] wk λe w'=>e=.returned (.int .i64 m)/\Ext wk w'
 dy:∀wk,Ext w wk->Calls Tryz.prog 14 #[.agg (ag y),.int .i64 J] wk λe w'=>e=.returned (.int .i64 n)/\Ext wk w'
 z:m<0\/n<0->af [] r
 p:m=0->0<=n->∀(M':Nat->Prop) wk,Mb M' wk->(∀g,M' g->M g\/w.heap.size<=g)->Ext w wk->Calls Tryz.prog 23 #[.agg (ag x),.int .i64 n] wk (di M' wk 4 r)
 q:1<=m->n=0->∀(M':Nat->Prop) wk,Mb M' wk->(∀g,M' g->M g\/w.heap.size<=g)->Ext w wk->Calls Tryz.prog 23 #[.agg (ag y),.int .i64 m] wk (di M' wk 4 r)
 c:1<=m->1<=n->∀(M':Nat->Prop) wk,Mb M' wk->(∀g,M' g->M g\/w.heap.size<=g)->Ext w wk->Calls Tryz.prog 89 #[.agg (ag x),.agg (ag y),.int .i64 J] wk (Qz M' wk N F 0)
 f:1<=m->1<=n->0<N/\af (F 0) r
theorem qCO(M:Nat->Prop)(x y:PE)(J m n:Int)(N:Nat)(F:Nat->List Tm)(r:List Tm)(w:World)(hM:Mb M w)(H:RsC M w x y J m n N F r):
 Calls Tryz.prog 49 #[.agg (ag x),.agg (ag y),.int .i64 J] w (xw M w 4 r 0):=by
 obtain⟨aL,kr,uT,aW,bD⟩:=yI hM x y;have aR:=Yd J (((w.alloc (.cells (ag x) 42)).alloc (.cells (ag y) 42)).alloc (.cells zA 42));rw[H.hJ]at aR
 have jV:w.heap.size+3=((((w.alloc (.cells (ag x) 42)).alloc (.cells (ag y) 42)).alloc (.cells zA 42))).heap.size:=by simp
 generalize hW:((w.alloc (.cells (ag x) 42)).alloc (.cells (ag y) 42)).alloc (.cells zA 42)=W at*;have HW:=ae hW;have aJ:=ae aR;have HE:=ae aL;have HS:Hid (jo w.heap.size x y W):=⟨kr,uT⟩;have dO:=ae aW;have iE:=ae bD;have HH:=ae H;have fQ:Hid (∀g,Mx M w.heap.size (w.heap.size+3) g->M g\/w.heap.size<=g):=Mx.more (aA _);clear aL kr uT aW bD hW hM H aR
 go_enter Tryz.func49,Tryz.ntmps49
 go_upto_region 1 with(fail)
 rw[HW.out];clear HW;go_wp2_with (fail);refine aJ.out.mono ?_;rintro e w1 ⟨rfl,rfl⟩;clear aJ
 go_upto_region 3 with(fail)
 have yw:Hid (jo w.heap.size x y W.drew):=HS.out.ext (ai _).drew;have pq:Hid (Ext w W.drew):=HE.out.trans (ai _).drew;have FP:=ae (dO.out.ext (ai W).drew);have En:Hid (Mb (Mx M w.heap.size (w.heap.size+3)) W.drew):=iE.out.ext (ai W).drew
 have hwd:w.heap.size+2<W.drew.heap.size:=by have:=(ai W).drew.size;omega
 clear HS HE dO iE jV;refine fB (jo w.heap.size x y) 8 yw.out λhHeld=>?_;generalize W.drew=wd at*;refine bH [0,1,3,4] ?_;(iterate 4 refine bG ?_);refine bI ?_
 (refine aI 2 λK hK=>?_);go_simp;(refine(HH.out.dx wd pq.out).mono ?_);rintro e_ v1 ⟨rfl,d1⟩;go_wp2_with (fail);(try clear ak);(refine ny hK (hHeld.ext d1) λak=>?_);clear hK K
 (refine aI 5 λK hK=>?_);go_simp;(refine(HH.out.dy v1 (pq.out.trans d1)).mono ?_);rintro e_ v2 ⟨rfl,d2⟩;go_wp2_with (fail);(try clear ak);(refine ny hK (hHeld.ext (d1.trans d2)) λak=>?_);clear hK K
 refine bH [6,7] ?_;(iterate 2 refine bG ?_);refine bI ?_;refine kP ?_;have aZ:=ae (pq.out.trans (d1.trans d2));have pG:Hid (jo w.heap.size x y v2):=yw.out.ext (d1.trans d2);have cK:=ae (FP.out.ext (d1.trans d2));have iQ:Hid (Mb (Mx M w.heap.size (w.heap.size+3)) v2):=En.out.ext (d1.trans d2);have iy:w.heap.size+2<v2.heap.size:=bB hwd (d1.trans d2).size;have IW:=ae HH.out.b;clear hHeld ak d1 d2 yw pq FP En hwd
 by_cases hm:m<0
 ·have HZ:=ae (HH.out.z (.inl hm));obtain⟨⟨q0,q1,q2,q3⟩,⟨f0,f1,f2,f3⟩,⟨r0,r1,r2,r3⟩,HF⟩:=gI (M:=M) (M':=Mx M w.heap.size (w.heap.size+3)) (w:=w) (L:=4) (l:=[]) (y:=PE.z) cK.out (Mx.at (by omega)) (by omega) aZ.out (CR.zero _ _ 4) Mx.sub;have bQ:=ae ((HF.bP HZ.out).LB 0);simp only[PE.z]at r0 r1 r2 r3;clear HF cK aZ iQ pG HH HZ IW fQ;go_wp2;exact aV (v:=.tuple #[.agg (ag PE.z),.int .i64 0]) (by simp[results,Tryz.results49,go_sem,r0,r1,r2,r3,PE.z]) rfl bQ.out
 ·by_cases hn:n<0
  ·have HZ:=ae (HH.out.z (.inr hn));obtain⟨⟨q0,q1,q2,q3⟩,⟨f0,f1,f2,f3⟩,⟨r0,r1,r2,r3⟩,HF⟩:=gI (M:=M) (M':=Mx M w.heap.size (w.heap.size+3)) (w:=w) (L:=4) (l:=[]) (y:=PE.z) cK.out (Mx.at (by omega)) (by omega) aZ.out (CR.zero _ _ 4) Mx.sub;have bQ:=ae ((HF.bP HZ.out).LB 0);simp only[PE.z]at r0 r1 r2 r3;clear HF cK aZ iQ pG HH HZ IW fQ;go_wp2;exact aV (v:=.tuple #[.agg (ag PE.z),.int .i64 0]) (by simp[results,Tryz.results49,go_sem,r0,r1,r2,r3,PE.z]) rfl bQ.out
  ·by_cases h0:m=0
   ·have CP:=ae (HH.out.p h0 (by omega) (Mx M w.heap.size (w.heap.size+3)) v2 iQ.out fQ.out aZ.out);obtain⟨⟨S1,S2,S3,S4⟩,S5,S6,S7,S8⟩:=pG.out;clear HH IW;go_wp2_with (fail);refine CP.out.mono ?_;rintro e w3 ⟨v,rfl,hv,e3⟩;obtain⟨⟨q0,q1,q2,q3⟩,⟨f0,f1,f2,f3⟩,⟨r0,r1,r2,r3⟩,HF⟩:=gI (M:=M) (w:=w) (cK.out.ext e3) (Mx.at (by omega)) (by omega) (aZ.out.trans e3) hv Mx.sub;have bQ:=ae (HF.LB 0);have jW:w.heap.size+2<w3.heap.size:=bB iy e3.size;clear HF cK aZ iQ pG CP fQ hv e3 S1 S2 S3 S4 S5 S6 S7 S8 iy;go_wp2;exact aV (v:=.tuple #[.agg (ag v),.int .i64 0]) (by simp[results,Tryz.results49,go_sem,r0,r1,r2,r3]) rfl bQ.out
   ·have R6:(m==0)=false:=by simp[h0]
    by_cases iN:n=0
    ·have CP:=ae (HH.out.q (by omega) iN (Mx M w.heap.size (w.heap.size+3)) v2 iQ.out fQ.out aZ.out);obtain⟨⟨S1,S2,S3,S4⟩,S5,S6,S7,S8⟩:=pG.out;clear HH IW;go_wp2_with (fail);refine CP.out.mono ?_;rintro e w3 ⟨v,rfl,hv,e3⟩;obtain⟨⟨q0,q1,q2,q3⟩,⟨f0,f1,f2,f3⟩,⟨r0,r1,r2,r3⟩,HF⟩:=gI (M:=M) (w:=w) (cK.out.ext e3) (Mx.at (by omega)) (by omega) (aZ.out.trans e3) hv Mx.sub;have bQ:=ae (HF.LB 0);have jW:w.heap.size+2<w3.heap.size:=bB iy e3.size;clear HF cK aZ iQ pG CP fQ hv e3 S1 S2 S3 S4 S5 S6 S7 S8 iy;go_wp2;exact aV (v:=.tuple #[.agg (ag v),.int .i64 0]) (by simp[results,Tryz.results49,go_sem,r0,r1,r2,r3]) rfl bQ.out
    ·have CC:=ae (HH.out.c (by omega) (by omega) (Mx M w.heap.size (w.heap.size+3)) v2 iQ.out fQ.out aZ.out);have Eh:=ae (HH.out.f (by omega) (by omega))
     have AY:(n==0)=false:=by simp[iN]
     obtain⟨⟨S1,S2,S3,S4⟩,S5,S6,S7,S8⟩:=pG.out;clear HH;go_wp2_with (fail);refine CC.out.mono ?_;rintro e w3 ⟨vl,rfl,hl,e3⟩;obtain⟨ul,rfl,HL⟩:=hl.qBm;obtain⟨gl,rfl,gP,hk⟩:=HL.out Eh.out.1;obtain⟨za,hza,hxa⟩:=hk.Cr 0 Eh.out.1;obtain⟨c0,c1,c2,c3⟩:=hza;simp only[Nat.zero_mul,Nat.zero_add]at c0 c1 c2 c3;have hv:aG (Mx M w.heap.size (w.heap.size+3)) w3 4 za r:=(hxa.bP Eh.out.2).more λb hb=>.inl (.inl hb);obtain⟨⟨q0,q1,q2,q3⟩,⟨f0,f1,f2,f3⟩,⟨r0,r1,r2,r3⟩,HF⟩:=gI (M:=M) (w:=w) (cK.out.ext e3) (Mx.at (by omega)) (by omega) (aZ.out.trans e3) hv Mx.sub;have bQ:=ae (HF.LB 0);have jW:w.heap.size+2<w3.heap.size:=bB iy e3.size;have RL:=hk.lt
     have VY:(0:Int)<(N:Int):=by have:=Eh.out.1;omega
     clear HF cK aZ iQ pG CC fQ hv hl hk hxa HL Eh IW e3 S1 S2 S3 S4 S5 S6 S7 S8 iy gP;go_wp2;exact aV (v:=.tuple #[.agg (ag za),.int .i64 0]) (by simp[results,Tryz.results49,go_sem,r0,r1,r2,r3]) rfl bQ.out
theorem qo1(L:Int)(b:Bool)(hb:b=true↔1<=L/\L<=4)(w:World):Calls Tryz.prog 13 #[.int .i64 L] w λe w'=>e=.returned (.bool b)/\w'=w:=by
 go_enter Tryz.func13,Tryz.ntmps13
 by_cases h1:1<=L
 ·by_cases h4:L<=4
  ·obtain rfl:b=true:=hb.2 ⟨h1,h4⟩;clear hb;go_wp2;go_ret;exact⟨rfl,rfl⟩
  ·obtain rfl:b=false:=by
    cases b with
    |false=>rfl
    |true=>exact absurd (hb.1 rfl).2 h4
   clear hb;go_wp2;go_ret;exact⟨rfl,rfl⟩
 ·obtain rfl:b=false:=by
   cases b with
   |false=>rfl
   |true=>exact absurd (hb.1 rfl).1 h1
  clear hb;go_wp2;go_ret;exact⟨rfl,rfl⟩
theorem qz2(M:Nat->Prop)(x y:PE)(L er:Int)(r:List Tm)(w:World)(hM:Mb M w)
 (H:∀(M':Nat->Prop) wk,Mb M' wk->(∀g,M' g->M g\/w.heap.size<=g)->Ext w wk->Calls Tryz.prog 49 #[.agg (ag x),.agg (ag y),.int .i64 L] wk (xw M' wk 4 r er)):
 Calls Tryz.prog 15 #[.agg (ag x),.agg (ag y),.int .i64 L] w (di M w 4 r):=by
 obtain⟨aL,kr,uT,aW,bD⟩:=yI hM x y
 have jV:w.heap.size+3=((((w.alloc (.cells (ag x) 42)).alloc (.cells (ag y) 42)).alloc (.cells zA 42))).heap.size:=by simp
 generalize hW:((w.alloc (.cells (ag x) 42)).alloc (.cells (ag y) 42)).alloc (.cells zA 42)=W at*;have HW:=ae hW;have HE:=ae aL;have dO:=ae aW;have CC:=ae (H (Mx M w.heap.size (w.heap.size+3)) W bD (Mx.more (aA _)) aL);obtain⟨x0,x1,x2,x3⟩:=kr;obtain⟨y0,y1,y2,y3⟩:=uT;clear aL aW bD hW hM H
 go_enter Tryz.func15,Tryz.ntmps15
 go_upto_region 1 with(fail)
 rw[HW.out];clear HW;go_wp2_with (fail);refine CC.out.mono ?_;rintro e w3 ⟨v,rfl,hv,e3⟩;have HV:=ae hv;have dK:=ae e3
 have jW:w.heap.size+2<w3.heap.size:=by have:=e3.size;omega
 clear hv e3 CC x0 x1 x2 x3 y0 y1 y2 y3 jV
 go_upto_region 2 with(fail)
 obtain⟨W4,gN⟩:∃W4,W4=w3.alloc (.cells #[.int .i64 v.lv,.bool v.b,.slice v.a v.n v.p,.slice v.ka v.kn v.kp] 42):=⟨_,rfl⟩
 have eb:Ext w3 W4:=by rw[gN];exact(ai w3).alloc _
 have hP:P4 W4 w3.heap.size v:=by rw[gN];exact(au.aO w3 (ag v) 42 4 rfl).p4
 have hlt:w3.heap.size<W4.heap.size:=by rw[gN];simp
 rw[<-gN];obtain⟨v0,v1,v2,v3⟩:=hP;obtain⟨⟨q0,q1,q2,q3⟩,⟨f0,f1,f2,f3⟩,⟨r0,r1,r2,r3⟩,HF⟩:=gI (M:=M) (w:=w) ((dO.out.ext dK.out).ext eb) (Mx.at (by omega)) (by omega) ((HE.out.trans dK.out).trans eb) (HV.out.ext eb) Mx.sub;have bQ:=ae HF;clear HF HV dO HE dK eb gN;go_wp2;exact aV (v:=.agg (ag v)) (by simp[results,Tryz.results15,go_sem,r0,r1,r2,r3]) rfl bQ.out
structure qiQ(M':Nat->Prop)(wd W:World)(a:Nat)(x:PE)(l:List Tm):Prop where
 e:Ext wd W
 b:au W a 42 4 (arr (ag x))
 x:aG (M9 M' (some a) none) W 4 x l
 w:wd.heap.size<=a
theorem S9.qft{M':Nat->Prop}{wd wk:World}{a:Nat}{x:PE}{l:List Tm}(h:S9 M' wd wk (some a) none)(hx:aG (M9 M' (some a) none) wk 4 x l):
 ∃W1,W1=aD wk a 0 (.int .i64 x.lv) (.bool x.b) (.slice x.a x.n x.p) (.slice x.ka x.kn x.kp)/\Z4 wk a/\LM wk a/\qiQ M' wd W1 a x l:=by
 obtain⟨hB,hw⟩:=h.a a rfl;exact⟨_,rfl,hB.z4,hB.Nn,h.e.aD hw _ _ _ _ _,JV hB x,hx.kp (Kp.aD (.inr (.inl rfl)) _ _ _ _ _),hw⟩
theorem qAw(M:Nat->Prop)(x:PE)(l:List Tm)(J n:Nat)(w:World)(h1:1<=J)(h4:J<=4)(hz:¬af l [])(hd:dJ J l n)(hs:Sz 4 20 l)(hM:Mb M w)(h:aG M w 4 x l):Calls Tryz.prog 63 #[.agg (ag x),.int .i64 (J:Int)] w (di M w 4 (aM J n (Cz J l))):=by
 refine(qAx M x l (J:Int) 4 w hM h.pi hs.d (by decide) (by decide) (aK hs.a (by decide))).mono ?_;rintro e w' ⟨v,s,rfl,hv,lD,he⟩;rcases lD with⟨k|k,_⟩|⟨_,J',b,k0,_,_,hb,rfl⟩
 ·exact absurd k hz
 ·exact absurd ⟨by omega,by omega⟩ k
 ·obtain rfl:J=J':=by omega
  rw[Nh hs.n hz hd hb];exact⟨v,rfl,hv,he⟩
def qr1(M':Nat->Prop)(wd:World)(l:List Tm)(s7 s8:Value)(wx:World):Prop:=∃(a:Nat)(v:PE),s7=.pointer (some ⟨a,0,none⟩)/\s8=.int .i64 0/\qiQ M' wd wx a v l
def YJ(M':Nat->Prop)(w:World)(x:PE)(a:Nat)(l:List Tm)(wx:World):Prop:=∃vv:PE,P4 wx w.heap.size x/\au wx (w.heap.size+1) 42 4 (arr zA)/\au wx a 42 4 (arr (ag vv))/\aG M' wx 4 vv l/\Ext w wx/\Mb M' wx
def JN(b a:Nat)(x y:PE)(w:World):Prop:=P4 w b x/\P4 w a y
theorem JN.ext{b a:Nat}{x y:PE}{w w':World}(h:JN b a x y w)(he:Ext w w'):JN b a x y w':=⟨h.1.ext he,h.2.ext he⟩
structure RdC(M:Nat->Prop)(w:World)(x:PE)(J:Int)(n:Nat)(g R c u:List Tm):Prop where
 hJ:eH J=true
 b:1<=n/\n<=100
 dx:∀wk,Ext w wk->Calls Tryz.prog 14 #[.agg (ag x),.int .i64 J] wk λe w'=>e=.returned (.int .i64 (n:Int))/\Ext wk w'
 dr:∀(M':Nat->Prop) wk,Mb M' wk->(∀g,M' g->M g\/w.heap.size<=g)->Ext w wk->Calls Tryz.prog 63 #[.agg (ag x),.int .i64 J] wk (di M' wk 4 g)
 rs:∀(M':Nat->Prop) wk y,Mb M' wk->(∀g,M' g->M g\/w.heap.size<=g)->Ext w wk->aG M' wk 4 y g->Calls Tryz.prog 49 #[.agg (ag x),.agg (ag y),.int .i64 J] wk (xw M' wk 4 R 0)
 ng:n%4>1->∀(M':Nat->Prop) wk y,Mb M' wk->aG M' wk 4 y R->Calls Tryz.prog 64 #[.agg (ag y)] wk (di M' wk 4 (cB R))
 ld:∀(M':Nat->Prop) wk,Mb M' wk->(∀g,M' g->M g\/w.heap.size<=g)->Ext w wk->Calls Tryz.prog 66 #[.agg (ag x),.int .i64 J] wk (di M' wk 4 c)
 ex:∀(M':Nat->Prop) wk y z,Mb M' wk->aG M' wk 4 y (zC n R)->aG M' wk 4 z c->Calls Tryz.prog 65 #[.agg (ag y),.agg (ag z)] wk (xw M' wk 4 u 0)
theorem qCi(M:Nat->Prop)(x:PE)(J:Int)(n:Nat)(g R c u:List Tm)(w:World)(hM:Mb M w)(H:RdC M w x J n g R c u):
 Calls Tryz.prog 21 #[.agg (ag x),.int .i64 J] w (xw M w 4 u 0):=by
 obtain⟨aL,kr,aW,bD⟩:=MZ hM x;have aR:=Yd J ((w.alloc (.cells (ag x) 42)).alloc (.cells zA 42));rw[H.hJ]at aR
 have jV:w.heap.size+1<((w.alloc (.cells (ag x) 42)).alloc (.cells zA 42)).heap.size:=by simp
 have cd:=H.dx _ aL;generalize hW:(w.alloc (.cells (ag x) 42)).alloc (.cells zA 42)=W at*;have HW:=ae hW;have aJ:=ae aR;have CD:=ae cd;have dO:=ae aW;have dC:=ae aL;have iE:=ae bD;have HH:=ae H;have Aa:Hid (P4 W w.heap.size x):=kr
 have AY:(1:Int)<=(n:Int):=by have:=H.b.1;omega
 have qGw:(n:Int)<=100:=by have:=H.b.2;omega
 have fQ:Hid (∀g,Mx M w.heap.size (w.heap.size+2) g->M g\/w.heap.size<=g):=Mx.more (aA _);clear aL aW bD hW hM aR cd H kr;obtain⟨x0,x1,x2,x3⟩:=Aa.out
 go_enter Tryz.func21,Tryz.ntmps21
 go_upto_region 1 with(fail)
 rw[HW.out];clear HW;go_wp2_with (fail);refine aJ.out.mono ?_;rintro e w1 ⟨rfl,rfl⟩;clear aJ;go_wp2_with (fail);refine CD.out.mono ?_;rintro e w2 ⟨rfl,e2⟩;have nK:Hid (P4 w2 w.heap.size x):=Aa.out.ext e2;have cK:=ae (dO.out.ext e2);have aZ:=ae (dC.out.trans e2);have iQ:Hid (Mb (Mx M w.heap.size (w.heap.size+2)) w2):=iE.out.ext e2;have iy:w.heap.size+1<w2.heap.size:=bB jV e2.size;clear CD Aa dO dC iE jV e2 x0 x1 x2 x3
 go_upto_region 6 with(fail)
 have dN:Ext w2 w2.drew:=(ai w2).drew;have Ez:Hid (P4 w2.drew w.heap.size x):=nK.out.ext dN;have FP:=ae (cK.out.ext dN);have pq:=ae (aZ.out.trans dN);have En:Hid (Mb (Mx M w.heap.size (w.heap.size+2)) w2.drew):=iQ.out.ext dN;have hwd:w.heap.size+1<w2.drew.heap.size:=bB iy dN.size;clear nK cK aZ iQ iy dN
 go_cut [7,8] (qr1 (Mx M w.heap.size (w.heap.size+2)) w2.drew R)
 case first=>
  refine fB (λW=>P4 W w.heap.size x) 12 Ez.out λhHeld=>?_;have S0:=S9.start En.out;generalize w2.drew=wd at*;have C1:Hid (∀A B wk,S9 (Mx M w.heap.size (w.heap.size+2)) wd wk A B->Calls Tryz.prog 63 #[.agg (ag x),.int .i64 J] wk (di (M9 (Mx M w.heap.size (w.heap.size+2)) A B) wk 4 g)):=λA B wk S=>HH.out.dr _ wk S.mb (λb hb=>(S.sub b hb).elim (fQ.out b) λq=>.inr (by have:=pq.out.size;omega)) (pq.out.trans S.e);have C2:Hid (∀A B wk,S9 (Mx M w.heap.size (w.heap.size+2)) wd wk A B->∀y,aG (M9 (Mx M w.heap.size (w.heap.size+2)) A B) wk 4 y g->Calls Tryz.prog 49 #[.agg (ag x),.agg (ag y),.int .i64 J] wk (xw (M9 (Mx M w.heap.size (w.heap.size+2)) A B) wk 4 R 0)):=λA B wk S y hy=>HH.out.rs _ wk y S.mb (λb hb=>(S.sub b hb).elim (fQ.out b) λq=>.inr (by have:=pq.out.size;omega)) (pq.out.trans S.e) hy;clear Ez FP pq En fQ HH hwd;refine bH [0,1,2,4] ?_;(iterate 4 refine bG ?_);refine bI ?_;refine oC 3 9 ?_ ?_<;>intro K hK
  ·go_simp;refine(C1.out _ _ wd S0).mono ?_;rintro e v1 ⟨d,rfl,hd,D⟩;go_wp2_with (fail);have S1:=S0.call D;clear D
   try clear ak
   refine ny hK (hHeld.ext S1.e) λak=>?_;clear hK K;refine oC 5 9 ?_ ?_<;>intro K hK
   ·go_simp;refine(C2.out _ _ v1 S1 _ hd).mono ?_;rintro e v2 ⟨r,rfl,hr,D⟩;go_wp2_with (fail);have S2:=S1.call D;replace hd:=hd.ext D;clear D
    try clear ak
    refine ny hK (hHeld.ext S2.e) λak=>?_;clear hK K;refine bH [6,7,8] ?_;(iterate 3 refine bG ?_);refine bI ?_;refine aI 9 λK hK=>?_;go_simp;have S3:=S2.uM;replace hd:=S2.lN hd;replace hr:=S2.lN hr
    try clear ak
    refine ny hK (hHeld.ext S3.e) λak=>?_;clear hK K;generalize v2.alloc (.cells zA 42)=v3 at*;generalize v2.heap.size=g3 at*;obtain⟨W1,hW1,⟨q0,q1,q2,q3⟩,⟨f0,f1,f2,f3⟩,dG⟩:=S3.qft hr;unfold aD at hW1;have iG:=hHeld.ext dG.e;clear ak;refine aI 10 λK hK=>?_;go_simp;rw[<-hW1];clear hW1;refine nx hK iG ?_;clear hK K q0 q1 q2 q3 f0 f1 f2 f3;have ak:=iG;refine bH [11] ?_;(iterate 1 refine bG ?_);refine bI ?_;refine kP ?_;go_wp2_with (fail)
    go_meet
    exact⟨_,_,rfl,rfl,dG⟩
   ·go_simp;have S4:=S1.uM;replace hd:=S1.lN hd
    try clear ak
    refine ny hK (hHeld.ext S4.e) λak=>?_;clear hK K;generalize v1.alloc (.cells zA 42)=v4 at*;generalize v1.heap.size=g4 at*;refine aI 5 λK hK=>?_;go_simp;refine(C2.out _ _ v4 S4 _ hd).mono ?_;rintro e v5 ⟨r,rfl,hr,D⟩;go_wp2_with (fail);have S5:=S4.call D;replace hd:=hd.ext D;clear D
    try clear ak
    refine ny hK (hHeld.ext S5.e) λak=>?_;clear hK K;refine bH [6,7,8] ?_;(iterate 3 refine bG ?_);refine bI ?_;obtain⟨W1,hW1,⟨q0,q1,q2,q3⟩,⟨f0,f1,f2,f3⟩,dG⟩:=S5.qft hr;unfold aD at hW1;have iG:=hHeld.ext dG.e;clear ak;refine aI 10 λK hK=>?_;go_simp;rw[<-hW1];clear hW1;refine nx hK iG ?_;clear hK K q0 q1 q2 q3 f0 f1 f2 f3;have ak:=iG;refine bH [11] ?_;(iterate 1 refine bG ?_);refine bI ?_;refine kP ?_;go_wp2_with (fail)
    go_meet
    exact⟨_,_,rfl,rfl,dG⟩
  ·go_simp;have S6:=S0.uM
   try clear ak
   refine ny hK (hHeld.ext S6.e) λak=>?_;clear hK K;generalize wd.alloc (.cells zA 42)=v6 at*;generalize wd.heap.size=g6 at*;refine aI 3 λK hK=>?_;go_simp;refine(C1.out _ _ v6 S6).mono ?_;rintro e v7 ⟨d,rfl,hd,D⟩;go_wp2_with (fail);have S7:=S6.call D;clear D
   try clear ak
   refine ny hK (hHeld.ext S7.e) λak=>?_;clear hK K;refine aI 5 λK hK=>?_;go_simp;refine(C2.out _ _ v7 S7 _ hd).mono ?_;rintro e v8 ⟨r,rfl,hr,D⟩;go_wp2_with (fail);have S8:=S7.call D;replace hd:=hd.ext D;clear D
   try clear ak
   refine ny hK (hHeld.ext S8.e) λak=>?_;clear hK K;refine bH [6,7,8] ?_;(iterate 3 refine bG ?_);refine bI ?_;obtain⟨W1,hW1,⟨q0,q1,q2,q3⟩,⟨f0,f1,f2,f3⟩,dG⟩:=S8.qft hr;unfold aD at hW1;have iG:=hHeld.ext dG.e;clear ak;refine aI 10 λK hK=>?_;go_simp;rw[<-hW1];clear hW1;refine nx hK iG ?_;clear hK K q0 q1 q2 q3 f0 f1 f2 f3;have ak:=iG;refine bH [11] ?_;(iterate 1 refine bG ?_);refine bI ?_;refine kP ?_;go_wp2_with (fail)
   go_meet
   exact⟨_,_,rfl,rfl,dG⟩
 case rest=>
  obtain⟨a,v,rfl,rfl,HP⟩:=hcut;have Ca:Hid (P4 wc w.heap.size x):=Ez.out.ext HP.e;have sW:=ae (FP.out.ext HP.e);have dK:=ae (pq.out.trans HP.e);have BZ:=ae HP.x;have FO:=ae HP.b
  have hwa:w.heap.size+1<a:=by have:=HP.w;omega
  have mf:Hid (Mb (M9 (Mx M w.heap.size (w.heap.size+2)) (some a) none) wc):=λb hb=>hb.elim (λq=>bB (En.out b q) HP.e.size) λq=>by
   rcases q with q|q
   ·cases q;exact HP.b.lt
   ·cases q
  have Je:Hid (∀b,M9 (Mx M w.heap.size (w.heap.size+2)) (some a) none b->M b\/w.heap.size<=b):=λb hb=>hb.elim (fQ.out b) λq=>by
   rcases q with q|q
   ·cases q;exact .inr (by omega)
   ·cases q
  clear HP Ez FP pq En fQ hwd;obtain⟨W3,oN⟩:∃W3,W3=wc:=⟨_,rfl⟩
  go_upto_if 34 with(fail)
  clear oN
  go_cut [7] (λs7 wx=>s7=.pointer (some ⟨a,0,none⟩)/\YJ (M9 (Mx M w.heap.size (w.heap.size+2)) (some a) none) w x a (zC n R) wx)
  case first=>
   by_cases hs:n%4>1
   ·have ht:1<((n:Nat):Int)%4:=by omega
    have e1:Hid (zC n R=cB R):=av hs;have CN:=ae (HH.out.ng hs _ wc v mf.out BZ.out);obtain⟨v0,v1,v2,v3⟩:=FO.out.p4;clear hs HH;go_wp2_with (fail);refine CN.out.mono ?_;rintro e w5 ⟨vv,rfl,H9,e5⟩;have Q7:=FO.out.ext e5;obtain⟨q0,q1,q2,q3⟩:=Q7.p4;obtain⟨f0,f1,f2,f3⟩:=Q7.Nn
    have HF:Hid (YJ (M9 (Mx M w.heap.size (w.heap.size+2)) (some a) none) w x a (zC n R) (aD w5 a 0 (.int .i64 vv.lv) (.bool vv.b) (.slice vv.a vv.n vv.p) (.slice vv.ka vv.kn vv.kp))):=by
     refine⟨vv,p9 (Ca.out.ext e5) (fD _ _ _ _ _ _ _ _ (by omega)),(sW.out.ext e5).of_heap (fD w5 a 0 (.int .i64 vv.lv) (.bool vv.b) (.slice vv.a vv.n vv.p) (.slice vv.ka vv.kn vv.kp) _ (by omega)),JV Q7 vv,?_,(dK.out.trans e5).aD (show w.heap.size<=a by omega) 0 (.int .i64 vv.lv) (.bool vv.b) (.slice vv.a vv.n vv.p) (.slice vv.ka vv.kn vv.kp),λb hb=>by rw[kN];exact bB (mf.out b hb) e5.size⟩;rw[e1.out];exact H9.kp (Kp.aD (.inr (.inl rfl)) (0) (.int .i64 vv.lv) (.bool vv.b) (.slice vv.a vv.n vv.p) (.slice vv.ka vv.kn vv.kp))
    have halt:a<w5.heap.size:=Q7.lt;clear Q7 H9 e5 CN e1 Ca sW dK BZ FO mf Je v0 v1 v2 v3 ht;go_wp2
    go_meet
    exact⟨rfl,HF.out⟩
   ·have ht:¬1<((n:Nat):Int)%4:=by omega
    have HF:Hid (YJ (M9 (Mx M w.heap.size (w.heap.size+2)) (some a) none) w x a (zC n R) wc):=⟨v,Ca.out,sW.out,FO.out,by rw[show zC n R=R from aj hs];exact BZ.out,dK.out,mf.out⟩;clear hs HH Ca sW dK BZ FO mf Je;go_wp2
    go_meet
    exact⟨rfl,HF.out⟩
  case rest=>
   obtain⟨rfl,vv,NP,gY,hA4,hV4,gB,oL⟩:=hcut;have Jv:=ae NP;have wP:=ae gY;have Pg:=ae hA4;have Qj:=ae hV4;have jl:=ae gB;have Jd:=ae oL;clear NP gY hA4 hV4 gB oL Ca sW dK BZ FO mf
   go_upto_region 11 with(fail)
   have dN:Ext wc wc.drew:=(ai wc).drew;have mo:Hid (JN w.heap.size a x vv wc.drew):=⟨Jv.out.ext dN,(Pg.out.ext dN).p4⟩;have mM:=ae (wP.out.ext dN);have Jr:=ae (Qj.out.ext dN);have cZ:=ae (jl.out.trans dN);have qi:Hid (Mb (M9 (Mx M w.heap.size (w.heap.size+2)) (some a) none) wc.drew):=Jd.out.ext dN;clear Jv wP Pg Qj jl Jd dN;refine fB (JN w.heap.size a x vv) 8 mo.out λhHeld=>?_;generalize wc.drew=wd at*;refine bH [0,1,2] ?_;(iterate 3 refine bG ?_);refine bI ?_
   (refine aI 3 λK hK=>?_);go_simp;(refine(HH.out.ld _ wd qi.out Je.out cZ.out).mono ?_);rintro e_ v1 ⟨y,rfl,hy,d1⟩;go_wp2_with (fail);(try clear ak);(refine ny hK (hHeld.ext d1) λak=>?_);clear hK K
   (refine aI 4 λK hK=>?_);go_simp;(refine(HH.out.ex _ v1 vv y (qi.out.ext d1) (Jr.out.ext d1) hy).mono ?_);rintro e_ v2 ⟨q,rfl,hq,d2⟩;go_wp2_with (fail);(try clear ak);(refine ny hK (hHeld.ext (d1.trans d2)) λak=>?_);clear hK K
   refine bH [5,6] ?_;(iterate 2 refine bG ?_);refine bI ?_;have oM:JN w.heap.size a x vv v2:=ak;obtain⟨⟨q0,q1,q2,q3⟩,⟨f0,f1,f2,f3⟩,⟨r0,r1,r2,r3⟩,HF⟩:=gI (M:=M) (w:=w) (mM.out.ext (d1.trans d2)) (show M9 (Mx M w.heap.size (w.heap.size+2)) (some a) none _ from .inl (Mx.at (by omega))) (by omega) (cZ.out.trans (d1.trans d2)) hq (λg hg=>.inl (.inl hg));have bQ:=ae (HF.LB 0);have rC:w.heap.size+1<v2.heap.size:=(mM.out.ext (d1.trans d2)).lt;have hS8:JN w.heap.size a x vv (aD v2 (w.heap.size+1) 0 (.int .i64 q.lv) (.bool q.b) (.slice q.a q.n q.p) (.slice q.ka q.kn q.kp)):=⟨p9 oM.1 (fD _ _ _ _ _ _ _ _ (by omega)),p9 oM.2 (fD _ _ _ _ _ _ _ _ (by omega))⟩;clear ak oM HF hq hy d1 d2 mM Jr cZ qi HH Je mo;refine aI 7 λK hK=>?_;go_simp;refine nx hK hS8 ?_;clear hK K
   (refine aI 8 λK hK=>?_);go_simp;(refine fz hK ?_);clear hK K
   clear hS8 hHeld;go_wp2;exact aV (v:=.tuple #[.agg (ag q),.int .i64 0]) (by simp[results,Tryz.results21,go_sem,r0,r1,r2,r3]) rfl bQ.out
def Gm(w:World)(a:Option Addr)(n cap:Nat)(z:Nat->Int):Prop:=
 n<=1000/\n<=cap/\cap<=1000/\∀i,i<n->(-1000000<=z i/\z i<=1000000)/\∃b off,a=some ⟨b,off,none⟩/\b<w.heap.size/\w.cell? ⟨b,off+i,none⟩=some (.int .i64 (z i))
theorem qry(M:Nat->Prop)(a:Option Addr)(n cap:Nat)(z:Nat->Int)(w:World)(hM:Mb M w)(h:Gm w a n cap z):
 Calls Tryz.prog 30 #[.slice a n cap] w λe w'=>∃a' X,e=.returned (.slice a' (tz z n) n)/\mr M w' a' (tz z n) n X z/\Ext w w':=by
 obtain⟨i0,hi,hz0,hz1,hz2⟩:=info_parts Tryz.qoF;have hn:=h.1;have jG:=h.2.1;have eu:=h.2.2.1;have HU:=ae h;have HM:=ae hM;clear h
 go_enter Tryz.func30,Tryz.ntmps30
 go_wp2_with (first|(refine wpList_make_full _ rfl _ _ _ rfl w.heap.size 30 i0 (.agg #[.bool false,.slice none 0 0]) 2 Tryz.underlying66 hi hz0 hz1 .i64 .i64 _ _ n rfl rfl ?c4 ?c5 ?c2 ?c3 ?c6 ?_))
 case c2=>rw[hz2];omega
 case c3=>unfold maxLen;omega
 case c4=>simp
 case c5=>simp
 case c6=>simp
 intro w1 hown hgrow;have bR:=au.made hown rfl (by omega);have aP:=ae (mE hgrow)
 have dI:w.heap.size+1<=w1.heap.size:=by have:=bR.lt;omega
 have PO:Hid (UK (Mx M w.heap.size (w.heap.size+1)) w1 w.heap.size n 0 z):=UK.fresh bR;clear hown hgrow bR;go_wp2
 go_loopw [11] (λi wr=>∃k:Nat,k<=n/\i=.int .i64 k/\w.heap.size+1<=wr.heap.size/\Hid (UK (Mx M w.heap.size (w.heap.size+1)) wr w.heap.size n k z)/\Hid (Ext w wr)) (λi _=>n-(intOf i).toNat)
 case atStart=>exact⟨0,bu _,rfl,dI,PO,aP⟩
 case round=>
  clear PO aP dI;obtain⟨k,hk,rfl,hsz,HK,bM⟩:=hrel
  by_cases hlt:k<n
  ·obtain⟨Bi,b,off,Sn,hb,x0⟩:=HU.out.2.2.2 k hlt;subst Sn;rw[<-bM.out.cell hb]at x0
   have gD:b<wr.heap.size:=by omega
   have jr:Mb (Mx M w.heap.size (w.heap.size+1)) wr:=Mx.mb HM.out (by omega) (by omega);have aJ:=ae (DD (M:=Mx M w.heap.size (w.heap.size+1)) (z k) wr jr (by omega) (by omega));clear jr Bi;go_wp2_with (fail);refine(aJ.out).mono ?_;rintro e w4 ⟨d0,d1,rfl,hc,aU⟩;obtain⟨b2,a2,n2,p2,rfl,rfl⟩:=hc.form;have fJ:=HK.out.ext aU;obtain⟨⟨_,k0⟩,⟨_,k1⟩,bn,jh⟩:=fJ.at hlt;have jw:=bn (k*2);have ku:=bn (k*2+1);have nD:Hid (UK (Mx M w.heap.size (w.heap.size+1)) (yf w4 w.heap.size (k*2) (.bool b2) (.slice a2 n2 p2)) w.heap.size n (k+1) z):=fJ.set (Mx.at (by omega)) hc.dB;have cZ:Hid (Ext w (yf w4 w.heap.size (k*2) (.bool b2) (.slice a2 n2 p2))):=(bM.out.trans aU).yf (by omega) _ _ _
   have uG:Hid (w.heap.size+1<=(yf w4 w.heap.size (k*2) (.bool b2) (.slice a2 n2 p2)).heap.size):=by show _<=_;rw[qDf];have:=aU.size;omega
   clear fJ bn hc aU x0;go_wp2
   go_roundw
   case rel=>exact⟨k+1,by omega,by go_num,uG.out,nD,cZ⟩
   case measure=>simp[intOf];omega
  ·have hkn:k=n:=by omega
   subst hkn;obtain⟨X',hX'⟩:=HK.out.row (M':=M) (λg hg=>.inl (.inl hg)) (HM.out.new (aA _)) (aK hn (by decide));have CT:=ae (qEq M _ k k X' z wr hX');have Qq:=ae hX';have hle:tz z k<=k:=qrv z k;clear hX';go_wp2_with (fail);refine CT.out.mono ?_;rintro e w5 ⟨rfl,e5⟩;have HF:Hid (mr M w5 (some ⟨w.heap.size,0,none⟩) (tz z k) k X' z/\Ext w w5):=⟨(Qq.out.ext e5).cut hle,bM.out.trans e5⟩;clear e5 CT Qq bM HK;go_wp2;go_ret;exact⟨_,X',rfl,HF.out.1,HF.out.2⟩
theorem qqS(M:Nat->Prop)(a:Option Addr)(n cap:Nat)(X:Nat->IE)(z:Nat->Int)(w:World)(hM:Mb M w)(h:mr M w a n cap X z):
 Calls Tryz.prog 71 #[.slice a n cap] w (di M w 4 (vD 1 n z)):=by
 have aL:Ext w (w.alloc (.cells zA 42)):=(ai w).alloc _;have aW:=au.aO w zA 42 4 rfl;have kG:Mb (Mx M w.heap.size (w.heap.size+1)) (w.alloc (.cells zA 42)):=Mx.mb hM (by simp) (by simp);have cc:=qww (Mx M w.heap.size (w.heap.size+1)) a n cap X z 0 _ kG ((h.more (Mx.more (aA _))).ext aL) (by decide);rw[show(((0:Nat):Int)+1)=1 from rfl]at cc
 have jV:w.heap.size<(w.alloc (.cells zA 42)).heap.size:=by simp
 generalize hW:w.alloc (.cells zA 42)=W at*;have HW:=ae hW;have HE:=ae aL;have dO:=ae aW;have CC:=ae cc;clear aL aW kG hW hM h cc
 go_enter Tryz.func71,Tryz.ntmps71
 go_upto_region 1 with(fail)
 rw[HW.out];clear HW;go_wp2_with (fail);refine CC.out.mono ?_;rintro e w3 ⟨v,rfl,hv,e3⟩;have HV:Hid (aG (Mx M w.heap.size (w.heap.size+1)) w3 4 v (vD 1 n z)):=hv.up (by decide);have dK:=ae e3
 have jW:w.heap.size<w3.heap.size:=by have:=e3.size;omega
 clear hv e3 CC jV
 go_upto_region 2 with(fail)
 obtain⟨W4,gN⟩:∃W4,W4=w3.alloc (.cells #[.int .i64 v.lv,.bool v.b,.slice v.a v.n v.p,.slice v.ka v.kn v.kp] 42):=⟨_,rfl⟩
 have eb:Ext w3 W4:=by rw[gN];exact(ai w3).alloc _
 have hP:P4 W4 w3.heap.size v:=by rw[gN];exact(au.aO w3 (ag v) 42 4 rfl).p4
 have hlt:w3.heap.size<W4.heap.size:=by rw[gN];simp
 rw[<-gN];obtain⟨v0,v1,v2,v3⟩:=hP;obtain⟨⟨q0,q1,q2,q3⟩,⟨f0,f1,f2,f3⟩,⟨r0,r1,r2,r3⟩,HF⟩:=gI (M:=M) (w:=w) ((dO.out.ext dK.out).ext eb) (Mx.at (by omega)) (by omega) ((HE.out.trans dK.out).trans eb) (HV.out.ext eb) Mx.sub;have bQ:=ae HF;clear HF HV dO HE dK eb gN;go_wp2;exact aV (v:=.agg (ag v)) (by simp[results,Tryz.results71,go_sem,r0,r1,r2,r3]) rfl bQ.out
theorem quO{z k:Int}{l:List Tm}(h:af l [(z,Mo.zero)])(h':af l [(k,Mo.zero)]):z=k:=by
 have e:∀y:Int,aH [(y,Mo.zero)] Mo.zero=y:=λy=>by simp[aH]
 rw[<-e z, <-h,h',e k]
theorem qCJ(a1 a2:Option Addr)(n1 c1 n2 c2:Nat)(X1 X2:Nat->IE)(z1 z2:Nat->Int)(r:List Tm)(k:Int)(w:World)(h1:mr M0 w a1 n1 c1 X1 z1)(h2:mr M0 w a2 n2 c2 X2 z2)(hk:af r [(k,Mo.zero)])
 (HR:∀(M':Nat->Prop) wk x y,Mb M' wk->aG M' wk 4 x (vD 1 n1 z1)->aG M' wk 4 y (vD 1 n2 z2)->Calls Tryz.prog 49 #[.agg (ag x),.agg (ag y),.int .i64 1] wk (xw M' wk 4 r 0)):
 Calls Tryz.prog 29 #[.slice a1 n1 c1,.slice a2 n2 c2] w λe w'=>∃b a n p,e=.returned (.agg #[.bool b,.slice a n p])/\dh M0 w' (.bool b) (.slice a n p) k/\Ext w w':=by
 have aL:Ext w (w.alloc (.cells #[.bool false,.slice none 0 0] 30)):=(ai w).alloc _;have aW:=au.aO w #[.bool false,.slice none 0 0] 30 2 rfl;have kG:Mb (Mx M0 w.heap.size (w.heap.size+1)) (w.alloc (.cells #[.bool false,.slice none 0 0] 30)):=Mx.mb (pV w) (by simp) (by simp)
 have jV:w.heap.size<(w.alloc (.cells #[.bool false,.slice none 0 0] 30)).heap.size:=by simp
 have HU1:=ae ((h1.more (M':=Mx M0 w.heap.size (w.heap.size+1)) (Mx.more (aA _))).ext aL);have HU2:=ae ((h2.more (M':=Mx M0 w.heap.size (w.heap.size+1)) (Mx.more (aA _))).ext aL);generalize hW:w.alloc (.cells #[.bool false,.slice none 0 0] 30)=W at*;have HW:=ae hW;have HE:=ae aL;have dO:=ae aW;have HM:=ae kG;have HK:=ae hk;have lg:=ae HR;clear aL aW kG hW h1 h2 hk HR
 go_enter Tryz.func29,Tryz.ntmps29
 go_upto_region 1 with(fail)
 rw[HW.out];clear HW;go_wp2_with (fail);refine(qqS _ a1 n1 c1 X1 z1 W HM.out HU1.out).mono ?_;rintro e w1 ⟨x,rfl,hx,e1⟩;have HX:=ae hx;have aP:=ae e1;clear hx e1;go_wp2_with (fail);refine(qqS _ a2 n2 c2 X2 z2 w1 (HM.out.ext aP.out) (HU2.out.ext aP.out)).mono ?_;rintro e w2 ⟨y,rfl,hy,e2⟩;have nK:=ae (HX.out.ext e2);have qw:=ae hy;have aZ:=ae (aP.out.trans e2);clear HX aP hy e2 HU1 HU2;go_wp2_with (fail);refine(lg.out _ w2 x y (HM.out.ext aZ.out) nK.out qw.out).mono ?_;rintro e w3 ⟨v,rfl,hv,e3⟩;have dK:=ae (aZ.out.trans e3);have HV:=ae hv;clear hv e3 nK qw aZ lg
 go_upto_region 2 with(fail)
 obtain⟨W4,gN⟩:∃W4,W4=w3.alloc (.cells #[.int .i64 v.lv,.bool v.b,.slice v.a v.n v.p,.slice v.ka v.kn v.kp] 42):=⟨_,rfl⟩
 have eb:Ext w3 W4:=by rw[gN];exact(ai w3).alloc _
 have hP:P4 W4 w3.heap.size v:=by rw[gN];exact(au.aO w3 (ag v) 42 4 rfl).p4
 rw[<-gN];obtain⟨v0,v1,v2,v3⟩:=hP;have jl:=ae (dK.out.trans eb);have CC:=ae (qCA _ v r W4 (HM.out.ext jl.out) (HV.out.ext eb).pi);clear HV eb gN dK;go_wp2_with (fail);refine CC.out.mono ?_;rintro e w5 ⟨q,ok,b,a,n,p,rfl,hI,ht,hf,e5⟩
 have hq:q=k:=by
  cases ok with
  |true=>exact quO (ht rfl) HK.out
  |false=>
   obtain⟨_,m,i,hm,NZ,hi4,hp⟩:=hf rfl;rw[HK.out m]at hm;obtain⟨t,WW,rfl⟩:=quA hm;simp only[List.mem_singleton]at WW;subst WW;rw[CO]at hp;omega
 subst hq;have HI:=ae hI;have cZ:=ae (jl.out.trans e5);clear hI ht hf e5 HK CC v0 v1 v2 v3 jl
 go_upto_region 3 with(fail)
 obtain⟨W6,Av⟩:∃W6,W6=w5.alloc (.cells #[.bool b,.slice a n p] 30):=⟨_,rfl⟩
 have eb:Ext w5 W6:=by rw[Av];exact(ai w5).alloc _
 have ll:au W6 w5.heap.size 30 2 (arr #[.bool b,.slice a n p]):=by rw[Av];exact au.aO w5 _ 30 2 rfl
 rw[<-Av];have i0:W6.cell? ⟨w5.heap.size,0,none⟩=some (.bool b):=ll.cell (i:=0) (by omega);have i1:W6.cell? ⟨w5.heap.size,1,none⟩=some (.slice a n p):=ll.cell (i:=1) (by omega);have qGs:=ll.lt;obtain⟨⟨s0,s1,g0,g1⟩,⟨t0,t1⟩,mH,kv⟩:=mD (M':=Mx M0 w.heap.size (w.heap.size+1)) (w:=w) (.bool b) (.slice a n p) (dO.out.ext (cZ.out.trans eb)) (Mx.at (by omega)) (by omega) (HE.out.trans (cZ.out.trans eb));have HF:Hid (dh M0 _ (.bool b) (.slice a n p) q/\Ext w _):=⟨((HI.out.dB.ext eb).kp mH).more Mx.less,kv⟩;have qyr:w.heap.size<W6.heap.size:=(dO.out.ext (cZ.out.trans eb)).lt;simp only[arr]at s0 s1;clear mH kv HI cZ dO HE HM ll eb Av;go_wp2;exact aV (v:=.agg #[.bool b,.slice a n p]) (by simp[results,Tryz.results29,go_sem,t0,t1]) rfl ⟨b,a,n,p,rfl,HF.out.1,HF.out.2⟩
def hF:List Tm:=dS (jJ 1) 2++(aC (jJ 1) (jJ 2)++jJ 3)
def hD:List Tm:=dS (jJ 2) 2++aC (aC (jJ 3) [(4,Mo.zero)]) [(-1,Mo.zero)]
theorem GG:NN hF:=uk (by decide)
theorem qw0:Sz 4 20 hF:=⟨GG,(Ng (B:=2) GG (by decide)).mono (by decide),by decide⟩
theorem Nv:dJ 1 hF 2:=⟨VB (by decide),.inr ⟨⟨2,0,0,0⟩,by decide,by decide⟩⟩
theorem qcn:NN hD:=uk (by decide)
def hz1:Nat->Int:=λi=>if i=0 then-2 else 1
def hz2:Nat->Int:=λi=>if i=0 then-3 else if i=1 then 0 else 1
theorem qEk:tz hz1 2=2:=by decide
theorem qEl:tz hz2 3=3:=by decide
theorem qfZ:NN (vD 1 2 hz1):=uk (by decide)
theorem qf0:NN (vD 1 3 hz2):=uk (by decide)
theorem qrw:dJ 1 (vD 1 2 hz1) 1:=⟨VB (by decide),.inr ⟨⟨1,0,0,0⟩,by decide,by decide⟩⟩
theorem qrx:dJ 1 (vD 1 3 hz2) 2:=⟨VB (by decide),.inr ⟨⟨2,0,0,0⟩,by decide,by decide⟩⟩
def qgG:Prop:=∀(M:Nat->Prop)(x:PE)(w:World),Mb M w->aG M w 4 x hF->Calls Tryz.prog 21 #[.agg (ag x),.int .i64 1] w (xw M w 4 hD 0)
def qgH:Prop:=∀(a1 a2:Option Addr)(c1 c2:Nat)(X1 X2:Nat->IE)(w:World),mr M0 w a1 2 c1 X1 hz1->mr M0 w a2 3 c2 X2 hz2->Calls Tryz.prog 29 #[.slice a1 2 c1,.slice a2 3 c2] w λe w'=>∃b a n p,e=.returned (.agg #[.bool b,.slice a n p])/\dh M0 w' (.bool b) (.slice a n p) 1/\Ext w w'
def qr3(wd:World)(l:List Tm)(s4 s5:Value)(wx:World):Prop:=∃(a:Nat)(v:PE),s4=.pointer (some ⟨a,0,none⟩)/\s5=.int .i64 0/\qiP wd wx a v l
theorem qrU(w:World)(z:Nat->Int)(a b:Int)(ha:z 0=a)(hb:z 1=b)(h:(-1000000<=a/\a<=1000000)/\ -1000000<=b/\b<=1000000):Gm (w.alloc (.cells #[.int .i64 a,.int .i64 b] 2)) (some ⟨w.heap.size,0,none⟩) 2 2 z:=by
 have hB:=au.aO w #[.int .i64 a,.int .i64 b] 2 2 rfl;refine⟨by decide,by decide,by decide,λi hi=>?_⟩;rcases(show i=0\/i=1 by omega)with rfl|rfl
 ·exact⟨by rw[ha];exact h.1,_,_,rfl,hB.lt,by rw[ha];exact hB.cell (i:=0) (by omega)⟩
 ·exact⟨by rw[hb];exact h.2,_,_,rfl,hB.lt,by rw[hb];exact hB.cell (i:=1) (by omega)⟩
theorem qgc(w:World)(z:Nat->Int)(a b c:Int)(ha:z 0=a)(hb:z 1=b)(hc:z 2=c)(h:(-1000000<=a/\a<=1000000)/\(-1000000<=b/\b<=1000000)/\ -1000000<=c/\c<=1000000):Gm (w.alloc (.cells #[.int .i64 a,.int .i64 b,.int .i64 c] 2)) (some ⟨w.heap.size,0,none⟩) 3 3 z:=by
 have hB:=au.aO w #[.int .i64 a,.int .i64 b,.int .i64 c] 2 3 rfl;refine⟨by decide,by decide,by decide,λi hi=>?_⟩;rcases(show i=0\/i=1\/i=2 by omega)with rfl|rfl|rfl
 ·exact⟨by rw[ha];exact h.1,_,_,rfl,hB.lt,by rw[ha];exact hB.cell (i:=0) (by omega)⟩
 ·exact⟨by rw[hb];exact h.2.1,_,_,rfl,hB.lt,by rw[hb];exact hB.cell (i:=1) (by omega)⟩
 ·exact⟨by rw[hc];exact h.2.2,_,_,rfl,hB.lt,by rw[hc];exact hB.cell (i:=2) (by omega)⟩
theorem Gm.ext{w w':World}{a:Option Addr}{n cap:Nat}{z:Nat->Int}(h:Gm w a n cap z)(he:Ext w w'):Gm w' a n cap z:=
 ⟨h.1,h.2.1,h.2.2.1,λi hi=>by
  obtain⟨q,b,off,h1,h2,h3⟩:=h.2.2.2 i hi
  exact⟨q,b,off,h1,bB h2 he.size,by rw[he.cell h2];exact h3⟩⟩
theorem qb1(a:Option Addr)(w:World)(h:Gm w a 2 2 hz1):Calls Tryz.prog 30 #[.slice a 2 2] w λe w'=>∃a' X,e=.returned (.slice a' 2 2)/\mr M0 w' a' 2 2 X hz1/\Ext w w':=by
 have h2:=qry M0 a 2 2 hz1 w (pV w) h;rw[qEk]at h2;exact h2
theorem qb2(a:Option Addr)(w:World)(h:Gm w a 3 3 hz2):Calls Tryz.prog 30 #[.slice a 3 3] w λe w'=>∃a' X,e=.returned (.slice a' 3 3)/\mr M0 w' a' 3 3 X hz2/\Ext w w':=by
 have h2:=qry M0 a 3 3 hz2 w (pV w) h;rw[qEl]at h2;exact h2
theorem qfL{c0 c1 d0 d1:Value}(w:World)(h:dh M0 w c0 c1 1)(h':dh M0 w d0 d1 1):Calls Tryz.prog 28 #[.agg #[c0,c1],.agg #[d0,d1]] w λe w'=>e=.returned (.bool true)/\Ext w w':=
 (qeQ c0 c1 d0 d1 1 1 w h h').mono λe w' h=>⟨by rw[h.1];rfl,h.2⟩
theorem qz0(iV:qgG)(HU0:qgH)(w:World):Calls Tryz.prog 4 #[] w λe w'=>e=.returned (.bool true)/\Ext w w':=by
 have HD:=ae iV;have HU:=ae HU0;clear iV HU0
 go_enter Tryz.func4,Tryz.ntmps4
 go_wp2_with (fail);refine(qfG M0 1 _ (pV _)).mono ?_;rintro e w1 ⟨x,rfl,hx,ah⟩;go_wp2_with (fail);refine(qfG M0 2 _ (pV _)).mono ?_;rintro e w2 ⟨y,rfl,hy,az⟩;go_wp2_with (fail);refine(qfG M0 3 _ (pV _)).mono ?_;rintro e w3 ⟨z,rfl,hz,aN⟩;have Ca:=ae ((hx.ext az).ext aN);have Mw:=ae (hy.ext aN);have Qt:=ae hz;have dK:=ae ((ah.trans az).trans aN);clear hx hy hz ah az aN
 go_upto_region 2 with(fail)
 obtain⟨W,hW⟩:∃W,W=((w3.alloc (.cells #[.int .i64 x.lv,.bool x.b,.slice x.a x.n x.p,.slice x.ka x.kn x.kp] 42)).alloc (.cells #[.int .i64 y.lv,.bool y.b,.slice y.a y.n y.p,.slice y.ka y.kn y.kp] 42)).alloc (.cells #[.int .i64 z.lv,.bool z.b,.slice z.a z.n z.p,.slice z.ka z.kn z.kp] 42):=⟨_,rfl⟩
 have lX:Ext w3 W:=by rw[hW];exact(((ai w3).alloc _).alloc _).alloc _
 obtain⟨g0,sD⟩:∃g0,g0=w3.heap.size:=⟨_,rfl⟩
 have vM:Hid (JL g0 x y z W):=by rw[hW,sD];exact qAN w3 x y z
 have HX:=ae (Ca.out.ext lX);have HY:=ae (Mw.out.ext lX);have HZ:=ae (Qt.out.ext lX);have HE:=ae (dK.out.trans lX);rw[<-hW, <-sD];clear hW sD lX Ca Mw Qt dK;have dN:Ext W W.drew:=(ai W).drew;have yw:Hid (JL g0 x y z W.drew):=vM.out.ext dN;have Ez:=ae (HX.out.ext dN);have Jy:=ae (HY.out.ext dN);have JA:=ae (HZ.out.ext dN);have pq:=ae (HE.out.trans dN);clear vM HX HY HZ HE dN
 go_cut [4,5] (qr3 W.drew hD)
 case first=>
  refine fB (JL g0 x y z) 15 yw.out λhHeld=>?_;have S0:=S7.start W.drew;generalize W.drew=wd at*;have C1:Hid (∀A B wk,S7 wd wk A B->Calls Tryz.prog 23 #[.agg (ag x),.int .i64 2] wk (di (M7 A B) wk 4 (dS (jJ 1) 2))):=λA B wk S=>qfE (M7 A B) x (jJ 1) 1 2 wk S.mb (S.old Ez.out).pi (by decide) (by decide) (QR 1) (by decide);have C4:Hid (∀A B wk,S7 wd wk A B->Calls Tryz.prog 24 #[.agg (ag x),.agg (ag y)] wk (di (M7 A B) wk 4 (aC (jJ 1) (jJ 2)))):=λA B wk S=>TC (M7 A B) x y (jJ 1) (jJ 2) 1 1 wk S.mb (S.old Ez.out).pi (S.old Jy.out).pi (by decide) (QR 1) (QR 2) (by decide);have C6:Hid (∀A B wk,S7 wd wk A B->∀q,aG (M7 A B) wk 4 q (aC (jJ 1) (jJ 2))->Calls Tryz.prog 22 #[.agg (ag q),.agg (ag z)] wk (di (M7 A B) wk 4 (aC (jJ 1) (jJ 2)++jJ 3))):=λA B wk S q hq=>qqK (M7 A B) q z _ _ wk S.mb hq.pi (S.old JA.out).pi (by decide);have C7:Hid (∀A B wk,S7 wd wk A B->∀p,aG (M7 A B) wk 4 p (dS (jJ 1) 2)->∀s,aG (M7 A B) wk 4 s (aC (jJ 1) (jJ 2)++jJ 3)->Calls Tryz.prog 22 #[.agg (ag p),.agg (ag s)] wk (di (M7 A B) wk 4 hF)):=λA B wk S p hp s hs=>qqK (M7 A B) p s _ _ wk S.mb hp.pi hs.pi (by decide);have C8:Hid (∀A B wk,S7 wd wk A B->∀t,aG (M7 A B) wk 4 t hF->Calls Tryz.prog 21 #[.agg (ag t),.int .i64 1] wk (xw (M7 A B) wk 4 hD 0)):=λA B wk S t ht=>HD.out (M7 A B) t wk S.mb ht;clear Ez Jy JA pq yw;refine bH [0,2,3,5] ?_;(iterate 4 refine bG ?_);refine bI ?_
  refine oC 1 12 ?_ ?_<;>intro K hK
  ·go_simp;refine(C1.out _ _ wd S0).mono ?_;rintro e v1 ⟨p,rfl,hp,D⟩;go_wp2_with (fail);have S1:=S0.call D;clear D
   try clear ak
   refine ny hK (hHeld.ext S1.e) λak=>?_;clear hK K;refine oC 4 12 ?_ ?_<;>intro K hK
   ·go_simp;refine(C4.out _ _ v1 S1).mono ?_;rintro e v2 ⟨q,rfl,hq,D⟩;go_wp2_with (fail);have S2:=S1.call D;replace hp:=hp.ext D;clear D
    try clear ak
    refine ny hK (hHeld.ext S2.e) λak=>?_;clear hK K;refine oC 6 12 ?_ ?_<;>intro K hK
    ·go_simp;refine(C6.out _ _ v2 S2 _ hq).mono ?_;rintro e v3 ⟨s,rfl,hs,D⟩;go_wp2_with (fail);have S3:=S2.call D;replace hp:=hp.ext D;replace hq:=hq.ext D;clear D
     try clear ak
     refine ny hK (hHeld.ext S3.e) λak=>?_;clear hK K;refine oC 7 12 ?_ ?_<;>intro K hK
     ·go_simp;refine(C7.out _ _ v3 S3 _ hp _ hs).mono ?_;rintro e v4 ⟨t,rfl,ht,D⟩;go_wp2_with (fail);have S4:=S3.call D;replace hp:=hp.ext D;replace hq:=hq.ext D;replace hs:=hs.ext D;clear D
      try clear ak
      refine ny hK (hHeld.ext S4.e) λak=>?_;clear hK K;refine oC 8 12 ?_ ?_<;>intro K hK
      ·go_simp;refine(C8.out _ _ v4 S4 _ ht).mono ?_;rintro e v5 ⟨d,rfl,hd,D⟩;go_wp2_with (fail);have S5:=S4.call D;replace hp:=hp.ext D;replace hq:=hq.ext D;replace hs:=hs.ext D;replace ht:=ht.ext D;clear D
       try clear ak
       refine ny hK (hHeld.ext S5.e) λak=>?_;clear hK K;refine bH [9,10,11] ?_;(iterate 3 refine bG ?_);refine bI ?_;refine aI 12 λK hK=>?_;go_simp;have S6:=S5.uM;replace hp:=S5.lN hp;replace hq:=S5.lN hq;replace hs:=S5.lN hs;replace ht:=S5.lN ht;replace hd:=S5.lN hd
       try clear ak
       refine ny hK (hHeld.ext S6.e) λak=>?_;clear hK K;generalize v5.alloc (.cells zA 42)=v6 at*;generalize v5.heap.size=g6 at*;obtain⟨W1,hW1,⟨q0,q1,q2,q3⟩,⟨f0,f1,f2,f3⟩,dG⟩:=S6.Bv hd;unfold aD at hW1;have iG:=hHeld.ext dG.e;clear ak;refine aI 13 λK hK=>?_;go_simp;rw[<-hW1];clear hW1;refine nx hK iG ?_;clear hK K q0 q1 q2 q3 f0 f1 f2 f3;have ak:=iG;refine bH [14] ?_;(iterate 1 refine bG ?_);refine bI ?_;refine kP ?_;go_wp2_with (fail)
       go_meet
       exact⟨_,_,rfl,rfl,dG⟩
      ·go_simp;have S7:=S4.uM;replace hp:=S4.lN hp;replace hq:=S4.lN hq;replace hs:=S4.lN hs;replace ht:=S4.lN ht
       try clear ak
       refine ny hK (hHeld.ext S7.e) λak=>?_;clear hK K;generalize v4.alloc (.cells zA 42)=v7 at*;generalize v4.heap.size=g7 at*;refine aI 8 λK hK=>?_;go_simp;refine(C8.out _ _ v7 S7 _ ht).mono ?_;rintro e v8 ⟨d,rfl,hd,D⟩;go_wp2_with (fail);have S8:=S7.call D;replace hp:=hp.ext D;replace hq:=hq.ext D;replace hs:=hs.ext D;replace ht:=ht.ext D;clear D
       try clear ak
       refine ny hK (hHeld.ext S8.e) λak=>?_;clear hK K;refine bH [9,10,11] ?_;(iterate 3 refine bG ?_);refine bI ?_;obtain⟨W1,hW1,⟨q0,q1,q2,q3⟩,⟨f0,f1,f2,f3⟩,dG⟩:=S8.Bv hd;unfold aD at hW1;have iG:=hHeld.ext dG.e;clear ak;refine aI 13 λK hK=>?_;go_simp;rw[<-hW1];clear hW1;refine nx hK iG ?_;clear hK K q0 q1 q2 q3 f0 f1 f2 f3;have ak:=iG;refine bH [14] ?_;(iterate 1 refine bG ?_);refine bI ?_;refine kP ?_;go_wp2_with (fail)
       go_meet
       exact⟨_,_,rfl,rfl,dG⟩
     ·go_simp;have S9:=S3.uM;replace hp:=S3.lN hp;replace hq:=S3.lN hq;replace hs:=S3.lN hs
      try clear ak
      refine ny hK (hHeld.ext S9.e) λak=>?_;clear hK K;generalize v3.alloc (.cells zA 42)=v9 at*;generalize v3.heap.size=g9 at*;refine aI 7 λK hK=>?_;go_simp;refine(C7.out _ _ v9 S9 _ hp _ hs).mono ?_;rintro e v10 ⟨t,rfl,ht,D⟩;go_wp2_with (fail);have oI:=S9.call D;replace hp:=hp.ext D;replace hq:=hq.ext D;replace hs:=hs.ext D;clear D
      try clear ak
      refine ny hK (hHeld.ext oI.e) λak=>?_;clear hK K;refine aI 8 λK hK=>?_;go_simp;refine(C8.out _ _ v10 oI _ ht).mono ?_;rintro e v11 ⟨d,rfl,hd,D⟩;go_wp2_with (fail);have EA:=oI.call D;replace hp:=hp.ext D;replace hq:=hq.ext D;replace hs:=hs.ext D;replace ht:=ht.ext D;clear D
      try clear ak
      refine ny hK (hHeld.ext EA.e) λak=>?_;clear hK K;refine bH [9,10,11] ?_;(iterate 3 refine bG ?_);refine bI ?_;obtain⟨W1,hW1,⟨q0,q1,q2,q3⟩,⟨f0,f1,f2,f3⟩,dG⟩:=EA.Bv hd;unfold aD at hW1;have iG:=hHeld.ext dG.e;clear ak;refine aI 13 λK hK=>?_;go_simp;rw[<-hW1];clear hW1;refine nx hK iG ?_;clear hK K q0 q1 q2 q3 f0 f1 f2 f3;have ak:=iG;refine bH [14] ?_;(iterate 1 refine bG ?_);refine bI ?_;refine kP ?_;go_wp2_with (fail)
      go_meet
      exact⟨_,_,rfl,rfl,dG⟩
    ·go_simp;have Gi:=S2.uM;replace hp:=S2.lN hp;replace hq:=S2.lN hq
     try clear ak
     refine ny hK (hHeld.ext Gi.e) λak=>?_;clear hK K;generalize v2.alloc (.cells zA 42)=v12 at*;generalize v2.heap.size=g12 at*;refine aI 6 λK hK=>?_;go_simp;refine(C6.out _ _ v12 Gi _ hq).mono ?_;rintro e IK ⟨s,rfl,hs,D⟩;go_wp2_with (fail);have MK:=Gi.call D;replace hp:=hp.ext D;replace hq:=hq.ext D;clear D
     try clear ak
     refine ny hK (hHeld.ext MK.e) λak=>?_;clear hK K;refine aI 7 λK hK=>?_;go_simp;refine(C7.out _ _ IK MK _ hp _ hs).mono ?_;rintro e v14 ⟨t,rfl,ht,D⟩;go_wp2_with (fail);have Cf:=MK.call D;replace hp:=hp.ext D;replace hq:=hq.ext D;replace hs:=hs.ext D;clear D
     try clear ak
     refine ny hK (hHeld.ext Cf.e) λak=>?_;clear hK K;refine aI 8 λK hK=>?_;go_simp;refine(C8.out _ _ v14 Cf _ ht).mono ?_;rintro e v15 ⟨d,rfl,hd,D⟩;go_wp2_with (fail);have S15:=Cf.call D;replace hp:=hp.ext D;replace hq:=hq.ext D;replace hs:=hs.ext D;replace ht:=ht.ext D;clear D
     try clear ak
     refine ny hK (hHeld.ext S15.e) λak=>?_;clear hK K;refine bH [9,10,11] ?_;(iterate 3 refine bG ?_);refine bI ?_;obtain⟨W1,hW1,⟨q0,q1,q2,q3⟩,⟨f0,f1,f2,f3⟩,dG⟩:=S15.Bv hd;unfold aD at hW1;have iG:=hHeld.ext dG.e;clear ak;refine aI 13 λK hK=>?_;go_simp;rw[<-hW1];clear hW1;refine nx hK iG ?_;clear hK K q0 q1 q2 q3 f0 f1 f2 f3;have ak:=iG;refine bH [14] ?_;(iterate 1 refine bG ?_);refine bI ?_;refine kP ?_;go_wp2_with (fail)
     go_meet
     exact⟨_,_,rfl,rfl,dG⟩
   ·go_simp;have Cg:=S1.uM;replace hp:=S1.lN hp
    try clear ak
    refine ny hK (hHeld.ext Cg.e) λak=>?_;clear hK K;generalize v1.alloc (.cells zA 42)=v16 at*;generalize v1.heap.size=g16 at*;refine aI 4 λK hK=>?_;go_simp;refine(C4.out _ _ v16 Cg).mono ?_;rintro e v17 ⟨q,rfl,hq,D⟩;go_wp2_with (fail);have S17:=Cg.call D;replace hp:=hp.ext D;clear D
    try clear ak
    refine ny hK (hHeld.ext S17.e) λak=>?_;clear hK K;refine aI 6 λK hK=>?_;go_simp;refine(C6.out _ _ v17 S17 _ hq).mono ?_;rintro e v18 ⟨s,rfl,hs,D⟩;go_wp2_with (fail);have S18:=S17.call D;replace hp:=hp.ext D;replace hq:=hq.ext D;clear D
    try clear ak
    refine ny hK (hHeld.ext S18.e) λak=>?_;clear hK K;refine aI 7 λK hK=>?_;go_simp;refine(C7.out _ _ v18 S18 _ hp _ hs).mono ?_;rintro e v19 ⟨t,rfl,ht,D⟩;go_wp2_with (fail);have Ch:=S18.call D;replace hp:=hp.ext D;replace hq:=hq.ext D;replace hs:=hs.ext D;clear D
    try clear ak
    refine ny hK (hHeld.ext Ch.e) λak=>?_;clear hK K;refine aI 8 λK hK=>?_;go_simp;refine(C8.out _ _ v19 Ch _ ht).mono ?_;rintro e v20 ⟨d,rfl,hd,D⟩;go_wp2_with (fail);have S20:=Ch.call D;replace hp:=hp.ext D;replace hq:=hq.ext D;replace hs:=hs.ext D;replace ht:=ht.ext D;clear D
    try clear ak
    refine ny hK (hHeld.ext S20.e) λak=>?_;clear hK K;refine bH [9,10,11] ?_;(iterate 3 refine bG ?_);refine bI ?_;obtain⟨W1,hW1,⟨q0,q1,q2,q3⟩,⟨f0,f1,f2,f3⟩,dG⟩:=S20.Bv hd;unfold aD at hW1;have iG:=hHeld.ext dG.e;clear ak;refine aI 13 λK hK=>?_;go_simp;rw[<-hW1];clear hW1;refine nx hK iG ?_;clear hK K q0 q1 q2 q3 f0 f1 f2 f3;have ak:=iG;refine bH [14] ?_;(iterate 1 refine bG ?_);refine bI ?_;refine kP ?_;go_wp2_with (fail)
    go_meet
    exact⟨_,_,rfl,rfl,dG⟩
  ·go_simp;have S21:=S0.uM
   try clear ak
   refine ny hK (hHeld.ext S21.e) λak=>?_;clear hK K;generalize wd.alloc (.cells zA 42)=v21 at*;generalize wd.heap.size=g21 at*;refine aI 1 λK hK=>?_;go_simp;refine(C1.out _ _ v21 S21).mono ?_;rintro e v22 ⟨p,rfl,hp,D⟩;go_wp2_with (fail);have S22:=S21.call D;clear D
   try clear ak
   refine ny hK (hHeld.ext S22.e) λak=>?_;clear hK K;refine aI 4 λK hK=>?_;go_simp;refine(C4.out _ _ v22 S22).mono ?_;rintro e v23 ⟨q,rfl,hq,D⟩;go_wp2_with (fail);have JJ:=S22.call D;replace hp:=hp.ext D;clear D
   try clear ak
   refine ny hK (hHeld.ext JJ.e) λak=>?_;clear hK K;refine aI 6 λK hK=>?_;go_simp;refine(C6.out _ _ v23 JJ _ hq).mono ?_;rintro e v24 ⟨s,rfl,hs,D⟩;go_wp2_with (fail);have S24:=JJ.call D;replace hp:=hp.ext D;replace hq:=hq.ext D;clear D
   try clear ak
   refine ny hK (hHeld.ext S24.e) λak=>?_;clear hK K;refine aI 7 λK hK=>?_;go_simp;refine(C7.out _ _ v24 S24 _ hp _ hs).mono ?_;rintro e v25 ⟨t,rfl,ht,D⟩;go_wp2_with (fail);have S25:=S24.call D;replace hp:=hp.ext D;replace hq:=hq.ext D;replace hs:=hs.ext D;clear D
   try clear ak
   refine ny hK (hHeld.ext S25.e) λak=>?_;clear hK K;refine aI 8 λK hK=>?_;go_simp;refine(C8.out _ _ v25 S25 _ ht).mono ?_;rintro e v26 ⟨d,rfl,hd,D⟩;go_wp2_with (fail);have EB:=S25.call D;replace hp:=hp.ext D;replace hq:=hq.ext D;replace hs:=hs.ext D;replace ht:=ht.ext D;clear D
   try clear ak
   refine ny hK (hHeld.ext EB.e) λak=>?_;clear hK K;refine bH [9,10,11] ?_;(iterate 3 refine bG ?_);refine bI ?_;obtain⟨W1,hW1,⟨q0,q1,q2,q3⟩,⟨f0,f1,f2,f3⟩,dG⟩:=EB.Bv hd;unfold aD at hW1;have iG:=hHeld.ext dG.e;clear ak;refine aI 13 λK hK=>?_;go_simp;rw[<-hW1];clear hW1;refine nx hK iG ?_;clear hK K q0 q1 q2 q3 f0 f1 f2 f3;have ak:=iG;refine bH [14] ?_;(iterate 1 refine bG ?_);refine bI ?_;refine kP ?_;go_wp2_with (fail)
   go_meet
   exact⟨_,_,rfl,rfl,dG⟩
 case rest=>
  obtain⟨a,v,rfl,rfl,HP⟩:=hcut;have jl:=ae (pq.out.trans HP.e);have Cb:=ae (Jy.out.ext HP.e);have Gd:=ae (JA.out.ext HP.e);have Qj:=ae HP.x;have HS4:Hid (MO (g0+1) (g0+2) a y z v wc):=⟨yw.out.2.1.ext HP.e,yw.out.2.2.ext HP.e,HP.p⟩;clear HP Ez Jy JA pq yw
  go_upto_region 3 with(fail)
  have dN:Ext wc wc.drew:=(ai wc).drew;have yw:Hid (MO (g0+1) (g0+2) a y z v wc.drew):=HS4.out.ext dN;have Jy:=ae (Cb.out.ext dN);have JA:=ae (Gd.out.ext dN);have HVd:=ae (Qj.out.ext dN);have pq:=ae (jl.out.trans dN);clear Cb Gd Qj jl HS4 dN;refine fB (MO (g0+1) (g0+2) a y z v) 22 yw.out λhHeld=>?_;generalize wc.drew=wd at*;refine bH [0,1,2,3,4,6] ?_;(iterate 6 refine bG ?_);refine bI ?_
  (refine aI 5 λK hK=>?_);go_simp;(refine(qfE M0 y (jJ 2) 1 2 wd (pV _) Jy.out.pi (by decide) (by decide) (QR 2) (by decide)).mono ?_);rintro e_ v1 ⟨p,rfl,hp,d1⟩;go_wp2_with (fail);(try clear ak);(refine ny hK (hHeld.ext d1) λak=>?_);clear hK K
  (refine aI 7 λK hK=>?_);go_simp;(refine(Xk 4 (by omega) v1).mono ?_);rintro e_ v2 ⟨ib,ia,ik,ip,rfl,hI,d2⟩;go_wp2_with (fail);(try clear ak);(refine ny hK (hHeld.ext (d1.trans d2)) λak=>?_);clear hK K
  (refine aI 8 λK hK=>?_);go_simp;(refine(qfF M0 z (jJ 3) 1 ib ia ik ip 4 v2 (pV _) (JA.out.ext (d1.trans d2)).pi hI (by decide) (QR 3) (by decide)).mono ?_);rintro e_ v3 ⟨q,rfl,hq,d3⟩;go_wp2_with (fail);(try clear ak);(refine ny hK (hHeld.ext ((d1.trans d2).trans d3)) λak=>?_);clear hK K
  (refine aI 9 λK hK=>?_);go_simp;(refine(X9 M0 p q (dS (jJ 2) 2) (aC (jJ 3) [(4,Mo.zero)]) 1 v3 (pV _) (hp.ext (d2.trans d3)).pi hq.pi (by decide) (by decide) (Ng (uk (by decide)) (by decide)) (by decide)).mono ?_);rintro e_ v4 ⟨u,rfl,hu,d4⟩;go_wp2_with (fail);(try clear ak);(refine ny hK (hHeld.ext (((d1.trans d2).trans d3).trans d4)) λak=>?_);clear hK K
  (refine aI 10 λK hK=>?_);go_simp;(refine(qCV v u hD hD v4 true (HVd.out.ext (((d1.trans d2).trans d3).trans d4)).pi hu.pi (by simp[af.refl])).mono ?_);rintro e_ v5 ⟨rfl,d5⟩;go_wp2_with (fail);(try clear ak);(refine ny hK (hHeld.ext ((((d1.trans d2).trans d3).trans d4).trans d5)) λak=>?_);clear hK K
  refine bH [11,12] ?_;(iterate 2 refine bG ?_);refine bI ?_;have k5:=(((d1.trans d2).trans d3).trans d4).trans d5;clear hp hI hq hu d1 d2 d3 d4 d5 Jy JA HVd yw;refine oC 13 15 ?_ ?_<;>intro K hK
  ·go_simp;have ea:Ext v5 (v5.alloc (.cells #[.int .i64 (-2),.int .i64 1] 2)):=(ai _).alloc _;have k6:=(k5).trans ea;have rE:=qrU v5 hz1 (-2) 1 rfl rfl (by omega);clear ea
   try clear ak
   refine ny hK (hHeld.ext k6) λak=>?_;clear hK K;generalize v5.alloc (.cells #[.int .i64 (-2),.int .i64 1] 2)=v6 at*;generalize v5.heap.size=g6 at*;refine oC 14 15 ?_ ?_<;>intro K hK
   ·go_simp;refine(qb1 _ v6 rE).mono ?_;rintro e v7 ⟨a1,X1,rfl,hu1,D⟩;go_wp2_with (fail);have k7:=(k6).trans D;clear rE;clear D
    try clear ak
    refine ny hK (hHeld.ext k7) λak=>?_;clear hK K;refine aI 15 λK hK=>?_;go_simp;have ea:Ext v7 (v7.alloc (.cells #[.int .i64 (-3),.int .i64 0,.int .i64 1] 2)):=(ai _).alloc _;have k8:=(k7).trans ea;replace hu1:=hu1.ext ea;have kV:=qgc v7 hz2 (-3) 0 1 rfl rfl rfl (by omega);clear ea
    try clear ak
    refine ny hK (hHeld.ext k8) λak=>?_;clear hK K;generalize v7.alloc (.cells #[.int .i64 (-3),.int .i64 0,.int .i64 1] 2)=v8 at*;generalize v7.heap.size=g8 at*;refine aI 16 λK hK=>?_;go_simp;refine(qb2 _ v8 kV).mono ?_;rintro e v9 ⟨a2,X2,rfl,om,D⟩;go_wp2_with (fail);have k9:=(k8).trans D;clear kV;replace hu1:=hu1.ext D;clear D
    try clear ak
    refine ny hK (hHeld.ext k9) λak=>?_;clear hK K
    (refine aI 17 λK hK=>?_);go_simp;(refine(HU.out a1 a2 2 3 X1 X2 v9 hu1 om).mono ?_);rintro e_ y7 ⟨jb,ja,jn,jp,rfl,hJ,d7⟩;go_wp2_with (fail);(try clear ak);(refine ny hK (hHeld.ext (k9.trans d7)) λak=>?_);clear hK K
    (refine aI 18 λK hK=>?_);go_simp;(refine(Xk 1 (by omega) y7).mono ?_);rintro e_ y8 ⟨lb,la,ln,lp,rfl,hL,d8⟩;go_wp2_with (fail);(try clear ak);(refine ny hK (hHeld.ext ((k9.trans d7).trans d8)) λak=>?_);clear hK K
    (refine aI 19 λK hK=>?_);go_simp;(refine(qfL y8 (hJ.ext d8) hL).mono ?_);rintro e_ y9 ⟨rfl,d9⟩;go_wp2_with (fail);(try clear ak);(refine ny hK (hHeld.ext (((k9.trans d7).trans d8).trans d9)) λak=>?_);clear hK K
    refine bH [20,21] ?_;(iterate 2 refine bG ?_);refine bI ?_;refine kP ?_;have HF:=ae (pq.out.trans (((k9.trans d7).trans d8).trans d9));clear hHeld ak hu1 om hJ hL d7 d8 d9;go_wp2;go_ret;exact⟨rfl,HF.out⟩
   ·go_simp;have ea:Ext v6 (v6.alloc (.cells #[.int .i64 (-3),.int .i64 0,.int .i64 1] 2)):=(ai _).alloc _;have Xn:=(k6).trans ea;replace rE:=rE.ext ea;have kV:=qgc v6 hz2 (-3) 0 1 rfl rfl rfl (by omega);clear ea
    try clear ak
    refine ny hK (hHeld.ext Xn) λak=>?_;clear hK K;generalize v6.alloc (.cells #[.int .i64 (-3),.int .i64 0,.int .i64 1] 2)=v10 at*;generalize v6.heap.size=g10 at*;refine aI 14 λK hK=>?_;go_simp;refine(qb1 _ v10 rE).mono ?_;rintro e v11 ⟨a1,X1,rfl,hu1,D⟩;go_wp2_with (fail);have Xo:=(Xn).trans D;clear rE;replace kV:=kV.ext D;clear D
    try clear ak
    refine ny hK (hHeld.ext Xo) λak=>?_;clear hK K;refine aI 16 λK hK=>?_;go_simp;refine(qb2 _ v11 kV).mono ?_;rintro e v12 ⟨a2,X2,rfl,om,D⟩;go_wp2_with (fail);have SN:=(Xo).trans D;clear kV;replace hu1:=hu1.ext D;clear D
    try clear ak
    refine ny hK (hHeld.ext SN) λak=>?_;clear hK K
    (refine aI 17 λK hK=>?_);go_simp;(refine(HU.out a1 a2 2 3 X1 X2 v12 hu1 om).mono ?_);rintro e_ y7 ⟨jb,ja,jn,jp,rfl,hJ,d7⟩;go_wp2_with (fail);(try clear ak);(refine ny hK (hHeld.ext (SN.trans d7)) λak=>?_);clear hK K
    (refine aI 18 λK hK=>?_);go_simp;(refine(Xk 1 (by omega) y7).mono ?_);rintro e_ y8 ⟨lb,la,ln,lp,rfl,hL,d8⟩;go_wp2_with (fail);(try clear ak);(refine ny hK (hHeld.ext ((SN.trans d7).trans d8)) λak=>?_);clear hK K
    (refine aI 19 λK hK=>?_);go_simp;(refine(qfL y8 (hJ.ext d8) hL).mono ?_);rintro e_ y9 ⟨rfl,d9⟩;go_wp2_with (fail);(try clear ak);(refine ny hK (hHeld.ext (((SN.trans d7).trans d8).trans d9)) λak=>?_);clear hK K
    refine bH [20,21] ?_;(iterate 2 refine bG ?_);refine bI ?_;refine kP ?_;have HF:=ae (pq.out.trans (((SN.trans d7).trans d8).trans d9));clear hHeld ak hu1 om hJ hL d7 d8 d9;go_wp2;go_ret;exact⟨rfl,HF.out⟩
  ·go_simp;have ea:Ext v5 (v5.alloc (.cells #[.int .i64 (-3),.int .i64 0,.int .i64 1] 2)):=(ai _).alloc _;have k13:=(k5).trans ea;have kV:=qgc v5 hz2 (-3) 0 1 rfl rfl rfl (by omega);clear ea
   try clear ak
   refine ny hK (hHeld.ext k13) λak=>?_;clear hK K;generalize v5.alloc (.cells #[.int .i64 (-3),.int .i64 0,.int .i64 1] 2)=IK at*;generalize v5.heap.size=g13 at*;refine aI 13 λK hK=>?_;go_simp;have ea:Ext IK (IK.alloc (.cells #[.int .i64 (-2),.int .i64 1] 2)):=(ai _).alloc _;have k14:=(k13).trans ea;replace kV:=kV.ext ea;have rE:=qrU IK hz1 (-2) 1 rfl rfl (by omega);clear ea
   try clear ak
   refine ny hK (hHeld.ext k14) λak=>?_;clear hK K;generalize IK.alloc (.cells #[.int .i64 (-2),.int .i64 1] 2)=v14 at*;generalize IK.heap.size=g14 at*;refine aI 14 λK hK=>?_;go_simp;refine(qb1 _ v14 rE).mono ?_;rintro e v15 ⟨a1,X1,rfl,hu1,D⟩;go_wp2_with (fail);have k15:=(k14).trans D;clear rE;replace kV:=kV.ext D;clear D
   try clear ak
   refine ny hK (hHeld.ext k15) λak=>?_;clear hK K;refine aI 16 λK hK=>?_;go_simp;refine(qb2 _ v15 kV).mono ?_;rintro e v16 ⟨a2,X2,rfl,om,D⟩;go_wp2_with (fail);have SQ:=(k15).trans D;clear kV;replace hu1:=hu1.ext D;clear D
   try clear ak
   refine ny hK (hHeld.ext SQ) λak=>?_;clear hK K
   (refine aI 17 λK hK=>?_);go_simp;(refine(HU.out a1 a2 2 3 X1 X2 v16 hu1 om).mono ?_);rintro e_ y7 ⟨jb,ja,jn,jp,rfl,hJ,d7⟩;go_wp2_with (fail);(try clear ak);(refine ny hK (hHeld.ext (SQ.trans d7)) λak=>?_);clear hK K
   (refine aI 18 λK hK=>?_);go_simp;(refine(Xk 1 (by omega) y7).mono ?_);rintro e_ y8 ⟨lb,la,ln,lp,rfl,hL,d8⟩;go_wp2_with (fail);(try clear ak);(refine ny hK (hHeld.ext ((SQ.trans d7).trans d8)) λak=>?_);clear hK K
   (refine aI 19 λK hK=>?_);go_simp;(refine(qfL y8 (hJ.ext d8) hL).mono ?_);rintro e_ y9 ⟨rfl,d9⟩;go_wp2_with (fail);(try clear ak);(refine ny hK (hHeld.ext (((SQ.trans d7).trans d8).trans d9)) λak=>?_);clear hK K
   refine bH [20,21] ?_;(iterate 2 refine bG ?_);refine bI ?_;refine kP ?_;have HF:=ae (pq.out.trans (((SQ.trans d7).trans d8).trans d9));clear hHeld ak hu1 om hJ hL d7 d8 d9;go_wp2;go_ret;exact⟨rfl,HF.out⟩
section
variable{P:Program}{ops:Array Oper}{Q:Exit->Act->World->Prop}{md:Region.Mode}{S:World->Prop}{last:Nat}
theorem qHI{i:Nat}{is:List Nat}{oi:Oper}{fuel:Nat}{listed:Array Bool}{a a':Act}{w:World}
 (h:MU P md ops Q S last is fuel (listed.setIfInBounds i true) a' w)
 (hc:(Region.noSelect ops&&Region.free md ops listed i&&(Region.ready md ops listed).contains i&&waits md ops last i)=true:=by kernel_rfl) (hS:S w:=by first|exact ak|exact hHeld)
 (hi:ops[i]?=some oi:=by simp only[sO,sP,sQ];rfl) (hwd:Region.wanted oi (yielded ops a.tmps)=false:=by rfl) (hQ:∀c a w,Q (.panic c) (a.put oi.dst undef) w->Q (.panic c) a w:=by exactλ_ _ _ h=>h) (ha:a.put oi.dst undef=a':=by(try simp only[Act.put,eO,eQ,eT])<;>exact rfl):MU P md ops Q S last (i::is) (fuel+1) listed a w:=by
 subst ha;simp only[Bool.and_eq_true]at hc;exact⟨qrJ hi (Region.noSelect_spec hc.1.1.1) hQ hc.2 fuel listed a w (Region.free_spec hi hc.1.1.2) (by simpa using hc.1.2) (.inr ⟨hwd,rfl⟩) hS h.out⟩
end
end Go.Proofs.YtaafefeafonhdaaGreat
