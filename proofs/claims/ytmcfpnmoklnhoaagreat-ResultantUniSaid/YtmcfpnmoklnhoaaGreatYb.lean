/- Yb -/
import Derived.Test.YtmcfpnmoklnhoaaGreatYa
import Derived.Test.YtmcfpnmoklnhoaaGreatWa
import Derived.Test.YtmcfpnmoklnhoaaGreatTf
set_option linter.unusedVariables false
set_option maxRecDepth 100000
set_option maxHeartbeats 400000000
set_option linter.unusedSimpArgs false
namespace Go.Proofs.YtmcfpnmoklnhoaaGreat
open Go.RowKit
theorem qCt(M:Nat->Prop)(x:IE)(p:Int)(gc:Nat)(y:IE)(c:Int)(w:World)(hM:Mb M w)(h:IX M w x p)(hj:JC w gc 0 y)(hy:IX M w y c)(hL:aH c.natAbs+aH p.natAbs<=1099511627776):
 Calls Tryz.prog 143 #[.agg #[.bool x.b,.slice x.a x.n x.p],.pointer (some ⟨gc,0,none⟩)] w (lg M w (c*p)):=by
 have aV:Ext w ((w.alloc (.cells #[.bool x.b,.slice x.a x.n x.p] 30)).alloc (.cells zI 30)):=((aA w).alloc _).alloc _;have dm:=aG.bq (w.alloc (.cells #[.bool x.b,.slice x.a x.n x.p] 30)) zI 30 2 rfl;simp only[World.size_alloc]at dm;have dD:Mb (Mx M w.heap.size (w.heap.size+2)) ((w.alloc (.cells #[.bool x.b,.slice x.a x.n x.p] 30)).alloc (.cells zI 30)):=Mx.mb hM (by simp;omega) (by simp);have hx:=(h.more (M':=Mx M w.heap.size (w.heap.size+2)) (Mx.more (aI _))).ext aV;have rC:=(hy.more (M':=Mx M w.heap.size (w.heap.size+2)) (Mx.more (aI _))).ext aV;have kM:=(aG.bq w #[.bool x.b,.slice x.a x.n x.p] 30 2 rfl).alloc (.cells zI 30);have hj2:=hj.ext hj.lt aV;obtain⟨x0,x1⟩:=lJ kM;have IJ:=kM.lt;have wQ:=hj2.lt;obtain⟨y0,y1⟩:=hj2;generalize hW:(w.alloc (.cells #[.bool x.b,.slice x.a x.n x.p] 30)).alloc (.cells zI 30)=W at*;have CC:=ae (La y x c p W dD rC hx hL);have HW:=ae hW;have HB:=ae dm;have HE:=ae aV;clear hW aV dm dD hx rC kM h hj hy hM hL
 go_enter Tryz.func143,Tryz.ntmps143
 go_upto_region 1 with(fail)
 rw[HW.out];clear HW;go_wp2_with (fail);refine CC.out.mono ?_;rintro e w2 ⟨v,rfl,hv,aJ⟩;obtain⟨⟨q0,q1,f0,f1⟩,⟨r0,r1⟩,bD,eO⟩:=l6 (M':=Mx M w.heap.size (w.heap.size+2)) (w:=w) (.bool v.b) (.slice v.a v.n v.p) (HB.out.ext aJ) (Mx.at (by omega)) (by omega) (HE.out.trans aJ);have HF:Hid (lg M w (c*p) (.returned (.agg #[.bool v.b,.slice v.a v.n v.p])) _):=⟨v,rfl,(hv.kp bD).more Mx.less,eO⟩;have hlt:=(HB.out.ext aJ).lt;simp only[arr]at q0 q1;clear bD eO hv aJ CC HB HE x0 x1 y0 y1;go_wp2;exact bu (v:=.agg #[.bool v.b,.slice v.a v.n v.p]) (by simp[results,Tryz.results143,go_sem,r0,r1]) rfl HF.out
theorem qCv(M:Nat->Prop)(gc:Nat)(y:IE)(c:Int)(A D:Nat)(a:Option Addr)(n cap:Nat)(X:Nat->IE)(z:Nat->Int)(w:World)(hM:Mb M w)(h:bC M w a n cap X z)(hj:JC w gc 0 y)(hy:IX M w y c)(hA:∀i,i<n->aH (z i).natAbs<=A)(hD:aH c.natAbs<=D)(hN:A+D<=500000000000):
 Calls Tryz.prog 121 #[.slice a n cap,.func (.func 143) #[] #[.pointer (some ⟨gc,0,none⟩)]] w (GG M w n λi=>c*z i):=by
 obtain⟨i0,hi,hz0,hz1,hz2⟩:=info_parts Tryz.K5;have hn:=h.1;have mi:=h.2.1;have iB:=h.2.2.1;have HU:=ae h;have JA:=ae hj;have Mw:=ae hy;have HZA:=ae hA;have HM:=ae hM;clear h hj hy hA;unfold maxLen at iB
 go_enter Tryz.func121,Tryz.ntmps121
 go_wp2_with (first|(refine wpList_make_full _ rfl _ _ _ rfl w.heap.size 30 i0 (.agg #[.bool false,.slice none 0 0]) 2 Tryz.underlying23 hi hz0 hz1 .i64 .i64 _ _ n rfl rfl ?c4 ?c5 ?c2 ?c3 ?c6 ?_))
 case c2=>rw[hz2];omega
 case c3=>unfold maxLen;omega
 case c4=>simp
 case c5=>simp
 case c6=>simp
 intro w1 hown hgrow;have cO:=aG.made hown rfl (by omega);have aS:=ae (nL hgrow)
 have eU:w.heap.size+1<=w1.heap.size:=by have:=cO.lt;omega
 have xq:Hid (UK (Mx M w.heap.size (w.heap.size+1)) w1 w.heap.size n 0 λi=>c*z i):=UK.fresh cO;clear hown hgrow cO;go_wp2
 go_loopw [13] (λi wr=>∃k:Nat,k<=n/\i=.int .i64 k/\w.heap.size+1<=wr.heap.size/\Hid (UK (Mx M w.heap.size (w.heap.size+1)) wr w.heap.size n k λi=>c*z i)/\Hid (Ext w wr)) (λi _=>n-(intOf i).toNat)
 case atStart=>exact⟨0,bK _,rfl,eU,xq,aS⟩
 case round=>
  clear xq aS eU;obtain⟨k,hk,rfl,hsz,HK,cZ⟩:=hrel
  by_cases hlt:k<n
  ·obtain⟨b,off,BF,hb,hmb,x0,x1,hv⟩:=HU.out.2.2.2.2 k hlt;subst BF;rw[<-cZ.out.cell hb]at x0 x1
   have jE:b<wr.heap.size:=by omega
   have aT:Ext wr (wr.alloc (.cells #[.bool (X k).b,.slice (X k).a (X k).n (X k).p] 30)):=(aA wr).alloc _;have Hr:dQ (Mx M w.heap.size (w.heap.size+1)) (wr.alloc (.cells #[.bool (X k).b,.slice (X k).a (X k).n (X k).p] 30)) _ _ (z k):=((hv.more (Mx.more (aI _))).ext cZ.out).ext aT;have jD:Mb (Mx M w.heap.size (w.heap.size+1)) (wr.alloc (.cells #[.bool (X k).b,.slice (X k).a (X k).n (X k).p] 30)):=Mx.mb HM.out (by simp;omega) (by simp;omega);have aW:=ae (qCt (Mx M w.heap.size (w.heap.size+1)) (X k) (z k) gc y c _ jD Hr ((JA.out.ext JA.out.lt cZ.out).ext (JA.out.ext JA.out.lt cZ.out).lt aT) (((Mw.out.more (Mx.more (aI _))).ext cZ.out).ext aT) (by have:=HZA.out k hlt;omega));have fH:=ae aT;clear hv Hr jD aT;go_wp2_with (fail);refine(aW.out).mono ?_;rintro e w4 ⟨⟨b2,a2,n2,p2⟩,rfl,hc,bB⟩;have bn:=fH.out.trans bB;have fo:=HK.out.ext bn;obtain⟨⟨_,k0⟩,⟨_,k1⟩,bA,nO⟩:=fo.at hlt;have fV:=bA (k*2);have fP:=bA (k*2+1);have lV:Hid (UK (Mx M w.heap.size (w.heap.size+1)) (bW w4 w.heap.size (k*2) (.bool b2) (.slice a2 n2 p2)) w.heap.size n (k+1) λi=>c*z i):=fo.set (Mx.at (by omega)) hc;have dV:Hid (Ext w (bW w4 w.heap.size (k*2) (.bool b2) (.slice a2 n2 p2))):=(cZ.out.trans bn).bW (by omega) _ _ _
   have rf:Hid (w.heap.size+1<=(bW w4 w.heap.size (k*2) (.bool b2) (.slice a2 n2 p2)).heap.size):=by show _<=_;rw[BU];have:=bn.size;omega
   clear fo bA hc bB bn x0 x1;go_wp2
   go_roundw
   case rel=>exact⟨k+1,by omega,by go_num,rf.out,lV,dV⟩
   case measure=>simp[intOf];omega
  ·have hkn:k=n:=by omega
   subst hkn;have HF:Hid (GG M w k (λi=>c*z i) (.returned (.slice (some ⟨w.heap.size,0,none⟩) k k)) wr):=⟨_,rfl,aI _,HK.out.more (λg hg=>.inl (hg.imp id λh=>by omega)),cZ.out⟩;go_wp2;go_ret;exact HF.out
def qiw(M:Nat->Prop)(w:World)(n:Nat)(z:Nat->Int)(e:Ending)(w':World):Prop:=∃a cp X,e=.returned (.slice a n cp)/\bC M w' a n cp X z/\Ext w w'
theorem qCs(M:Nat->Prop)(a:Option Addr)(n cap:Nat)(X:Nat->IE)(z:Nat->Int)(y:IE)(c:Int)(A D:Nat)(w:World)(hM:Mb M w)(h:bC M w a n cap X z)(hy:IX M w y c)(hA:∀i,i<n->aH (z i).natAbs<=A)(hD:aH c.natAbs<=D)(hN:A+D<=500000000000):
 Calls Tryz.prog 90 #[.slice a n cap,.agg #[.bool y.b,.slice y.a y.n y.p]] w (qiw M w (tz (λi=>c*z i) n) λi=>c*z i):=by
 have aT:=(aA w).alloc (.cells #[.bool y.b,.slice y.a y.n y.p] 30);have bQ:=aG.bq w #[.bool y.b,.slice y.a y.n y.p] 30 2 rfl;have hL:=h.1;obtain⟨gc,uD⟩:∃gc,gc=w.heap.size:=⟨_,rfl⟩;rw[<-uD]at bQ;obtain⟨W1,hW1⟩:∃W1,w.alloc (.cells #[.bool y.b,.slice y.a y.n y.p] 30)=W1:=⟨_,rfl⟩;rw[hW1]at aT bQ;have GA:=ae hW1;have uh:=ae uD;have aS:=ae aT;have HM:=ae hM;have CT:=ae (qCv M gc y c A D a n cap X z W1 (hM.ext aT) (h.ext aT) (lJ bQ) (hy.ext aT) hA hD hN);have hle:=iR (λi=>c*z i) n;clear hW1 aT bQ uD h hy hM hA
 go_enter Tryz.func90,Tryz.ntmps90
 go_upto_region 1 with(fail)
 rw[GA.out, <-uh.out];clear GA;go_wp2_with (fail);refine CT.out.mono ?_;rintro e w2 ⟨gq,rfl,Bn,hk,aJ⟩;obtain⟨X',Fu⟩:=hk.row (M':=M) (λg h=>.inl (.inl h)) (HM.out.new (aR aS.out.size Bn)) hL;have HX:=ae Fu;have aZ:=ae (aS.out.trans aJ);clear hk aJ Bn CT Fu uh aS;go_wp2_with (fail);refine(Jm M _ n n X' _ w2 HX.out).mono ?_;rintro e w3 ⟨rfl,bg⟩;have HF:Hid (qiw M w (tz (λi=>c*z i) n) (λi=>c*z i) (.returned (.slice (some ⟨gq,0,none⟩) (tz (λi=>c*z i) n) n)) w3):=⟨_,n,X',rfl,(HX.out.ext bg).cut hle,aZ.out.trans bg⟩;clear bg HX aZ;go_wp2;go_ret;exact HF.out
theorem qqK{c:Int}(hc:c≠0)(z:Nat->Int):∀n,tz (λi=>c*z i) n=tz z n
 |0=>rfl
 |n+1=>by
  unfold tz;rw[qqK hc z n]
  by_cases h:z n=0
  ·rw[ai h,ai (by rw[h,Int.mul_zero])]
  ·rw[ah h,ah (λh2=>(Int.mul_eq_zero.1 h2).elim hc h)]
theorem qum{L n:Nat}(h1:1<=L)(h4:L<=4){P C Y:List Tm}(nP:NN P)(nC:NN C)(nY:NN Y)(zC:¬af C [])(dC:bE L C n)(h:af (aF P C) Y)(hY:∀m,aL Y m≠0->m.get L<(n:Int)):af Y []:=by
 refine eF λhz=>?_;have zP:¬af P []:=λh0=>hz (h.symm.trans (h0.oC C));obtain⟨a,ha⟩:=Kg (k:=L) nP;have hd:=(VR h1 h4 nP nC zP zC ha dC).dh h;rcases hd.2 with h0|⟨m,hm,e⟩
 ·obtain⟨m,hm⟩:=Classical.not_forall.1 hz;have h5:=hY m hm
  have j6:m.nn=true:=by
   cases hq:m.nn with
   |true=>rfl
   |false=>exact absurd (nY m hq) hm
  have:=wZ j6 L;omega
 ·have:=hY m hm;omega
theorem YH{L n:Nat}(h1:1<=L)(h4:L<=4){z:Nat->Int}{m:Mo}(hm:aL (aU L n z) m≠0):∃i:Nat,i<n/\m=xp L (i:Int):=by
 obtain⟨t,ht,rfl⟩:=VJ hm;obtain⟨i,hi,s,hs,rfl⟩:=FX ht;simp only[List.mem_singleton]at hs;subst hs;exact⟨i,hi,Mo.qfi _⟩
def m1(V:Nat):Int:=(-1)^V
theorem qd3(V:Nat):m1 V*m1 V=1:=by
 unfold m1;rw[<-Int.mul_pow,show(-1:Int)* -1=1 by omega,Int.one_pow]
theorem SV(c:Int)(V:Nat):(-c)^V=m1 V*c^V:=by
 unfold m1;rw[<-Int.mul_pow,Int.neg_one_mul]
theorem qpQ{J e V nB nC:Nat}(h1:1<=J)(h4:J<=4){zB zC:Nat->Int}{a C':List Tm}{α β:Int}(na:NN a)(Te:NN C')(hC:af (aU J nC zC) C')(tC:tz zC nC=e+1)(sB:uu J (aU J nB zB) e V)(sa:uu J a e V)
 (hp:af (aF (cst α) (aU J nB zB)) (aF (cst β) a)):af (smul α (aU J e (zR e V (aP nC zC) (aP nB zB) V))) (smul (m1 V*β) (lQ J e V a (dN C'))):=by
 obtain⟨D,rfl⟩:∃D,J=D+1:=⟨J-1,by omega⟩;have nB':=kE (D+1) nB zB;have Lb:=kE (D+1) nC zC;obtain⟨t0,t1⟩:=pG tC;have dC:=yQ h1 h4 tC;have zC0:¬af (aU (D+1) nC zC) []:=zV h1 h4 t0
 have zm:∀m,aL (dN C') m= -aL (aU (D+1) nC zC) m:=λm=>by rw[qO,hC m]
 have dCn:bE (D+1) (dN C') e:=⟨λm hm=>dC.1 m λh=>hm (by rw[zm,h];rfl),dC.2.imp id λ⟨m,hm,h⟩=>⟨m,λh0=>hm (by rw[zm]at h0;omega),h⟩⟩;obtain⟨B1,dm⟩:=Dn (aU (D+1) nB zB);obtain⟨B2,dJ⟩:=Dn (aU (D+1) nC zC);obtain⟨B3,jM⟩:=Dn a;obtain⟨B4,kL⟩:=Dn (dN C');have H1:mF (D+1) e V B1 B2 _ _ (aU (D+1) nB zB) (aU (D+1) nC zC):=⟨h1,h4,nB',Lb,dm,dJ,aI _,aI _,dC,sB⟩;have H2:mF (D+1) e V B3 B4 _ _ a (dN C'):=⟨h1,h4,na,qP Te,jM,kL,aI _,aI _,dCn,sa⟩;have hR:=qAJ h4 e V nB nC zB zC;have nQ1:=H1.qeA;have nQ2:=H2.qeA;have nR2:=H2.qeB;have l1:=H1.law;have l2:=H2.law;have k1:af (ck (D+1) (e:Int) (aU (D+1) nC zC)) (cst (aP nC zC e)):=EU h4 nC zC e
 have k2:af (ck (D+1) (e:Int) (dN C')) (cst (-(aP nC zC e))):=by
  refine(jk (r:=smul (-1) (aU (D+1) nC zC)) λm=>by rw[zm,iM];omega).trans ?_
  have h5:∀l:List Tm,af (ck (D+1) (e:Int) (smul (-1) l)) (smul (-1) (ck (D+1) (e:Int) l)):=λl m=>by
   rw[iM];have c1:=oh (k:=D+1) h1 h4 (e:Int) m (smul (-1) l);have c2:=oh (k:=D+1) h1 h4 (e:Int) m l;rw[c1,c2]
   split
   ·rw[iM]
   ·simp
  refine(h5 _).trans ((k1.smul (-1)).trans λm=>?_);rw[iM];simp only[cst,aL]
  split<;>omega
 have w2:∀m,aL (lQ (D+1) e V a (dN C')) m≠0->m.get (D+1)<(e:Int):=λm hm=>by
  obtain⟨q,hq⟩:=Kg (k:=D+1) nR2;have:=H2.small (λh=>hm (h m)) hq;have:=hq.1 m hm;omega
 have w1:∀m,aL (aU (D+1) e (zR e V (aP nC zC) (aP nB zB) V)) m≠0->m.get (D+1)<(e:Int):=λm hm=>by
  obtain⟨i,hi,rfl⟩:=YH h1 h4 hm;rw[eQ _ _ _ h1 h4,ai rfl];omega
 have nR1:=kE (D+1) e (zR e V (aP nC zC) (aP nB zB) V);generalize Li (D+1) e V (aU (D+1) nB zB) (aU (D+1) nC zC)=Q1 at*;generalize Li (D+1) e V a (dN C')=Q2 at*;generalize lQ (D+1) e V a (dN C')=R2 at*;generalize lQ (D+1) e V (aU (D+1) nB zB) (aU (D+1) nC zC)=R0 at*;generalize aU (D+1) e (zR e V (aP nC zC) (aP nB zB) V)=R1 at*;generalize aP nC zC e=c at*
 have f1:∀x,c^V*ev x (aU (D+1) nB zB)=ev x Q1*ev x (aU (D+1) nC zC)+ev x R1:=λx=>by
  have hq:=fe x l1;rw[di x (bR (fK h1 h4 Lb) V) nB',jC x (fK h1 h4 Lb),fe x k1,om,di x nQ1 Lb,fe x hR,show ev x (cst c)=c from nK x c]at hq;exact hq
 have f2:∀x,m1 V*c^V*ev x a=ev x Q2*(-(ev x (aU (D+1) nC zC)))+ev x R2:=λx=>by
  have hq:=fe x l2;rw[di x (bR (fK h1 h4 (qP Te)) V) na,jC x (fK h1 h4 (qP Te)),fe x k2,om,di x nQ2 (qP Te),E5 x Te,show ev x (cst (-c))= -c from nK x _,SV, <-fe x hC]at hq;exact hq
 have f3:∀x,α*ev x (aU (D+1) nB zB)=β*ev x a:=λx=>by
  have hq:=fe x hp;rw[di x (mO _) nB',di x (mO _) na,show ev x (cst α)=α from nK x _,show ev x (cst β)=β from nK x _]at hq;exact hq
 have sq:=qd3 V;generalize m1 V=u at*;have nP:NN (smul α Q1++smul (u*β) Q2):=NN.append (OV nQ1) (OV nQ2);have nY:NN (smul (u*β) R2++smul (-α) R1):=NN.append (OV nR2) (OV nR1)
 have hY:=qum h1 h4 nP Lb nY zC0 dC (tY (BO nP Lb) nY λx=>by
  have q1:=f1 x;have q2:=f2 x;have q3:=f3 x;rw[di x nP Lb,om,yS,yS,om,yS,yS];generalize ev x (aU (D+1) nB zB)=B at*;generalize ev x (aU (D+1) nC zC)=C at*;generalize ev x Q1=q at*;generalize ev x Q2=p at*;generalize ev x R1=r at*;generalize ev x R2=s at*;generalize ev x a=y at*;generalize c^V=k at*
  have e1:α*q*C=α*(k*B)-α*r:=by rw[q1];grind
  have e2:u*β*p*C=u*β*s-(u*u)*(k*(β*y)):=by
   have:p* -C=u*k*y-s:=by omega
   grind
  have e3:k*(β*y)=α*(k*B):=by rw[<-q3];grind
  rw[Int.add_mul,e1,e2,sq,Int.one_mul,e3]
  grind) λm hm=>by
   rw[iZ,iM,iM]at hm
   by_cases hr:aL R2 m=0
   ·exact w1 m λh0=>hm (by rw[hr,h0];simp)
   ·exact w2 m hr
 intro m;have h5:=hY m;rw[iZ,iM,iM]at h5;rw[iM,iM];have e0:aL ([]:List Tm) m=0:=rfl;rw[e0,Int.neg_mul]at h5;omega
def GK(J:Nat)(F G:List Tm)(k:Nat):Prop:=∃z,wm J F G z/\bE J z k
def tV(d:Nat)(l s:Int):Int:=if 0<d then((-l)^d).tdiv (s^(d-1))else s
structure AJ(J m n:Nat)(F G:List Tm)(e d:Nat)(A B:Nat->Int)(s dv:Int):Prop where
 pe:1<=e
 en:e<=n
 tA:A (e+d)≠0
 tB:B e≠0
 hA:∀i,e+d<i->A i=0
 hB:∀i,e<i->B i=0
 s0:s≠0
 QC:dv≠0
 rem:af (aU J e (zR e (d+1) B A (d+1))) (smul dv (SJ J (e-1) m n F G))
 st:∃a σ sg α β,uq J m n F G e a σ/\af σ (cst sg)/\tV d (B e) s= -sg/\α≠0/\β≠0/\af (aF (cst α) (aU J (e+1) B)) (aF (cst β) a)
 idx:e=n\/¬af (ck J (e:Int) (SJ J e m n F G)) []
theorem qfl{n:Nat}{A:Nat->Int}(h:∀i,n<=i->A i=0):aP n A=A:=funext λi=>by
 unfold aP
 split
 ·rfl
 ·exact(h i (by omega)).symm
theorem OY{e:Nat}{B:Nat->Int}(h:B e≠0):tz B (e+1)=e+1:=LH (by omega) (by rw[Nat.add_sub_cancel];exact h)
theorem qBI{J e n:Nat}(h1:1<=J)(h4:J<=4){B:Nat->Int}(h:B e≠0):uu J (aU J (e+1) B) n (e+1-n):=by
 have:=qqx (L:=J) h1 h4 (m:=e+1) (n:=n) (f:=B);rw[OY h]at this;exact this
theorem V6(J:Nat)(a:Int):iK J (cst a):=λq hq=>by
 simp only[cst,aL]at hq
 split at hq
 ·rename_i h;rw[<-h];unfold Mo.get Mo.zero;split<;>(try rfl);split<;>(try rfl);split<;>(try rfl);split<;>rfl
 ·exact absurd rfl hq
theorem K6{a:Int}(h:a≠0)(k:Nat):a^k≠0:=by
 induction k with
 |zero=>simp
 |succ k ih=>rw[Int.pow_succ];exact Int.mul_ne_zero ih h
section
variable{J:Nat}(h1:1<=J)(h4:J<=4){F G:List Tm}(nf:NN F)(ng:NN G){m n:Nat}(iP:n<=m)(zf:¬af F [])(zg:¬af G [])(df:bE J F m)(dg:bE J G n)
include h1 h4 nf ng iP zf zg df dg
theorem qj6(hn:n=0\/¬af (ck J ((0:Nat):Int) (SJ J 0 m n F G)) []):GK J F G 0:=by
 obtain⟨z,k,hz,dz,hk,hl,_⟩:=QJ h1 h4 nf ng iP zf zg df dg
 obtain rfl:k=0:=by
  rcases hn with h|h
  ·omega
  ·refine eF λiO=>h (jk (r:=[]) (hl 0 (by omega) (by omega)))
 exact⟨z,hz,dz⟩
variable{e d:Nat}{A B:Nat->Int}{s dv:Int}(S:AJ J m n F G e d A B s dv)
include S
theorem AJ.last(hz:∀i,i<e->zR e (d+1) B A (d+1) i=0):GK J F G e:=by
 obtain⟨a,σ,sg,α,β,ss,_⟩:=S.st
 have hS:af (SJ J (e-1) m n F G) []:=λq=>by
  have h:=S.rem q;rw[iM]at h
  have h0:aL (aU J e (zR e (d+1) B A (d+1))) q=0:=eF λhc=>by
   obtain⟨i,hi,rfl⟩:=YH h1 h4 hc;rw[EY h1 h4]at hc;unfold aP at hc;rw[ai hi]at hc;exact hc (hz i hi)
  rw[h0]at h;exact(Int.mul_eq_zero.1 h.symm).resolve_left S.QC
 obtain⟨z,k,gz,dz,hk,hl,hne⟩:=QJ h1 h4 nf ng iP zf zg df dg
 obtain rfl:k=e:=by
  have xV:=S.en;refine Nat.le_antisymm (eF λhc=>?_) (eF λhc=>hne (by omega) (jk (r:=[]) (ss.fin h1 h4 nf ng hS k (by omega))));rcases S.idx with h|h
  ·omega
  ·exact h (jk (r:=[]) (hl e (by omega) (by omega)))
 exact⟨z,gz,dz⟩
variable{c:Nat}(hc:c<e)(tc:zR e (d+1) B A (d+1) c≠0)(H5:∀i,c<i->i<e->zR e (d+1) B A (d+1) i=0)
def oz(e d:Nat)(A B:Nat->Int)(dv:Int)(i:Nat):Int:=if i<e then(zR e (d+1) B A (d+1) i).tdiv dv else 0
omit nf ng iP zf zg df dg in
theorem AJ.dvs:(∀i,i<e->zR e (d+1) B A (d+1) i=dv*oz e d A B dv i)/\af (aU J e (oz e d A B dv)) (SJ J (e-1) m n F G):=by
 have k1:∀i,i<e->zR e (d+1) B A (d+1) i=dv*aL (SJ J (e-1) m n F G) (xp J (i:Int)):=λi hi=>by
  have h:=S.rem (xp J (i:Int));rw[iM,EY h1 h4]at h;unfold aP at h;rw[ai hi]at h;exact h
 have k2:∀i,i<e->oz e d A B dv i=aL (SJ J (e-1) m n F G) (xp J (i:Int)):=λi hi=>by
  unfold oz;rw[ai hi,k1 i hi,Int.mul_tdiv_cancel_left _ S.QC]
 refine⟨λi hi=>by rw[k2 i hi];exact k1 i hi,λq=>?_⟩;have h:=S.rem q;rw[iM]at h
 by_cases hq:∃i:Nat,i<e/\q=xp J (i:Int)
 ·obtain⟨i,hi,rfl⟩:=hq;rw[EY h1 h4];unfold aP;rw[ai hi];exact k2 i hi
 ·have h0:∀z:Nat->Int,aL (aU J e z) q=0:=λz=>eF λhc=>hq (YH h1 h4 hc);rw[h0]at h⊢;exact((Int.mul_eq_zero.1 h.symm).resolve_left S.QC).symm
include hc tc H5
omit nf ng iP zf zg df dg in
theorem AJ.Qw:oz e d A B dv c≠0/\(∀i,c<i->oz e d A B dv i=0)/\bE J (SJ J (e-1) m n F G) c/\¬af (SJ J (e-1) m n F G) []/\af (aU J (c+1) (oz e d A B dv)) (SJ J (e-1) m n F G):=by
 obtain⟨k1,k2⟩:=S.dvs h1 h4;have a1:oz e d A B dv c≠0:=λh=>tc (by rw[k1 c hc,h,Int.mul_zero])
 have a2:∀i,c<i->oz e d A B dv i=0:=λi hi=>by
  by_cases h:i<e
  ·have:=H5 i hi h;rw[k1 i h]at this;exact(Int.mul_eq_zero.1 this).resolve_left S.QC
  ·unfold oz;exact ah h
 have z1:aP e (oz e d A B dv)=oz e d A B dv:=qfl λi hi=>a2 i (by omega)
 have dC:bE J (aU J e (oz e d A B dv)) c:=qjm h1 h4 (by rw[z1];exact a1) λi hi=>by rw[z1];exact a2 i hi
 have zC:¬af (aU J e (oz e d A B dv)) []:=zV h1 h4 (by rw[z1];exact a1);refine⟨a1,a2,dC.dh k2,λh=>zC (k2.trans h),af.trans ?_ k2⟩;exact(qqQ (by omega) λi h1 h2=>a2 i (by omega))
theorem AJ.const(h0:c=0):GK J F G 0:=by
 obtain⟨_,_,dS,zS,_⟩:=S.Qw h1 h4 hc tc H5;obtain⟨a,σ,sg,α,β,ss,_⟩:=S.st;subst h0;exact qj6 h1 h4 nf ng iP zf zg df dg (.inr (ss.Yx h1 h4 nf ng dS zS))
variable(fF:1<=c)
include fF
omit iP zf zg df dg in
theorem AJ.next:AJ J m n F G c (e-c) B (oz e d A B dv) (tV d (B e) s) (-(B e)*tV d (B e) s^(e-c)):=by
 obtain⟨a1,a2,dS,zS,hC⟩:=S.Qw h1 h4 hc tc H5;obtain⟨a,σ,sg,α,β,ss,hσ,hs,hα,hβ,hp⟩:=S.st;have xV:=S.en;have az:=S.pe;have nS:=iD h1 h4 nf ng (e-1) m n;have nE:=iD h1 h4 nf ng c m n;have nN:=iD h1 h4 nf ng (c-1) m n
 have hlc:af (ck J (c:Int) (SJ J (e-1) m n F G)) (cst (oz e d A B dv c)):=by
  obtain⟨D,rfl⟩:∃D,J=D+1:=⟨J-1,by omega⟩;refine(jk hC).symm.trans ?_;have:=EU (D:=D) h4 (c+1) (oz e d A B dv) c;rw[ai (by omega)]at this;exact this
 have Bp:∀x,α*B e=β*ev x (ck J (e:Int) a):=λx=>by
  obtain⟨D,rfl⟩:∃D,J=D+1:=⟨J-1,by omega⟩;have k1:=EU (D:=D) h4 (e+1) B e;rw[ai (by omega)]at k1;have k2:=jk (k:=D+1) (e:=(e:Int)) hp;have k3:=(AP h1 h4 (c:=cst α) (V6 _ _) (mO α) (e:Int)).symm.trans (k2.trans (AP h1 h4 (c:=cst β) (V6 _ _) (mO β) (e:Int)));have k4:=fe x k3;rw[di x (mO _) (fK h1 h4 (kE _ _ _)),di x (mO _) (fK h1 h4 ss.na),show ev x (cst α)=α from nK x _,show ev x (cst β)=β from nK x _]at k4;have k5:ev x (ck (D+1) (e:Int) (aU (D+1) (e+1) B))=B e:=(fe x k1).trans (nK x _);rw[k5]at k4;exact k4
 have qdD:sg≠0:=λh=>ss.zs (hσ.trans (by rw[h];exact GY));have hsv:∀x,ev x σ=sg:=λx=>(fe x hσ).trans (nK x _);have iJ:∀x,ev x (ck J (c:Int) (SJ J (e-1) m n F G))=oz e d A B dv c:=λx=>(fe x hlc).trans (nK x _);have nlc:NN (ck J (c:Int) (SJ J (e-1) m n F G)):=fK h1 h4 nS;have Eb:=ss.sub h1 h4 nf ng dS zS;have qdd:=ss.qeW h1 h4 nf ng dS zS;have nσ':NN (ck J (c:Int) (SJ J c m n F G)):=fK h1 h4 nE;have Q7:=ss.next h1 h4 nf ng dS zS fF;have hR:=ss.rem h1 h4 nf ng dS zS fF;have fQ:=ss.Yx h1 h4 nf ng dS zS;generalize gW:oz e d A B dv c=cc at*
 have q1:∀x,sg^(e-c-1)*ev x (ck J (c:Int) (SJ J c m n F G))=cc^(e-c):=λx=>by
  have h:=fe x qdd;rw[di x (bR ss.ns _) nσ',jC x ss.ns,jC x nlc,hsv,iJ]at h;exact h
 obtain⟨LD,qng⟩:∃z,z=ev (λ_=>0) (ck J (c:Int) (SJ J c m n F G)):=⟨_,rfl⟩
 have q2:∀x,ev x (ck J (c:Int) (SJ J c m n F G))=LD:=λx=>by
  have h:=(q1 x).trans (q1 λ_=>0).symm;rw[<-qng]at h;exact Int.eq_of_mul_eq_mul_left (K6 qdD _) h
 have q3:sg^(e-c-1)*LD=cc^(e-c):=by rw[qng];exact q1 _
 have hσ':af (ck J (c:Int) (SJ J c m n F G)) (cst LD):=tY nσ' (mO _) λx=>(q2 x).trans (nK x _).symm;obtain⟨k,hk⟩:∃k,e-c=k+1:=⟨e-c-1,by omega⟩
 have ek1:e-c-1=k:=by omega
 rw[ek1]at q3
 have qnc: -sg≠0:=by omega
 refine⟨fF,by omega,?_,?_,?_,?_,?_,?_,?_,?_,.inr fQ⟩
 ·rw[show c+(e-c)=e by omega];exact S.tB
 ·rw[gW];exact a1
 ·rw[show c+(e-c)=e by omega];exact S.hB
 ·exact a2
 ·rw[hs];exact qnc
 ·rw[hs];exact Int.mul_ne_zero (by have:=S.tB;omega) (K6 qnc _)
 ·-- the next remainder
  have sB:uu J (aU J (e+1) B) c (e-c+1):=by
   rw[show e-c+1=e+1-c by omega];exact qBI h1 h4 S.tB
  have sa:uu J a c (e-c+1):=.inr ⟨ss.za,e,ss.da,by omega⟩;have tC:tz (oz e d A B dv) (c+1)=c+1:=OY (by rw[gW];exact a1);have hr:=qpQ h1 h4 ss.na nS hC tC sB sa hp;rw[qfl λi hi=>a2 i (by omega),qfl (n:=e+1) λi hi=>S.hB i (by omega)]at hr;have nR:NN (aU J c (zR c (e-c+1) (oz e d A B dv) B (e-c+1))):=kE _ _ _;rw[hs];refine tY nR (OV nN) λx=>?_;have g1:=fe x hr;have g2:=fe x hR;have nla:NN (ck J (e:Int) a):=fK h1 h4 ss.na;rw[yS,yS,g2,di x (bT (bR ss.ns _) nla) nN,di x (bR ss.ns _) nla,jC x ss.ns,hsv]at g1;have g3:=Bp x;rw[yS];refine Int.eq_of_mul_eq_mul_left hα (g1.trans ?_);rw[show(-sg)^(e-c)=m1 (e-c)*sg^(e-c)from SV sg _]
  have g4:m1 (e-c+1)= -(m1 (e-c)):=by unfold m1;rw[Int.pow_succ];omega
  rw[g4];generalize ev x (SJ J (c-1) m n F G)=y at*;generalize ev x (ck J (e:Int) a)=l at*;generalize sg^(e-c)=p at*;generalize m1 (e-c)=u at*
  have: -u*β*(p*l*y)= -(u*p*y)*(β*l):=by ac_nf;grind
  rw[this, <-g3]
  grind
 ·refine⟨SJ J c m n F G,_,LD,cc^k,sg^k,Q7,hσ',?_,K6 a1 _,K6 qdD _,?_⟩
  ·unfold tV;rw[ai (by omega),gW];show((-cc)^(e-c)).tdiv ((tV d (B e) s)^(e-c-1))= -LD;rw[hs,ek1,SV,SV, <-q3,hk]
   have g4:m1 (k+1)= -(m1 k):=by unfold m1;rw[Int.pow_succ];omega
   have g5:m1 (k+1)*(sg^k*LD)=(m1 k*sg^k)*(-LD):=by rw[g4];grind
   rw[g5];refine Int.mul_tdiv_cancel_left _ (Int.mul_ne_zero (λh=>?_) (K6 qdD _));have:=qd3 k;rw[h]at this;omega
  ·refine tY (BO (mO _) (kE _ _ _)) (BO (mO _) nE) λx=>?_;have g1:=fe x Eb;rw[di x (bR ss.ns _) nE,di x (bR nlc _) nS,jC x ss.ns,jC x nlc,hsv,iJ,ek1]at g1;rw[di x (mO _) (kE _ _ _),di x (mO _) nE,show ev x (cst (cc^k))=cc^k from nK x _,show ev x (cst (sg^k))=sg^k from nK x _,fe x hC];exact g1.symm
end
theorem qu9{J:Nat}(h1:1<=J)(h4:J<=4){c:List Tm}{z:Int}(nc:NN c)(h:af c (cst z))(k:Nat):af (bO c k) (cst (z^k)):=tY (bR nc k) (mO _) λx=>by
 rw[jC x nc,fe x h,show ev x (cst z)=z from nK x _,show ev x (cst (z^k))=z^k from nK x _]
theorem qAp{J:Nat}(h1:1<=J)(h4:J<=4){m n nA nB:Nat}{zA zB:Nat->Int}(tA:tz zA nA=m+1)(tB:tz zB nB=n+1)(hn:1<=n)(iP:n<=m):
 AJ J m n (aU J nA zA) (aU J nB zB) n (m-n) (aP nA zA) (aP nB zB) (-1) ((-1)^(m-n+1)):=by
 obtain⟨d,rfl⟩:∃d,m=n+d:=⟨m-n,by omega⟩;rw[show n+d-n=d by omega];have nF:=kE J nA zA;have nG:=kE J nB zB;obtain⟨a0,a1⟩:=pG tA;obtain⟨b0,b1⟩:=pG tB;obtain⟨hs,ss⟩:=qeU h1 h4 nF nG hn (zV h1 h4 a0) (zV h1 h4 b0) (yQ h1 h4 tA) (yQ h1 h4 tB);have st:=qqx (L:=J) h1 h4 (m:=nA) (n:=n) (f:=zA);rw[tA,show n+d+1-n=d+1 by omega]at st;have hr:=qpQ h1 h4 nF nG (af.refl _) tB st st (α:=1) (β:=1) (af.refl _);have hb:n+1<=nB:=tB ▸ iR zB nB
 have hB:af (aU J (n+1) (aP nB zB)) (aU J nB zB):=by
  refine af.trans ?_ (tB ▸ qe7 (L:=J) (z:=zB) (n:=nB))
  exact tT _ _ _ _ λi hi=>by
   have:aP nB zB i=zB i:=ai (by omega);rw[this];exact af.refl _
 have hlc:af (ck J (n:Int) (aU J nB zB)) (cst (aP nB zB n)):=by
  obtain⟨D,rfl⟩:∃D,J=D+1:=⟨J-1,by omega⟩;exact EU (D:=D) h4 nB zB n
 refine⟨hn,aI _,a0,b0,a1,b1,by decide,K6 (by decide) _,λq=>?_,⟨_,_,aP nB zB n^d,1,1,ss,qu9 h1 h4 (fK h1 h4 nG) hlc d,?_,by decide,by decide,hB.sI (cst 1)⟩,.inl rfl⟩
 ·have h:=hr q;rw[iM,iM,Int.one_mul,Int.mul_one]at h;rw[iM,h,hs q];rfl
 ·unfold tV
  split
  ·obtain⟨k,rfl⟩:∃k,d=k+1:=⟨d-1,by omega⟩;rw[Nat.add_sub_cancel,SV]
   have g4:m1 (k+1)= -(m1 k):=by unfold m1;rw[Int.pow_succ];omega
   rw[g4,show-(m1 k)*aP nB zB n^(k+1)=m1 k* -(aP nB zB n^(k+1)) by rw[Int.neg_mul,Int.mul_neg]];refine Int.mul_tdiv_cancel_left _ λh=>?_;have h2:m1 k=0:=h;have:=qd3 k;rw[h2]at this;omega
  ·rw[show d=0 by omega,Int.pow_zero]
end Go.Proofs.YtmcfpnmoklnhoaaGreat
