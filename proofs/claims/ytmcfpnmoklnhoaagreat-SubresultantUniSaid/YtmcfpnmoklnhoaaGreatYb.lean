/- Yb -/
import Derived.Test.YtmcfpnmoklnhoaaGreatYa
import Derived.Test.YtmcfpnmoklnhoaaGreatWa
import Derived.Test.YtmcfpnmoklnhoaaGreatTf
set_option linter.unusedVariables false
set_option maxRecDepth 100000
set_option maxHeartbeats 400000000
set_option linter.unusedSimpArgs false
namespace Go.Proofs.YtmcfpnmoklnhoaaGreat
open Go.RowKit
theorem qzU(M:Nat->Prop)(x:IE)(p:Int)(gc:Nat)(y:IE)(c:Int)(w:World)(hM:Mb M w)(h:IX M w x p)(hj:JC w gc 0 y)(hy:IX M w y c)(hL:az c.natAbs+az p.natAbs<=1099511627776):
 Calls Tryz.prog 143 #[.agg #[.bool x.b,.slice x.a x.n x.p],.pointer (some ⟨gc,0,none⟩)] w (kI M w (c*p)):=by
 have aQ:Ext w ((w.alloc (.cells #[.bool x.b,.slice x.a x.n x.p] 30)).alloc (.cells zI 30)):=((Ext.refl w).alloc _).alloc _;have bM:=ak.bf (w.alloc (.cells #[.bool x.b,.slice x.a x.n x.p] 30)) zI 30 2 rfl;simp only[World.size_alloc]at bM;have dw:Mb (Mx M w.heap.size (w.heap.size+2)) ((w.alloc (.cells #[.bool x.b,.slice x.a x.n x.p] 30)).alloc (.cells zI 30)):=Mx.mb hM (by simp;omega) (by simp);have hx:=(h.more (M':=Mx M w.heap.size (w.heap.size+2)) (Mx.more (Nat.le_refl _))).ext aQ;have qx:=(hy.more (M':=Mx M w.heap.size (w.heap.size+2)) (Mx.more (Nat.le_refl _))).ext aQ;have je:=(ak.bf w #[.bool x.b,.slice x.a x.n x.p] 30 2 rfl).alloc (.cells zI 30);have hj2:=hj.ext hj.lt aQ;obtain⟨x0,x1⟩:=kY je;have GN:=je.lt;have vG:=hj2.lt;obtain⟨y0,y1⟩:=hj2;generalize hW:(w.alloc (.cells #[.bool x.b,.slice x.a x.n x.p] 30)).alloc (.cells zI 30)=W at*;have CC:=Lib.hid (MG y x c p W dw qx hx hL);have HW:=Lib.hid hW;have HB:=Lib.hid bM;have HE:=Lib.hid aQ;clear hW aQ bM dw hx qx je h hj hy hM hL
 go_enter Tryz.func143,Tryz.ntmps143
 go_upto_region 1 with(fail)
 rw[HW.out];clear HW;go_wp2_with (fail);refine CC.out.mono ?_;rintro e w2 ⟨v,rfl,hv,aA⟩;obtain⟨⟨q0,q1,f0,f1⟩,⟨r0,r1⟩,aZ,dM⟩:=nL (M':=Mx M w.heap.size (w.heap.size+2)) (w:=w) (.bool v.b) (.slice v.a v.n v.p) (HB.out.ext aA) (Mx.at (by omega)) (by omega) (HE.out.trans aA);have HF:Hid (kI M w (c*p) (.returned (.agg #[.bool v.b,.slice v.a v.n v.p])) _):=⟨v,rfl,(hv.kp aZ).more Mx.less,dM⟩;have hlt:=(HB.out.ext aA).lt;simp only[arr]at q0 q1;clear aZ dM hv aA CC HB HE x0 x1 y0 y1;go_wp2;exact bodyPost_ret (v:=.agg #[.bool v.b,.slice v.a v.n v.p]) (by simp[results,Tryz.results143,go_sem,r0,r1]) rfl HF.out
theorem qzW(M:Nat->Prop)(gc:Nat)(y:IE)(c:Int)(A D:Nat)(a:Option Addr)(n cap:Nat)(X:Nat->IE)(z:Nat->Int)(w:World)(hM:Mb M w)(h:bg M w a n cap X z)(hj:JC w gc 0 y)(hy:IX M w y c)(hA:∀i,i<n->az (z i).natAbs<=A)(hD:az c.natAbs<=D)(hN:A+D<=500000000000):
 Calls Tryz.prog 121 #[.slice a n cap,.func (.func 143) #[] #[.pointer (some ⟨gc,0,none⟩)]] w (FE M w n λi=>c*z i):=by
 obtain⟨i0,hi,hz0,hz1,hz2⟩:=info_parts Tryz.Jy;have hn:=h.1;have kP:=h.2.1;have gm:=h.2.2.1;have HU:=Lib.hid h;have Ia:=Lib.hid hj;have KD:=Lib.hid hy;have Y2:=Lib.hid hA;have HM:=Lib.hid hM;clear h hj hy hA;unfold maxLen at gm
 go_enter Tryz.func121,Tryz.ntmps121
 go_wp2_with (first|(refine wpList_make_full _ rfl _ _ _ rfl w.heap.size 30 i0 (.agg #[.bool false,.slice none 0 0]) 2 Tryz.underlying23 hi hz0 hz1 .i64 .i64 _ _ n rfl rfl ?c4 ?c5 ?c2 ?c3 ?c6 ?_))
 case c2=>rw[hz2];omega
 case c3=>unfold maxLen;omega
 case c4=>simp
 case c5=>simp
 case c6=>simp
 intro w1 hown hgrow;have bI:=ak.made hown rfl (by omega);have aL:=Lib.hid (lM hgrow)
 have dP:w.heap.size+1<=w1.heap.size:=by have:=bI.lt;omega
 have vT:Hid (UK (Mx M w.heap.size (w.heap.size+1)) w1 w.heap.size n 0 λi=>c*z i):=UK.fresh bI;clear hown hgrow bI;go_wp2
 go_loopw [13] (λi wr=>∃k:Nat,k<=n/\i=.int .i64 k/\w.heap.size+1<=wr.heap.size/\Hid (UK (Mx M w.heap.size (w.heap.size+1)) wr w.heap.size n k λi=>c*z i)/\Hid (Ext w wr)) (λi _=>n-(intOf i).toNat)
 case atStart=>exact⟨0,Nat.zero_le _,rfl,dP,vT,aL⟩
 case round=>
  clear vT aL dP;obtain⟨k,hk,rfl,hsz,HK,bL⟩:=hrel
  by_cases hlt:k<n
  ·obtain⟨b,off,Ah,hb,Ma,x0,x1,hv⟩:=HU.out.2.2.2.2 k hlt;subst Ah;rw[<-bL.out.cell hb]at x0 x1
   have iH:b<wr.heap.size:=by omega
   have aN:Ext wr (wr.alloc (.cells #[.bool (X k).b,.slice (X k).a (X k).n (X k).p] 30)):=(Ext.refl wr).alloc _;have F8:dB (Mx M w.heap.size (w.heap.size+1)) (wr.alloc (.cells #[.bool (X k).b,.slice (X k).a (X k).n (X k).p] 30)) _ _ (z k):=((hv.more (Mx.more (Nat.le_refl _))).ext bL.out).ext aN;have jf:Mb (Mx M w.heap.size (w.heap.size+1)) (wr.alloc (.cells #[.bool (X k).b,.slice (X k).a (X k).n (X k).p] 30)):=Mx.mb HM.out (by simp;omega) (by simp;omega);have aO:=Lib.hid (qzU (Mx M w.heap.size (w.heap.size+1)) (X k) (z k) gc y c _ jf F8 ((Ia.out.ext Ia.out.lt bL.out).ext (Ia.out.ext Ia.out.lt bL.out).lt aN) (((KD.out.more (Mx.more (Nat.le_refl _))).ext bL.out).ext aN) (by have:=Y2.out k hlt;omega));have dW:=Lib.hid aN;clear hv F8 jf aN;go_wp2_with (fail);refine(aO.out).mono ?_;rintro e w4 ⟨⟨b2,a2,n2,p2⟩,rfl,hc,aW⟩;have aR:=dW.out.trans aW;have eF:=HK.out.ext aR;obtain⟨⟨_,k0⟩,⟨_,k1⟩,aV,l5⟩:=eF.at hlt;have fB:=aV (k*2);have fo:=aV (k*2+1);have lJ:Hid (UK (Mx M w.heap.size (w.heap.size+1)) (bK w4 w.heap.size (k*2) (.bool b2) (.slice a2 n2 p2)) w.heap.size n (k+1) λi=>c*z i):=eF.set (Mx.at (by omega)) hc;have eD:Hid (Ext w (bK w4 w.heap.size (k*2) (.bool b2) (.slice a2 n2 p2))):=(bL.out.trans aR).bK (by omega) _ _ _
   have p8:Hid (w.heap.size+1<=(bK w4 w.heap.size (k*2) (.bool b2) (.slice a2 n2 p2)).heap.size):=by show _<=_;rw[Aw];have:=aR.size;omega
   clear eF aV hc aW aR x0 x1;go_wp2
   go_roundw
   case rel=>exact⟨k+1,by omega,by go_num,p8.out,lJ,eD⟩
   case measure=>simp[intOf];omega
  ·have hkn:k=n:=by omega
   subst hkn;have HF:Hid (FE M w k (λi=>c*z i) (.returned (.slice (some ⟨w.heap.size,0,none⟩) k k)) wr):=⟨_,rfl,Nat.le_refl _,HK.out.more (λg hg=>.inl (hg.imp id λh=>by omega)),bL.out⟩;go_wp2;go_ret;exact HF.out
def qgC(M:Nat->Prop)(w:World)(n:Nat)(z:Nat->Int)(e:Ending)(w':World):Prop:=∃a cp X,e=.returned (.slice a n cp)/\bg M w' a n cp X z/\Ext w w'
theorem qzT(M:Nat->Prop)(a:Option Addr)(n cap:Nat)(X:Nat->IE)(z:Nat->Int)(y:IE)(c:Int)(A D:Nat)(w:World)(hM:Mb M w)(h:bg M w a n cap X z)(hy:IX M w y c)(hA:∀i,i<n->az (z i).natAbs<=A)(hD:az c.natAbs<=D)(hN:A+D<=500000000000):
 Calls Tryz.prog 90 #[.slice a n cap,.agg #[.bool y.b,.slice y.a y.n y.p]] w (qgC M w (tz (λi=>c*z i) n) λi=>c*z i):=by
 have aN:=(Ext.refl w).alloc (.cells #[.bool y.b,.slice y.a y.n y.p] 30);have bH:=ak.bf w #[.bool y.b,.slice y.a y.n y.p] 30 2 rfl;have hL:=h.1;obtain⟨gc,sP⟩:∃gc,gc=w.heap.size:=⟨_,rfl⟩;rw[<-sP]at bH;obtain⟨W1,hW1⟩:∃W1,w.alloc (.cells #[.bool y.b,.slice y.a y.n y.p] 30)=W1:=⟨_,rfl⟩;rw[hW1]at aN bH;have Fz:=Lib.hid hW1;have sD:=Lib.hid sP;have aL:=Lib.hid aN;have HM:=Lib.hid hM;have CT:=Lib.hid (qzW M gc y c A D a n cap X z W1 (hM.ext aN) (h.ext aN) (kY bH) (hy.ext aN) hA hD hN);have hle:=jr (λi=>c*z i) n;clear hW1 aN bH sP h hy hM hA
 go_enter Tryz.func90,Tryz.ntmps90
 go_upto_region 1 with(fail)
 rw[Fz.out, <-sD.out];clear Fz;go_wp2_with (fail);refine CT.out.mono ?_;rintro e w2 ⟨gq,rfl,zT,hk,aA⟩;obtain⟨X',Ee⟩:=hk.row (M':=M) (λg h=>.inl (.inl h)) (HM.out.new (Nat.le_trans aL.out.size zT)) hL;have HX:=Lib.hid Ee;have aU:=Lib.hid (aL.out.trans aA);clear hk aA zT CT Ee sD aL;go_wp2_with (fail);refine(JZ M _ n n X' _ w2 HX.out).mono ?_;rintro e w3 ⟨rfl,aT⟩;have HF:Hid (qgC M w (tz (λi=>c*z i) n) (λi=>c*z i) (.returned (.slice (some ⟨gq,0,none⟩) (tz (λi=>c*z i) n) n)) w3):=⟨_,n,X',rfl,(HX.out.ext aT).cut hle,aU.out.trans aT⟩;clear aT HX aU;go_wp2;go_ret;exact HF.out
theorem qoA{c:Int}(hc:c≠0)(z:Nat->Int):∀n,tz (λi=>c*z i) n=tz z n
 |0=>rfl
 |n+1=>by
  unfold tz;rw[qoA hc z n]
  by_cases h:z n=0
  ·rw[if_pos h,if_pos (by rw[h,Int.mul_zero])]
  ·rw[if_neg h,if_neg (λh2=>(Int.mul_eq_zero.1 h2).elim hc h)]
theorem qr5{L n:Nat}(h1:1<=L)(h4:L<=4){P C Y:List Tm}(nP:NN P)(nC:NN C)(nY:NN Y)(zC:¬ae C [])(dC:bD L C n)(h:ae (ai P C) Y)(hY:∀m,aB Y m≠0->m.get L<(n:Int)):ae Y []:=by
 refine Classical.byContradiction λhz=>?_;have zP:¬ae P []:=λh0=>hz (h.symm.trans (h0.mY C));obtain⟨a,ha⟩:=Ld (k:=L) nP;have hd:=(Uf h1 h4 nP nC zP zC ha dC).bZ h;rcases hd.2 with h0|⟨m,hm,e⟩
 ·obtain⟨m,hm⟩:=Classical.not_forall.1 hz;have h5:=hY m hm
  have jm:m.nn=true:=by
   cases hq:m.nn with
   |true=>rfl
   |false=>exact absurd (nY m hq) hm
  have:=vL jm L;omega
 ·have:=hY m hm;omega
theorem Ww{L n:Nat}(h1:1<=L)(h4:L<=4){z:Nat->Int}{m:Mo}(hm:aB (aP L n z) m≠0):∃i:Nat,i<n/\m=xp L (i:Int):=by
 obtain⟨t,ht,rfl⟩:=qg8 hm;obtain⟨i,hi,s,hs,rfl⟩:=EN ht;simp only[List.mem_singleton]at hs;subst hs;exact⟨i,hi,Mo.qdL _⟩
def m1(V:Nat):Int:=(-1)^V
theorem qcI(V:Nat):m1 V*m1 V=1:=by
 unfold m1;rw[<-Int.mul_pow,show(-1:Int)* -1=1 by omega,Int.one_pow]
theorem QQ(c:Int)(V:Nat):(-c)^V=m1 V*c^V:=by
 unfold m1;rw[<-Int.mul_pow,Int.neg_one_mul]
theorem qnN{J e V nB nC:Nat}(h1:1<=J)(h4:J<=4){zB zC:Nat->Int}{a C':List Tm}{α β:Int}(na:NN a)(QU:NN C')(hC:ae (aP J nC zC) C')(tC:tz zC nC=e+1)(sB:rF J (aP J nB zB) e V)(sa:rF J a e V)
 (hp:ae (ai (cst α) (aP J nB zB)) (ai (cst β) a)):ae (smul α (aP J e (zR e V (aM nC zC) (aM nB zB) V))) (smul (m1 V*β) (kg J e V a (di C'))):=by
 obtain⟨D,rfl⟩:∃D,J=D+1:=⟨J-1,by omega⟩;have nB':=pM (D+1) nB zB;have JG:=pM (D+1) nC zC;obtain⟨t0,t1⟩:=Ay tC;have dC:=BH h1 h4 tC;have zC0:¬ae (aP (D+1) nC zC) []:=CX h1 h4 t0
 have wH:∀m,aB (di C') m= -aB (aP (D+1) nC zC) m:=λm=>by rw[qA,hC m]
 have dCn:bD (D+1) (di C') e:=⟨λm hm=>dC.1 m λh=>hm (by rw[wH,h];rfl),dC.2.imp id λ⟨m,hm,h⟩=>⟨m,λh0=>hm (by rw[wH]at h0;omega),h⟩⟩;obtain⟨B1,bM⟩:=BC (aP (D+1) nB zB);obtain⟨B2,cZ⟩:=BC (aP (D+1) nC zC);obtain⟨B3,jK⟩:=BC a;obtain⟨B4,kv⟩:=BC (di C');have H1:kX (D+1) e V B1 B2 _ _ (aP (D+1) nB zB) (aP (D+1) nC zC):=⟨h1,h4,nB',JG,bM,cZ,Nat.le_refl _,Nat.le_refl _,dC,sB⟩;have H2:kX (D+1) e V B3 B4 _ _ a (di C'):=⟨h1,h4,na,qB QU,jK,kv,Nat.le_refl _,Nat.le_refl _,dCn,sa⟩;have hR:=qyi h4 e V nB nC zB zC;have nQ1:=H1.qdi;have nQ2:=H2.qdi;have nR2:=H2.qdj;have l1:=H1.law;have l2:=H2.law;have k1:ae (ck (D+1) (e:Int) (aP (D+1) nC zC)) (cst (aM nC zC e)):=K8 h4 nC zC e
 have k2:ae (ck (D+1) (e:Int) (di C')) (cst (-(aM nC zC e))):=by
  refine(gV (r:=smul (-1) (aP (D+1) nC zC)) λm=>by rw[wH,iD];omega).trans ?_
  have h5:∀l:List Tm,ae (ck (D+1) (e:Int) (smul (-1) l)) (smul (-1) (ck (D+1) (e:Int) l)):=λl m=>by
   rw[iD];have c1:=mE (k:=D+1) h1 h4 (e:Int) m (smul (-1) l);have c2:=mE (k:=D+1) h1 h4 (e:Int) m l;rw[c1,c2]
   split
   ·rw[iD]
   ·simp
  refine(h5 _).trans ((k1.smul (-1)).trans λm=>?_);rw[iD];simp only[cst,aB]
  split<;>omega
 have w2:∀m,aB (kg (D+1) e V a (di C')) m≠0->m.get (D+1)<(e:Int):=λm hm=>by
  obtain⟨q,hq⟩:=Ld (k:=D+1) nR2;have:=H2.small (λh=>hm (h m)) hq;have:=hq.1 m hm;omega
 have w1:∀m,aB (aP (D+1) e (zR e V (aM nC zC) (aM nB zB) V)) m≠0->m.get (D+1)<(e:Int):=λm hm=>by
  obtain⟨i,hi,rfl⟩:=Ww h1 h4 hm;rw[dX _ _ _ h1 h4,if_pos rfl];omega
 have nR1:=pM (D+1) e (zR e V (aM nC zC) (aM nB zB) V);generalize G6 (D+1) e V (aP (D+1) nB zB) (aP (D+1) nC zC)=Q1 at*;generalize G6 (D+1) e V a (di C')=Q2 at*;generalize kg (D+1) e V a (di C')=R2 at*;generalize kg (D+1) e V (aP (D+1) nB zB) (aP (D+1) nC zC)=R0 at*;generalize aP (D+1) e (zR e V (aM nC zC) (aM nB zB) V)=R1 at*;generalize aM nC zC e=c at*
 have f1:∀x,c^V*ev x (aP (D+1) nB zB)=ev x Q1*ev x (aP (D+1) nC zC)+ev x R1:=λx=>by
  have hq:=eT x l1;rw[bQ x (bC (eQ h1 h4 JG) V) nB',iY x (eQ h1 h4 JG),eT x k1,lW,bQ x nQ1 JG,eT x hR,show ev x (cst c)=c from qm x c]at hq;exact hq
 have f2:∀x,m1 V*c^V*ev x a=ev x Q2*(-(ev x (aP (D+1) nC zC)))+ev x R2:=λx=>by
  have hq:=eT x l2;rw[bQ x (bC (eQ h1 h4 (qB QU)) V) na,iY x (eQ h1 h4 (qB QU)),eT x k2,lW,bQ x nQ2 (qB QU),FQ x QU,show ev x (cst (-c))= -c from qm x _,QQ, <-eT x hC]at hq;exact hq
 have f3:∀x,α*ev x (aP (D+1) nB zB)=β*ev x a:=λx=>by
  have hq:=eT x hp;rw[bQ x (pK _) nB',bQ x (pK _) na,show ev x (cst α)=α from qm x _,show ev x (cst β)=β from qm x _]at hq;exact hq
 have sq:=qcI V;generalize m1 V=u at*;have nP:NN (smul α Q1++smul (u*β) Q2):=NN.append (MZ nQ1) (MZ nQ2);have nY:NN (smul (u*β) R2++smul (-α) R1):=NN.append (MZ nR2) (MZ nR1)
 have hY:=qr5 h1 h4 nP JG nY zC0 dC (vM (Ar nP JG) nY λx=>by
  have q1:=f1 x;have q2:=f2 x;have q3:=f3 x;rw[bQ x nP JG,lW,ze,ze,lW,ze,ze];generalize ev x (aP (D+1) nB zB)=B at*;generalize ev x (aP (D+1) nC zC)=C at*;generalize ev x Q1=q at*;generalize ev x Q2=p at*;generalize ev x R1=r at*;generalize ev x R2=s at*;generalize ev x a=y at*;generalize c^V=k at*
  have e1:α*q*C=α*(k*B)-α*r:=by rw[q1];grind
  have e2:u*β*p*C=u*β*s-(u*u)*(k*(β*y)):=by
   have:p* -C=u*k*y-s:=by omega
   grind
  have e3:k*(β*y)=α*(k*B):=by rw[<-q3];grind
  rw[Int.add_mul,e1,e2,sq,Int.one_mul,e3]
  grind) λm hm=>by
   rw[gW,iD,iD]at hm
   by_cases hr:aB R2 m=0
   ·exact w1 m λh0=>hm (by rw[hr,h0];simp)
   ·exact w2 m hr
 intro m;have h5:=hY m;rw[gW,iD,iD]at h5;rw[iD,iD];have e0:aB ([]:List Tm) m=0:=rfl;rw[e0,Int.neg_mul]at h5;omega
def GK(J:Nat)(F G:List Tm)(k:Nat):Prop:=∃z,vP J F G z/\bD J z k
def rX(d:Nat)(l s:Int):Int:=if 0<d then((-l)^d).tdiv (s^(d-1))else s
structure yY(J m n:Nat)(F G:List Tm)(e d:Nat)(A B:Nat->Int)(s dv:Int):Prop where
 pe:1<=e
 en:e<=n
 tA:A (e+d)≠0
 tB:B e≠0
 hA:∀i,e+d<i->A i=0
 hB:∀i,e<i->B i=0
 s0:s≠0
 OO:dv≠0
 rem:ae (aP J e (zR e (d+1) B A (d+1))) (smul dv (SJ J (e-1) m n F G))
 st:∃a σ sg α β,sI J m n F G e a σ/\ae σ (cst sg)/\rX d (B e) s= -sg/\α≠0/\β≠0/\ae (ai (cst α) (aP J (e+1) B)) (ai (cst β) a)
 idx:e=n\/¬ae (ck J (e:Int) (SJ J e m n F G)) []
theorem qdN{n:Nat}{A:Nat->Int}(h:∀i,n<=i->A i=0):aM n A=A:=funext λi=>by
 unfold aM
 split
 ·rfl
 ·exact(h i (by omega)).symm
theorem M8{e:Nat}{B:Nat->Int}(h:B e≠0):tz B (e+1)=e+1:=Ro (by omega) (by rw[Nat.add_sub_cancel];exact h)
theorem qzf{J e n:Nat}(h1:1<=J)(h4:J<=4){B:Nat->Int}(h:B e≠0):rF J (aP J (e+1) B) n (e+1-n):=by
 have:=qom (L:=J) h1 h4 (m:=e+1) (n:=n) (f:=B);rw[M8 h]at this;exact this
theorem Un(J:Nat)(a:Int):gK J (cst a):=λq hq=>by
 simp only[cst,aB]at hq
 split at hq
 ·rename_i h;rw[<-h];unfold Mo.get Mo.zero;split<;>(try rfl);split<;>(try rfl);split<;>(try rfl);split<;>rfl
 ·exact absurd rfl hq
theorem JA{a:Int}(h:a≠0)(k:Nat):a^k≠0:=by
 induction k with
 |zero=>simp
 |succ k ih=>rw[Int.pow_succ];exact Int.mul_ne_zero ih h
section
variable{J:Nat}(h1:1<=J)(h4:J<=4){F G:List Tm}(nf:NN F)(ng:NN G){m n:Nat}(gY:n<=m)(zf:¬ae F [])(zg:¬ae G [])(df:bD J F m)(dg:bD J G n)
include h1 h4 nf ng gY zf zg df dg
theorem qie(hn:n=0\/¬ae (ck J ((0:Nat):Int) (SJ J 0 m n F G)) []):GK J F G 0:=by
 obtain⟨z,k,hz,dz,hk,hl,_⟩:=Uo h1 h4 nf ng gY zf zg df dg
 obtain rfl:k=0:=by
  rcases hn with h|h
  ·omega
  ·refine Classical.byContradiction λfJ=>h (gV (r:=[]) (hl 0 (by omega) (by omega)))
 exact⟨z,hz,dz⟩
variable{e d:Nat}{A B:Nat->Int}{s dv:Int}(S:yY J m n F G e d A B s dv)
include S
theorem yY.last(hz:∀i,i<e->zR e (d+1) B A (d+1) i=0):GK J F G e:=by
 obtain⟨a,σ,sg,α,β,ss,_⟩:=S.st
 have hS:ae (SJ J (e-1) m n F G) []:=λq=>by
  have h:=S.rem q;rw[iD]at h
  have h0:aB (aP J e (zR e (d+1) B A (d+1))) q=0:=Classical.byContradiction λhc=>by
   obtain⟨i,hi,rfl⟩:=Ww h1 h4 hc;rw[DX h1 h4]at hc;unfold aM at hc;rw[if_pos hi]at hc;exact hc (hz i hi)
  rw[h0]at h;exact(Int.mul_eq_zero.1 h.symm).resolve_left S.OO
 obtain⟨z,k,gz,dz,hk,hl,hne⟩:=Uo h1 h4 nf ng gY zf zg df dg
 obtain rfl:k=e:=by
  have wL:=S.en;refine Nat.le_antisymm (Classical.byContradiction λhc=>?_) (Classical.byContradiction λhc=>hne (by omega) (gV (r:=[]) (ss.fin h1 h4 nf ng hS k (by omega))));rcases S.idx with h|h
  ·omega
  ·exact h (gV (r:=[]) (hl e (by omega) (by omega)))
 exact⟨z,gz,dz⟩
variable{c:Nat}(hc:c<e)(tc:zR e (d+1) B A (d+1) c≠0)(Gd:∀i,c<i->i<e->zR e (d+1) B A (d+1) i=0)
def l8(e d:Nat)(A B:Nat->Int)(dv:Int)(i:Nat):Int:=if i<e then(zR e (d+1) B A (d+1) i).tdiv dv else 0
omit nf ng gY zf zg df dg in
theorem yY.dvs:(∀i,i<e->zR e (d+1) B A (d+1) i=dv*l8 e d A B dv i)/\ae (aP J e (l8 e d A B dv)) (SJ J (e-1) m n F G):=by
 have k1:∀i,i<e->zR e (d+1) B A (d+1) i=dv*aB (SJ J (e-1) m n F G) (xp J (i:Int)):=λi hi=>by
  have h:=S.rem (xp J (i:Int));rw[iD,DX h1 h4]at h;unfold aM at h;rw[if_pos hi]at h;exact h
 have k2:∀i,i<e->l8 e d A B dv i=aB (SJ J (e-1) m n F G) (xp J (i:Int)):=λi hi=>by
  unfold l8;rw[if_pos hi,k1 i hi,Int.mul_tdiv_cancel_left _ S.OO]
 refine⟨λi hi=>by rw[k2 i hi];exact k1 i hi,λq=>?_⟩;have h:=S.rem q;rw[iD]at h
 by_cases hq:∃i:Nat,i<e/\q=xp J (i:Int)
 ·obtain⟨i,hi,rfl⟩:=hq;rw[DX h1 h4];unfold aM;rw[if_pos hi];exact k2 i hi
 ·have h0:∀z:Nat->Int,aB (aP J e z) q=0:=λz=>Classical.byContradiction λhc=>hq (Ww h1 h4 hc);rw[h0]at h⊢;exact((Int.mul_eq_zero.1 h.symm).resolve_left S.OO).symm
include hc tc Gd
omit nf ng gY zf zg df dg in
theorem yY.Lc:l8 e d A B dv c≠0/\(∀i,c<i->l8 e d A B dv i=0)/\bD J (SJ J (e-1) m n F G) c/\¬ae (SJ J (e-1) m n F G) []/\ae (aP J (c+1) (l8 e d A B dv)) (SJ J (e-1) m n F G):=by
 obtain⟨k1,k2⟩:=S.dvs h1 h4;have a1:l8 e d A B dv c≠0:=λh=>tc (by rw[k1 c hc,h,Int.mul_zero])
 have a2:∀i,c<i->l8 e d A B dv i=0:=λi hi=>by
  by_cases h:i<e
  ·have:=Gd i hi h;rw[k1 i h]at this;exact(Int.mul_eq_zero.1 this).resolve_left S.OO
  ·unfold l8;exact if_neg h
 have z1:aM e (l8 e d A B dv)=l8 e d A B dv:=qdN λi hi=>a2 i (by omega)
 have dC:bD J (aP J e (l8 e d A B dv)) c:=qhw h1 h4 (by rw[z1];exact a1) λi hi=>by rw[z1];exact a2 i hi
 have zC:¬ae (aP J e (l8 e d A B dv)) []:=CX h1 h4 (by rw[z1];exact a1);refine⟨a1,a2,dC.bZ k2,λh=>zC (k2.trans h),ae.trans ?_ k2⟩;exact(qoD (by omega) λi h1 h2=>a2 i (by omega))
theorem yY.const(h0:c=0):GK J F G 0:=by
 obtain⟨_,_,dS,zS,_⟩:=S.Lc h1 h4 hc tc Gd;obtain⟨a,σ,sg,α,β,ss,_⟩:=S.st;subst h0;exact qie h1 h4 nf ng gY zf zg df dg (.inr (ss.Wj h1 h4 nf ng dS zS))
variable(dR:1<=c)
include dR
omit gY zf zg df dg in
theorem yY.next:yY J m n F G c (e-c) B (l8 e d A B dv) (rX d (B e) s) (-(B e)*rX d (B e) s^(e-c)):=by
 obtain⟨a1,a2,dS,zS,hC⟩:=S.Lc h1 h4 hc tc Gd;obtain⟨a,σ,sg,α,β,ss,hσ,hs,hα,hβ,hp⟩:=S.st;have wL:=S.en;have af:=S.pe;have nS:=gZ h1 h4 nf ng (e-1) m n;have nE:=gZ h1 h4 nf ng c m n;have nN:=gZ h1 h4 nf ng (c-1) m n
 have hlc:ae (ck J (c:Int) (SJ J (e-1) m n F G)) (cst (l8 e d A B dv c)):=by
  obtain⟨D,rfl⟩:∃D,J=D+1:=⟨J-1,by omega⟩;refine(gV hC).symm.trans ?_;have:=K8 (D:=D) h4 (c+1) (l8 e d A B dv) c;rw[if_pos (by omega)]at this;exact this
 have zV:∀x,α*B e=β*ev x (ck J (e:Int) a):=λx=>by
  obtain⟨D,rfl⟩:∃D,J=D+1:=⟨J-1,by omega⟩;have k1:=K8 (D:=D) h4 (e+1) B e;rw[if_pos (by omega)]at k1;have k2:=gV (k:=D+1) (e:=(e:Int)) hp;have k3:=(y8 h1 h4 (c:=cst α) (Un _ _) (pK α) (e:Int)).symm.trans (k2.trans (y8 h1 h4 (c:=cst β) (Un _ _) (pK β) (e:Int)));have k4:=eT x k3;rw[bQ x (pK _) (eQ h1 h4 (pM _ _ _)),bQ x (pK _) (eQ h1 h4 ss.na),show ev x (cst α)=α from qm x _,show ev x (cst β)=β from qm x _]at k4;have k5:ev x (ck (D+1) (e:Int) (aP (D+1) (e+1) B))=B e:=(eT x k1).trans (qm x _);rw[k5]at k4;exact k4
 have qci:sg≠0:=λh=>ss.zs (hσ.trans (by rw[h];exact Z9));have hsv:∀x,ev x σ=sg:=λx=>(eT x hσ).trans (qm x _);have gI:∀x,ev x (ck J (c:Int) (SJ J (e-1) m n F G))=l8 e d A B dv c:=λx=>(eT x hlc).trans (qm x _);have nlc:NN (ck J (c:Int) (SJ J (e-1) m n F G)):=eQ h1 h4 nS;have Cq:=ss.sub h1 h4 nf ng dS zS;have quL:=ss.qdv h1 h4 nf ng dS zS;have nσ':NN (ck J (c:Int) (SJ J c m n F G)):=eQ h1 h4 nE;have Pn:=ss.next h1 h4 nf ng dS zS dR;have hR:=ss.rem h1 h4 nf ng dS zS dR;have fF:=ss.Wj h1 h4 nf ng dS zS;generalize fD:l8 e d A B dv c=cc at*
 have q1:∀x,sg^(e-c-1)*ev x (ck J (c:Int) (SJ J c m n F G))=cc^(e-c):=λx=>by
  have h:=eT x quL;rw[bQ x (bC ss.ns _) nσ',iY x ss.ns,iY x nlc,hsv,gI]at h;exact h
 obtain⟨JX,qll⟩:∃z,z=ev (λ_=>0) (ck J (c:Int) (SJ J c m n F G)):=⟨_,rfl⟩
 have q2:∀x,ev x (ck J (c:Int) (SJ J c m n F G))=JX:=λx=>by
  have h:=(q1 x).trans (q1 λ_=>0).symm;rw[<-qll]at h;exact Int.eq_of_mul_eq_mul_left (JA qci _) h
 have q3:sg^(e-c-1)*JX=cc^(e-c):=by rw[qll];exact q1 _
 have hσ':ae (ck J (c:Int) (SJ J c m n F G)) (cst JX):=vM nσ' (pK _) λx=>(q2 x).trans (qm x _).symm;obtain⟨k,hk⟩:∃k,e-c=k+1:=⟨e-c-1,by omega⟩
 have ek1:e-c-1=k:=by omega
 rw[ek1]at q3
 have qli: -sg≠0:=by omega
 refine⟨dR,by omega,?_,?_,?_,?_,?_,?_,?_,?_,.inr fF⟩
 ·rw[show c+(e-c)=e by omega];exact S.tB
 ·rw[fD];exact a1
 ·rw[show c+(e-c)=e by omega];exact S.hB
 ·exact a2
 ·rw[hs];exact qli
 ·rw[hs];exact Int.mul_ne_zero (by have:=S.tB;omega) (JA qli _)
 ·-- the next remainder
  have sB:rF J (aP J (e+1) B) c (e-c+1):=by
   rw[show e-c+1=e+1-c by omega];exact qzf h1 h4 S.tB
  have sa:rF J a c (e-c+1):=.inr ⟨ss.za,e,ss.da,by omega⟩;have tC:tz (l8 e d A B dv) (c+1)=c+1:=M8 (by rw[fD];exact a1);have hr:=qnN h1 h4 ss.na nS hC tC sB sa hp;rw[qdN λi hi=>a2 i (by omega),qdN (n:=e+1) λi hi=>S.hB i (by omega)]at hr;have nR:NN (aP J c (zR c (e-c+1) (l8 e d A B dv) B (e-c+1))):=pM _ _ _;rw[hs];refine vM nR (MZ nN) λx=>?_;have g1:=eT x hr;have g2:=eT x hR;have nla:NN (ck J (e:Int) a):=eQ h1 h4 ss.na;rw[ze,ze,g2,bQ x (bE (bC ss.ns _) nla) nN,bQ x (bC ss.ns _) nla,iY x ss.ns,hsv]at g1;have g3:=zV x;rw[ze];refine Int.eq_of_mul_eq_mul_left hα (g1.trans ?_);rw[show(-sg)^(e-c)=m1 (e-c)*sg^(e-c)from QQ sg _]
  have g4:m1 (e-c+1)= -(m1 (e-c)):=by unfold m1;rw[Int.pow_succ];omega
  rw[g4];generalize ev x (SJ J (c-1) m n F G)=y at*;generalize ev x (ck J (e:Int) a)=l at*;generalize sg^(e-c)=p at*;generalize m1 (e-c)=u at*
  have: -u*β*(p*l*y)= -(u*p*y)*(β*l):=by ac_nf;grind
  rw[this, <-g3]
  grind
 ·refine⟨SJ J c m n F G,_,JX,cc^k,sg^k,Pn,hσ',?_,JA a1 _,JA qci _,?_⟩
  ·unfold rX;rw[if_pos (by omega),fD];show((-cc)^(e-c)).tdiv ((rX d (B e) s)^(e-c-1))= -JX;rw[hs,ek1,QQ,QQ, <-q3,hk]
   have g4:m1 (k+1)= -(m1 k):=by unfold m1;rw[Int.pow_succ];omega
   have g5:m1 (k+1)*(sg^k*JX)=(m1 k*sg^k)*(-JX):=by rw[g4];grind
   rw[g5];refine Int.mul_tdiv_cancel_left _ (Int.mul_ne_zero (λh=>?_) (JA qci _));have:=qcI k;rw[h]at this;omega
  ·refine vM (Ar (pK _) (pM _ _ _)) (Ar (pK _) nE) λx=>?_;have g1:=eT x Cq;rw[bQ x (bC ss.ns _) nE,bQ x (bC nlc _) nS,iY x ss.ns,iY x nlc,hsv,gI,ek1]at g1;rw[bQ x (pK _) (pM _ _ _),bQ x (pK _) nE,show ev x (cst (cc^k))=cc^k from qm x _,show ev x (cst (sg^k))=sg^k from qm x _,eT x hC];exact g1.symm
end
theorem qsJ{J:Nat}(h1:1<=J)(h4:J<=4){c:List Tm}{z:Int}(nc:NN c)(h:ae c (cst z))(k:Nat):ae (bA c k) (cst (z^k)):=vM (bC nc k) (pK _) λx=>by
 rw[iY x nc,eT x h,show ev x (cst z)=z from qm x _,show ev x (cst (z^k))=z^k from qm x _]
theorem qxR{J:Nat}(h1:1<=J)(h4:J<=4){m n nA nB:Nat}{zA zB:Nat->Int}(tA:tz zA nA=m+1)(tB:tz zB nB=n+1)(hn:1<=n)(gY:n<=m):
 yY J m n (aP J nA zA) (aP J nB zB) n (m-n) (aM nA zA) (aM nB zB) (-1) ((-1)^(m-n+1)):=by
 obtain⟨d,rfl⟩:∃d,m=n+d:=⟨m-n,by omega⟩;rw[show n+d-n=d by omega];have nF:=pM J nA zA;have nG:=pM J nB zB;obtain⟨a0,a1⟩:=Ay tA;obtain⟨b0,b1⟩:=Ay tB;obtain⟨hs,ss⟩:=qdu h1 h4 nF nG hn (CX h1 h4 a0) (CX h1 h4 b0) (BH h1 h4 tA) (BH h1 h4 tB);have st:=qom (L:=J) h1 h4 (m:=nA) (n:=n) (f:=zA);rw[tA,show n+d+1-n=d+1 by omega]at st;have hr:=qnN h1 h4 nF nG (ae.refl _) tB st st (α:=1) (β:=1) (ae.refl _);have hb:n+1<=nB:=tB ▸ jr zB nB
 have hB:ae (aP J (n+1) (aM nB zB)) (aP J nB zB):=by
  refine ae.trans ?_ (tB ▸ qdD (L:=J) (z:=zB) (n:=nB))
  exact sZ _ _ _ _ λi hi=>by
   have:aM nB zB i=zB i:=if_pos (by omega);rw[this];exact ae.refl _
 have hlc:ae (ck J (n:Int) (aP J nB zB)) (cst (aM nB zB n)):=by
  obtain⟨D,rfl⟩:∃D,J=D+1:=⟨J-1,by omega⟩;exact K8 (D:=D) h4 nB zB n
 refine⟨hn,Nat.le_refl _,a0,b0,a1,b1,by decide,JA (by decide) _,λq=>?_,⟨_,_,aM nB zB n^d,1,1,ss,qsJ h1 h4 (eQ h1 h4 nG) hlc d,?_,by decide,by decide,hB.rf (cst 1)⟩,.inl rfl⟩
 ·have h:=hr q;rw[iD,iD,Int.one_mul,Int.mul_one]at h;rw[iD,h,hs q];rfl
 ·unfold rX
  split
  ·obtain⟨k,rfl⟩:∃k,d=k+1:=⟨d-1,by omega⟩;rw[Nat.add_sub_cancel,QQ]
   have g4:m1 (k+1)= -(m1 k):=by unfold m1;rw[Int.pow_succ];omega
   rw[g4,show-(m1 k)*aM nB zB n^(k+1)=m1 k* -(aM nB zB n^(k+1)) by rw[Int.neg_mul,Int.mul_neg]];refine Int.mul_tdiv_cancel_left _ λh=>?_;have h2:m1 k=0:=h;have:=qcI k;rw[h2]at this;omega
  ·rw[show d=0 by omega,Int.pow_zero]
end Go.Proofs.YtmcfpnmoklnhoaaGreat
