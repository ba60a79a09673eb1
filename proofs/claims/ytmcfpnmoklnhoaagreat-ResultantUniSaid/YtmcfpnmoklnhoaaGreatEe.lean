/- Ee -/
import Derived.Test.YtmcfpnmoklnhoaaGreatEc
import Derived.Test.YtmcfpnmoklnhoaaGreatBj
import Derived.Test.YtmcfpnmoklnhoaaGreatDe
import Derived.Test.YtmcfpnmoklnhoaaGreatMi
import Derived.Test.YtmcfpnmoklnhoaaGreatBh
set_option linter.unusedVariables false
set_option maxRecDepth 100000
set_option maxHeartbeats 400000000
set_option linter.unusedSimpArgs false
namespace Go.Proofs.YtmcfpnmoklnhoaaGreat
open Go.RowKit
def qfL(M:Nat->Prop)(w:World)(J:Nat)(f:List Tm)(e:Ending)(w':World):Prop:=∃(M1:Nat->Prop)(rv:Value),e=.returned rv/\Mb M1 w'/\(∀b,M b->M1 b)/\(∀b,M1 b->M b\/w.heap.size<=b)/\
 ((af f []/\rv=.slice none 0 0)\/(¬af f []/\∃a gf,rv=.slice (some ⟨gf,0,none⟩) (a+1) (a+1)/\w.heap.size<=gf/\M1 gf/\bE J f a/\Kids M1 w' 4 gf (a+1) (gL J f)))/\Ext w w'
theorem qtn{M:Nat->Prop}{w:World}{J:Nat}(h1:1<=J)(h4:J<=4){f:List Tm}(hM:Mb M w){e:Ending}{w':World}(h:MJ M w f (J:Int) e w'):qfL M w J f e w':=by
 obtain⟨hr,he⟩:=h;rcases hr with⟨hz,rfl⟩|⟨_,hl,_⟩|⟨hz,J',a,gf,hJ',_,_,rfl,KL,DK,Rx⟩
 ·exact⟨M,_,rfl,hM.ext he,λ_ hb=>hb,λ_ hb=>.inl hb,.inl ⟨hz,rfl⟩,he⟩
 ·exact absurd ⟨by omega,by omega⟩ hl
 ·obtain rfl:J=J':=by omega
  exact⟨λb=>M b\/b=gf,_,rfl,pz (hM.ext he) Rx.lt,λ_ hb=>.inl hb,λb hb=>hb.imp id λe=>by omega,.inr ⟨hz,a,gf,rfl,KL,.inr rfl,DK,Rx⟩,he⟩
def qfM(M:Nat->Prop)(w:World)(J:Nat)(g:List Tm)(e:Ending)(w':World):Prop:=∃n gd,e=.returned (.slice (some ⟨gd,0,none⟩) (n+1) (n+1))/\w.heap.size<=gd/\bE J g n/\Kids (λb=>M b\/b=gd) w' 4 gd (n+1) (gL J g)/\Ext w w'
theorem qtp{M:Nat->Prop}{w:World}{J:Nat}(h1:1<=J)(h4:J<=4){g:List Tm}(hz:¬af g []){e:Ending}{w':World}(h:MJ M w g (J:Int) e w'):qfM M w J g e w':=by
 obtain⟨hr,he⟩:=h;rcases hr with⟨h,_⟩|⟨_,hl,_⟩|⟨_,J',n,gd,hJ',_,_,rfl,jF,pW,DT⟩
 ·exact absurd h hz
 ·exact absurd ⟨by omega,by omega⟩ hl
 ·obtain rfl:J=J':=by omega
  exact⟨n,gd,rfl,jF,pW,DT,he⟩
def RmO(M:Nat->Prop)(w':World)(f g:List Tm)(L:Int)(y:PE)(er:Int):Prop:=
 (¬(1<=L/\L<=4)/\er=4/\y=PE.z)\/((1<=L/\L<=4)/\af g []/\er=2/\y=PE.z)\/
 (∃J n V:Nat,L=J/\1<=J/\J<=4/\¬af g []/\bE J g n/\uu J f n V/\er=0/\aN M w' 4 y (lQ J n V f g))
def Vn(M:Nat->Prop)(w:World)(f g:List Tm)(L:Int)(e:Ending)(w':World):Prop:=∃(y:PE)(er:Int),e=.returned (.tuple #[.agg (ak y),.int .i64 er])/\RmO M w' f g L y er/\Ext w w'
structure Y4(T B C A D:Nat):Prop where
 n1:T<=300000/\B+T*C+C+10<=100000
 n2:(B+C+2)*(B+T*C+C+1)^4<=1099511627776
 n3:A+T*(D+1)+D+10<=549755813888
theorem qAs(T:Nat)(M:Nat->Prop)(x y:PE)(f g:List Tm)(L:Int)(B C A D:Nat)(w:World)(hM:Mb M w)(h:PI M w x f)(k:PI M w y g)(nf:NN f)(ng:NN g)(hB:bH B f)(hC:bH C g)(hA:aH (aK f)<=A)(hD:aH (aK g)<=D)(hN:Y4 T B C A D)(hT:∀J n V:Nat,L=J->bE J g n->uu J f n V->V<=T):
 Calls Tryz.prog 206 #[.agg (ak x),.agg (ak y),.int .i64 L] w (Vn M w f g L):=by
 obtain⟨aV,ky,vJ,bL,dD⟩:=yN hM x y;have h0:=(h.more (M':=Mx M w.heap.size (w.heap.size+3)) (Mx.more (aI _))).ext aV;have k0:=(k.more (M':=Mx M w.heap.size (w.heap.size+3)) (Mx.more (aI _))).ext aV
 have jT:w.heap.size+3=((((w.alloc (.cells (ak x) 33)).alloc (.cells (ak y) 33)).alloc (.cells zA 33))).heap.size:=by simp
 generalize hW:((w.alloc (.cells (ak x) 33)).alloc (.cells (ak y) 33)).alloc (.cells zA 33)=W at*;have HW:=ae hW;have HE:=ae aV;have Gu:Hid (P4 W w.heap.size x):=ky;have UR:Hid (P4 W (w.heap.size+1) y):=vJ;have kF:=ae bL;have eP:=ae dD;have HX:=ae h0;have HY:=ae k0;have ZW:=ae nf;have HNG:=ae ng;have HB:=ae hB;have HC:=ae hC;have HA:=ae hA;have wy:=ae hD;have HN:=ae hN;have HT:=ae hT;have hMw:∀b,M b->b<w.heap.size:=hM;have Cm:=ae hMw;clear hW h0 k0 hM h k nf ng hB hC hA hD hN hT aV ky vJ bL dD hMw
 go_enter Tryz.func206,Tryz.ntmps206
 go_upto_region 1 with(fail)
 rw[HW.out];clear HW
 by_cases hl:1<=L/\L<=4
 ·obtain⟨J,rfl⟩:∃J:Nat,L=J:=⟨L.toNat,by omega⟩;have HJ:Hid (1<=J/\J<=4):=⟨by omega,by omega⟩
  have RA:¬(J:Int)<1:=by omega
  have KN:¬(4:Int)<(J:Int):=by omega
  obtain⟨y0,y1,y2,y3⟩:=UR.out;have l8:=(aA W).alloc (.cells (ak y) 33);have xM:=aG.bq W (ak y) 33 4 rfl
  have hsW:w.heap.size+3<=W.heap.size:=by omega
  clear hl jT;go_wp2_with (fail);refine(qpx (Mx M w.heap.size (w.heap.size+3)) y g W.heap.size 0 1 _ (eP.out.ext l8) xM.p4 xM.lt (HY.out.ext l8)).mono ?_;rintro e w1 ⟨er,rfl,dL,az⟩;have Fz:=l8.trans az;have aS:=ae (HE.out.trans Fz);have Z5:Hid (P4 w1 w.heap.size x):=Gu.out.ext Fz;have Z6:Hid (P4 w1 (w.heap.size+1) y):=UR.out.ext Fz;have Ud:=ae (kF.out.ext Fz);have kH:=ae (eP.out.ext Fz);have lH:=ae (HX.out.ext Fz);have rJ:=ae (HY.out.ext Fz)
  have eU:w.heap.size+3<=w1.heap.size:=by have:=Fz.size;omega
  clear y0 y1 y2 y3 l8 xM az Fz HE Gu UR kF eP HX HY hsW;rcases dL with⟨rfl,hz⟩|⟨rfl,hz⟩
  ·obtain⟨⟨q0,q1,q2,q3⟩,⟨f0,f1,f2,f3⟩,⟨r0,r1,r2,r3⟩,HF⟩:=iF (M:=M) (M':=Mx M w.heap.size (w.heap.size+3)) (w:=w) (L:=0) (l:=[]) (y:=PE.z) Ud.out (Mx.at (by omega)) (by omega) aS.out (CR.zero _ _ 0) Mx.sub;obtain⟨_,_,_,eO⟩:=HF;have dI:Hid (Vn M w f g J (.returned (.tuple #[.agg (ak PE.z),.int .i64 2])) _):=⟨PE.z,2,rfl,.inr (.inl ⟨⟨by have:=HJ.out;omega,by have:=HJ.out;omega⟩,hz,rfl,rfl⟩),eO⟩;simp only[PE.z]at r0 r1 r2 r3
   have iQ:w.heap.size+2<w1.heap.size:=by omega
   clear eO Ud aS kH lH rJ Z5 Z6 hz;go_wp2;exact bu (v:=.tuple #[.agg (ak PE.z),.int .i64 2]) (by simp[results,Tryz.results206,go_sem,r0,r1,r2,r3,PE.z]) rfl dI.out
  ·have HZ:=ae hz;clear hz;have kv:=HN.out.n1
   have kL:Hid ((B+1)^4<=1099511627776):=by
    have h2:=HN.out.n2;refine aR ?_ h2;refine aR (Nat.pow_le_pow_left (show B+1<=B+T*C+C+1 by omega) 4) (Nat.le_mul_of_pos_left _ (by omega))
   have hC4:Hid ((C+1)^4<=1099511627776):=by
    have h2:=HN.out.n2;refine aR ?_ h2;refine aR (Nat.pow_le_pow_left (show C+1<=B+T*C+C+1 by omega) 4) (Nat.le_mul_of_pos_left _ (by omega))
   have hCn:Hid (C+1<=1073741824/\B+1<=1073741824):=⟨by omega,by omega⟩
   have hR:Hid (aH (aK g)<=1099511627776/\aH (aK f)<=1099511627776):=by
    have h3:=HN.out.n3
    have hd1:D<=1099511627776:=by omega
    have Bf:A<=1099511627776:=by omega
    exact⟨aR wy.out hd1,aR HA.out Bf⟩
   have hd:=(aA w1).drew;have hS:jU w.heap.size x y w1.drew:=⟨Z5.out.ext hd,Z6.out.ext hd⟩;have aZ:=ae (aS.out.trans hd);have qf4:=ae (Ud.out.ext hd);have gJ:=ae (kH.out.ext hd);have lY:=ae (lH.out.ext hd);have o5:=ae (rJ.out.ext hd);have hs2:w.heap.size+3<=w1.drew.heap.size:=aR eU hd.size;clear kv hd Z5 Z6 aS Ud kH lH rJ
   go_upto_region 6 with(fail)
   refine gB (jU w.heap.size x y) 12 (by kernel_rfl) hS (λhHeld=>?_);clear hS;generalize w1.drew=wd at*;have C1:Hid (Calls Tryz.prog 60 #[.agg (ak x),.int .i64 (J:Int)] wd (qfL (Mx M w.heap.size (w.heap.size+3)) wd J f)):=(XT (Mx M w.heap.size (w.heap.size+3)) x f J B wd gJ.out lY.out HB.out kL.out hCn.out.2 hR.out.2).mono λe w' h=>qtn HJ.out.1 HJ.out.2 gJ.out h;(refine cB [0,1,3,4] ?_;(iterate 4 (refine bZ (v:=?_) ?_ ?_;rotate_left 1;(intro wS hSw;obtain⟨⟨S1,S2,S3,S4⟩,S5,S6,S7,S8⟩:=hSw;go_simp;try with_reducible rfl);(try simp only[Act.put,aB,aC,aD])));refine cK ?_);((refine aO 2 ?_;intro K hK);go_simp;(refine(C1.out).mono ?_);rintro e_ u1 ⟨M1,rv,rfl,jQ,Eb,hbk,bA,bM⟩;go_wp2_with (fail);(try clear ag);(have ag:=hHeld.ext bM);(refine hK.out _ _ (λ_=>ag) ?_);clear hK K;(try simp only[Act.put,aB,aC,aD]));have C2:Hid (Calls Tryz.prog 60 #[.agg (ak y),.int .i64 (J:Int)] u1 (qfM M1 u1 J g)):=(XT M1 y g J C u1 jQ ((o5.out.more hbk).ext bM) HC.out hC4.out hCn.out.1 hR.out.1).mono λe w' h=>qtp HJ.out.1 HJ.out.2 HZ.out h;((refine aO 5 ?_;intro K hK);go_simp;(refine(C2.out).mono ?_);rintro e_ u2 ⟨n,gd,rfl,jF,pW,DT,fM⟩;go_wp2_with (fail);(try clear ag);(have ag:=hHeld.ext (bM.trans fM));(refine hK.out _ _ (λ_=>ag) ?_);clear hK K;(try simp only[Act.put,aB,aC,aD]));have fu:Mb (λb=>M1 b\/b=gd) u2:=pz (jQ.ext fM) DT.lt
   have jG:∃V,uu J f n V/\((af f []/\rv=.slice none 0 0)\/(¬af f []/\∃a gf,rv=.slice (some ⟨gf,0,none⟩) (a+1) (a+1)/\wd.heap.size<=gf/\gf≠gd/\(M1 gf\/gf=gd)/\bE J f a/\Kids (λb=>M1 b\/b=gd) u2 4 gf (a+1) (gL J f))):=by
    rcases bA with⟨hz,hv⟩|⟨hz,a,gf,hv,KL,WZ,DK,Rx⟩
    ·exact⟨0,.inl ⟨hz,rfl⟩,.inl ⟨hz,hv⟩⟩
    ·have DV:=Rx.lt;exact⟨a+1-n,.inr ⟨hz,a,DK,rfl⟩,.inr ⟨hz,a,gf,hv,KL,by omega,.inl WZ,DK,(Rx.more (M':=λb=>M1 b\/b=gd) λb hb=>hb.imp id λe=>by omega).ext fM⟩⟩
   obtain⟨V,Xi,ql9⟩:=jG;have hV:=HT.out J n V rfl pW Xi;have hn:n<=C:=VP pW HC.out;have hPC:V*C<=T*C:=eB C hV;have hPD:V*(D+1)<=T*(D+1):=eB (D+1) hV;have Kw:=HN.out.n1;have hN3:=HN.out.n3;have NJ:mF J n V B C A D f g:=⟨HJ.out.1,HJ.out.2,ZW.out,HNG.out,HB.out,HC.out,HA.out,wy.out,pW,Xi⟩;have hmul:∀a b:Nat,a<=100000->b<=100000->a*b<=1099511627776:=λa b ha hb=>aR (Nat.mul_le_mul ha hb) (by decide);have C3:=ae (qAu (Mx M w.heap.size (w.heap.size+3)) (λb=>M1 b\/b=gd) wd u2 J n V B C A D gd f g rv (bM.trans fM) fu gJ.out (λb hb=>.inl (Eb b hb)) NJ DT ql9 (by omega) (by omega) (hmul _ _ (by omega) (by omega)) (by omega));have qsc:Hid (V<=T/\n<=C/\V*C<=T*C/\V*(D+1)<=T*(D+1)):=⟨hV,hn,hPC,hPD⟩;have xw:=ae NJ;have qA:=ae Xi;have ku:=ae pW;have mo:wd.heap.size<=u2.heap.size:=(bM.trans fM).size;clear hV hn hPC hPD Kw hN3 NJ hmul Xi pW bA ql9 DT fu jF C1 C2 jQ Eb hbk;((refine aO 6 ?_;intro K hK);go_simp;(refine(C3.out).mono ?_);rintro e_ u3 ⟨gt,ra,rn,rc,R,rfl,kR,hT,hG4,hrow,x9,NM,hRs,bB⟩;go_wp2_with (fail);(try clear ag);(have ag:=hHeld.ext bB);(refine hK.out _ _ (λ_=>ag) ?_);clear hK K;(try simp only[Act.put,aB,aC,aD]));(refine cB [7,8,9,10,11] ?_;(iterate 5 (refine bZ (v:=?_) ?_ ?_;rotate_left 1;(intro wS hSw;obtain⟨⟨S1,S2,S3,S4⟩,S5,S6,S7,S8⟩:=hSw;go_simp;try with_reducible rfl);(try simp only[Act.put,aB,aC,aD])));refine cK ?_)
   refine dX ?_;have h1:=HN.out.n1;have h2:=HN.out.n2;have h3:=HN.out.n3;have h5:=qsc.out;have pU:Mb (Mx M w.heap.size (w.heap.size+3)) u3:=gJ.out.ext bB;have qmZ:∀a b:Nat,a<=B+C+2->b<=B+T*C+C->a*(b+1)^4<=1099511627776:=λa b ha hb=>aR (Nat.mul_le_mul ha (Nat.pow_le_pow_left (by omega) 4)) h2;have qna:eY (Mx M w.heap.size (w.heap.size+3)) u3 4 (.slice ra rn rc) rn R:=hrow.more λb hb=>.inl (.inl hb)
   have hRc:∀i,i<rn->ji J (B+V*C) (A+V*(D+1)) (R i):=λi hi=>by rw[NM i hi];exact xw.out.rest i (by omega)
   have CJ:=ae (qom (L:=J) (S:=B+V*C) (A:=A+V*(D+1)) u3 pU qna HJ.out.1 HJ.out.2 (λi hi=>(hRc i hi).2.2.1) (qmZ _ _ (by omega) (by omega)) (by omega) (λi hi=>(hRc i hi).2.2.2) (by omega));have dM:=ae (aZ.out.trans bB);have qf5:=ae (qf4.out.ext bB);have Cu:=ae hRs;have sj:w.heap.size+3<=u3.heap.size:=aR hs2 bB.size;clear h1 h2 h3 h5 pU qmZ qna hRc hT hG4 hrow x9 NM hRs bM fM bB C3 hHeld ag aZ qf4 gJ lY o5 kR;go_wp2_with (fail);refine CJ.out.mono ?_;rintro e w9 ⟨r,rfl,hr,qF⟩;have RV:aN (Mx M w.heap.size (w.heap.size+3)) w9 4 r (lQ J n V f g):=hr.dh Cu.out;obtain⟨⟨q0,q1,q2,q3⟩,⟨f0,f1,f2,f3⟩,⟨r0,r1,r2,r3⟩,HF⟩:=iF (M:=M) (M':=Mx M w.heap.size (w.heap.size+3)) (w:=w) (qf5.out.ext qF) (Mx.at (by omega)) (by omega) (dM.out.trans qF) RV Mx.sub;obtain⟨yy,Oo,Rh,eO⟩:=HF
   obtain rfl:r=yy:=by
    simp only[ak,Ending.returned.injEq,Value.agg.injEq,Array.mk.injEq,List.cons.injEq,Value.int.injEq,Value.bool.injEq,Value.slice.injEq,true_and,and_true]at Oo;cases r;cases yy;simp only at Oo;simp[Oo]
   have dI:Hid (Vn M w f g J (.returned (.tuple #[.agg (ak r),.int .i64 0])) _):=⟨r,0,rfl,.inr (.inr ⟨J,n,V,rfl,HJ.out.1,HJ.out.2,HZ.out,ku.out,qA.out,rfl,Rh⟩),eO⟩
   have iQ:w.heap.size+2<w9.heap.size:=by have:=qF.size;omega
   clear eO Rh RV hr qF dM qf5 CJ;go_wp2;exact bu (v:=.tuple #[.agg (ak r),.int .i64 0]) (by simp[results,Tryz.results206,go_sem,r0,r1,r2,r3]) rfl dI.out
 ·have HL:=ae hl;obtain⟨⟨q0,q1,q2,q3⟩,⟨f0,f1,f2,f3⟩,⟨r0,r1,r2,r3⟩,HF⟩:=iF (M:=M) (M':=Mx M w.heap.size (w.heap.size+3)) (w:=w) (L:=0) (l:=[]) (y:=PE.z) kF.out (Mx.at (by omega)) (by omega) HE.out (CR.zero _ _ 0) Mx.sub;obtain⟨_,_,_,eO⟩:=HF;have dI:Hid (Vn M w f g L (.returned (.tuple #[.agg (ak PE.z),.int .i64 4])) _):=⟨PE.z,4,rfl,.inl ⟨hl,rfl,rfl⟩,eO⟩;simp only[PE.z]at r0 r1 r2 r3
  have iQ:w.heap.size+2<W.heap.size:=by omega
  clear eO
  by_cases RA:L<1
  case' pos=>clear hl
  case' neg=>
   have KN:4<L:=by omega
   clear hl
  all_goals
   clear kF HE eP HX HY Gu UR HL jT;go_wp2;exact bu (v:=.tuple #[.agg (ak PE.z),.int .i64 4]) (by simp[results,Tryz.results206,go_sem,r0,r1,r2,r3,PE.z]) rfl dI.out
def O8(J:Nat)(l:List Tm)(z:Int):Prop:=(af l []/\z= -1)\/(¬af l []/\∃a:Nat,bE J l a/\z=(a:Int))
theorem Oy(M:Nat->Prop)(x:PE)(l:List Tm)(J:Nat)(z:Int)(w:World)(h1:1<=J)(h4:J<=4)(nl:NN l)(hz:O8 J l z)(hM:Mb M w)(h:PI M w x l):Calls Tryz.prog 43 #[.agg (ak x),.int .i64 (J:Int)] w λe w'=>e=.returned (.int .i64 z)/\Ext w w':=by
 refine(qzc M x l (J:Int) w hM h).mono ?_;rintro e w' ⟨z',rfl,hr,he⟩;refine⟨?_,he⟩
 congr 2
 rcases hz with⟨hz,rfl⟩|⟨hz,a,ha,rfl⟩
 ·rcases hr with⟨_,rfl⟩|⟨k,_⟩|⟨k,_⟩
  ·rfl
  ·exact absurd hz k
  ·exact absurd hz k
 ·rcases hr with⟨k,_⟩|⟨_,k,_⟩|⟨_,J',b,k0,_,_,rfl,hb,_⟩
  ·exact absurd k hz
  ·exact absurd ⟨by omega,by omega⟩ k
  ·obtain rfl:J=J':=by omega
   rw[G5 nl hz ha hb]
theorem qon(M:Nat->Prop)(x:PE)(l:List Tm)(J n:Nat)(B:Nat)(w:World)(h1:1<=J)(h4:J<=4)(nl:NN l)(hz:¬af l [])(hd:bE J l n)(hM:Mb M w)(h:PI M w x l)(hB:bH B l)(kL:(B+1)^4<=1099511627776)(dJ:B+1<=1073741824)(hR:aH (aK l)<=1099511627776):Calls Tryz.prog 117 #[.agg (ak x),.int .i64 (J:Int)] w (dO M w 4 (ck J (n:Int) l)):=by
 refine(qze M x l (J:Int) B w hM h hB kL dJ hR).mono ?_;rintro e w' ⟨v,s,rfl,hv,hs,he⟩;rcases hs with⟨k,_⟩|⟨_,k,_⟩|⟨_,J',b,k0,_,_,hb,rfl⟩
 ·exact absurd k hz
 ·exact absurd ⟨by omega,by omega⟩ k
 ·obtain rfl:J=J':=by omega
  rw[G5 nl hz hd hb];exact⟨v,rfl,hv,he⟩
theorem qAi(a b r:List Tm)(m:Mo):aL (aF (a++smul (-1) b) r) m=aL (aF a r) m-aL (aF b r) m:=by
 rw[Eg,iZ]
 have:∀C:List Tm,aL (aF (smul (-1) C) r) m= -aL (aF C r) m:=by
  intro C
  induction C with
  |nil=>rfl
  |cons s C ih=>
   show aL (aF ((-1*s.1,s.2)::smul (-1) C) r) m=_;rw[vz,vz,ih];simp only;rw[Int.mul_assoc];omega
 rw[this];omega
theorem Lj{a b r:List Tm}(ha:NN a)(hb:NN b)(hr:NN r)(hz:¬af r [])(h:af (aF a r) (aF b r)):af a b:=λm=>by
 refine eF λhc=>?_
 have hn:NN (a++smul (-1) b):=λq hq=>by rw[iZ,iM,ha q hq,hb q hq];rfl
 refine nV hn hr (λhs=>hc ?_) hz λq=>?_
 ·have:=hs m;rw[iZ,iM]at this;have h0:aL ([]:List Tm) m=0:=rfl;omega
 ·rw[qAi,h q];show _=(0:Int);omega
end Go.Proofs.YtmcfpnmoklnhoaaGreat
