/- Ee -/
import Derived.Test.YtmcfpnmoklnhoaaGreatEc
import Derived.Test.YtmcfpnmoklnhoaaGreatBj
import Derived.Test.YtmcfpnmoklnhoaaGreatCg
import Derived.Test.YtmcfpnmoklnhoaaGreatDe
set_option linter.unusedVariables false
set_option maxRecDepth 100000
set_option maxHeartbeats 400000000
set_option linter.unusedSimpArgs false
namespace Go.Proofs.YtmcfpnmoklnhoaaGreat
open Go.RowKit
def qd9(M:Nat->Prop)(w:World)(J:Nat)(f:List Tm)(e:Ending)(w':World):Prop:=∃(M1:Nat->Prop)(rv:Value),e=.returned rv/\Mb M1 w'/\(∀b,M b->M1 b)/\(∀b,M1 b->M b\/w.heap.size<=b)/\
 ((ae f []/\rv=.slice none 0 0)\/(¬ae f []/\∃a gf,rv=.slice (some ⟨gf,0,none⟩) (a+1) (a+1)/\w.heap.size<=gf/\M1 gf/\bD J f a/\Kids M1 w' 4 gf (a+1) (eZ J f)))/\Ext w w'
theorem qrc{M:Nat->Prop}{w:World}{J:Nat}(h1:1<=J)(h4:J<=4){f:List Tm}(hM:Mb M w){e:Ending}{w':World}(h:KN M w f (J:Int) e w'):qd9 M w J f e w':=by
 obtain⟨hr,he⟩:=h;rcases hr with⟨hz,rfl⟩|⟨_,hl,_⟩|⟨hz,J',a,gf,hJ',_,_,rfl,Jj,BV,PW⟩
 ·exact⟨M,_,rfl,hM.ext he,λ_ hb=>hb,λ_ hb=>.inl hb,.inl ⟨hz,rfl⟩,he⟩
 ·exact absurd ⟨by omega,by omega⟩ hl
 ·obtain rfl:J=J':=by omega
  exact⟨λb=>M b\/b=gf,_,rfl,mO (hM.ext he) PW.lt,λ_ hb=>.inl hb,λb hb=>hb.imp id λe=>by omega,.inr ⟨hz,a,gf,rfl,Jj,.inr rfl,BV,PW⟩,he⟩
def qea(M:Nat->Prop)(w:World)(J:Nat)(g:List Tm)(e:Ending)(w':World):Prop:=∃n gd,e=.returned (.slice (some ⟨gd,0,none⟩) (n+1) (n+1))/\w.heap.size<=gd/\bD J g n/\Kids (λb=>M b\/b=gd) w' 4 gd (n+1) (eZ J g)/\Ext w w'
theorem qre{M:Nat->Prop}{w:World}{J:Nat}(h1:1<=J)(h4:J<=4){g:List Tm}(hz:¬ae g []){e:Ending}{w':World}(h:KN M w g (J:Int) e w'):qea M w J g e w':=by
 obtain⟨hr,he⟩:=h;rcases hr with⟨h,_⟩|⟨_,hl,_⟩|⟨_,J',n,gd,hJ',_,_,rfl,iF,sM,wM⟩
 ·exact absurd h hz
 ·exact absurd ⟨by omega,by omega⟩ hl
 ·obtain rfl:J=J':=by omega
  exact⟨n,gd,rfl,iF,sM,wM,he⟩
def RmO(M:Nat->Prop)(w':World)(f g:List Tm)(L:Int)(y:PE)(er:Int):Prop:=
 (¬(1<=L/\L<=4)/\er=4/\y=PE.z)\/((1<=L/\L<=4)/\ae g []/\er=2/\y=PE.z)\/
 (∃J n V:Nat,L=J/\1<=J/\J<=4/\¬ae g []/\bD J g n/\rF J f n V/\er=0/\aI M w' 4 y (kg J n V f g))
def Tu(M:Nat->Prop)(w:World)(f g:List Tm)(L:Int)(e:Ending)(w':World):Prop:=∃(y:PE)(er:Int),e=.returned (.tuple #[.agg (ah y),.int .i64 er])/\RmO M w' f g L y er/\Ext w w'
structure WZ(T B C A D:Nat):Prop where
 n1:T<=300000/\B+T*C+C+10<=100000
 n2:(B+C+2)*(B+T*C+C+1)^4<=1099511627776
 n3:A+T*(D+1)+D+10<=549755813888
theorem qxT(T:Nat)(M:Nat->Prop)(x y:PE)(f g:List Tm)(L:Int)(B C A D:Nat)(w:World)(hM:Mb M w)(h:PI M w x f)(k:PI M w y g)(nf:NN f)(ng:NN g)(hB:bn B f)(hC:bn C g)(hA:az (aC f)<=A)(hD:az (aC g)<=D)(hN:WZ T B C A D)(hT:∀J n V:Nat,L=J->bD J g n->rF J f n V->V<=T):
 Calls Tryz.prog 206 #[.agg (ah x),.agg (ah y),.int .i64 L] w (Tu M w f g L):=by
 obtain⟨aQ,nO,BR,bO,dw⟩:=Bu hM x y;have h0:=(h.more (M':=Mx M w.heap.size (w.heap.size+3)) (Mx.more (Nat.le_refl _))).ext aQ;have k0:=(k.more (M':=Mx M w.heap.size (w.heap.size+3)) (Mx.more (Nat.le_refl _))).ext aQ
 have oI:w.heap.size+3=((((w.alloc (.cells (ah x) 33)).alloc (.cells (ah y) 33)).alloc (.cells zA 33))).heap.size:=by simp
 generalize hW:((w.alloc (.cells (ah x) 33)).alloc (.cells (ah y) 33)).alloc (.cells zA 33)=W at*;have HW:=Lib.hid hW;have HE:=Lib.hid aQ;have Fu:Hid (P4 W w.heap.size x):=nO;have SB:Hid (P4 W (w.heap.size+1) y):=BR;have jE:=Lib.hid bO;have dL:=Lib.hid dw;have HX:=Lib.hid h0;have HY:=Lib.hid k0;have Yg:=Lib.hid nf;have HNG:=Lib.hid ng;have HB:=Lib.hid hB;have HC:=Lib.hid hC;have HA:=Lib.hid hA;have yK:=Lib.hid hD;have HN:=Lib.hid hN;have HT:=Lib.hid hT;have hMw:∀b,M b->b<w.heap.size:=hM;have Ya:=Lib.hid hMw;clear hW h0 k0 hM h k nf ng hB hC hA hD hN hT aQ nO BR bO dw hMw
 go_enter Tryz.func206,Tryz.ntmps206
 go_upto_region 1 with(fail)
 rw[HW.out];clear HW
 by_cases hl:1<=L/\L<=4
 ·obtain⟨J,rfl⟩:∃J:Nat,L=J:=⟨L.toNat,by omega⟩;have HJ:Hid (1<=J/\J<=4):=⟨by omega,by omega⟩
  have PY:¬(J:Int)<1:=by omega
  have Jl:¬(4:Int)<(J:Int):=by omega
  obtain⟨y0,y1,y2,y3⟩:=SB.out;have kK:=(Ext.refl W).alloc (.cells (ah y) 33);have wB:=ak.bf W (ah y) 33 4 rfl
  have hsW:w.heap.size+3<=W.heap.size:=by omega
  clear hl oI;go_wp2_with (fail);refine(qnu (Mx M w.heap.size (w.heap.size+3)) y g W.heap.size 0 1 _ (dL.out.ext kK) wB.p4 wB.lt (HY.out.ext kK)).mono ?_;rintro e w1 ⟨er,rfl,bW,af⟩;have Ej:=kK.trans af;have aL:=Lib.hid (HE.out.trans Ej);have Yk:Hid (P4 w1 w.heap.size x):=Fu.out.ext Ej;have Yl:Hid (P4 w1 (w.heap.size+1) y):=SB.out.ext Ej;have RF:=Lib.hid (jE.out.ext Ej);have kW:=Lib.hid (dL.out.ext Ej);have ku:=Lib.hid (HX.out.ext Ej);have qE:=Lib.hid (HY.out.ext Ej)
  have dP:w.heap.size+3<=w1.heap.size:=by have:=Ej.size;omega
  clear y0 y1 y2 y3 kK wB af Ej HE Fu SB jE dL HX HY hsW;rcases bW with⟨rfl,hz⟩|⟨rfl,hz⟩
  ·obtain⟨⟨q0,q1,q2,q3⟩,⟨f0,f1,f2,f3⟩,⟨r0,r1,r2,r3⟩,HF⟩:=iW (M:=M) (M':=Mx M w.heap.size (w.heap.size+3)) (w:=w) (L:=0) (l:=[]) (y:=PE.z) RF.out (Mx.at (by omega)) (by omega) aL.out (CR.zero _ _ 0) Mx.sub;obtain⟨_,_,_,dM⟩:=HF;have dY:Hid (Tu M w f g J (.returned (.tuple #[.agg (ah PE.z),.int .i64 2])) _):=⟨PE.z,2,rfl,.inr (.inl ⟨⟨by have:=HJ.out;omega,by have:=HJ.out;omega⟩,hz,rfl,rfl⟩),dM⟩;simp only[PE.z]at r0 r1 r2 r3
   have kQ:w.heap.size+2<w1.heap.size:=by omega
   clear dM RF aL kW ku qE Yk Yl hz;go_wp2;exact bodyPost_ret (v:=.tuple #[.agg (ah PE.z),.int .i64 2]) (by simp[results,Tryz.results206,go_sem,r0,r1,r2,r3,PE.z]) rfl dY.out
  ·have HZ:=Lib.hid hz;clear hz;have nM:=HN.out.n1
   have kv:Hid ((B+1)^4<=1099511627776):=by
    have h2:=HN.out.n2;refine Nat.le_trans ?_ h2;refine Nat.le_trans (Nat.pow_le_pow_left (show B+1<=B+T*C+C+1 by omega) 4) (Nat.le_mul_of_pos_left _ (by omega))
   have hC4:Hid ((C+1)^4<=1099511627776):=by
    have h2:=HN.out.n2;refine Nat.le_trans ?_ h2;refine Nat.le_trans (Nat.pow_le_pow_left (show C+1<=B+T*C+C+1 by omega) 4) (Nat.le_mul_of_pos_left _ (by omega))
   have hCn:Hid (C+1<=1073741824/\B+1<=1073741824):=⟨by omega,by omega⟩
   have hR:Hid (az (aC g)<=1099511627776/\az (aC f)<=1099511627776):=by
    have h3:=HN.out.n3
    have hd1:D<=1099511627776:=by omega
    have zG:A<=1099511627776:=by omega
    exact⟨Nat.le_trans yK.out hd1,Nat.le_trans HA.out zG⟩
   have hd:=(Ext.refl w1).drew;have hS:jM w.heap.size x y w1.drew:=⟨Yk.out.ext hd,Yl.out.ext hd⟩;have aU:=Lib.hid (aL.out.trans hd);have qeq:=Lib.hid (RF.out.ext hd);have jb:=Lib.hid (kW.out.ext hd);have ow:=Lib.hid (ku.out.ext hd);have qd:=Lib.hid (qE.out.ext hd);have hs2:w.heap.size+3<=w1.drew.heap.size:=Nat.le_trans dP hd.size;clear nM hd Yk Yl aL RF kW ku qE
   go_upto_region 6 with(fail)
   refine fM (jM w.heap.size x y) 12 (by kernel_rfl) hS (λhHeld=>?_);clear hS;generalize w1.drew=wd at*;have C1:Hid (Calls Tryz.prog 60 #[.agg (ah x),.int .i64 (J:Int)] wd (qd9 (Mx M w.heap.size (w.heap.size+3)) wd J f)):=(VB (Mx M w.heap.size (w.heap.size+3)) x f J B wd jb.out ow.out HB.out kv.out hCn.out.2 hR.out.2).mono λe w' h=>qrc HJ.out.1 HJ.out.2 jb.out h;(refine dF [0,1,3,4] ?_;(iterate 4 (refine dD (v:=?_) ?_ ?_;rotate_left 1;(intro wS hSw;obtain⟨⟨S1,S2,S3,S4⟩,S5,S6,S7,S8⟩:=hSw;go_simp;try with_reducible rfl);(try simp only[Act.put,aD,aF,aG])));refine dG ?_);((refine aK 2 ?_;intro K hK);go_simp;(refine(C1.out).mono ?_);rintro e_ u1 ⟨M1,rv,rfl,lg,Cq,hbk,aV,bN⟩;go_wp2_with (fail);(try clear ag);(have ag:=hHeld.ext bN);(refine hK.out _ _ (λ_=>ag) ?_);clear hK K;(try simp only[Act.put,aD,aF,aG]));have C2:Hid (Calls Tryz.prog 60 #[.agg (ah y),.int .i64 (J:Int)] u1 (qea M1 u1 J g)):=(VB M1 y g J C u1 lg ((qd.out.more hbk).ext bN) HC.out hC4.out hCn.out.1 hR.out.1).mono λe w' h=>qre HJ.out.1 HJ.out.2 HZ.out h;((refine aK 5 ?_;intro K hK);go_simp;(refine(C2.out).mono ?_);rintro e_ u2 ⟨n,gd,rfl,iF,sM,wM,iG⟩;go_wp2_with (fail);(try clear ag);(have ag:=hHeld.ext (bN.trans iG));(refine hK.out _ _ (λ_=>ag) ?_);clear hK K;(try simp only[Act.put,aD,aF,aG]));have eG:Mb (λb=>M1 b\/b=gd) u2:=mO (lg.ext iG) wM.lt
   have iT:∃V,rF J f n V/\((ae f []/\rv=.slice none 0 0)\/(¬ae f []/\∃a gf,rv=.slice (some ⟨gf,0,none⟩) (a+1) (a+1)/\wd.heap.size<=gf/\gf≠gd/\(M1 gf\/gf=gd)/\bD J f a/\Kids (λb=>M1 b\/b=gd) u2 4 gf (a+1) (eZ J f))):=by
    rcases aV with⟨hz,hv⟩|⟨hz,a,gf,hv,Jj,hmf,BV,PW⟩
    ·exact⟨0,.inl ⟨hz,rfl⟩,.inl ⟨hz,hv⟩⟩
    ·have Ce:=PW.lt;exact⟨a+1-n,.inr ⟨hz,a,BV,rfl⟩,.inr ⟨hz,a,gf,hv,Jj,by omega,.inl hmf,BV,(PW.more (M':=λb=>M1 b\/b=gd) λb hb=>hb.imp id λe=>by omega).ext iG⟩⟩
   obtain⟨V,Vb,qki⟩:=iT;have hV:=HT.out J n V rfl sM Vb;have hn:n<=C:=qai sM HC.out;have hPC:V*C<=T*C:=Nat.mul_le_mul_right C hV;have hPD:V*(D+1)<=T*(D+1):=Nat.mul_le_mul_right (D+1) hV;have BP:=HN.out.n1;have hN3:=HN.out.n3;have LG:kX J n V B C A D f g:=⟨HJ.out.1,HJ.out.2,Yg.out,HNG.out,HB.out,HC.out,HA.out,yK.out,sM,Vb⟩;have hmul:∀a b:Nat,a<=100000->b<=100000->a*b<=1099511627776:=λa b ha hb=>Nat.le_trans (Nat.mul_le_mul ha hb) (by decide);have C3:=Lib.hid (qxV (Mx M w.heap.size (w.heap.size+3)) (λb=>M1 b\/b=gd) wd u2 J n V B C A D gd f g rv (bN.trans iG) eG jb.out (λb hb=>.inl (Cq b hb)) LG wM qki (by omega) (by omega) (hmul _ _ (by omega) (by omega)) (by omega));have qpX:Hid (V<=T/\n<=C/\V*C<=T*C/\V*(D+1)<=T*(D+1)):=⟨hV,hn,hPC,hPD⟩;have vV:=Lib.hid LG;have o5:=Lib.hid Vb;have jw:=Lib.hid sM;have oJ:wd.heap.size<=u2.heap.size:=(bN.trans iG).size;clear hV hn hPC hPD BP hN3 LG hmul Vb sM aV qki wM eG iF C1 C2 lg Cq hbk;((refine aK 6 ?_;intro K hK);go_simp;(refine(C3.out).mono ?_);rintro e_ u3 ⟨gt,ra,rn,rc,R,rfl,jR,hT,hG4,hrow,hrn,LK,hRs,aW⟩;go_wp2_with (fail);(try clear ag);(have ag:=hHeld.ext aW);(refine hK.out _ _ (λ_=>ag) ?_);clear hK K;(try simp only[Act.put,aD,aF,aG]));(refine dF [7,8,9,10,11] ?_;(iterate 5 (refine dD (v:=?_) ?_ ?_;rotate_left 1;(intro wS hSw;obtain⟨⟨S1,S2,S3,S4⟩,S5,S6,S7,S8⟩:=hSw;go_simp;try with_reducible rfl);(try simp only[Act.put,aD,aF,aG])));refine dG ?_)
   refine ek ?_;have h1:=HN.out.n1;have h2:=HN.out.n2;have h3:=HN.out.n3;have h5:=qpX.out;have vv:Mb (Mx M w.heap.size (w.heap.size+3)) u3:=jb.out.ext aW;have qk8:∀a b:Nat,a<=B+C+2->b<=B+T*C+C->a*(b+1)^4<=1099511627776:=λa b ha hb=>Nat.le_trans (Nat.mul_le_mul ha (Nat.pow_le_pow_left (by omega) 4)) h2;have qlg:dV (Mx M w.heap.size (w.heap.size+3)) u3 4 (.slice ra rn rc) rn R:=hrow.more λb hb=>.inl (.inl hb)
   have hRc:∀i,i<rn->iA J (B+V*C) (A+V*(D+1)) (R i):=λi hi=>by rw[LK i hi];exact vV.out.rest i (by omega)
   have CJ:=Lib.hid (qwH (L:=J) (S:=B+V*C) (A:=A+V*(D+1)) u3 vv qlg HJ.out.1 HJ.out.2 (λi hi=>(hRc i hi).2.2.1) (qk8 _ _ (by omega) (by omega)) (by omega) (λi hi=>(hRc i hi).2.2.2) (by omega));have eP:=Lib.hid (aU.out.trans aW);have qer:=Lib.hid (qeq.out.ext aW);have Kn:=Lib.hid hRs;have qR:w.heap.size+3<=u3.heap.size:=Nat.le_trans hs2 aW.size;clear h1 h2 h3 h5 vv qk8 qlg hRc hT hG4 hrow hrn LK hRs bN iG aW C3 hHeld ag aU qeq jb ow qd jR;go_wp2_with (fail);refine CJ.out.mono ?_;rintro e w9 ⟨r,rfl,hr,pF⟩;have Qg:aI (Mx M w.heap.size (w.heap.size+3)) w9 4 r (kg J n V f g):=hr.bZ Kn.out;obtain⟨⟨q0,q1,q2,q3⟩,⟨f0,f1,f2,f3⟩,⟨r0,r1,r2,r3⟩,HF⟩:=iW (M:=M) (M':=Mx M w.heap.size (w.heap.size+3)) (w:=w) (qer.out.ext pF) (Mx.at (by omega)) (by omega) (eP.out.trans pF) Qg Mx.sub;obtain⟨yy,Mr,PD,dM⟩:=HF
   obtain rfl:r=yy:=by
    simp only[ah,Ending.returned.injEq,Value.agg.injEq,Array.mk.injEq,List.cons.injEq,Value.int.injEq,Value.bool.injEq,Value.slice.injEq,true_and,and_true]at Mr;cases r;cases yy;simp only at Mr;simp[Mr]
   have dY:Hid (Tu M w f g J (.returned (.tuple #[.agg (ah r),.int .i64 0])) _):=⟨r,0,rfl,.inr (.inr ⟨J,n,V,rfl,HJ.out.1,HJ.out.2,HZ.out,jw.out,o5.out,rfl,PD⟩),dM⟩
   have kQ:w.heap.size+2<w9.heap.size:=by have:=pF.size;omega
   clear dM PD Qg hr pF eP qer CJ;go_wp2;exact bodyPost_ret (v:=.tuple #[.agg (ah r),.int .i64 0]) (by simp[results,Tryz.results206,go_sem,r0,r1,r2,r3]) rfl dY.out
 ·have HL:=Lib.hid hl;obtain⟨⟨q0,q1,q2,q3⟩,⟨f0,f1,f2,f3⟩,⟨r0,r1,r2,r3⟩,HF⟩:=iW (M:=M) (M':=Mx M w.heap.size (w.heap.size+3)) (w:=w) (L:=0) (l:=[]) (y:=PE.z) jE.out (Mx.at (by omega)) (by omega) HE.out (CR.zero _ _ 0) Mx.sub;obtain⟨_,_,_,dM⟩:=HF;have dY:Hid (Tu M w f g L (.returned (.tuple #[.agg (ah PE.z),.int .i64 4])) _):=⟨PE.z,4,rfl,.inl ⟨hl,rfl,rfl⟩,dM⟩;simp only[PE.z]at r0 r1 r2 r3
  have kQ:w.heap.size+2<W.heap.size:=by omega
  clear dM
  by_cases PY:L<1
  case' pos=>clear hl
  case' neg=>
   have Jl:4<L:=by omega
   clear hl
  all_goals
   clear jE HE dL HX HY Fu SB HL oI;go_wp2;exact bodyPost_ret (v:=.tuple #[.agg (ah PE.z),.int .i64 4]) (by simp[results,Tryz.results206,go_sem,r0,r1,r2,r3,PE.z]) rfl dY.out
def DJ(W:World)(f g:List Tm)(L:Int)(q r s:PE)(er xr:Int):Prop:=er=xr/\∃ql rl,aI M0 W 4 q ql/\aI M0 W 4 r rl/\aI M0 W 4 s rl/\
 ((¬(1<=L/\L<=4)/\er=4/\ql=[]/\rl=[])\/((1<=L/\L<=4)/\ae g []/\er=2/\ql=[]/\rl=[])\/(∃J n V:Nat,L=J/\1<=J/\J<=4/\¬ae g []/\bD J g n/\rF J f n V/\er=0/\ql=G6 J n V f g/\rl=kg J n V f g))
theorem DJ.ext{W W':World}{f g:List Tm}{L:Int}{q r s:PE}{er xr:Int}(h:DJ W f g L q r s er xr)(he:Ext W W'):DJ W' f g L q r s er xr:=by
 obtain⟨h1,ql,rl,h2,h3,h4,h5⟩:=h;exact⟨h1,ql,rl,h2.ext he,h3.ext he,h4.ext he,h5⟩
structure SmD(B:Nat)(l:List Tm):Prop where
 nn:NN l
 Lc:bn B l
 dl:az (aC l)<=5
def DgV(J:Nat)(l:List Tm)(z:Int):Prop:=(ae l []/\z= -1)\/(¬ae l []/\∃a:Nat,bD J l a/\z=(a:Int))
theorem qmo(M:Nat->Prop)(x:PE)(l:List Tm)(J:Nat)(z:Int)(w:World)(h1:1<=J)(h4:J<=4)(nl:NN l)(hz:DgV J l z)(hM:Mb M w)(h:PI M w x l):Calls Tryz.prog 43 #[.agg (ah x),.int .i64 (J:Int)] w λe w'=>e=.returned (.int .i64 z)/\Ext w w':=by
 refine(qwG M x l (J:Int) w hM h).mono ?_;rintro e w' ⟨z',rfl,hr,he⟩;refine⟨?_,he⟩
 congr 2
 rcases hz with⟨hz,rfl⟩|⟨hz,a,ha,rfl⟩
 ·rcases hr with⟨_,rfl⟩|⟨k,_⟩|⟨k,_⟩
  ·rfl
  ·exact absurd hz k
  ·exact absurd hz k
 ·rcases hr with⟨k,_⟩|⟨_,k,_⟩|⟨_,J',b,k0,_,_,rfl,hb,_⟩
  ·exact absurd k hz
  ·exact absurd ⟨by omega,by omega⟩ k
  ·obtain rfl:J=J':=by omega
   rw[Le nl hz ha hb]
theorem qwJ(M:Nat->Prop)(x:PE)(l:List Tm)(J n:Nat)(B:Nat)(w:World)(h1:1<=J)(h4:J<=4)(nl:NN l)(hz:¬ae l [])(hd:bD J l n)(hM:Mb M w)(h:PI M w x l)(hB:bn B l)(kv:(B+1)^4<=1099511627776)(cZ:B+1<=1073741824)(hR:az (aC l)<=1099511627776):Calls Tryz.prog 117 #[.agg (ah x),.int .i64 (J:Int)] w (dH M w 4 (ck J (n:Int) l)):=by
 refine(qwI M x l (J:Int) B w hM h hB kv cZ hR).mono ?_;rintro e w' ⟨v,s,rfl,hv,hs,he⟩;rcases hs with⟨k,_⟩|⟨_,k,_⟩|⟨_,J',b,k0,_,_,hb,rfl⟩
 ·exact absurd k hz
 ·exact absurd ⟨by omega,by omega⟩ k
 ·obtain rfl:J=J':=by omega
  rw[Le nl hz hd hb];exact⟨v,rfl,hv,he⟩
end Go.Proofs.YtmcfpnmoklnhoaaGreat
