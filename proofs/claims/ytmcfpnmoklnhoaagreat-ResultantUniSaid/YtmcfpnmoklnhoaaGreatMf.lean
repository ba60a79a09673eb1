/- Mf -/
import Derived.Test.YtmcfpnmoklnhoaaGreatMe
import Derived.Test.YtmcfpnmoklnhoaaGreatMa
import Derived.Deep.DeepCutAuto
set_option linter.unusedVariables false
set_option maxRecDepth 100000
set_option maxHeartbeats 400000000
set_option linter.unusedSimpArgs false
namespace Go.Proofs.YtmcfpnmoklnhoaaGreat
open Go.RowKit
theorem Tryz.K5:(Tryz.prog.info? 30).map (λi=>(i.zero,i.size,i.bytes))=some (some (.agg #[.bool false,.slice none 0 0]),2,32):=by kernel_rfl
def yI(w:World)(g N k:Nat)(x:Nat->PE):Prop:=∃f,aG w g 30 (N*2) f/\∀i,i<k->f (i*2)=.bool (x i).b/\f (i*2+1)=.slice (x i).a (x i).n (x i).p
theorem yI.set{w:World}{g N k:Nat}{x:Nat->PE}(h:yI w g N k x):yI ((w.setCell ⟨g,k*2,none⟩ (.bool (x k).b)).setCell ⟨g,k*2+1,none⟩ (.slice (x k).a (x k).n (x k).p)) g N (k+1) x:=by
 obtain⟨f,hB,hf⟩:=h;refine⟨_,(hB.set _ _).set _ _,λi hi=>?_⟩;unfold jr
 by_cases iq:i=k
 ·subst iq;simp
 ·rw[ah (by omega),ah (by omega),ah (by omega),ah (by omega)];exact hf i (by omega)
theorem yI.ext{w w':World}{g N k:Nat}{x:Nat->PE}(h:yI w g N k x)(he:Ext w w'):yI w' g N k x:=by
 obtain⟨f,hB,hf⟩:=h;exact⟨f,hB.ext he,hf⟩
theorem yI.at{w:World}{g N k j:Nat}{x:Nat->PE}(h:yI w g N k x)(hj:j<N):(∃e,w.cell? ⟨g,j*2,none⟩=some e)/\(∃e,w.cell? ⟨g,j*2+1,none⟩=some e)/\(∀o,w.frozen? ⟨g,o,none⟩=false)/\g<w.heap.size:=by
 obtain⟨f,hB,hf⟩:=h;exact⟨⟨_,hB.cell (by omega)⟩,⟨_,hB.cell (by omega)⟩,hB.frozen,hB.lt⟩
theorem yI.row{M:Nat->Prop}{w:World}{g N:Nat}{x:Nat->PE}{z:Nat->Int}(h:yI w g N N x)(hN:N<=1099511627776)(hz:∀i,i<N->dQ M w (.bool (x i).b) (.slice (x i).a (x i).n (x i).p) (z i)):qif M w (.slice (some ⟨g,0,none⟩) N N) N z:=by
 obtain⟨f,hB,hf⟩:=h;refine⟨hN,.inr ⟨g,0,N,_,_,rfl,aI _,by unfold maxLen;omega,hB.lt,λi hi=>⟨?_,?_,hz i hi⟩⟩⟩
 ·rw[Nat.zero_add,hB.cell (by omega),(hf i hi).1]
 ·rw[Nat.zero_add,hB.cell (by omega),(hf i hi).2]
theorem qzg(x:Nat->PE)(k:Nat)(h:0<kg x k):∃i,i<k/\(x i).lv=kg x k:=by
 induction k with
 |zero=>exact absurd h (Int.lt_irrefl 0)
 |succ k ih=>
  unfold kg at h⊢
  split
  ·exact⟨k,by omega,rfl⟩
  ·rename_i hc;rw[ah hc]at h;obtain⟨i,hi,e⟩:=ih h;exact⟨i,by omega,e⟩
def oN(x:Nat->PE)(P:Nat->List Tm)(Q:Nat->Nat->List Tm)(D e i:Nat):List Tm:=if(x i).lv=(D:Int)+1 then(if e<(x i).kn then Q i e else[])else(if e=0 then P i else[])
def YP(L:Nat):Prop:=∀(M:Nat->Prop)(v:Value)(N:Nat)(P:Nat->List Tm)(w:World),Mb M w->eY M w L v N P->aH (aK (bP N P))<=1099511627776->Calls Tryz.prog 97 #[v] w (vY M w L (bP N P))
theorem qsZ(L:Nat)(ih:∀D,D<L->YP D):YP L:=by
 intro M v N P w hM h hL;obtain⟨i0,hi,hz0,hz1,hz2⟩:=info_parts Tryz.zH;obtain⟨j0,hj,tO,jh,rC⟩:=info_parts Tryz.K5;obtain⟨a,cap,rfl⟩:=h.form;obtain⟨x,hx⟩:=h.x;have NH:=h.1;have HX:=ae hx;have HH:=ae h;have HL:=ae hL;have lU:=ae ih;have aV:Ext w (w.alloc (.cells #[.int .i64 0,.bool false,.slice none 0 0,.slice none 0 0] 33)):=(aA w).alloc _;have dY:=ae (aG.bq w #[.int .i64 0,.bool false,.slice none 0 0,.slice none 0 0] 33 4 rfl);have gI:=ae aV;clear h hL hx aV ih
 go_enter Tryz.func97,Tryz.ntmps97
 go_wp2
 go_loopw [17,3,4] (λi lv s wr=>∃k:Nat,k<=N/\i=.int .i64 k/\lv=.int .i64 (kg x k)/\s=.int .i64 (kD x k)/\Hid (Ext (w.alloc (.cells #[.int .i64 0,.bool false,.slice none 0 0,.slice none 0 0] 33)) wr)) (λi _ _ _=>N-(intOf i).toNat)
 case atStart=>exact⟨0,bK _,rfl,rfl,rfl,aA _⟩
 case round=>
  obtain⟨k,hk,rfl,rfl,rfl,jo⟩:=hrel;have hsz:=jo.out.size;simp only[World.size_alloc]at hsz
  by_cases hlt:k<N
  ·obtain⟨⟨b,off,rfl,mi,iB,hb,qC,hcell⟩,dG,hl0,RB,KN⟩:=HX.out k hlt;obtain⟨y0,y1,y2,y3⟩:=hcell.ext hb (gI.out.trans jo.out)
   have jE:b<wr.heap.size:=by omega
   have hkn:=dG.XM;have jX:Hid (kD x k<=1099511627776):=qoq x k _ λi hi=>(HX.out i (by omega)).2.1.XM;clear dG hcell
   by_cases c1:kg x k<(x k).lv
   ·have JG:Hid ((x k).lv=kg x (k+1)):=by show _=_;unfold kg;rw[ai c1]
    have uS:Hid ((x k).kn=kD x (k+1)):=by show _=_;unfold kD;rw[ai c1]
    have fH:=ae (jo.out.alloc (.cells #[.int .i64 (x k).lv,.bool (x k).b,.slice (x k).a (x k).n (x k).p,.slice (x k).ka (x k).kn (x k).kp] 33));go_wp2
    go_roundw
    case rel=>exact⟨k+1,by omega,by go_num,by rw[JG.out],by rw[uS.out],fH⟩
    case measure=>simp[intOf];omega
   ·have c1':decide (kg x k<(x k).lv)=false:=decide_eq_false c1;have fH:=ae (jo.out.alloc (.cells #[.int .i64 (x k).lv,.bool (x k).b,.slice (x k).a (x k).n (x k).p,.slice (x k).ka (x k).kn (x k).kp] 33))
    have JG:Hid (kg x k=kg x (k+1)):=by show _=kg x (k+1);conv=>rhs;unfold kg;rw[ah c1]
    by_cases c2:(x k).lv=kg x k
    ·have c2':((x k).lv==kg x k)=true:=by simpa using c2
     by_cases c3:kD x k<(x k).kn
     ·have uS:Hid ((x k).kn=kD x (k+1)):=by show _=_;unfold kD;rw[ah c1,ai c2,ai c3]
      have yA:Hid (max (kD x k:Int) ((x k).kn:Int)=(kD x (k+1):Int)):=by show _=_;rw[<-uS.out];omega
      clear c2;go_wp2
      go_roundw
      case rel=>exact⟨k+1,by omega,by go_num,by rw[JG.out],by rw[yA.out],fH⟩
      case measure=>simp[intOf];omega
     ·have uS:Hid (kD x k=kD x (k+1)):=by show _=kD x (k+1);conv=>rhs;unfold kD;rw[ah c1,ai c2,ah c3]
      have yA:Hid (max (kD x k:Int) ((x k).kn:Int)=(kD x (k+1):Int)):=by show _=_;rw[<-uS.out];omega
      clear c2;go_wp2
      go_roundw
      case rel=>exact⟨k+1,by omega,by go_num,by rw[JG.out],by rw[yA.out],fH⟩
      case measure=>simp[intOf];omega
    ·have c2':((x k).lv==kg x k)=false:=by simpa using c2
     have uS:Hid (kD x k=kD x (k+1)):=by show _=kD x (k+1);conv=>rhs;unfold kD;rw[ah c1,ah c2]
     clear c2;go_wp2
     go_roundw
     case rel=>exact⟨k+1,by omega,by go_num,by rw[JG.out],by rw[uS.out],fH⟩
     case measure=>simp[intOf];omega
  ·have hkn:k=N:=by omega
   subst hkn;obtain⟨wo,rfl⟩:∃wo:World,wo=wr:=⟨_,rfl⟩;have cZ:=ae (gI.out.trans jo.out);have jJ:=ae (dY.out.ext jo.out)
   by_cases hz:kg x k=0
   ·have Ed:(kg x k==0)=true:=by simpa using hz
    obtain⟨z,XD⟩:=pick (0:Int) (n:=k) (Q:=λi z=>ek M w (.bool (x i).b) (.slice (x i).a (x i).n (x i).p) z/\af [(z,Mo.zero)] (P i)/\z.natAbs<=aK (P i)) (λi hi=>by
     obtain⟨_,dG,hl0,_⟩:=HX.out i hi;have h1:=qd6 x k i hi
     have h2:(x i).lv=0:=by omega
     unfold aN at dG;rw[h2]at dG;obtain⟨z,hI,hS,hN,_⟩:=dG.Nj
     exact⟨z,hI,hS,hN⟩)
    have HZZ:=ae XD;clear hz XD
    go_wp2_with (first|(refine wpList_make_full _ rfl _ _ _ rfl wo.heap.size 30 j0 (.agg #[.bool false,.slice none 0 0]) 2 Tryz.underlying22 hj tO jh .i64 .i64 _ _ k rfl rfl ?c4 ?c5 ?c2 ?c3 ?c6 ?_))
    case c2=>rw[rC];omega
    case c3=>unfold maxLen;omega
    case c4=>simp
    case c5=>simp
    case c6=>omega
    intro w1 hown hgrow;have cO:=(aG.made hown rfl (by omega));have az:=nL hgrow;have Gs:Hid (yI w1 wo.heap.size k 0 x):=⟨_,cO,λi hi=>by omega⟩;clear hown hgrow cO;go_wp2
    go_loopw [44] (λi wr=>∃q:Nat,q<=k/\i=.int .i64 q/\Hid (yI wr wo.heap.size k q x)/\Hid (Ext wo wr)) (λi _=>k-(intOf i).toNat)
    case atStart=>exact⟨0,bK _,rfl,Gs,az⟩
    case round=>
     clear Gs az;obtain⟨q,hq,rfl,ZV,Jw⟩:=hrel;have qE4:=Jw.out.size
     by_cases Oe:q<k
     ·obtain⟨⟨b,off,rfl,mi,iB,hb,qC,hcell⟩,dG,hl0,RB,KN⟩:=HX.out q Oe;obtain⟨y0,y1,y2,y3⟩:=hcell.ext hb (cZ.out.trans Jw.out)
      have jE:b<wr.heap.size:=by omega
      have fH:Hid (Ext wr (wr.alloc (.cells #[.int .i64 (x q).lv,.bool (x q).b,.slice (x q).a (x q).n (x q).p,.slice (x q).ka (x q).kn (x q).kp] 33))):=(aA wr).alloc _;obtain⟨⟨_,n0⟩,⟨_,n1⟩,bA,fA⟩:=(ZV.out.ext fH.out).at Oe;have fr0:=bA (q*2);have fr1:=bA (q*2+1);have PQ:=ae (ZV.out.ext fH.out).set;have aZ:Hid (Ext wo (((wr.alloc (.cells #[.int .i64 (x q).lv,.bool (x q).b,.slice (x q).a (x q).n (x q).p,.slice (x q).ka (x q).kn (x q).kp] 33)).setCell ⟨wo.heap.size,q*2,none⟩ (.bool (x q).b)).setCell ⟨wo.heap.size,q*2+1,none⟩ (.slice (x q).a (x q).n (x q).p))):=((Jw.out.trans fH.out).set (by simp) _).set (by simp) _;clear dG hcell bA;go_wp2
      go_roundw
      case rel=>exact⟨q+1,by omega,by go_num,PQ,aZ⟩
      case measure=>simp[intOf];omega
     ·have qdw:q=k:=by omega
      subst qdw;have HRO:=ae (ZV.out.row (M:=Mx M w.heap.size (w.heap.size+1)) (z:=z) NH (λi hi=>(((HZZ.out i hi).1.fB).more (Mx.more (aI _))).ext (cZ.out.trans Jw.out)));have HZA:Hid (aH (zZ z q)<=1099511627776):=aR (jB (qC6 z q P λi hi=>(HZZ.out i hi).2.2)) HL.out;have gK:Hid (Mb (Mx M w.heap.size (w.heap.size+1)) wr):=Mx.mb hM (cZ.out.trans Jw.out).size (by omega);go_wp2_with (fail);refine(qyy _ q z wr gK.out HRO.out HZA.out).mono ?_;rintro e w2 ⟨e0,e1,rfl,hc,aJ⟩;obtain⟨b2,a2,n2,p2,rfl,rfl⟩:=hc.form;obtain⟨⟨q0,q1,q2,q3⟩,⟨f0,f1,f2,f3⟩,⟨r0,r1,r2,r3⟩,HF⟩:=vR (M:=M) (w:=w) (L:=L) ((jJ.out.ext Jw.out).ext aJ) (Mx.at (by omega)) (aI _) ((cZ.out.trans Jw.out).trans aJ) ((CR.const hc L).dh ((qAv z q).trans (Lr λi hi=>(HZZ.out i hi).2.1))) Mx.sub;simp only[arr]at q0 q1 q2 q3;clear hc aJ;go_wp2;exact bu (v:=.agg #[.int .i64 0,.bool b2,.slice a2 n2 p2,.slice none 0 0]) (by simp[results,Tryz.results97,go_sem,r0,r1,r2,r3]) rfl HF.out
   ·obtain⟨D,hD⟩:∃D:Nat,kg x k=(D:Int)+1:=⟨(kg x k-1).toNat,by have:=qzh x k;omega⟩
    have l7:D+1<=4:=by have:=qop x k 4 (by omega) λi hi=>(HX.out i hi).2.2.2.2;omega
    have vG:D+1<=L:=by have:=qop x k L (by omega) λi hi=>(HX.out i hi).2.2.2.1;omega
    have UF:Hid (∀i,i<k->(x i).lv<=(D:Int)+1):=λi hi=>by have:=qd6 x k i hi;omega
    have Cw:Hid (∀i,i<k->(x i).lv=(D:Int)+1->(x i).kn<=kD x k):=λi hi he=>qzi x k i hi (by omega);have hsL:kD x k<=1099511627776:=qoq x k _ λi hi=>(HX.out i hi).2.1.XM;obtain⟨i1,Rt,WM⟩:=qzg x k (by omega);have vE:(0:Int)<=(D:Int):=iw _
    have yV:((D:Int)+1==0)=false:=by simp;omega
    obtain⟨Q,hQ⟩:=pick (λ_=>([]:List Tm)) (n:=k) (Q:=λi Q=>(x i).lv=(D:Int)+1->∃b off,(x i).ka=some ⟨b,off,none⟩/\2<=(x i).kn/\(x i).kn<=(x i).kp/\(x i).kp<=maxLen/\b<w.heap.size/\¬M b/\(∀e,e<(x i).kn->uU M w D b (off+e*4) (Q e))/\af (aQ (D+1) (x i).kn Q) (P i)/\∀e,e<(x i).kn->aK (Q e)<=aK (P i)) (λi hi=>by
     by_cases hl:(x i).lv=(D:Int)+1
     ·obtain⟨_,dG,_⟩:=HX.out i hi;unfold aN at dG;rw[hl]at dG;obtain⟨D',Kr,_,_,a',p',b,off,n1,xH,Q,fF,fw,oI,mg,gH,mi,iB,hb,qC,dP,dB,fQ,fJ,gQ⟩:=dG.IY (by omega)
      have:D'=D:=by omega
      subst this;simp only[Value.slice.injEq]at oI;refine⟨Q,λ_=>⟨b,off,oI.1,by omega,by omega,by omega,hb,qC,λe he=>dP e (by omega),?_,λe he=>?_⟩⟩
      ·rw[oI.2.1];exact fJ
      ·exact aR (Lg (D'+1) n1 Q e (by omega)) gQ
     ·exact⟨λ_=>[],λh=>absurd h hl⟩)
    have hs2:2<=kD x k:=by
     obtain⟨_,_,_,h2,_⟩:=hQ i1 Rt (by omega);have:=Cw.out i1 Rt (by omega);omega
    have HQ:=ae hQ
    have Gv:Hid (af (aQ (D+1) (kD x k) λe=>bP k (oN x P Q D e)) (bP k P)):=by
     refine(qAm _ _ _ _).trans (Lr λi hi=>?_)
     by_cases hl:(x i).lv=(D:Int)+1
     ·obtain⟨_,_,_,_,_,_,_,_,_,fJ,_⟩:=hQ i hi hl;have hle:=Cw.out i hi hl;refine af.trans ((OL hle λe h1 h2=>?_).symm.trans (tT _ _ _ _ λe he=>?_)) fJ
      ·unfold oN;rw[ai hl,ah (by omega)];exact af.refl _
      ·unfold oN;rw[ai hl,ai he];exact af.refl _
     ·refine af.trans (OL (show 1<=kD x k by omega) λe h1 h2=>?_).symm ((qpo _ _).trans ?_)
      ·unfold oN;rw[ah hl,ah (by omega)];exact af.refl _
      ·unfold oN;rw[ah hl,ai rfl];exact af.refl _
    have Cq:Hid (∀e,aH (aK (bP k (oN x P Q D e)))<=1099511627776):=λe=>by
     refine aR (jB (qpz λi hi=>?_)) HL.out;unfold oN
     by_cases hl:(x i).lv=(D:Int)+1
     ·rw[ai hl]
      split
      ·obtain⟨_,_,_,_,_,_,_,_,_,_,gQ⟩:=hQ i hi hl;exact gQ e (by assumption)
      ·exact bK _
     ·rw[ah hl]
      split
      ·exact aI _
      ·exact bK _
    have Ad:=ae (lU.out D (by omega));rw[hD];generalize kD x k=s at*;clear hQ hz hD Rt WM
    go_wp2_with (first|(refine wpList_make_full _ rfl _ _ _ rfl wo.heap.size 33 i0 (.agg #[.int .i64 0,.bool false,.slice none 0 0,.slice none 0 0]) 4 Tryz.underlying31 hi hz0 hz1 .i64 .i64 _ _ s rfl rfl ?d4 ?d5 ?d2 ?d3 ?d6 ?_))
    case d2=>rw[hz2];omega
    case d3=>unfold maxLen;omega
    case d4=>simp
    case d5=>simp
    case d6=>omega
    intro w1 hown hgrow;have cO:=(aG.made hown rfl (by omega)).congr (f':=gN) (λi _=>Ej i);have az:=nL hgrow;have dF:=ae (jJ.out.ext az);have aS:=ae (cZ.out.trans az)
    have eU:wo.heap.size+1<=w1.heap.size:=by have:=cO.lt;omega
    have qm:Hid (Kids (Mx M w.heap.size (wo.heap.size+1)) w1 D wo.heap.size s (λ_=>[])):=Kids.fresh cO;clear hown hgrow cO az;go_wp2
    go_loopw [62] (λi wr=>∃e:Nat,e<=s/\i=.int .i64 e/\wo.heap.size+1<=wr.heap.size/\Hid (Kids (Mx M w.heap.size (wo.heap.size+1)) wr D wo.heap.size s (λi=>if i<e then bP k (oN x P Q D i)else[]))/\Hid (Ext w wr)/\Hid (aG wr w.heap.size 33 4 (arr #[.int .i64 0,.bool false,.slice none 0 0,.slice none 0 0]))) (λi _=>s-(intOf i).toNat)
    case atStart=>exact⟨0,bK _,rfl,eU,qm.out.congr λi _=>by rw[ah (by omega)];exact af.refl _,aS,dF⟩
    case round=>
     clear qm aS dF eU;obtain⟨e,he,rfl,R5,HK,Gg,qf0⟩:=hrel
     by_cases hes:e<s
     ·go_wp2;obtain⟨wi,rfl⟩:∃wi:World,wi=wr:=⟨_,rfl⟩
      go_loopw [67,12] (λi v wr=>∃(q c:Nat)(xx:Nat->PE)(S:Nat->List Tm),q<=k/\c<=q/\i=.int .i64 q/\Own wr wi.heap.size 33 4 v c (px xx)/\Hid (∀i,i<c->aN (Mx M w.heap.size (wo.heap.size+1)) wi D (xx i) (S i))/\Hid (bP c S=bP q (oN x P Q D e))/\Hid (Ext wi wr)) (λi _ _=>k-(intOf i).toNat)
      case atStart=>exact⟨0,0,λ_=>PE.z,λ_=>[],bK _,aI _,rfl,Own.nil _ _ _ _ _,λi hi=>by omega,rfl,aA _⟩
      case round=>
       obtain⟨q,c,xx,S,hq,Rf,rfl,hO,HS,q9,Ci⟩:=hrel;obtain⟨va,vc,rfl⟩:=hO.form;have KV:=Ci.out.size
       by_cases Oe:q<k
       ·obtain⟨⟨b,off,rfl,mi,iB,hb,qC,hcell⟩,dG,hl0,RB,KN⟩:=HX.out q Oe;obtain⟨y0,y1,y2,y3⟩:=hcell.ext hb (Gg.out.trans Ci.out)
        have jE:b<wr.heap.size:=by omega
        have LV:Hid (aN (Mx M w.heap.size (wo.heap.size+1)) wi L (x q) (P q)):=(dG.more (Mx.more (aI _))).ext Gg.out;have fH:Hid (Ext wr (wr.alloc (.cells (ak (x q)) 33))):=(aA wr).alloc _;have hle:=UF.out q Oe;have HKL:=dG.XM;clear dG hcell
        by_cases hl:(x q).lv=(D:Int)+1
        ·have FJ:((x q).lv==(D:Int)+1)=true:=by simpa using hl
         have WT:decide ((x q).lv<(D:Int)+1)=false:=decide_eq_false (by omega)
         by_cases uC:e<(x q).kn
         ·obtain⟨b2,vO,nT,jf,qEA,qms,jR,qv2,dP,_⟩:=HQ.out q Oe hl;obtain⟨d0,d1,d2,d3,u0,u1,u2,u3,hCK⟩:=dP e uC;obtain⟨y,rfl,rfl,rfl,rfl,hyC,_⟩:=hCK.pe;rw[<-(Gg.out.trans Ci.out).cell jR]at u0 u1 u2 u3
          have qDK:b2<wr.heap.size:=by omega
          have HYC:Hid (aN (Mx M w.heap.size (wo.heap.size+1)) wi D y (Q q e)):=(hyC.more (Mx.more (aI _))).ext Gg.out;rw[nT]at y3
          have Cs:Hid (oN x P Q D e q=Q q e):=by show _=_;unfold oN;rw[ai hl,ai uC]
          clear dP hCK hyC hl;have Ew:Hid (Ext wr ((wr.alloc (.cells #[.int .i64 (x q).lv,.bool (x q).b,.slice (x q).a (x q).n (x q).p,.slice (some ⟨b2,vO,none⟩) (x q).kn (x q).kp] 33)).alloc (.cells (ak y) 33))):=((aA wr).alloc _).alloc _;have oq:=hO.ext Ew.out;have jV:=aG.bq (wr.alloc (.cells #[.int .i64 (x q).lv,.bool (x q).b,.slice (x q).a (x q).n (x q).p,.slice (some ⟨b2,vO,none⟩) (x q).kn (x q).kp] 33)) (ak y) 33 4 rfl;simp only[World.size_alloc]at jV;clear nT;have Am:Hid (∀j,j<4->(arr (ak y) j).oneCell'=true):=Tq y
          go_wp2_with (at_builtin;refine TT _ rfl (.tmp 83) (.tmp 89) _ rfl wi.heap.size 33 i0 _ 4 64 Tryz.underlying31 hi hz0 hz1 hz2 rfl (by omega) (.slice va c vc) c (px xx) rfl oq (wr.heap.size+1) 33 1 (arr (ak y)) rfl jV Am.out ?s1 ?s2 ?s3 ?_)
          case s1=>unfold maxLen;omega
          case s2=>omega
          case s3=>simp;omega
          intro gg cap2 w2 l9 fG hat KO;have QZ:Ext wi w2:=(Ci.out.trans Ew.out).grown fG (λg hg=>(hO.lt g hg).1)
          have HF:Hid (∃(q' c':Nat)(xx:Nat->PE)(S:Nat->List Tm),q'<=k/\c'<=q'/\Value.int .i64 ((q:Int)+1)=.int .i64 q'/\Own w2 wi.heap.size 33 4 (.slice (some ⟨gg,0,none⟩) (c+1) cap2) c' (px xx)/\Hid (∀i,i<c'->aN (Mx M w.heap.size (wo.heap.size+1)) wi D (xx i) (S i))/\Hid (bP c' S=bP q' (oN x P Q D e))/\Hid (Ext wi w2)):=by
           refine⟨q+1,c+1,snoc xx c y,snoc S c (Q q e),by omega,by omega,by simp,l9.congr λj hj=>Tu xx c y j hj,λi hi=>?_,?_,QZ⟩
           ·by_cases FD:i=c
            ·subst FD;rw[uL,uL];exact HYC.out
            ·rw[zN _ _ _ _ (by omega),zN _ _ _ _ (by omega)];exact HS.out i (by omega)
           ·show _=_;rw[qew,lF,q9.out,Cs.out]
          clear l9 fG hat QZ oq jV hO;go_wp2
          go_roundw
          case rel=>exact HF.out
          case measure=>simp[intOf];omega
         ·have qD3:decide ((e:Int)<((x q).kn:Int))=false:=decide_eq_false (by omega);have qD4:decide (e<(x q).kn)=false:=decide_eq_false uC
          have Cs:Hid (oN x P Q D e q=[]):=by show _=_;unfold oN;rw[ai hl,ah uC]
          have Ct:Hid (bP c S=bP (q+1) (oN x P Q D e)):=by show _=_;rw[lF,Cs.out,List.append_nil];exact q9.out
          have hO2:=hO.ext fH.out;have aZ:=ae (Ci.out.trans fH.out);clear hl hO;go_wp2
          go_roundw
          case rel=>exact⟨q+1,c,xx,S,by omega,by omega,by go_num,hO2,HS,Ct,aZ⟩
          case measure=>simp[intOf];omega
        ·have FJ:((x q).lv==(D:Int)+1)=false:=by simpa using hl
         have WT:decide ((x q).lv<(D:Int)+1)=true:=decide_eq_true (by omega)
         by_cases p8:e=0
         ·have qwE:((e:Int)==0)=true:=by simp;omega
          have Cs:Hid (oN x P Q D e q=P q):=by show _=_;unfold oN;rw[ah hl,ai p8]
          have HYC:Hid (aN (Mx M w.heap.size (wo.heap.size+1)) wi D (x q) (P q)):=CR.OP LV.out (by omega);have Ew:Hid (Ext wr ((wr.alloc (.cells (ak (x q)) 33)).alloc (.cells (ak (x q)) 33))):=((aA wr).alloc _).alloc _;have oq:=hO.ext Ew.out;have jV:=aG.bq (wr.alloc (.cells (ak (x q)) 33)) (ak (x q)) 33 4 rfl;simp only[World.size_alloc]at jV;have Am:Hid (∀j,j<4->(arr (ak (x q)) j).oneCell'=true):=Tq (x q);clear hl p8
          go_wp2_with (at_builtin;refine TT _ rfl (.tmp 100) (.tmp 102) _ rfl wi.heap.size 33 i0 _ 4 64 Tryz.underlying31 hi hz0 hz1 hz2 rfl (by omega) (.slice va c vc) c (px xx) rfl oq (wr.heap.size+1) 33 1 (arr (ak (x q))) rfl jV Am.out ?t1 ?t2 ?t3 ?_)
          case t1=>unfold maxLen;omega
          case t2=>omega
          case t3=>simp;omega
          intro gg cap2 w2 l9 fG hat KO;have QZ:Ext wi w2:=(Ci.out.trans Ew.out).grown fG (λg hg=>(hO.lt g hg).1)
          have HF:Hid (∃(q' c':Nat)(xx:Nat->PE)(S:Nat->List Tm),q'<=k/\c'<=q'/\Value.int .i64 ((q:Int)+1)=.int .i64 q'/\Own w2 wi.heap.size 33 4 (.slice (some ⟨gg,0,none⟩) (c+1) cap2) c' (px xx)/\Hid (∀i,i<c'->aN (Mx M w.heap.size (wo.heap.size+1)) wi D (xx i) (S i))/\Hid (bP c' S=bP q' (oN x P Q D e))/\Hid (Ext wi w2)):=by
           refine⟨q+1,c+1,snoc xx c (x q),snoc S c (P q),by omega,by omega,by simp,l9.congr λj hj=>Tu xx c (x q) j hj,λi hi=>?_,?_,QZ⟩
           ·by_cases FD:i=c
            ·subst FD;rw[uL,uL];exact HYC.out
            ·rw[zN _ _ _ _ (by omega),zN _ _ _ _ (by omega)];exact HS.out i (by omega)
           ·show _=_;rw[qew,lF,q9.out,Cs.out]
          clear l9 fG hat QZ oq jV hO;go_wp2
          go_roundw
          case rel=>exact HF.out
          case measure=>simp[intOf];omega
         ·have qwE:((e:Int)==0)=false:=by simp;omega
          have Cs:Hid (oN x P Q D e q=[]):=by show _=_;unfold oN;rw[ah hl,ah p8]
          have Ct:Hid (bP c S=bP (q+1) (oN x P Q D e)):=by show _=_;rw[lF,Cs.out,List.append_nil];exact q9.out
          have hO2:=hO.ext fH.out;have aZ:=ae (Ci.out.trans fH.out);clear hl hO;go_wp2
          go_roundw
          case rel=>exact⟨q+1,c,xx,S,by omega,by omega,by go_num,hO2,HS,Ct,aZ⟩
          case measure=>simp[intOf];omega
       ·have qdw:q=k:=by omega
        subst qdw;have gK:Hid (Mb (Mx M w.heap.size (wo.heap.size+1)) wi):=Mx.mb hM Gg.out.size R5;have wE:=ae (hO.toK (M:=Mx M w.heap.size (wo.heap.size+1)) (D:=D) (S:=S) (λi hi=>(HS.out i hi).ext Ci.out) (λg hg=>gK.out.new hg) (by omega));have aW:=ae (Ad.out _ _ _ _ _ (gK.out.ext Ci.out) wE.out (by rw[q9.out];exact Cq.out e));go_wp2_with (fail);refine(aW.out).mono ?_;rintro e2 w4 ⟨d0,d1,d2,d3,rfl,dG,bB⟩;obtain⟨mr,b2,a2,n2,p2,jH,lD,jI,rfl,rfl,rfl,rfl,_⟩:=dG.form;have bn:=Ci.out.trans bB;have fo:=HK.out.ext bn;obtain⟨⟨_,k0⟩,⟨_,k1⟩,⟨_,k2⟩,⟨_,k3⟩,bA,nO⟩:=fo.at e hes;have fV:=bA (e*4);have fP:=bA (e*4+1);have iU:=bA (e*4+2);have p9:=bA (e*4+3)
        have lV:Hid (Kids (Mx M w.heap.size (wo.heap.size+1)) (aM w4 wo.heap.size (e*4) (.int .i64 mr) (.bool b2) (.slice a2 n2 p2) (.slice jH lD jI)) D wo.heap.size s (λi=>if i<e+1 then bP q (oN x P Q D i)else[])):=by
         refine(fo.set (Mx.at (by omega)) e hes dG).congr λi _=>?_
         by_cases iq:i=e
         ·subst iq;rw[ai rfl,ai (by omega),q9.out];exact af.refl _
         ·rw[ah iq]
          by_cases h3:i<e
          ·rw[ai h3,ai (by omega)];exact af.refl _
          ·rw[ah h3,ah (by omega)];exact af.refl _
        have dV:Hid (Ext w (aM w4 wo.heap.size (e*4) (.int .i64 mr) (.bool b2) (.slice a2 n2 p2) (.slice jH lD jI))):=(Gg.out.trans bn).aM (by omega) _ _ _ _ _;have oQ:Hid (aG (aM w4 wo.heap.size (e*4) (.int .i64 mr) (.bool b2) (.slice a2 n2 p2) (.slice jH lD jI)) w.heap.size _ _ _):=(qf0.out.ext bn).of_heap (iI _ _ _ _ _ _ _ _ (by omega))
        have rf:Hid (wo.heap.size+1<=(aM w4 wo.heap.size (e*4) (.int .i64 mr) (.bool b2) (.slice a2 n2 p2) (.slice jH lD jI)).heap.size):=by show _<=_;rw[nW];have:=bn.size;omega
        clear fo bA dG bB bn hO;go_wp2
        go_roundw
        case rel=>exact⟨e+1,by omega,by go_num,rf.out,lV,dV,oQ⟩
        case measure=>simp[intOf];omega
     ·have qwG:e=s:=by omega
      subst qwG
      have wE:Hid (eY (Mx M w.heap.size (w.heap.size+1)) wr D (.slice (some ⟨wo.heap.size,0,none⟩) e e) e (λi=>bP k (oN x P Q D i))):=by
       refine eY.congr (eY.qem (HK.out.more λg hg=>.inl (hg.imp id λh=>by omega)) (λhh=>hh.elim (hM.new (by omega)) (by omega)) hsL) λi hi=>?_;rw[ai hi];exact af.refl _
      have aW:=ae (qeJ (Mx M w.heap.size (w.heap.size+1)) D _ e _ wr (Mx.mb hM Gg.out.size (by omega)) l7 wE.out);go_wp2_with (fail);refine(aW.out).mono ?_;rintro e2 w4 ⟨d0,d1,d2,d3,rfl,dG,bB⟩;obtain⟨mr,b2,a2,n2,p2,jH,lD,jI,rfl,rfl,rfl,rfl,_⟩:=dG.form;obtain⟨⟨q0,q1,q2,q3⟩,⟨f0,f1,f2,f3⟩,⟨r0,r1,r2,r3⟩,HF⟩:=vR (M:=M) (w:=w) (L:=L) (qf0.out.ext bB) (Mx.at (by omega)) (aI _) (Gg.out.trans bB) ((dG.up vG).dh Gv.out) Mx.sub;simp only[arr]at q0 q1 q2 q3;clear dG bB;go_wp2;exact bu (v:=.agg #[.int .i64 mr,.bool b2,.slice a2 n2 p2,.slice jH lD jI]) (by simp[results,Tryz.results97,go_sem,r0,r1,r2,r3]) rfl HF.out
theorem qpY(L:Nat):YP L:=by
 induction L using Nat.strongRecOn with
 |_ L ih=>exact qsZ L λD hD=>ih D hD
def yH(M:Nat->Prop)(w:World)(u:Value)(c:Nat)(σ:Nat->Nat):Prop:=
 (u=.slice none 0 0/\c=0)\/∃g cap,u=.slice (some ⟨g,0,none⟩) c cap/\c<=cap/\cap<=maxLen/\(g<w.heap.size/\¬M g)/\∀i,i<c->w.cell? ⟨g,i,none⟩=some (.int .i64 (σ i:Nat))
theorem yH.kp{M:Nat->Prop}{w w':World}{u:Value}{c:Nat}{σ:Nat->Nat}(h:yH M w u c σ)(he:Kp M w w'):yH M w' u c σ:=by
 rcases h with h|⟨g,cap,h1,h2,h3,h4,h5⟩
 ·exact .inl h
 ·exact .inr ⟨g,cap,h1,h2,h3,⟨dH h4.1 he.1,h4.2⟩,λi hi=>by rw[he.cell h4.1 h4.2];exact h5 i hi⟩
theorem yH.ext{M:Nat->Prop}{w w':World}{u:Value}{c:Nat}{σ:Nat->Nat}(h:yH M w u c σ)(he:Ext w w'):yH M w' u c σ:=h.kp (Kp.kV he)
theorem yH.form{M:Nat->Prop}{w:World}{u:Value}{c:Nat}{σ:Nat->Nat}(h:yH M w u c σ):∃a cap,u=.slice a c cap:=by
 rcases h with⟨rfl,rfl⟩|⟨g,cap,rfl,_⟩
 ·exact⟨_,_,rfl⟩
 ·exact⟨_,_,rfl⟩
theorem yH.at{M:Nat->Prop}{w:World}{a:Option Addr}{c cap:Nat}{σ:Nat->Nat}(h:yH M w (.slice a c cap) c σ)(i:Nat)(hi:i<c):∃g,a=some ⟨g,0,none⟩/\c<=cap/\cap<=maxLen/\g<w.heap.size/\¬M g/\w.cell? ⟨g,i,none⟩=some (.int .i64 (σ i:Nat)):=by
 rcases h with⟨_,h⟩|⟨g,cap',h1,h2,h3,h4,h5⟩
 ·omega
 ·simp only[Value.slice.injEq,true_and]at h1;obtain⟨rfl,rfl⟩:=h1;exact⟨g,rfl,h2,h3,h4.1,h4.2,h5 i hi⟩
def rO(nz:Nat->Bool)(k c:Nat)(σ:Nat->Nat):Prop:=(List.range c).map σ=(List.range k).filter nz
theorem rO.len{nz:Nat->Bool}{k c:Nat}{σ:Nat->Nat}(h:rO nz k c σ):c<=k:=by
 have h1:=congrArg List.length h;have h2:=List.length_filter_le nz (List.range k);simp only[List.length_map,List.length_range]at h1 h2;omega
theorem rO.skip{nz:Nat->Bool}{k c:Nat}{σ:Nat->Nat}(h:rO nz k c σ)(hz:nz k=false):rO nz (k+1) c σ:=by
 unfold rO at*;rw[h,List.range_succ,List.filter_append];simp[hz]
theorem rO.take{nz:Nat->Bool}{k c:Nat}{σ:Nat->Nat}(h:rO nz k c σ)(hz:nz k=true):rO nz (k+1) (c+1) (snoc σ c k):=by
 unfold rO at*;rw[List.range_succ,List.map_append,List.range_succ,List.filter_append, <-h]
 congr 1
 ·apply List.map_congr_left;intro i hi;exact zN _ _ _ _ (by simpa using hi)
 ·simp[hz,uL]
theorem rO.mem{nz:Nat->Bool}{k c:Nat}{σ:Nat->Nat}(h:rO nz k c σ)(i:Nat)(hi:i<c):σ i<k/\nz (σ i)=true:=by
 have:σ i∈(List.range k).filter nz:=by rw[<-h];exact List.mem_map.2 ⟨i,by simpa using hi,rfl⟩
 simpa using this
theorem qzY(z:Int)(j:Nat)(hj:j<1):(arr #[.int .i64 z] j).oneCell'=true:=by
 have:j=0:=by omega
 subst this;rfl
def Sy(σ:Nat->Nat):Nat->Value:=λj=>.int .i64 (σ j:Nat)
theorem qyk(σ:Nat->Nat)(c k:Nat)(j:Nat)(hj:j<(c+1)*1):app (Sy σ) c (arr #[.int .i64 (k:Int)]) j=Sy (snoc σ c k) j:=by
 unfold app Sy
 by_cases h:j<c
 ·rw[ai h,zN _ _ _ _ (by omega)]
 ·rw[ah h]
  have:j=c:=by omega
  subst this;rw[uL,Nat.sub_self];rfl
theorem qp2(M:Nat->Prop)(D:Nat)(v:Value)(N:Nat)(P:Nat->List Tm)(w:World)(hM:Mb M w)(h:eY M w D v N P):
 Calls Tryz.prog 158 #[v] w λe w'=>∃(u:Value)(c:Nat)(σ:Nat->Nat)(nz:Nat->Bool),e=.returned u/\yH M w' u c σ/\rO nz N c σ/\(∀i,i<N->(nz i=true↔¬af (P i) []))/\Ext w w':=by
 obtain⟨i0,hi,hz0,hz1,hz2⟩:=info_parts Tryz.qnP;obtain⟨a,cap,rfl⟩:=h.form;obtain⟨x,hx⟩:=h.x;have NH:=h.1;have HX:=ae hx
 have EB:Hid (∀i,i<N->(((!oK (x i).lv (x i).n)=true)↔¬af (P i) [])):=λi hi=>by
  have:=CR.SB (hx i hi).2.1;rw[<-this];simp
 clear h hx
 go_enter Tryz.func158,Tryz.ntmps158
 go_wp2
 go_loopw [8,3] (λi v wr=>∃(k c:Nat)(σ:Nat->Nat),k<=N/\i=.int .i64 k/\Own wr w.heap.size 3 1 v c (Sy σ)/\Hid (rO (λi=> !oK (x i).lv (x i).n) k c σ)/\Hid (Ext w wr)) (λi _ _=>N-(intOf i).toNat)
 case atStart=>exact⟨0,0,λ_=>0,bK _,rfl,Own.nil _ _ _ _ _,rfl,aA _⟩
 case round=>
  obtain⟨k,c,σ,hk,rfl,hO,HS,jo⟩:=hrel;obtain⟨va,vc,rfl⟩:=hO.form;have hsz:=jo.out.size;have Bj:=HS.out.len
  by_cases hlt:k<N
  ·obtain⟨⟨b,off,rfl,mi,iB,hb,qC,hcell⟩,dG,hl0,RB,KN⟩:=HX.out k hlt;obtain⟨y0,y1,y2,y3⟩:=hcell.ext hb jo.out
   have jE:b<wr.heap.size:=by omega
   have fH:Hid (Ext wr (wr.alloc (.cells (ak (x k)) 33))):=(aA wr).alloc _;have bf:=Jf (x k).lv (x k).b (x k).a (x k).n (x k).p (x k).ka (x k).kn (x k).kp (wr.alloc (.cells (ak (x k)) 33));clear dG hcell;cases FQ:oK (x k).lv (x k).n
   ·rw[FQ]at bf;have aW:=ae bf;have pM:Hid (rO (λi=> !oK (x i).lv (x i).n) (k+1) (c+1) (snoc σ c k)):=HS.out.take (by simp[FQ]);clear bf;go_wp2_with (fail);refine(aW.out).mono ?_;rintro e w1 ⟨rfl,az⟩;have iN:Ext wr w1:=fH.out.trans az;have eU:=iN.size;have oq:=(hO.ext iN).ext ((aA _).alloc (.cells #[.int .i64 (k:Int)] 3));have jV:=aG.bq w1 #[.int .i64 (k:Int)] 3 1 rfl;have Am:=ae (qzY (k:Int));have aS:=ae (iN.trans ((aA _).alloc (.cells #[.int .i64 (k:Int)] 3)));clear az iN
    go_wp2_with (at_builtin;refine TT _ rfl (.tmp 16) (.tmp 18) _ rfl w.heap.size 3 i0 _ 1 8 Tryz.underlying177 hi hz0 hz1 hz2 rfl (by omega) (.slice va c vc) c (Sy σ) rfl oq w1.heap.size 3 1 (arr #[.int .i64 (k:Int)]) rfl jV Am.out ?s1 ?s2 ?s3 ?_)
    case s1=>unfold maxLen;omega
    case s2=>omega
    case s3=>simp;omega
    intro gg cap2 w2 l9 fG hat KO;have HF:Hid (Ext w w2):=(jo.out.trans aS.out).grown fG (λg hg=>(hO.lt g hg).1);have wN:=l9.congr λj hj=>qyk σ c k j hj;clear l9 fG hat oq jV hO;go_wp2
    go_roundw
    case rel=>exact⟨k+1,c+1,snoc σ c k,by omega,by go_num,wN,pM,HF⟩
    case measure=>simp[intOf];omega
   ·rw[FQ]at bf;have aW:=ae bf;have pM:Hid (rO (λi=> !oK (x i).lv (x i).n) (k+1) c σ):=HS.out.skip (by simp[FQ]);clear bf;go_wp2_with (fail);refine(aW.out).mono ?_;rintro e w1 ⟨rfl,az⟩;have iN:Ext wr w1:=fH.out.trans az;have HF:=ae (jo.out.trans iN);have wN:=hO.ext iN;clear az iN hO;go_wp2
    go_roundw
    case rel=>exact⟨k+1,c,σ,by omega,by go_num,wN,pM,HF⟩
    case measure=>simp[intOf];omega
  ·have hkn:k=N:=by omega
   subst hkn
   have hI:yH M wr (.slice va c vc) c σ:=by
    rcases hO with h|⟨g,cap',F,h1,hg,hB,gW,iB,hF⟩
    ·exact .inl h
    ·refine .inr ⟨g,cap',h1,gW,iB,⟨hB.lt,hM.new hg⟩,λi hi=>?_⟩;rw[hB.cell (by omega),hF i (by omega)];rfl
   have HI:=ae hI;clear hI;go_wp2;go_ret;exact⟨_,c,σ,_,rfl,HI.out,HS.out,EB.out,jo.out⟩
theorem qpj(k:Mo)(l r:List Tm):af (aF l (shift k r)) (shift k (aF l r)):=
 (af.uI l (shift k r)).trans ((I6 k r l).trans ((af.uI r l).shift k))
theorem qer(n:Nat)(F:Nat->List Tm)(r:List Tm):af (aF (bP n F) r) (bP n λi=>aF (F i) r):=by
 induction n with
 |zero=>exact af.refl _
 |succ n ih=>rw[lF,lF,Eg];exact ih.append (af.refl _)
theorem qAh(n:Nat)(F:Nat->List Tm)(l:List Tm):af (aF l (bP n F)) (bP n λi=>aF l (F i)):=
 (af.uI _ _).trans ((qer n F l).trans (Lr λi _=>af.uI _ _))
theorem Yd(L n:Nat)(P:Nat->List Tm):aQ L n P=bP n λi=>shift (xp L (i:Int)) (P i):=rfl
theorem qCM(L:Nat)(i j:Int):Mo.add (xp L i) (xp L j)=xp L (i+j):=by
 unfold xp Mo.add;simp only[Mo.mk.injEq];refine⟨?_,?_,?_,?_⟩<;>(split<;>simp)
def mD(L:Nat)(P Q:Nat->List Tm)(i j:Nat):List Tm:=shift (xp L ((i+j:Nat):Int)) (aF (P i) (Q j))
theorem qAg(L n n':Nat)(P Q:Nat->List Tm):af (aF (aQ L n P) (aQ L n' Q)) (bP n λi=>bP n' λj=>mD L P Q i j):=by
 rw[Yd,Yd];refine(qer _ _ _).trans (Lr λi _=>(qAh _ _ _).trans (Lr λj _=>?_));unfold mD;refine(I6 _ _ _).trans (((qpj _ _ _).shift _).trans ?_);rw[qeQ,qCM,show(j:Int)+(i:Int)=((i+j:Nat):Int) by omega];exact af.refl _
theorem Ya(L n:Nat)(P:Nat->List Tm)(r:List Tm):af (aQ L n λi=>aF (P i) r) (aF (aQ L n P) r):=by
 rw[Yd,Yd];refine af.symm ((qer _ _ _).trans (Lr λi _=>I6 _ _ _))
theorem qvp(nz:Nat->Bool)(F:Nat->List Tm)(l:List Nat)(h:∀i∈l,nz i=false->af (F i) []):af ((l.filter nz).flatMap F) (l.flatMap F):=by
 induction l with
 |nil=>exact af.refl _
 |cons i l ih=>
  have h1:=ih λj hj=>h j (List.mem_cons_of_mem _ hj);rw[List.filter_cons];cases hz:nz i
  ·rw[ah (by simp),List.flatMap_cons];have h2:=(h i List.mem_cons_self hz).symm.append h1;simpa using h2
  ·rw[ai rfl,List.flatMap_cons,List.flatMap_cons];exact(af.refl _).append h1
theorem qpA{nz:Nat->Bool}{n c:Nat}{σ:Nat->Nat}(h:rO nz n c σ)(F:Nat->List Tm)(hz:∀i,i<n->nz i=false->af (F i) []):af (bP c λa=>F (σ a)) (bP n F):=by
 unfold bP
 have e:(List.range c).flatMap (λa=>F (σ a))=((List.range c).map σ).flatMap F:=by rw[List.flatMap_map]
 rw[e,h];exact qvp nz F _ λi hi=>hz i (by simpa using hi)
theorem qoV{nz:Nat->Bool}{n c:Nat}{σ:Nat->Nat}(h:rO nz n c σ)(F:Nat->List Tm):aK (bP c λa=>F (σ a))<=aK (bP n F):=by
 unfold bP
 have e:(List.range c).flatMap (λa=>F (σ a))=((List.range c).map σ).flatMap F:=by rw[List.flatMap_map]
 rw[e,h];generalize List.range n=l
 induction l with
 |nil=>exact aI _
 |cons i l ih=>
  rw[List.filter_cons,List.flatMap_cons,lN]
  split
  ·rw[List.flatMap_cons,lN];omega
  ·omega
theorem qoU(n:Nat)(F:Nat->List Tm)(f:Nat->Nat)(h:∀i,i<n->aK (F i)=f i)(g:Nat->List Tm)(c:Nat)(hg:∀i,i<n->f i=aK (g i)*c):aK (bP n F)=aK (bP n g)*c:=by
 induction n with
 |zero=>simp[bP,aK]
 |succ n ih=>
  rw[lF,lF,lN,lN,ih (λi hi=>h i (by omega)) λi hi=>hg i (by omega),h n (by omega),hg n (by omega),Nat.add_mul]
theorem qzJ(L n n':Nat)(P Q:Nat->List Tm):aK (bP n λi=>bP n' λj=>mD L P Q i j)=aK (aQ L n P)*aK (aQ L n' Q):=by
 have hq:∀(n:Nat)(P:Nat->List Tm),aK (aQ L n P)=aK (bP n P):=by
  intro n P
  induction n with
  |zero=>rfl
  |succ n ih=>rw[gT,lF,lN,lN,xg,ih]
 rw[hq,hq];refine qoU n _ (λi=>aK (P i)*aK (bP n' Q)) (λi _=>?_) P (aK (bP n' Q)) (λ_ _=>rfl);rw[Nat.mul_comm];refine qoU n' _ (λj=>aK (Q j)*aK (P i)) (λj _=>?_) Q (aK (P i)) (λ_ _=>rfl);unfold mD;rw[xg,zL,Nat.mul_comm]
theorem qet{L K k0:Nat}(hk:k0<K){F F':Nat->List Tm}{l:List Tm}(h:∀k,k<K->k≠k0->F' k=F k)(h0:F' k0=F k0++l):
 af (aQ L K F') (aQ L K F++shift (xp L (k0:Int)) l)/\aK (aQ L K F')=aK (aQ L K F)+aK l:=by
 induction K with
 |zero=>omega
 |succ K ih=>
  rw[gT,gT]
  by_cases hK:k0=K
  ·subst hK;have e:aQ L k0 F'=aQ L k0 F:=Yc _ _ _ _ λi hi=>h i (by omega) (by omega);rw[e,h0,Yt];refine⟨λm=>by simp only[iZ];omega,?_⟩;simp only[lN,xg];omega
  ·obtain⟨i1,i2⟩:=ih (by omega) λk hk=>h k (by omega);rw[h K (by omega) (by omega)];refine⟨λm=>?_,?_⟩
   ·have:=i1 m;simp only[iZ]at this⊢;omega
   ·simp only[lN,xg]at i2⊢;omega
def bH(B:Nat)(l:List Tm):Prop:=∀m,aL l m≠0->∀k,m.get k<=B
theorem bH.dh{B:Nat}{l r:List Tm}(h:bH B l)(hs:af l r):bH B r:=λm hm k=>h m (by rw[hs m];exact hm) k
theorem bH.mono{B C:Nat}{l:List Tm}(h:bH B l)(hs:B<=C):bH C l:=λm hm k=>by have:=h m hm k;omega
theorem OD{l:List Tm}(h:¬af l []):∃m,aL l m≠0:=by
 refine eF λhn=>h λm=>?_;refine eF λhm=>hn ⟨m,hm⟩
theorem bH.append{B:Nat}{l r:List Tm}(h:bH B l)(k:bH B r):bH B (l++r):=λm hm j=>by
 rw[iZ]at hm
 by_cases h1:aL l m=0
 ·exact k m (by omega) j
 ·exact h m h1 j
theorem qtK{l r:List Tm}{m:Mo}(h:aL (aF l r) m≠0):∃s∈l,aL r (Mo.sub m s.2)≠0:=by
 induction l with
 |nil=>exact absurd rfl h
 |cons s l ih=>
  rw[vz]at h
  by_cases h1:aL r (Mo.sub m s.2)=0
  ·rw[h1,Int.mul_zero,Int.zero_add]at h;obtain⟨t,ht,h2⟩:=ih h;exact⟨t,List.mem_cons_of_mem _ ht,h2⟩
  ·exact⟨s,List.mem_cons_self,h1⟩
theorem Qu{l r:List Tm}{m:Mo}(hl:Ce l)(h:aL (aF l r) m≠0):∃m1,aL l m1≠0/\aL r (Mo.sub m m1)≠0:=by
 induction l with
 |nil=>exact absurd rfl h
 |cons s l ih=>
  have hd:=List.pairwise_cons.1 hl;have jY:∀m1,aL (s::l) m1=(if s.2=m1 then s.1 else 0)+aL l m1:=λ_=>rfl;have hz:aL l s.2=0:=rQ λt ht e=>hd.1 t ht e.symm;rw[vz]at h
  by_cases h1:s.1*aL r (Mo.sub m s.2)=0
  ·rw[h1,Int.zero_add]at h;obtain⟨m1,h2,h3⟩:=ih hd.2 h;refine⟨m1,?_,h3⟩;rw[jY,ah (λe=>h2 (by rw[<-e];exact hz))];simpa using h2
  ·refine⟨s.2,?_,λe=>h1 (by rw[e,Int.mul_zero])⟩;rw[jY,ai rfl,hz];intro e;exact h1 (by rw[show s.1=0 by omega,Int.zero_mul])
theorem ow{l:List Tm}(h:∀m:Mo,m.nn=false->aL l m=0):af (norm l) l:=by
 intro m;rw[OC];unfold sD;cases hm:m.nn
 ·rw[ah (by simp),h m hm]
 ·rw[ai rfl]
theorem Qp{l:List Tm}(h:Canon l):Ce l:=by
 unfold Ce;exact h.1.imp (λ{s t}(hlt:Mo.lt t.2 s.2)(e:s.2=t.2)=>Mo.K9 hlt e.symm)
theorem bH.aF{B C:Nat}{l r:List Tm}(hl:bH B l)(hr:bH C r)(nl:∀m:Mo,m.nn=false->aL l m=0):bH (B+C) (aF l r):=by
 intro m hm k;have hs:=ow nl;rw[<-(hs.oC r) m]at hm;obtain⟨m1,h1,h2⟩:=Qu (Qp (sF l)) hm;have a1:=hl m1 (by rw[<-hs m1];exact h1) k;have a2:=hr _ h2 k;rw[sZ]at a2;omega
theorem BO{l r:List Tm}(nl:∀m:Mo,m.nn=false->aL l m=0)(nr:∀m:Mo,m.nn=false->aL r m=0)(m:Mo)(hm:m.nn=false):aL (aF l r) m=0:=by
 refine eF λhc=>?_;have hs:=ow nl;rw[<-(hs.oC r) m]at hc;obtain⟨m1,h1,h2⟩:=Qu (Qp (sF l)) hc
 have g1:m1.nn=true:=by
  cases h:m1.nn
  ·exact absurd (by rw[hs m1];exact nl m1 h) h1
  ·rfl
 have g2:(Mo.sub m m1).nn=true:=by
  cases h:(Mo.sub m m1).nn
  ·exact absurd (nr _ h) h2
  ·rfl
 rw[Mo.BN]at g1 g2;simp only[Mo.sub]at g2;have:m.nn=true:=(Mo.BN m).2 ⟨by omega,by omega,by omega,by omega⟩;rw[hm]at this;cases this
theorem Mo.qy1{x a b:Mo}(h:Mo.lt x a):Mo.lt b (Mo.sub (Mo.add a b) x):=by
 unfold Mo.lt at*;simp only[Mo.add,Mo.sub];omega
theorem qtk{s t:Tm}{l r:List Tm}(hl:Canon (s::l))(hr:Canon (t::r)):aL (aF (s::l) (t::r)) (Mo.add s.2 t.2)=s.1*t.1:=by
 rw[vz]
 have e1:Mo.sub (Mo.add s.2 t.2) s.2=t.2:=by rw[Mo.Vq];exact((Mo.add_eq _ _ _).1 rfl).symm
 rw[e1,hr.EW]
 have e2:aL (aF l (t::r)) (Mo.add s.2 t.2)=0:=by
  refine eF λhc=>?_;obtain⟨u,hu,h2⟩:=qtK hc;have h3:=Mo.qy1 (b:=t.2) (hl.head u hu);refine h2 (Canon.qbc λq hq=>?_);rcases List.mem_cons.1 hq with rfl|hq
  ·exact h3
  ·exact Mo.lt_trans (hr.head q hq) h3
 rw[e2,Int.add_zero]
theorem nV{l r:List Tm}(nl:∀m:Mo,m.nn=false->aL l m=0)(nr:∀m:Mo,m.nn=false->aL r m=0)(hl:¬af l [])(hr:¬af r []):¬af (aF l r) []:=by
 intro h;have s1:=ow nl;have s2:=ow nr;have c1:=sF l;have c2:=sF r;have h':af (Go.Proofs.YtmcfpnmoklnhoaaGreat.aF (norm l) (norm r)) []:=(af.aF s1 s2).trans h
 cases e1:norm l with
 |nil=>exact hl (by rw[e1]at s1;exact s1.symm)
 |cons s l'=>
  cases e2:norm r with
  |nil=>exact hr (by rw[e2]at s2;exact s2.symm)
  |cons t r'=>
   rw[e1]at c1 h';rw[e2]at c2 h';have:=h' (Mo.add s.2 t.2);rw[qtk c1 c2]at this;have h3:=(c1.2 s List.mem_cons_self).1;have h4:=(c2.2 t List.mem_cons_self).1;have:s.1*t.1=0:=this;rcases Int.mul_eq_zero.1 this with h5|h5
   ·exact h3 h5
   ·exact h4 h5
theorem Dp{D n B:Nat}{P:Nat->List Tm}(hD:D+1<=4)(hn:1<=n)(dB:∀i,i<n->eH D (P i))(fQ:¬af (P (n-1)) [])(h:bH B (aQ (D+1) n P)):n<=B+1/\∀i,i<n->bH B (P i):=by
 have key:∀i,i<n->∀m,aL (P i) m≠0->m.get (D+1)=0/\aL (aQ (D+1) n P) (Mo.add m (xp (D+1) (i:Int)))≠0:=by
  intro i hi m hm;have h0:m.get (D+1)=0:=eF λhc=>hm ((dB i hi).vw (by omega) hD hc);exact⟨h0,by rw[Qt (by omega) hD (λi hi=>dB i hi) i hi m h0];exact hm⟩
 constructor
 ·obtain⟨m,hm⟩:=OD fQ;obtain⟨h0,h1⟩:=key (n-1) (by omega) m hm;have:=h _ h1 (D+1);rw[iH,h0,eQ _ _ _ (by omega) hD,ai rfl]at this;omega
 ·intro i hi m hm k;obtain⟨h0,h1⟩:=key i hi m hm;have:=h _ h1 k;rw[iH,eQ _ _ _ (by omega) hD]at this
  split at this<;>omega
def jP{α:Type}(f:Nat->α)(k:Nat)(a:α):Nat->α:=λi=>if i=k then a else f i
theorem kK{α:Type}(f:Nat->α)(k:Nat)(a:α):jP f k a k=a:=by unfold jP;rw[ai rfl]
theorem pR{α:Type}(f:Nat->α)(k:Nat)(a:α)(i:Nat)(h:i≠k):jP f k a i=f i:=by unfold jP;rw[ah h]
def MP(M:Nat->Prop)(v:Nat->Value)(K:Nat):Nat->Prop:=λb=>M b\/∃k,k<K/\(v k).ownBlock=some b
structure sW(M:Nat->Prop)(B0:Nat)(w:World)(D gp K:Nat)(v:Nat->Value)(c:Nat->Nat)(xx:Nat->Nat->PE)(S:Nat->Nat->List Tm):Prop where
 blk:aG w gp 31 K v
 own:∀k,k<K->Own w B0 33 4 (v k) (c k) (px (xx k))
 sep:∀k k',k<K->k'<K->k≠k'->∀b,(v k).ownBlock=some b->(v k').ownBlock≠some b
 cr:∀k,k<K->∀i,i<c k->aN (MP M v K) w D (xx k i) (S k i)
 QL:M gp
 Nw:gp<B0
 MB:Mb M w
 BM:∀g,M g->g<B0
theorem sW.ext{M:Nat->Prop}{B0:Nat}{w w':World}{D gp K:Nat}{v:Nat->Value}{c:Nat->Nat}{xx:Nat->Nat->PE}{S:Nat->Nat->List Tm}(h:sW M B0 w D gp K v c xx S)(he:Ext w w'):sW M B0 w' D gp K v c xx S:=
 ⟨h.blk.ext he,λk hk=>(h.own k hk).ext he,h.sep,λk hk i hi=>(h.cr k hk i hi).ext he,h.QL,h.Nw,h.MB.ext he,h.BM⟩
theorem sW.mb{M:Nat->Prop}{B0:Nat}{w:World}{D gp K:Nat}{v:Nat->Value}{c:Nat->Nat}{xx:Nat->Nat->PE}{S:Nat->Nat->List Tm}(h:sW M B0 w D gp K v c xx S):Mb (MP M v K) w:=by
 intro g hg;rcases hg with hg|⟨k,hk,e⟩
 ·exact h.MB g hg
 ·exact((h.own k hk).lt g e).2
theorem sW.step{M:Nat->Prop}{B0:Nat}{w wa wb wc:World}{D gp K:Nat}{v:Nat->Value}{c:Nat->Nat}{xx:Nat->Nat->PE}{S:Nat->Nat->List Tm}(h:sW M B0 w D gp K v c xx S){k0:Nat}(hk:k0<K){gg cap2:Nat}{y:PE}{l:List Tm}
 (he:Ext w wa) (hO:Own wb B0 33 4 (.slice (some ⟨gg,0,none⟩) (c k0+1) cap2) (c k0+1) (px (snoc (xx k0) (c k0) y))) (hg:wa.grownBy wb (v k0).ownBlock) (hat:(v k0).ownBlock=some gg\/wa.heap.size<=gg)
 (aJ:Ext wb wc) (hy:aN (λb=>MP M v K b\/b=gg) wc D y l):
 sW M B0 (wc.setCell ⟨gp,k0,none⟩ (.slice (some ⟨gg,0,none⟩) (c k0+1) cap2)) D gp K (jP v k0 (.slice (some ⟨gg,0,none⟩) (c k0+1) cap2)) (jP c k0 (c k0+1)) (jP xx k0 (snoc (xx k0) (c k0) y)) (jP S k0 (snoc (S k0) (c k0) l)):=by
 have Ia:=hO.lt gg rfl;have D6:(Value.slice (some ⟨gg,0,none⟩) (c k0+1) cap2).ownBlock=some gg:=rfl;have hga:gp<wa.heap.size:=(h.blk.ext he).lt
 have hne:∀k b,k<K->(v k).ownBlock=some b->b≠gp:=λk b hk hb e=>by have:=(h.own k hk).lt b hb;have:=h.Nw;omega
 have qwM:gg≠gp:=by have:=h.Nw;omega
 have hmu:∀b,(MP M v K b\/b=gg)->MP M v K b\/wa.heap.size<=b:=by
  rintro b (hb|rfl)
  ·exact .inl hb
  ·rcases hat with h1|h1
   ·exact .inl (.inr ⟨k0,hk,h1⟩)
   ·exact .inr h1
 have qxb:Kp (λb=>MP M v K b\/b=gg) wa wb:=Kp.grown hg λq hq=>.inl (.inr ⟨k0,hk,hq⟩);have qmt:Kp (λb=>MP M v K b\/b=gg) wc (wc.setCell ⟨gp,k0,none⟩ (.slice (some ⟨gg,0,none⟩) (c k0+1) cap2)):=Kp.set _ _ (p:=⟨gp,k0,none⟩) (.inl (.inl h.QL)) _
 have qmx:∀b,MP M (jP v k0 (.slice (some ⟨gg,0,none⟩) (c k0+1) cap2)) K b->(MP M v K b\/b=gg):=by
  rintro b (hb|⟨k,kS,e⟩)
  ·exact .inl (.inl hb)
  ·by_cases hkk:k=k0
   ·subst hkk;rw[kK,D6]at e;cases e;exact .inr rfl
   ·rw[pR _ _ _ _ hkk]at e;exact .inl (.inr ⟨k,kS,e⟩)
 have hsz:wa.heap.size<=wb.heap.size:=hg.size
 have qxC:∀k b,k<K->k≠k0->(v k).ownBlock=some b->(wc.setCell ⟨gp,k0,none⟩ (.slice (some ⟨gg,0,none⟩) (c k0+1) cap2)).heap[b]?=w.heap[b]?:=by
  intro k b kS hkk hb;have jE:=((h.own k kS).lt b hb).2;have hba:b<wa.heap.size:=dH jE he.size;rw[Below.heap_setCell _ _ _ _ (hne k b kS hb),aJ.heap (by omega),hg.block b hba (λe=>h.sep k k0 kS hk hkk b hb e.symm),he.heap jE]
 refine⟨?_,λk kS=>?_,λk k' kS WQ hkk b hb=>?_,λk kS i hi=>?_,h.QL,h.Nw,?_,h.BM⟩
 ·have h1:aG wb gp _ _ v:=(h.blk.ext he).grown hg (λe=>hne k0 gp hk e.symm rfl);exact((h1.ext aJ).set k0 _).congr λi _=>rfl
 ·by_cases hkk:k=k0
  ·subst hkk;rw[kK,kK,kK]
   exact(hO.ext aJ).of_heap λb hb=>by cases hb;exact Below.heap_setCell _ _ _ _ qwM
  ·rw[pR _ _ _ _ hkk,pR _ _ _ _ hkk,pR _ _ _ _ hkk];exact(h.own k kS).of_heap λb hb=>qxC k b kS hkk hb
 ·by_cases h1:k=k0
  ·subst h1;rw[kK,D6]at hb;cases hb;rw[pR _ _ _ _ (Ne.symm hkk)];rcases hat with h2|h2
   ·exact h.sep k k' kS WQ hkk _ h2
   ·intro e;have:=((h.own k' WQ).lt _ e).2;have:=he.size;omega
  ·rw[pR _ _ _ _ h1]at hb
   by_cases h2:k'=k0
   ·subst h2;rw[kK,D6];intro e;cases e;rcases hat with h3|h3
    ·exact h.sep k k' kS WQ hkk _ hb h3
    ·have:=((h.own k kS).lt _ hb).2;have:=he.size;omega
   ·rw[pR _ _ _ _ h2];exact h.sep k k' kS WQ hkk b hb
 ·have hold:∀k,k<K->∀i,i<c k->aN (MP M (jP v k0 (.slice (some ⟨gg,0,none⟩) (c k0+1) cap2)) K) (wc.setCell ⟨gp,k0,none⟩ (.slice (some ⟨gg,0,none⟩) (c k0+1) cap2)) D (xx k i) (S k i):=λk kS i hi=>
   ((((((h.cr k kS i hi).ext he).more hmu).kp qxb).ext aJ).kp qmt).more λb hb=>.inl (qmx b hb)
  by_cases hkk:k=k0
  ·subst hkk;rw[kK]at hi;rw[kK,kK]
   by_cases FD:i=c k
   ·subst FD;rw[uL,uL];exact(hy.kp qmt).more λb hb=>.inl (qmx b hb)
   ·rw[zN _ _ _ _ (by omega),zN _ _ _ _ (by omega)];exact hold k kS i (by omega)
  ·rw[pR _ _ _ _ hkk]at hi;rw[pR _ _ _ _ hkk,pR _ _ _ _ hkk];exact hold k kS i hi
 ·intro g WK;have:=h.MB g WK;have:=he.size;have:=aJ.size;simp[World.setCell];omega
theorem sW.replace{M:Nat->Prop}{B0:Nat}{w:World}{D gp K:Nat}{v:Nat->Value}{c:Nat->Nat}{xx:Nat->Nat->PE}{S:Nat->Nat->List Tm}(h:sW M B0 w D gp K v c xx S){k0:Nat}(hk:k0<K){gg cap2 q:Nat}(hv:v k0=.slice (some ⟨gg,0,none⟩) (c k0) cap2)(hq:q<c k0){y:PE}{l:List Tm}(hy:aN (MP M v K) w D y l):
 sW M B0 (aM w gg (q*4) (.int .i64 y.lv) (.bool y.b) (.slice y.a y.n y.p) (.slice y.ka y.kn y.kp)) D gp K v c (jP xx k0 (jP (xx k0) q y)) (jP S k0 (jP (S k0) q l)):=by
 have D6:(v k0).ownBlock=some gg:=by rw[hv];rfl
 have Ia:=(h.own k0 hk).lt gg D6;have bD:Kp (MP M v K) w (aM w gg (q*4) (.int .i64 y.lv) (.bool y.b) (.slice y.a y.n y.p) (.slice y.ka y.kn y.kp)):=Kp.aM (.inr ⟨k0,hk,D6⟩) _ _ _ _ _;refine⟨h.blk.of_heap (iI _ _ _ _ _ _ _ _ (by have:=h.Nw;omega)),λk kS=>?_,h.sep,λk kS i hi=>?_,h.QL,h.Nw,h.MB.size (by rw[nW];exact aI _),h.BM⟩
 ·by_cases hkk:k=k0
  ·subst hkk;rw[kK];have h0:=h.own k kS;rw[hv]at h0⊢;rcases h0 with⟨h1,_⟩|⟨g,cap,F,h1,hg,hB,hc,hm,hF⟩
   ·cases h1
   ·simp only[Value.slice.injEq,Option.some.injEq,Addr.mk.injEq,and_true,true_and]at h1;obtain⟨rfl,rfl⟩:=h1;refine .inr ⟨gg,cap2,_,rfl,hg,hB.aM (q*4) _ _ _ _,hc,hm,λj hj=>?_⟩
    by_cases hj1:j<q*4\/q*4+4<=j
    ·rw[tZ _ _ _ _ _ _ _ hj1,hF j hj];unfold px;rw[pR _ _ _ _ (by omega)]
    ·have hjc:j=q*4\/j=q*4+1\/j=q*4+2\/j=q*4+3:=by omega
     rcases hjc with rfl|rfl|rfl|rfl
     ·rw[F4,Ls,kK]
     ·rw[F5,Lt,kK]
     ·rw[F6,Lu,kK]
     ·rw[F7,Lx,kK]
  ·rw[pR _ _ _ _ hkk];exact(h.own k kS).of_heap λb hb=>iI _ _ _ _ _ _ _ _ (λe=>h.sep k0 k hk kS (Ne.symm hkk) gg D6 (e ▸ hb))
 ·by_cases hkk:k=k0
  ·subst hkk;rw[kK,kK]
   by_cases FD:i=q
   ·subst FD;rw[kK,kK];exact hy.kp bD
   ·rw[pR _ _ _ _ FD,pR _ _ _ _ FD];exact(h.cr k kS i hi).kp bD
  ·rw[pR _ _ _ _ hkk,pR _ _ _ _ hkk];exact(h.cr k kS i hi).kp bD
def Vh(L:Nat):Prop:=∀(M:Nat->Prop)(l r:List Tm)(B C:Nat)(c0 c1 c2 c3 d0 d1 d2 d3:Value)(w:World),Mb M w->CR M w L c0 c1 c2 c3 l->CR M w L d0 d1 d2 d3 r->aH (aK l)+aH (aK r)<=1099511627776->bH B l->bH C r->(B+1)*(C+1)<=1099511627776->
 Calls Tryz.prog 118 #[.agg #[c0,c1,c2,c3],.agg #[d0,d1,d2,d3]] w (vY M w L (aF l r))
def qih(L:Nat):Prop:=∀(M:Nat->Prop)(l r:List Tm)(B C:Nat)(x y:PE)(w:World),Mb M w->aN M w L x l->aN M w L y r->aH (aK l)+aH (aK r)<=1099511627776->bH B l->bH C r->(B+1)*(C+1)<=1099511627776->x.lv=y.lv->x.lv≠0->oK x.lv x.n=false->oK y.lv y.n=false->
 Calls Tryz.prog 118 #[.agg (ak x),.agg (ak y)] w (vY M w L (aF l r))
def qaP(M:Nat->Prop)(w:World)(L:Nat)(l:List Tm)(x y:PE):Prop:=∃lx ly B C,aN M w L x lx/\aN M w L y ly/\y.lv<=x.lv/\af (aF lx ly) l/\aH (aK lx)+aH (aK ly)<=1099511627776/\bH B lx/\bH C ly/\(B+1)*(C+1)<=1099511627776/\¬(x.lv=y.lv/\x.lv≠0/\oK x.lv x.n=false/\oK y.lv y.n=false)
theorem qzb(L:Nat)(ih:∀D,D<L->Vh D)(heq:qih L):Vh L:=by
 intro M l r B C c0 c1 c2 c3 d0 d1 d2 d3 w hM h k hL hB hC oH;obtain⟨x,rfl,rfl,rfl,rfl,hx,yg,hxL,hx4⟩:=h.pe;obtain⟨y,rfl,rfl,rfl,rfl,hy,tO,hyL,hy4⟩:=k.pe
 by_cases hne:x.lv=y.lv/\x.lv≠0/\oK x.lv x.n=false/\oK y.lv y.n=false
 ·exact heq M l r B C x y w hM hx hy hL hB hC oH hne.1 hne.2.1 hne.2.2.1 hne.2.2.2
 clear heq;have lU:=ae ih
 have HA:Hid ((¬x.lv<y.lv->qaP M w L (aF l r) x y)/\(x.lv<y.lv->qaP M w L (aF l r) y x)):=
  ⟨λhlt=>⟨l,r,B,C,hx,hy,by omega,af.refl _,hL,hB,hC,oH,hne⟩,λhlt=>⟨r,l,C,B,hy,hx,by omega,af.uI _ _,by omega,hC,hB,by rw[Nat.mul_comm];exact oH,λhh=>by omega⟩⟩
 clear h k hx hy hL hB hC oH ih hne;generalize aF l r=R at*
 go_enter Tryz.func118,Tryz.ntmps118
 go_upto_if 21 with(fail)
 go_cut [2,3,4] (λs2 s3 s4 wx=>s2=.pointer (some ⟨w.heap.size,0,none⟩)/\s3=.pointer (some ⟨w.heap.size+1,0,none⟩)/\s4=.pointer (some ⟨w.heap.size+2,0,none⟩)/\Hid (∃X Y,qaP M w L R X Y/\wx=((w.alloc (.cells (ak X) 33)).alloc (.cells (ak Y) 33)).alloc (.cells #[.int .i64 0,.bool false,.slice none 0 0,.slice none 0 0] 33)))
 case first=>
  go_wp2
  ·go_meet
   exact⟨rfl,rfl,rfl,y,x,HA.out.2 (by assumption),rfl⟩
  ·go_meet
   exact⟨rfl,rfl,rfl,x,y,HA.out.1 (by assumption),rfl⟩
 case rest=>
  obtain⟨rfl,rfl,rfl,hc⟩:=hcut;obtain⟨X,Y,hA,rfl⟩:=hc.out;clear hc HA;obtain⟨lx,ly,B1,C1,hX,hY,hYX,qlj,jZ,QW,QX,QS,hNE⟩:=hA;have KE:=CR.pe hX
  have hXf:0<=X.lv/\X.lv<=L/\X.lv<=4:=by
   obtain⟨x',e0,_,_,_,_,h1,h2,h3⟩:=KE;simp only[Value.int.injEq,true_and]at e0;rw[e0];exact⟨h1,h2,h3⟩
  have hYf:0<=Y.lv:=by
   obtain⟨x',e0,_,_,_,_,h1,h2,h3⟩:=CR.pe hY;simp only[Value.int.injEq,true_and]at e0;rw[e0];exact h1
  clear KE;have aV:Ext w (((w.alloc (.cells (ak X) 33)).alloc (.cells (ak Y) 33)).alloc (.cells #[.int .i64 0,.bool false,.slice none 0 0,.slice none 0 0] 33)):=(((aA w).alloc _).alloc _).alloc _;have b0:=((aG.bq w (ak X) 33 4 rfl).alloc (.cells (ak Y) 33)).alloc (.cells #[.int .i64 0,.bool false,.slice none 0 0,.slice none 0 0] 33);have b1:=(aG.bq (w.alloc (.cells (ak X) 33)) (ak Y) 33 4 rfl).alloc (.cells #[.int .i64 0,.bool false,.slice none 0 0,.slice none 0 0] 33);have b2:=aG.bq ((w.alloc (.cells (ak X) 33)).alloc (.cells (ak Y) 33)) #[.int .i64 0,.bool false,.slice none 0 0,.slice none 0 0] 33 4 rfl;simp only[World.size_alloc]at b1 b2
  have yf:w.heap.size+3<=(((w.alloc (.cells (ak X) 33)).alloc (.cells (ak Y) 33)).alloc (.cells #[.int .i64 0,.bool false,.slice none 0 0,.slice none 0 0] 33)).heap.size:=by simp
  generalize ze:((w.alloc (.cells (ak X) 33)).alloc (.cells (ak Y) 33)).alloc (.cells #[.int .i64 0,.bool false,.slice none 0 0,.slice none 0 0] 33)=W0 at aV b0 b1 b2 yf⊢;clear ze;have HX:=ae hX;have HY:=ae hY;have Gv:=ae qlj;have Ev:=ae jZ;have nZ:=ae QW;have Zp:=ae QX;have qg:=ae QS;have qo:=ae hNE;have gI:=ae aV;have dY:=ae b0;have dF:=ae b1;have eG:=ae b2;have zX:=CR.SB hX;have zY:=CR.SB hY;have HZX:=ae zX;have HZY:=ae zY;have x0:=b0.cell (i:=0) (by omega);have x1:=b0.cell (i:=1) (by omega);have x2:=b0.cell (i:=2) (by omega);have x3:=b0.cell (i:=3) (by omega);have y0:=b1.cell (i:=0) (by omega);have y1:=b1.cell (i:=1) (by omega);have y2:=b1.cell (i:=2) (by omega);have y3:=b1.cell (i:=3) (by omega);simp only[arr]at x0 x1 x2 x3 y0 y1 y2 y3
  have hw1:w.heap.size<W0.heap.size:=by omega
  have iQ:w.heap.size+1<W0.heap.size:=by omega
  have Dj:=Jf X.lv X.b X.a X.n X.p X.ka X.kn X.kp W0;clear hX hY qlj jZ QW QX QS aV b0 b1 b2 zX zY hNE;cases FR:oK X.lv X.n
  ·rw[FR]at Dj;go_wp2_with (fail);refine Dj.mono ?_;rintro e w1 ⟨rfl,az⟩;have eU:=az.size;have Dl:=Jf Y.lv Y.b Y.a Y.n Y.p Y.ka Y.kn Y.kp w1;rw[<-az.cell hw1]at x0 x1 x2 x3;rw[<-az.cell iQ]at y0 y1 y2 y3
   have hv1:w.heap.size<w1.heap.size:=by omega
   have hv2:w.heap.size+1<w1.heap.size:=by omega
   have aS:=ae (gI.out.trans az);have qh:=ae (dY.out.ext az);have Ep:=ae (dF.out.ext az);have qi:=ae (eG.out.ext az);clear az Dj gI dY dF eG;cases FT:oK Y.lv Y.n
   ·rw[FT]at Dl;go_wp2_with (fail);refine Dl.mono ?_;rintro e w2 ⟨rfl,aJ⟩;have hs2:=aJ.size;rw[<-aJ.cell hv1]at x0 x1 x2 x3;rw[<-aJ.cell hv2]at y0 y1 y2 y3
    have hu1:w.heap.size<w2.heap.size:=by omega
    have mo:w.heap.size+1<w2.heap.size:=by omega
    have aZ:=ae (aS.out.trans aJ);have jN:=ae (qh.out.ext aJ);have kG:=ae (Ep.out.ext aJ);have qW:=ae (qi.out.ext aJ)
    have lC:w.heap.size+3<=w2.heap.size:=by omega
    clear aJ Dl aS qh Ep qi yf hw1 iQ hv1 hv2
    have Cr:Hid (¬af lx []):=λhs=>by have:=HZX.out.2 hs;rw[FR]at this;cases this
    have HNY:Hid (¬af ly []):=λhs=>by have:=HZY.out.2 hs;rw[FT]at this;cases this
    clear eU hs2
    by_cases hl0:X.lv=0
    ·have pg:(X.lv==0)=true:=by simpa using hl0
     have hYl:Y.lv=0:=by omega
     have hX:=HX.out;have hY:=HY.out;unfold aN at hX hY;rw[hl0]at hX;rw[hYl]at hY;obtain⟨zx,Q0,hSx,hNx,_⟩:=hX.Nj;obtain⟨zy,Q3,hSy,hNy,_⟩:=hY.Nj;have Ux:Hid (dQ (Mx M w.heap.size (w.heap.size+3)) w2 (.bool X.b) (.slice X.a X.n X.p) zx):=(Q0.fB.more (Mx.more (aI _))).ext aZ.out;have Uy:Hid (dQ (Mx M w.heap.size (w.heap.size+3)) w2 (.bool Y.b) (.slice Y.a Y.n Y.p) zy):=(Q3.fB.more (Mx.more (aI _))).ext aZ.out
     have wy:Hid (aH zx.natAbs+aH zy.natAbs<=1099511627776):=by
      have h1:=jB hNx;have h2:=jB hNy;have h3:=Ev.out;show _<=_;omega
     have HR:Hid (af [(zx*zy,Mo.zero)] R):=by
      refine af.trans ?_ ((af.aF hSx hSy).trans Gv.out);intro m;simp[aF,smul,shift,Mo.add_zero',aL]
     have gK:Hid (Mb (Mx M w.heap.size (w.heap.size+3)) w2):=Mx.mb hM aZ.out.size lC;clear hX hY Q0 Q3 hSx hSy hNx hNy hl0 hYl;go_wp2_with (fail);refine(qnR _ _ _ _ zx zy w2 gK.out Ux.out Uy.out wy.out).mono ?_;rintro e w4 ⟨e0,e1,rfl,hc,bB⟩;obtain⟨b2,a2,n2,p2,rfl,rfl⟩:=hc.form;obtain⟨⟨q0,q1,q2,q3⟩,⟨f0,f1,f2,f3⟩,⟨r0,r1,r2,r3⟩,HF⟩:=vR (M:=M) (w:=w) (qW.out.ext bB) (Mx.at (by omega)) (by omega) (aZ.out.trans bB) ((CR.const hc L).dh HR.out) Mx.sub;simp only[arr]at q0 q1 q2 q3;clear bB hc;go_wp2;exact bu (v:=.agg #[.int .i64 0,.bool b2,.slice a2 n2 p2,.slice none 0 0]) (by simp[results,Tryz.results118,go_sem,r0,r1,r2,r3]) rfl HF.out
    ·have pg:(X.lv==0)=false:=by simpa using hl0
     have hX:=HX.out;unfold aN at hX;obtain⟨D,AY,l7,vG,_,_,b,off,n,cap,P,fF,fw,oI,mg,gH,mi,iB,hb,qC,dP,dB,fQ,fJ,gQ⟩:=hX.IY hl0;simp only[Value.slice.injEq]at oI;obtain⟨nT,hkn,bD⟩:=oI;obtain⟨ou,xS⟩:=Dp l7 (by omega) dB fQ (nZ.out.dh fJ.symm);have yz:=ae dP;have EB:=ae fQ;have HSP:=ae fJ;have Cq:=ae gQ;have Gf:=ae xS;have vE:(0:Int)<=(D:Int):=iw _;have Ad:=ae (lU.out D (by omega));have UM:Hid (∀i,i<n->aK (P i)<=aK lx):=λi hi=>aR (Lg (D+1) n P i hi) gQ;rw[AY]at pg hYX;have Pp:=ae AY
     have Et:Hid (aG w2 w.heap.size 33 4 (arr #[.int .i64 ((D:Int)+1),.bool X.b,.slice X.a X.n X.p,.slice (some ⟨b,off,none⟩) n cap])):=by have:=jN.out;rw[show ak X= #[.int .i64 ((D:Int)+1),.bool X.b,.slice X.a X.n X.p,.slice (some ⟨b,off,none⟩) n cap]from by unfold ak;rw[nT,hkn,bD,AY]]at this;exact this
     clear hX dP dB fQ fJ gQ xS nT hkn bD AY hl0 fF fw jN HX hXf x0 x1 x2 x3;have x0:=Et.out.cell (i:=0) (by omega);have x3:=Et.out.cell (i:=3) (by omega);simp only[arr]at x0 x3
     by_cases kR:Y.lv<(D:Int)+1
     ·obtain⟨i0,hi,hz0,hz1,hz2⟩:=info_parts Tryz.zH;have qwV:decide (Y.lv<(D:Int)+1)=true:=decide_eq_true kR;have EK:Hid (aN M w D Y ly):=CR.OP HY.out (by omega)
      go_wp2_with (first|(refine wpList_make_full _ rfl _ _ _ rfl w2.heap.size 33 i0 (.agg #[.int .i64 0,.bool false,.slice none 0 0,.slice none 0 0]) 4 Tryz.underlying31 hi hz0 hz1 .i64 .i64 _ _ n rfl rfl ?c4 ?c5 ?c2 ?c3 ?c6 ?_))
      case c2=>rw[hz2];omega
      case c3=>unfold maxLen;omega
      case c4=>simp
      case c5=>simp
      case c6=>omega
      intro w5 hown hgrow;have cO:=(aG.made hown rfl (by omega)).congr (f':=gN) (λi _=>Ej i);have bn:=nL hgrow;have qm:Hid (Kids (Mx M w.heap.size (w2.heap.size+1)) w5 D w2.heap.size n (λ_=>[])):=Kids.fresh cO
      have Oh:w2.heap.size+1<=w5.heap.size:=by have:=cO.lt;omega
      have dV:=ae (aZ.out.trans bn);have Px:=ae (Et.out.ext bn);have Ex:=ae (kG.out.ext bn);have dI:=ae (qW.out.ext bn);rw[<-bn.cell hu1]at x0 x3
      have Iz:w.heap.size<w5.heap.size:=by omega
      clear hown hgrow cO bn aZ Et kG qW y0 y1 y2 y3;go_wp2
      go_loopw [55] (λi wr=>∃k:Nat,k<=n/\i=.int .i64 k/\w2.heap.size+1<=wr.heap.size/\Hid (Kids (Mx M w.heap.size (w2.heap.size+1)) wr D w2.heap.size n (λi=>if i<k then aF (P i) ly else[]))/\Hid (Ext w wr)/\Hid (aG wr w.heap.size 33 4 (arr #[.int .i64 ((D:Int)+1),.bool X.b,.slice X.a X.n X.p,.slice (some ⟨b,off,none⟩) n cap]))/\
       Hid (aG wr (w.heap.size+1) 33 4 (arr (ak Y)))/\Hid (aG wr (w.heap.size+2) 33 4 (arr #[.int .i64 0,.bool false,.slice none 0 0,.slice none 0 0]))) (λi _=>n-(intOf i).toNat)
      case atStart=>exact⟨0,bK _,rfl,Oh,qm.out.congr λi _=>by rw[ah (by omega)];exact af.refl _,dV,Px,Ex,dI⟩
      case round=>
       clear qm dV Px Ex dI x0 x3 Oh Iz;obtain⟨k,hk,rfl,hsz,HK,cZ,uO,Pm,jJ⟩:=hrel
       by_cases hlt:k<n
       ·obtain⟨e0,e1,e2,e3,z0,z1,z2,z3,dG⟩:=yz.out k hlt;rw[<-cZ.out.cell hb]at z0 z1 z2 z3
        have jE:b<wr.heap.size:=by omega
        obtain⟨kk,rfl,rfl,rfl,rfl,hkk,_⟩:=dG.pe;have aT:Ext wr (wr.alloc (.cells (ak kk) 33)):=(aA wr).alloc _;have QV:aN (Mx M w.heap.size (w2.heap.size+1)) (wr.alloc (.cells (ak kk) 33)) D kk (P k):=((hkk.more (Mx.more (aI _))).ext cZ.out).ext aT;have qkt:aN (Mx M w.heap.size (w2.heap.size+1)) (wr.alloc (.cells (ak kk) 33)) D Y ly:=((EK.out.more (Mx.more (aI _))).ext cZ.out).ext aT;have jD:Mb (Mx M w.heap.size (w2.heap.size+1)) (wr.alloc (.cells (ak kk) 33)):=Mx.mb hM (by simp;have:=cZ.out.size;omega) (by simp;omega);have aW:=ae (Ad.out _ _ _ _ _ _ _ _ _ _ _ _ _ _ jD QV qkt (by have:=Ev.out;have:=jB (UM.out k hlt);omega) (Gf.out k hlt) Zp.out qg.out);have fH:=ae aT;have DF:=Pm.out.ext aT;have y0:=DF.cell (i:=0) (by omega);have y1:=DF.cell (i:=1) (by omega);have y2:=DF.cell (i:=2) (by omega);have y3:=DF.cell (i:=3) (by omega);simp only[arr]at y0 y1 y2 y3;have uF:=DF.lt;clear dG hkk QV qkt jD aT DF;go_wp2_with (fail);refine(aW.out).mono ?_;rintro e w4 ⟨d0,d1,d2,d3,rfl,dG,bB⟩;obtain⟨mr,b2,a2,n2,p2,jH,lD,jI,rfl,rfl,rfl,rfl,_⟩:=dG.form;have fO:=fH.out.trans bB;have fo:=HK.out.ext fO;obtain⟨⟨_,k0⟩,⟨_,k1⟩,⟨_,k2⟩,⟨_,k3⟩,bA,nO⟩:=fo.at k hlt;have fV:=bA (k*4);have fP:=bA (k*4+1);have iU:=bA (k*4+2);have p9:=bA (k*4+3)
        have lV:Hid (Kids (Mx M w.heap.size (w2.heap.size+1)) (aM w4 w2.heap.size (k*4) (.int .i64 mr) (.bool b2) (.slice a2 n2 p2) (.slice jH lD jI)) D w2.heap.size n (λi=>if i<k+1 then aF (P i) ly else[])):=by
         refine(fo.set (Mx.at (by omega)) k hlt dG).congr λi _=>?_
         by_cases iq:i=k
         ·subst iq;rw[ai rfl,ai (by omega)];exact af.refl _
         ·rw[ah iq]
          by_cases h3:i<k
          ·rw[ai h3,ai (by omega)];exact af.refl _
          ·rw[ah h3,ah (by omega)];exact af.refl _
        have dV:Hid (Ext w (aM w4 w2.heap.size (k*4) (.int .i64 mr) (.bool b2) (.slice a2 n2 p2) (.slice jH lD jI))):=(cZ.out.trans fO).aM (by omega) _ _ _ _ _;have oQ:Hid (aG (aM w4 w2.heap.size (k*4) (.int .i64 mr) (.bool b2) (.slice a2 n2 p2) (.slice jH lD jI)) w.heap.size _ _ _):=(uO.out.ext fO).of_heap (iI _ _ _ _ _ _ _ _ (by omega));have oU:Hid (aG (aM w4 w2.heap.size (k*4) (.int .i64 mr) (.bool b2) (.slice a2 n2 p2) (.slice jH lD jI)) (w.heap.size+1) _ _ _):=(Pm.out.ext fO).of_heap (iI _ _ _ _ _ _ _ _ (by omega));have Zd:Hid (aG (aM w4 w2.heap.size (k*4) (.int .i64 mr) (.bool b2) (.slice a2 n2 p2) (.slice jH lD jI)) (w.heap.size+2) _ _ _):=(jJ.out.ext fO).of_heap (iI _ _ _ _ _ _ _ _ (by omega))
        have rf:Hid (w2.heap.size+1<=(aM w4 w2.heap.size (k*4) (.int .i64 mr) (.bool b2) (.slice a2 n2 p2) (.slice jH lD jI)).heap.size):=by show _<=_;rw[nW];have:=fO.size;omega
        clear fo bA dG bB fO;go_wp2
        go_roundw
        case rel=>exact⟨k+1,by omega,by go_num,rf.out,lV,dV,oQ,oU,Zd⟩
        case measure=>simp[intOf];omega
       ·have hkn:k=n:=by omega
        subst hkn;have x0:=uO.out.cell (i:=0) (by omega);simp only[arr]at x0
        have Sd:w.heap.size<wr.heap.size:=by omega
        have HFN:Hid (CR (Mx M w.heap.size (w.heap.size+3)) wr L (.int .i64 ((D:Int)+1)) (.bool false) (.slice none 0 0) (.slice (some ⟨w2.heap.size,0,none⟩) k k) R):=by
         refine(CR.dh (CR.node (D:=D) l7 mg gH (aI _) (by unfold maxLen;omega) (by omega) (λhh=>hh.elim (hM.new (by omega)) (by omega)) (λi hi=>HK.out.bN (λg hg=>.inl (hg.imp id λh=>by omega)) i hi) ?_) ?_).up vG
         ·rw[ai (by omega)];obtain⟨_,_,_,_,_,_,_,_,qxe⟩:=yz.out (k-1) (by omega);exact nV qxe.nn (CR.nn HY.out) EB.out HNY.out
         ·refine af.trans (tT _ _ _ _ λi hi=>by rw[ai hi];exact af.refl _) ((Ya (D+1) k P ly).trans ?_);exact(HSP.out.oC ly).trans Gv.out
        obtain⟨⟨q0,q1,q2,q3⟩,⟨f0,f1,f2,f3⟩,⟨r0,r1,r2,r3⟩,HF⟩:=vR (M:=M) (w:=w) jJ.out (Mx.at (by omega)) (by omega) cZ.out HFN.out Mx.sub;simp only[arr]at q0 q1 q2 q3;go_wp2;exact bu (v:=.agg #[.int .i64 ((D:Int)+1),.bool false,.slice none 0 0,.slice (some ⟨w2.heap.size,0,none⟩) k k]) (by simp[results,Tryz.results118,go_sem,r0,r1,r2,r3]) rfl HF.out
     ·exact absurd ⟨by have:=Pp.out;omega,by have:=Pp.out;omega,FR,FT⟩ qo.out
   ·rw[FT]at Dl
    have Cv:Hid (af [] R):=by
     refine af.trans ?_ Gv.out;exact(((HZY.out.1 FT).sI lx).trans (by rw[Ll];exact af.refl _)).symm
    go_wp2_with (fail);refine Dl.mono ?_;rintro e w2 ⟨rfl,aJ⟩;obtain⟨⟨q0,q1,q2,q3⟩,⟨f0,f1,f2,f3⟩,⟨r0,r1,r2,r3⟩,HF⟩:=vR (M:=M) (w:=w) (qi.out.ext aJ) (Mx.at (M:=M) (k:=w.heap.size+3) ⟨by omega,by omega⟩) (by omega) (aS.out.trans aJ) ((CR.zero (Mx M w.heap.size (w.heap.size+3)) w2 L).dh Cv.out) Mx.sub;simp only[arr]at q0 q1 q2 q3;clear aJ Dl;go_wp2;exact bu (v:=.agg #[.int .i64 0,.bool false,.slice none 0 0,.slice none 0 0]) (by simp[results,Tryz.results118,go_sem,r0,r1,r2,r3]) rfl HF.out
  ·rw[FR]at Dj
   have Cv:Hid (af [] R):=by
    refine af.trans ?_ Gv.out;exact((HZX.out.1 FR).oC ly).symm
   go_wp2_with (fail);refine Dj.mono ?_;rintro e w1 ⟨rfl,az⟩;obtain⟨⟨q0,q1,q2,q3⟩,⟨f0,f1,f2,f3⟩,⟨r0,r1,r2,r3⟩,HF⟩:=vR (M:=M) (w:=w) (eG.out.ext az) (Mx.at (M:=M) (k:=w.heap.size+3) ⟨by omega,by omega⟩) (by omega) (gI.out.trans az) ((CR.zero (Mx M w.heap.size (w.heap.size+3)) w1 L).dh Cv.out) Mx.sub;simp only[arr]at q0 q1 q2 q3;clear az Dj;go_wp2;exact bu (v:=.agg #[.int .i64 0,.bool false,.slice none 0 0,.slice none 0 0]) (by simp[results,Tryz.results118,go_sem,r0,r1,r2,r3]) rfl HF.out
end Go.Proofs.YtmcfpnmoklnhoaaGreat
