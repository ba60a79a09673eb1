/- Mf -/
import Derived.Test.YtaafefeafonhdaaGreatMe
set_option linter.unusedVariables false
set_option maxRecDepth 100000
set_option maxHeartbeats 400000000
set_option linter.unusedSimpArgs false
namespace Go.Proofs.YtaafefeafonhdaaGreat
open Go.RowKit
theorem Tryz.qoF:(Tryz.prog.info? 30).map (λi=>(i.zero,i.size,i.bytes))=some (some (.agg #[.bool false,.slice none 0 0]),2,32):=by kernel_rfl
def yC(w:World)(g N k:Nat)(x:Nat->PE):Prop:=∃f,au w g 30 (N*2) f/\∀i,i<k->f (i*2)=.bool (x i).b/\f (i*2+1)=.slice (x i).a (x i).n (x i).p
theorem yC.set{w:World}{g N k:Nat}{x:Nat->PE}(h:yC w g N k x):yC ((w.setCell ⟨g,k*2,none⟩ (.bool (x k).b)).setCell ⟨g,k*2+1,none⟩ (.slice (x k).a (x k).n (x k).p)) g N (k+1) x:=by
 obtain⟨f,hB,hf⟩:=h;refine⟨_,(hB.set _ _).set _ _,λi hi=>?_⟩;unfold fG
 by_cases fe:i=k
 ·subst fe;simp
 ·rw[aj (by omega),aj (by omega),aj (by omega),aj (by omega)];exact hf i (by omega)
theorem yC.ext{w w':World}{g N k:Nat}{x:Nat->PE}(h:yC w g N k x)(he:Ext w w'):yC w' g N k x:=by
 obtain⟨f,hB,hf⟩:=h;exact⟨f,hB.ext he,hf⟩
theorem yC.at{w:World}{g N k j:Nat}{x:Nat->PE}(h:yC w g N k x)(hj:j<N):(∃e,w.cell? ⟨g,j*2,none⟩=some e)/\(∃e,w.cell? ⟨g,j*2+1,none⟩=some e)/\(∀o,w.frozen? ⟨g,o,none⟩=false)/\g<w.heap.size:=by
 obtain⟨f,hB,hf⟩:=h;exact⟨⟨_,hB.cell (by omega)⟩,⟨_,hB.cell (by omega)⟩,hB.frozen,hB.lt⟩
theorem yC.row{M:Nat->Prop}{w:World}{g N:Nat}{x:Nat->PE}{z:Nat->Int}(h:yC w g N N x)(hN:N<=1099511627776)(hz:∀i,i<N->dh M w (.bool (x i).b) (.slice (x i).a (x i).n (x i).p) (z i)):qiJ M w (.slice (some ⟨g,0,none⟩) N N) N z:=by
 obtain⟨f,hB,hf⟩:=h;refine⟨hN,.inr ⟨g,0,N,_,_,rfl,aA _,by unfold maxLen;omega,hB.lt,λi hi=>⟨?_,?_,hz i hi⟩⟩⟩
 ·rw[Nat.zero_add,hB.cell (by omega),(hf i hi).1]
 ·rw[Nat.zero_add,hB.cell (by omega),(hf i hi).2]
theorem qAB(x:Nat->PE)(k:Nat)(h:0<jI x k):∃i,i<k/\(x i).lv=jI x k:=by
 induction k with
 |zero=>exact absurd h (Int.lt_irrefl 0)
 |succ k ih=>
  unfold jI at h⊢
  split
  ·exact⟨k,by omega,rfl⟩
  ·rename_i hc;rw[aj hc]at h;obtain⟨i,hi,e⟩:=ih h;exact⟨i,by omega,e⟩
def ni(x:Nat->PE)(P:Nat->List Tm)(Q:Nat->Nat->List Tm)(D e i:Nat):List Tm:=if(x i).lv=(D:Int)+1 then(if e<(x i).kn then Q i e else[])else(if e=0 then P i else[])
def Yy(L:Nat):Prop:=∀(M:Nat->Prop)(v:Value)(N:Nat)(P:Nat->List Tm)(w:World),Mb M w->dP M w L v N P->aF (aB (bF N P))<=1099511627776->Calls Tryz.prog 39 #[v] w (vE M w L (bF N P))
theorem qtT(L:Nat)(ih:∀D,D<L->Yy D):Yy L:=by
 intro M v N P w hM h hL;obtain⟨i0,hi,hz0,hz1,hz2⟩:=info_parts Tryz.xU;obtain⟨j0,hj,qL,jX,ui⟩:=info_parts Tryz.qoF;obtain⟨a,cap,rfl⟩:=h.form;obtain⟨x,hx⟩:=h.x;have yT:=h.1;have HX:=ae hx;have HH:=ae h;have HL:=ae hL;have pE:=ae ih;have aL:Ext w (w.alloc (.cells #[.int .i64 0,.bool false,.slice none 0 0,.slice none 0 0] 42)):=(ai w).alloc _;have dO:=ae (au.aO w #[.int .i64 0,.bool false,.slice none 0 0,.slice none 0 0] 42 4 rfl);have dC:=ae aL;clear h hL hx aL ih
 go_enter Tryz.func39,Tryz.ntmps39
 go_wp2
 go_loopw [17,3,4] (λi lv s wr=>∃k:Nat,k<=N/\i=.int .i64 k/\lv=.int .i64 (jI x k)/\s=.int .i64 (jO x k)/\Hid (Ext (w.alloc (.cells #[.int .i64 0,.bool false,.slice none 0 0,.slice none 0 0] 42)) wr)) (λi _ _ _=>N-(intOf i).toNat)
 case atStart=>exact⟨0,bu _,rfl,rfl,rfl,ai _⟩
 case round=>
  obtain⟨k,hk,rfl,rfl,rfl,iP⟩:=hrel;have hsz:=iP.out.size;simp only[World.size_alloc]at hsz
  by_cases hlt:k<N
  ·obtain⟨⟨b,off,rfl,jG,eu,hb,nV,hcell⟩,bW,hl0,RY,KM⟩:=HX.out k hlt;obtain⟨y0,y1,y2,y3⟩:=hcell.ext hb (dC.out.trans iP.out)
   have gD:b<wr.heap.size:=by omega
   have hkn:=bW.SV;have nE:Hid (jO x k<=1099511627776):=qph x k _ λi hi=>(HX.out i (by omega)).2.1.SV;clear bW hcell
   by_cases c1:jI x k<(x k).lv
   ·have Jb:Hid ((x k).lv=jI x (k+1)):=by show _=_;unfold jI;rw[av c1]
    have j5:Hid ((x k).kn=jO x (k+1)):=by show _=_;unfold jO;rw[av c1]
    have ek:=ae (iP.out.alloc (.cells #[.int .i64 (x k).lv,.bool (x k).b,.slice (x k).a (x k).n (x k).p,.slice (x k).ka (x k).kn (x k).kp] 42));go_wp2
    go_roundw
    case rel=>exact⟨k+1,by omega,by go_num,by rw[Jb.out],by rw[j5.out],ek⟩
    case measure=>simp[intOf];omega
   ·have c1':decide (jI x k<(x k).lv)=false:=decide_eq_false c1;have ek:=ae (iP.out.alloc (.cells #[.int .i64 (x k).lv,.bool (x k).b,.slice (x k).a (x k).n (x k).p,.slice (x k).ka (x k).kn (x k).kp] 42))
    have Jb:Hid (jI x k=jI x (k+1)):=by show _=jI x (k+1);conv=>rhs;unfold jI;rw[aj c1]
    by_cases c2:(x k).lv=jI x k
    ·have c2':((x k).lv==jI x k)=true:=by simpa using c2
     by_cases c3:jO x k<(x k).kn
     ·have j5:Hid ((x k).kn=jO x (k+1)):=by show _=_;unfold jO;rw[aj c1,av c2,av c3]
      have Jf:Hid (max (jO x k:Int) ((x k).kn:Int)=(jO x (k+1):Int)):=by show _=_;rw[<-j5.out];omega
      clear c2;go_wp2
      go_roundw
      case rel=>exact⟨k+1,by omega,by go_num,by rw[Jb.out],by rw[Jf.out],ek⟩
      case measure=>simp[intOf];omega
     ·have j5:Hid (jO x k=jO x (k+1)):=by show _=jO x (k+1);conv=>rhs;unfold jO;rw[aj c1,av c2,aj c3]
      have Jf:Hid (max (jO x k:Int) ((x k).kn:Int)=(jO x (k+1):Int)):=by show _=_;rw[<-j5.out];omega
      clear c2;go_wp2
      go_roundw
      case rel=>exact⟨k+1,by omega,by go_num,by rw[Jb.out],by rw[Jf.out],ek⟩
      case measure=>simp[intOf];omega
    ·have c2':((x k).lv==jI x k)=false:=by simpa using c2
     have j5:Hid (jO x k=jO x (k+1)):=by show _=jO x (k+1);conv=>rhs;unfold jO;rw[aj c1,aj c2]
     clear c2;go_wp2
     go_roundw
     case rel=>exact⟨k+1,by omega,by go_num,by rw[Jb.out],by rw[j5.out],ek⟩
     case measure=>simp[intOf];omega
  ·have hkn:k=N:=by omega
   subst hkn;obtain⟨wo,rfl⟩:∃wo:World,wo=wr:=⟨_,rfl⟩;have bM:=ae (dC.out.trans iP.out);have iO:=ae (dO.out.ext iP.out)
   by_cases hz:jI x k=0
   ·have Dz:(jI x k==0)=true:=by simpa using hz
    obtain⟨z,Bi⟩:=pick (0:Int) (n:=k) (Q:=λi z=>dH M w (.bool (x i).b) (.slice (x i).a (x i).n (x i).p) z/\af [(z,Mo.zero)] (P i)/\z.natAbs<=aB (P i)) (λi hi=>by
     obtain⟨_,bW,hl0,_⟩:=HX.out i hi;have h1:=qe7 x k i hi
     have h2:(x i).lv=0:=by omega
     unfold aG at bW;rw[h2]at bW;obtain⟨z,hI,hS,hN,_⟩:=bW.Nf
     exact⟨z,hI,hS,hN⟩)
    have HZZ:=ae Bi;clear hz Bi
    go_wp2_with (first|(refine wpList_make_full _ rfl _ _ _ rfl wo.heap.size 30 j0 (.agg #[.bool false,.slice none 0 0]) 2 Tryz.underlying65 hj qL jX .i64 .i64 _ _ k rfl rfl ?c4 ?c5 ?c2 ?c3 ?c6 ?_))
    case c2=>rw[ui];omega
    case c3=>unfold maxLen;omega
    case c4=>simp
    case c5=>simp
    case c6=>omega
    intro w1 hown hgrow;have bR:=(au.made hown rfl (by omega));have ah:=mE hgrow;have UC:Hid (yC w1 wo.heap.size k 0 x):=⟨_,bR,λi hi=>by omega⟩;clear hown hgrow bR;go_wp2
    go_loopw [44] (λi wr=>∃q:Nat,q<=k/\i=.int .i64 q/\Hid (yC wr wo.heap.size k q x)/\Hid (Ext wo wr)) (λi _=>k-(intOf i).toNat)
    case atStart=>exact⟨0,bu _,rfl,UC,ah⟩
    case round=>
     clear UC ah;obtain⟨q,hq,rfl,ZL,I5⟩:=hrel;have Sg:=I5.out.size
     by_cases Oj:q<k
     ·obtain⟨⟨b,off,rfl,jG,eu,hb,nV,hcell⟩,bW,hl0,RY,KM⟩:=HX.out q Oj;obtain⟨y0,y1,y2,y3⟩:=hcell.ext hb (bM.out.trans I5.out)
      have gD:b<wr.heap.size:=by omega
      have ek:Hid (Ext wr (wr.alloc (.cells #[.int .i64 (x q).lv,.bool (x q).b,.slice (x q).a (x q).n (x q).p,.slice (x q).ka (x q).kn (x q).kp] 42))):=(ai wr).alloc _;obtain⟨⟨_,n0⟩,⟨_,n1⟩,bn,gP⟩:=(ZL.out.ext ek.out).at Oj;have fr0:=bn (q*2);have fr1:=bn (q*2+1);have BP:=ae (ZL.out.ext ek.out).set;have aZ:Hid (Ext wo (((wr.alloc (.cells #[.int .i64 (x q).lv,.bool (x q).b,.slice (x q).a (x q).n (x q).p,.slice (x q).ka (x q).kn (x q).kp] 42)).setCell ⟨wo.heap.size,q*2,none⟩ (.bool (x q).b)).setCell ⟨wo.heap.size,q*2+1,none⟩ (.slice (x q).a (x q).n (x q).p))):=((I5.out.trans ek.out).set (by simp) _).set (by simp) _;clear bW hcell bn;go_wp2
      go_roundw
      case rel=>exact⟨q+1,by omega,by go_num,BP,aZ⟩
      case measure=>simp[intOf];omega
     ·have qej:q=k:=by omega
      subst qej;have HRO:=ae (ZL.out.row (M:=Mx M w.heap.size (w.heap.size+1)) (z:=z) yT (λi hi=>(((HZZ.out i hi).1.dB).more (Mx.more (aA _))).ext (bM.out.trans I5.out)));have HZA:Hid (aF (zK z q)<=1099511627776):=aK (fu (qEY z q P λi hi=>(HZZ.out i hi).2.2)) HL.out;have fQ:Hid (Mb (Mx M w.heap.size (w.heap.size+1)) wr):=Mx.mb hM (bM.out.trans I5.out).size (by omega);go_wp2_with (fail);refine(qzK _ q z wr fQ.out HRO.out HZA.out).mono ?_;rintro e w2 ⟨e0,e1,rfl,hc,az⟩;obtain⟨b2,a2,n2,p2,rfl,rfl⟩:=hc.form;obtain⟨⟨q0,q1,q2,q3⟩,⟨f0,f1,f2,f3⟩,⟨r0,r1,r2,r3⟩,HF⟩:=vw (M:=M) (w:=w) (L:=L) ((iO.out.ext I5.out).ext az) (Mx.at (by omega)) (aA _) ((bM.out.trans I5.out).trans az) ((CR.const hc L).bP ((qB2 z q).trans (Lt λi hi=>(HZZ.out i hi).2.1))) Mx.sub;simp only[arr]at q0 q1 q2 q3;clear hc az;go_wp2;exact aV (v:=.agg #[.int .i64 0,.bool b2,.slice a2 n2 p2,.slice none 0 0]) (by simp[results,Tryz.results39,go_sem,r0,r1,r2,r3]) rfl HF.out
   ·obtain⟨D,hD⟩:∃D:Nat,jI x k=(D:Int)+1:=⟨(jI x k-1).toNat,by have:=qAC x k;omega⟩
    have nT:D+1<=4:=by have:=qpg x k 4 (by omega) λi hi=>(HX.out i hi).2.2.2.2;omega
    have Aj:D+1<=L:=by have:=qpg x k L (by omega) λi hi=>(HX.out i hi).2.2.2.1;omega
    have FW:Hid (∀i,i<k->(x i).lv<=(D:Int)+1):=λi hi=>by have:=qe7 x k i hi;omega
    have uF:Hid (∀i,i<k->(x i).lv=(D:Int)+1->(x i).kn<=jO x k):=λi hi he=>qAD x k i hi (by omega);have hsL:jO x k<=1099511627776:=qph x k _ λi hi=>(HX.out i hi).2.1.SV;obtain⟨i1,NZ,Wv⟩:=qAB x k (by omega);have uQ:(0:Int)<=(D:Int):=jE _
    have yQ:((D:Int)+1==0)=false:=by simp;omega
    obtain⟨Q,hQ⟩:=pick (λ_=>([]:List Tm)) (n:=k) (Q:=λi Q=>(x i).lv=(D:Int)+1->∃b off,(x i).ka=some ⟨b,off,none⟩/\2<=(x i).kn/\(x i).kn<=(x i).kp/\(x i).kp<=maxLen/\b<w.heap.size/\¬M b/\(∀e,e<(x i).kn->uI M w D b (off+e*4) (Q e))/\af (aM (D+1) (x i).kn Q) (P i)/\∀e,e<(x i).kn->aB (Q e)<=aB (P i)) (λi hi=>by
     by_cases hl:(x i).lv=(D:Int)+1
     ·obtain⟨_,bW,_⟩:=HX.out i hi;unfold aG at bW;rw[hl]at bW;obtain⟨D',hDD,_,_,a',p',b,off,n1,xA,Q,fw,eX,kT,mI,dY,jG,eu,hb,nV,dw,bZ,fO,eB,jB⟩:=bW.Io (by omega)
      have:D'=D:=by omega
      subst this;simp only[Value.slice.injEq]at kT;refine⟨Q,λ_=>⟨b,off,kT.1,by omega,by omega,by omega,hb,nV,λe he=>dw e (by omega),?_,λe he=>?_⟩⟩
      ·rw[kT.2.1];exact eB
      ·exact aK (DR (D'+1) n1 Q e (by omega)) jB
     ·exact⟨λ_=>[],λh=>absurd h hl⟩)
    have hs2:2<=jO x k:=by
     obtain⟨_,_,_,h2,_⟩:=hQ i1 NZ (by omega);have:=uF.out i1 NZ (by omega);omega
    have HQ:=ae hQ
    have F6:Hid (af (aM (D+1) (jO x k) λe=>bF k (ni x P Q D e)) (bF k P)):=by
     refine(qBQ _ _ _ _).trans (Lt λi hi=>?_)
     by_cases hl:(x i).lv=(D:Int)+1
     ·obtain⟨_,_,_,_,_,_,_,_,_,eB,_⟩:=hQ i hi hl;have hle:=uF.out i hi hl;refine af.trans ((Ty hle λe h1 h2=>?_).symm.trans (qO _ _ _ _ λe he=>?_)) eB
      ·unfold ni;rw[av hl,aj (by omega)];exact af.refl _
      ·unfold ni;rw[av hl,av he];exact af.refl _
     ·refine af.trans (Ty (show 1<=jO x k by omega) λe h1 h2=>?_).symm ((qp8 _ _).trans ?_)
      ·unfold ni;rw[aj hl,aj (by omega)];exact af.refl _
      ·unfold ni;rw[aj hl,av rfl];exact af.refl _
    have FZ:Hid (∀e,aF (aB (bF k (ni x P Q D e)))<=1099511627776):=λe=>by
     refine aK (fu (qqm λi hi=>?_)) HL.out;unfold ni
     by_cases hl:(x i).lv=(D:Int)+1
     ·rw[av hl]
      split
      ·obtain⟨_,_,_,_,_,_,_,_,_,_,jB⟩:=hQ i hi hl;exact jB e (by assumption)
      ·exact bu _
     ·rw[aj hl]
      split
      ·exact aA _
      ·exact bu _
    have zQ:=ae (pE.out D (by omega));rw[hD];generalize jO x k=s at*;clear hQ hz hD NZ Wv
    go_wp2_with (first|(refine wpList_make_full _ rfl _ _ _ rfl wo.heap.size 42 i0 (.agg #[.int .i64 0,.bool false,.slice none 0 0,.slice none 0 0]) 4 Tryz.underlying34 hi hz0 hz1 .i64 .i64 _ _ s rfl rfl ?d4 ?d5 ?d2 ?d3 ?d6 ?_))
    case d2=>rw[hz2];omega
    case d3=>unfold maxLen;omega
    case d4=>simp
    case d5=>simp
    case d6=>omega
    intro w1 hown hgrow;have bR:=(au.made hown rfl (by omega)).congr (f':=fH) (λi _=>Ed i);have ah:=mE hgrow;have bS:=ae (iO.out.ext ah);have aP:=ae (bM.out.trans ah)
    have dI:wo.heap.size+1<=w1.heap.size:=by have:=bR.lt;omega
    have l6:Hid (Kids (Mx M w.heap.size (wo.heap.size+1)) w1 D wo.heap.size s (λ_=>[])):=Kids.fresh bR;clear hown hgrow bR ah;go_wp2
    go_loopw [62] (λi wr=>∃e:Nat,e<=s/\i=.int .i64 e/\wo.heap.size+1<=wr.heap.size/\Hid (Kids (Mx M w.heap.size (wo.heap.size+1)) wr D wo.heap.size s (λi=>if i<e then bF k (ni x P Q D i)else[]))/\Hid (Ext w wr)/\Hid (au wr w.heap.size 42 4 (arr #[.int .i64 0,.bool false,.slice none 0 0,.slice none 0 0]))) (λi _=>s-(intOf i).toNat)
    case atStart=>exact⟨0,bu _,rfl,dI,l6.out.congr λi _=>by rw[aj (by omega)];exact af.refl _,aP,bS⟩
    case round=>
     clear l6 aP bS dI;obtain⟨e,he,rfl,K3,HK,FT,qgU⟩:=hrel
     by_cases hes:e<s
     ·go_wp2;obtain⟨wi,rfl⟩:∃wi:World,wi=wr:=⟨_,rfl⟩
      go_loopw [67,12] (λi v wr=>∃(q c:Nat)(xx:Nat->PE)(S:Nat->List Tm),q<=k/\c<=q/\i=.int .i64 q/\Own wr wi.heap.size 42 4 v c (px xx)/\Hid (∀i,i<c->aG (Mx M w.heap.size (wo.heap.size+1)) wi D (xx i) (S i))/\Hid (bF c S=bF q (ni x P Q D e))/\Hid (Ext wi wr)) (λi _ _=>k-(intOf i).toNat)
      case atStart=>exact⟨0,0,λ_=>PE.z,λ_=>[],bu _,aA _,rfl,Own.nil _ _ _ _ _,λi hi=>by omega,rfl,ai _⟩
      case round=>
       obtain⟨q,c,xx,S,hq,RB,rfl,hO,HS,qm,BI⟩:=hrel;obtain⟨va,vc,rfl⟩:=hO.form;have K4:=BI.out.size
       by_cases Oj:q<k
       ·obtain⟨⟨b,off,rfl,jG,eu,hb,nV,hcell⟩,bW,hl0,RY,KM⟩:=HX.out q Oj;obtain⟨y0,y1,y2,y3⟩:=hcell.ext hb (FT.out.trans BI.out)
        have gD:b<wr.heap.size:=by omega
        have Ze:Hid (aG (Mx M w.heap.size (wo.heap.size+1)) wi L (x q) (P q)):=(bW.more (Mx.more (aA _))).ext FT.out;have ek:Hid (Ext wr (wr.alloc (.cells (ag (x q)) 42))):=(ai wr).alloc _;have hle:=FW.out q Oj;have HKL:=bW.SV;clear bW hcell
        by_cases hl:(x q).lv=(D:Int)+1
        ·have Fe:((x q).lv==(D:Int)+1)=true:=by simpa using hl
         have Hd:decide ((x q).lv<(D:Int)+1)=false:=decide_eq_false (by omega)
         by_cases tY:e<(x q).kn
         ·obtain⟨b2,rH,jN,mH,qGl,N9,gU,qxf,dw,_⟩:=HQ.out q Oj hl;obtain⟨d0,d1,d2,d3,u0,u1,u2,u3,hCK⟩:=dw e tY;obtain⟨y,rfl,rfl,rfl,rfl,hyC,_⟩:=hCK.pe;rw[<-(FT.out.trans BI.out).cell gU]at u0 u1 u2 u3
          have qFD:b2<wr.heap.size:=by omega
          have HYC:Hid (aG (Mx M w.heap.size (wo.heap.size+1)) wi D y (Q q e)):=(hyC.more (Mx.more (aA _))).ext FT.out;rw[jN]at y3
          have Ji:Hid (ni x P Q D e q=Q q e):=by show _=_;unfold ni;rw[av hl,av tY]
          clear dw hCK hyC hl;have BH:Hid (Ext wr ((wr.alloc (.cells #[.int .i64 (x q).lv,.bool (x q).b,.slice (x q).a (x q).n (x q).p,.slice (some ⟨b2,rH,none⟩) (x q).kn (x q).kp] 42)).alloc (.cells (ag y) 42))):=((ai wr).alloc _).alloc _;have jg:=hO.ext BH.out;have dW:=au.aO (wr.alloc (.cells #[.int .i64 (x q).lv,.bool (x q).b,.slice (x q).a (x q).n (x q).p,.slice (some ⟨b2,rH,none⟩) (x q).kn (x q).kp] 42)) (ag y) 42 4 rfl;simp only[World.size_alloc]at dW;clear jN;have mi:Hid (∀j,j<4->(arr (ag y) j).oneCell'=true):=Bu y
          go_wp2_with (at_builtin;refine yj _ rfl (.tmp 83) (.tmp 89) _ rfl wi.heap.size 42 i0 _ 4 64 Tryz.underlying34 hi hz0 hz1 hz2 rfl (by omega) (.slice va c vc) c (px xx) rfl jg (wr.heap.size+1) 42 1 (arr (ag y)) rfl dW mi.out ?s1 ?s2 ?s3 ?_)
          case s1=>unfold maxLen;omega
          case s2=>omega
          case s3=>simp;omega
          intro gg cap2 w2 ed bK hat uf;have Rj:Ext wi w2:=(BI.out.trans BH.out).grown bK (λg hg=>(hO.lt g hg).1)
          have HF:Hid (∃(q' c':Nat)(xx:Nat->PE)(S:Nat->List Tm),q'<=k/\c'<=q'/\Value.int .i64 ((q:Int)+1)=.int .i64 q'/\Own w2 wi.heap.size 42 4 (.slice (some ⟨gg,0,none⟩) (c+1) cap2) c' (px xx)/\Hid (∀i,i<c'->aG (Mx M w.heap.size (wo.heap.size+1)) wi D (xx i) (S i))/\Hid (bF c' S=bF q' (ni x P Q D e))/\Hid (Ext wi w2)):=by
           refine⟨q+1,c+1,snoc xx c y,snoc S c (Q q e),by omega,by omega,by simp,ed.congr λj hj=>DT xx c y j hj,λi hi=>?_,?_,Rj⟩
           ·by_cases qI:i=c
            ·subst qI;rw[jC,jC];exact HYC.out
            ·rw[j4 _ _ _ _ (by omega),j4 _ _ _ _ (by omega)];exact HS.out i (by omega)
           ·show _=_;rw[qfs,kL,qm.out,Ji.out]
          clear ed bK hat Rj jg dW hO;go_wp2
          go_roundw
          case rel=>exact HF.out
          case measure=>simp[intOf];omega
         ·have qFU:decide ((e:Int)<((x q).kn:Int))=false:=decide_eq_false (by omega);have qFV:decide (e<(x q).kn)=false:=decide_eq_false tY
          have Ji:Hid (ni x P Q D e q=[]):=by show _=_;unfold ni;rw[av hl,aj tY]
          have Er:Hid (bF c S=bF (q+1) (ni x P Q D e)):=by show _=_;rw[kL,Ji.out,List.append_nil];exact qm.out
          have Ki:=hO.ext ek.out;have aZ:=ae (BI.out.trans ek.out);clear hl hO;go_wp2
          go_roundw
          case rel=>exact⟨q+1,c,xx,S,by omega,by omega,by go_num,Ki,HS,Er,aZ⟩
          case measure=>simp[intOf];omega
        ·have Fe:((x q).lv==(D:Int)+1)=false:=by simpa using hl
         have Hd:decide ((x q).lv<(D:Int)+1)=true:=decide_eq_true (by omega)
         by_cases wu:e=0
         ·have qxJ:((e:Int)==0)=true:=by simp;omega
          have Ji:Hid (ni x P Q D e q=P q):=by show _=_;unfold ni;rw[aj hl,av wu]
          have HYC:Hid (aG (Mx M w.heap.size (wo.heap.size+1)) wi D (x q) (P q)):=CR.OW Ze.out (by omega);have BH:Hid (Ext wr ((wr.alloc (.cells (ag (x q)) 42)).alloc (.cells (ag (x q)) 42))):=((ai wr).alloc _).alloc _;have jg:=hO.ext BH.out;have dW:=au.aO (wr.alloc (.cells (ag (x q)) 42)) (ag (x q)) 42 4 rfl;simp only[World.size_alloc]at dW;have mi:Hid (∀j,j<4->(arr (ag (x q)) j).oneCell'=true):=Bu (x q);clear hl wu
          go_wp2_with (at_builtin;refine yj _ rfl (.tmp 100) (.tmp 102) _ rfl wi.heap.size 42 i0 _ 4 64 Tryz.underlying34 hi hz0 hz1 hz2 rfl (by omega) (.slice va c vc) c (px xx) rfl jg (wr.heap.size+1) 42 1 (arr (ag (x q))) rfl dW mi.out ?t1 ?t2 ?t3 ?_)
          case t1=>unfold maxLen;omega
          case t2=>omega
          case t3=>simp;omega
          intro gg cap2 w2 ed bK hat uf;have Rj:Ext wi w2:=(BI.out.trans BH.out).grown bK (λg hg=>(hO.lt g hg).1)
          have HF:Hid (∃(q' c':Nat)(xx:Nat->PE)(S:Nat->List Tm),q'<=k/\c'<=q'/\Value.int .i64 ((q:Int)+1)=.int .i64 q'/\Own w2 wi.heap.size 42 4 (.slice (some ⟨gg,0,none⟩) (c+1) cap2) c' (px xx)/\Hid (∀i,i<c'->aG (Mx M w.heap.size (wo.heap.size+1)) wi D (xx i) (S i))/\Hid (bF c' S=bF q' (ni x P Q D e))/\Hid (Ext wi w2)):=by
           refine⟨q+1,c+1,snoc xx c (x q),snoc S c (P q),by omega,by omega,by simp,ed.congr λj hj=>DT xx c (x q) j hj,λi hi=>?_,?_,Rj⟩
           ·by_cases qI:i=c
            ·subst qI;rw[jC,jC];exact HYC.out
            ·rw[j4 _ _ _ _ (by omega),j4 _ _ _ _ (by omega)];exact HS.out i (by omega)
           ·show _=_;rw[qfs,kL,qm.out,Ji.out]
          clear ed bK hat Rj jg dW hO;go_wp2
          go_roundw
          case rel=>exact HF.out
          case measure=>simp[intOf];omega
         ·have qxJ:((e:Int)==0)=false:=by simp;omega
          have Ji:Hid (ni x P Q D e q=[]):=by show _=_;unfold ni;rw[aj hl,aj wu]
          have Er:Hid (bF c S=bF (q+1) (ni x P Q D e)):=by show _=_;rw[kL,Ji.out,List.append_nil];exact qm.out
          have Ki:=hO.ext ek.out;have aZ:=ae (BI.out.trans ek.out);clear hl hO;go_wp2
          go_roundw
          case rel=>exact⟨q+1,c,xx,S,by omega,by omega,by go_num,Ki,HS,Er,aZ⟩
          case measure=>simp[intOf];omega
       ·have qej:q=k:=by omega
        subst qej;have fQ:Hid (Mb (Mx M w.heap.size (wo.heap.size+1)) wi):=Mx.mb hM FT.out.size K3;have rT:=ae (hO.toK (M:=Mx M w.heap.size (wo.heap.size+1)) (D:=D) (S:=S) (λi hi=>(HS.out i hi).ext BI.out) (λg hg=>fQ.out.new hg) (by omega));have aJ:=ae (zQ.out _ _ _ _ _ (fQ.out.ext BI.out) rT.out (by rw[qm.out];exact FZ.out e));go_wp2_with (fail);refine(aJ.out).mono ?_;rintro e2 w4 ⟨d0,d1,d2,d3,rfl,bW,bg⟩;obtain⟨lF,b2,a2,n2,p2,iW,kC,iX,rfl,rfl,rfl,rfl,_⟩:=bW.form;have aU:=BI.out.trans bg;have fJ:=HK.out.ext aU;obtain⟨⟨_,k0⟩,⟨_,k1⟩,⟨_,k2⟩,⟨_,k3⟩,bn,jh⟩:=fJ.at e hes;have jw:=bn (e*4);have ku:=bn (e*4+1);have kv:=bn (e*4+2);have oU:=bn (e*4+3)
        have nD:Hid (Kids (Mx M w.heap.size (wo.heap.size+1)) (aD w4 wo.heap.size (e*4) (.int .i64 lF) (.bool b2) (.slice a2 n2 p2) (.slice iW kC iX)) D wo.heap.size s (λi=>if i<e+1 then bF q (ni x P Q D i)else[])):=by
         refine(fJ.set (Mx.at (by omega)) e hes bW).congr λi _=>?_
         by_cases fe:i=e
         ·subst fe;rw[av rfl,av (by omega),qm.out];exact af.refl _
         ·rw[aj fe]
          by_cases h3:i<e
          ·rw[av h3,av (by omega)];exact af.refl _
          ·rw[aj h3,aj (by omega)];exact af.refl _
        have cZ:Hid (Ext w (aD w4 wo.heap.size (e*4) (.int .i64 lF) (.bool b2) (.slice a2 n2 p2) (.slice iW kC iX))):=(FT.out.trans aU).aD (by omega) _ _ _ _ _;have mM:Hid (au (aD w4 wo.heap.size (e*4) (.int .i64 lF) (.bool b2) (.slice a2 n2 p2) (.slice iW kC iX)) w.heap.size _ _ _):=(qgU.out.ext aU).of_heap (fD _ _ _ _ _ _ _ _ (by omega))
        have uG:Hid (wo.heap.size+1<=(aD w4 wo.heap.size (e*4) (.int .i64 lF) (.bool b2) (.slice a2 n2 p2) (.slice iW kC iX)).heap.size):=by show _<=_;rw[kN];have:=aU.size;omega
        clear fJ bn bW bg aU hO;go_wp2
        go_roundw
        case rel=>exact⟨e+1,by omega,by go_num,uG.out,nD,cZ,mM⟩
        case measure=>simp[intOf];omega
     ·have qxN:e=s:=by omega
      subst qxN
      have rT:Hid (dP (Mx M w.heap.size (w.heap.size+1)) wr D (.slice (some ⟨wo.heap.size,0,none⟩) e e) e (λi=>bF k (ni x P Q D i))):=by
       refine dP.congr (dP.qfi (HK.out.more λg hg=>.inl (hg.imp id λh=>by omega)) (λhh=>hh.elim (hM.new (by omega)) (by omega)) hsL) λi hi=>?_;rw[av hi];exact af.refl _
      have aJ:=ae (qfK (Mx M w.heap.size (w.heap.size+1)) D _ e _ wr (Mx.mb hM FT.out.size (by omega)) nT rT.out);go_wp2_with (fail);refine(aJ.out).mono ?_;rintro e2 w4 ⟨d0,d1,d2,d3,rfl,bW,bg⟩;obtain⟨lF,b2,a2,n2,p2,iW,kC,iX,rfl,rfl,rfl,rfl,_⟩:=bW.form;obtain⟨⟨q0,q1,q2,q3⟩,⟨f0,f1,f2,f3⟩,⟨r0,r1,r2,r3⟩,HF⟩:=vw (M:=M) (w:=w) (L:=L) (qgU.out.ext bg) (Mx.at (by omega)) (aA _) (FT.out.trans bg) ((bW.up Aj).bP F6.out) Mx.sub;simp only[arr]at q0 q1 q2 q3;clear bW bg;go_wp2;exact aV (v:=.agg #[.int .i64 lF,.bool b2,.slice a2 n2 p2,.slice iW kC iX]) (by simp[results,Tryz.results39,go_sem,r0,r1,r2,r3]) rfl HF.out
theorem qqN(L:Nat):Yy L:=by
 induction L using Nat.strongRecOn with
 |_ L ih=>exact qtT L λD hD=>ih D hD
def yz(M:Nat->Prop)(w:World)(u:Value)(c:Nat)(σ:Nat->Nat):Prop:=
 (u=.slice none 0 0/\c=0)\/∃g cap,u=.slice (some ⟨g,0,none⟩) c cap/\c<=cap/\cap<=maxLen/\(g<w.heap.size/\¬M g)/\∀i,i<c->w.cell? ⟨g,i,none⟩=some (.int .i64 (σ i:Nat))
theorem yz.kp{M:Nat->Prop}{w w':World}{u:Value}{c:Nat}{σ:Nat->Nat}(h:yz M w u c σ)(he:Kp M w w'):yz M w' u c σ:=by
 rcases h with h|⟨g,cap,h1,h2,h3,h4,h5⟩
 ·exact .inl h
 ·exact .inr ⟨g,cap,h1,h2,h3,⟨bB h4.1 he.1,h4.2⟩,λi hi=>by rw[he.cell h4.1 h4.2];exact h5 i hi⟩
theorem yz.ext{M:Nat->Prop}{w w':World}{u:Value}{c:Nat}{σ:Nat->Nat}(h:yz M w u c σ)(he:Ext w w'):yz M w' u c σ:=h.kp (Kp.gZ he)
theorem yz.form{M:Nat->Prop}{w:World}{u:Value}{c:Nat}{σ:Nat->Nat}(h:yz M w u c σ):∃a cap,u=.slice a c cap:=by
 rcases h with⟨rfl,rfl⟩|⟨g,cap,rfl,_⟩
 ·exact⟨_,_,rfl⟩
 ·exact⟨_,_,rfl⟩
theorem yz.at{M:Nat->Prop}{w:World}{a:Option Addr}{c cap:Nat}{σ:Nat->Nat}(h:yz M w (.slice a c cap) c σ)(i:Nat)(hi:i<c):∃g,a=some ⟨g,0,none⟩/\c<=cap/\cap<=maxLen/\g<w.heap.size/\¬M g/\w.cell? ⟨g,i,none⟩=some (.int .i64 (σ i:Nat)):=by
 rcases h with⟨_,h⟩|⟨g,cap',h1,h2,h3,h4,h5⟩
 ·omega
 ·simp only[Value.slice.injEq,true_and]at h1;obtain⟨rfl,rfl⟩:=h1;exact⟨g,rfl,h2,h3,h4.1,h4.2,h5 i hi⟩
def jL(nz:Nat->Bool)(k c:Nat)(σ:Nat->Nat):Prop:=(List.range c).map σ=(List.range k).filter nz
theorem jL.len{nz:Nat->Bool}{k c:Nat}{σ:Nat->Nat}(h:jL nz k c σ):c<=k:=by
 have h1:=congrArg List.length h;have h2:=List.length_filter_le nz (List.range k);simp only[List.length_map,List.length_range]at h1 h2;omega
theorem jL.skip{nz:Nat->Bool}{k c:Nat}{σ:Nat->Nat}(h:jL nz k c σ)(hz:nz k=false):jL nz (k+1) c σ:=by
 unfold jL at*;rw[h,List.range_succ,List.filter_append];simp[hz]
theorem jL.take{nz:Nat->Bool}{k c:Nat}{σ:Nat->Nat}(h:jL nz k c σ)(hz:nz k=true):jL nz (k+1) (c+1) (snoc σ c k):=by
 unfold jL at*;rw[List.range_succ,List.map_append,List.range_succ,List.filter_append, <-h]
 congr 1
 ·apply List.map_congr_left;intro i hi;exact j4 _ _ _ _ (by simpa using hi)
 ·simp[hz,jC]
theorem jL.mem{nz:Nat->Bool}{k c:Nat}{σ:Nat->Nat}(h:jL nz k c σ)(i:Nat)(hi:i<c):σ i<k/\nz (σ i)=true:=by
 have:σ i∈(List.range k).filter nz:=by rw[<-h];exact List.mem_map.2 ⟨i,by simpa using hi,rfl⟩
 simpa using this
theorem qBk(z:Int)(j:Nat)(hj:j<1):(arr #[.int .i64 z] j).oneCell'=true:=by
 have:j=0:=by omega
 subst this;rfl
def SI(σ:Nat->Nat):Nat->Value:=λj=>.int .i64 (σ j:Nat)
theorem qzs(σ:Nat->Nat)(c k:Nat)(j:Nat)(hj:j<(c+1)*1):app (SI σ) c (arr #[.int .i64 (k:Int)]) j=SI (snoc σ c k) j:=by
 unfold app SI
 by_cases h:j<c
 ·rw[av h,j4 _ _ _ _ (by omega)]
 ·rw[aj h]
  have:j=c:=by omega
  subst this;rw[jC,Nat.sub_self];rfl
theorem qqQ(M:Nat->Prop)(D:Nat)(v:Value)(N:Nat)(P:Nat->List Tm)(w:World)(hM:Mb M w)(h:dP M w D v N P):
 Calls Tryz.prog 103 #[v] w λe w'=>∃(u:Value)(c:Nat)(σ:Nat->Nat)(nz:Nat->Bool),e=.returned u/\yz M w' u c σ/\jL nz N c σ/\(∀i,i<N->(nz i=true↔¬af (P i) []))/\Ext w w':=by
 obtain⟨i0,hi,hz0,hz1,hz2⟩:=info_parts Tryz.qoE;obtain⟨a,cap,rfl⟩:=h.form;obtain⟨x,hx⟩:=h.x;have yT:=h.1;have HX:=ae hx
 have Jg:Hid (∀i,i<N->(((!mY (x i).lv (x i).n)=true)↔¬af (P i) [])):=λi hi=>by
  have:=CR.SL (hx i hi).2.1;rw[<-this];simp
 clear h hx
 go_enter Tryz.func103,Tryz.ntmps103
 go_wp2
 go_loopw [8,3] (λi v wr=>∃(k c:Nat)(σ:Nat->Nat),k<=N/\i=.int .i64 k/\Own wr w.heap.size 3 1 v c (SI σ)/\Hid (jL (λi=> !mY (x i).lv (x i).n) k c σ)/\Hid (Ext w wr)) (λi _ _=>N-(intOf i).toNat)
 case atStart=>exact⟨0,0,λ_=>0,bu _,rfl,Own.nil _ _ _ _ _,rfl,ai _⟩
 case round=>
  obtain⟨k,c,σ,hk,rfl,hO,HS,iP⟩:=hrel;obtain⟨va,vc,rfl⟩:=hO.form;have hsz:=iP.out.size;have Kw:=HS.out.len
  by_cases hlt:k<N
  ·obtain⟨⟨b,off,rfl,jG,eu,hb,nV,hcell⟩,bW,hl0,RY,KM⟩:=HX.out k hlt;obtain⟨y0,y1,y2,y3⟩:=hcell.ext hb iP.out
   have gD:b<wr.heap.size:=by omega
   have ek:Hid (Ext wr (wr.alloc (.cells (ag (x k)) 42))):=(ai wr).alloc _;have aR:=IA (x k).lv (x k).b (x k).a (x k).n (x k).p (x k).ka (x k).kn (x k).kp (wr.alloc (.cells (ag (x k)) 42));clear bW hcell;cases Fs:mY (x k).lv (x k).n
   ·rw[Fs]at aR;have aJ:=ae aR;have pG:Hid (jL (λi=> !mY (x i).lv (x i).n) (k+1) (c+1) (snoc σ c k)):=HS.out.take (by simp[Fs]);clear aR;go_wp2_with (fail);refine(aJ.out).mono ?_;rintro e w1 ⟨rfl,ah⟩;have dF:Ext wr w1:=ek.out.trans ah;have dI:=dF.size;have jg:=(hO.ext dF).ext ((ai _).alloc (.cells #[.int .i64 (k:Int)] 3));have dW:=au.aO w1 #[.int .i64 (k:Int)] 3 1 rfl;have mi:=ae (qBk (k:Int));have aP:=ae (dF.trans ((ai _).alloc (.cells #[.int .i64 (k:Int)] 3)));clear ah dF
    go_wp2_with (at_builtin;refine yj _ rfl (.tmp 16) (.tmp 18) _ rfl w.heap.size 3 i0 _ 1 8 Tryz.underlying137 hi hz0 hz1 hz2 rfl (by omega) (.slice va c vc) c (SI σ) rfl jg w1.heap.size 3 1 (arr #[.int .i64 (k:Int)]) rfl dW mi.out ?s1 ?s2 ?s3 ?_)
    case s1=>unfold maxLen;omega
    case s2=>omega
    case s3=>simp;omega
    intro gg cap2 w2 ed bK hat uf;have HF:Hid (Ext w w2):=(iP.out.trans aP.out).grown bK (λg hg=>(hO.lt g hg).1);have vU:=ed.congr λj hj=>qzs σ c k j hj;clear ed bK hat jg dW hO;go_wp2
    go_roundw
    case rel=>exact⟨k+1,c+1,snoc σ c k,by omega,by go_num,vU,pG,HF⟩
    case measure=>simp[intOf];omega
   ·rw[Fs]at aR;have aJ:=ae aR;have pG:Hid (jL (λi=> !mY (x i).lv (x i).n) (k+1) c σ):=HS.out.skip (by simp[Fs]);clear aR;go_wp2_with (fail);refine(aJ.out).mono ?_;rintro e w1 ⟨rfl,ah⟩;have dF:Ext wr w1:=ek.out.trans ah;have HF:=ae (iP.out.trans dF);have vU:=hO.ext dF;clear ah dF hO;go_wp2
    go_roundw
    case rel=>exact⟨k+1,c,σ,by omega,by go_num,vU,pG,HF⟩
    case measure=>simp[intOf];omega
  ·have hkn:k=N:=by omega
   subst hkn
   have hI:yz M wr (.slice va c vc) c σ:=by
    rcases hO with h|⟨g,cap',F,h1,hg,hB,ig,eu,hF⟩
    ·exact .inl h
    ·refine .inr ⟨g,cap',h1,ig,eu,⟨hB.lt,hM.new hg⟩,λi hi=>?_⟩;rw[hB.cell (by omega),hF i (by omega)];rfl
   have HI:=ae hI;clear hI;go_wp2;go_ret;exact⟨_,c,σ,_,rfl,HI.out,HS.out,Jg.out,iP.out⟩
theorem qp5(k:Mo)(l r:List Tm):af (aC l (shift k r)) (shift k (aC l r)):=
 (af.zB l (shift k r)).trans ((OO k r l).trans ((af.zB r l).shift k))
theorem qfl(n:Nat)(F:Nat->List Tm)(r:List Tm):af (aC (bF n F) r) (bF n λi=>aC (F i) r):=by
 induction n with
 |zero=>exact af.refl _
 |succ n ih=>rw[kL,kL,Ir];exact ih.append (af.refl _)
theorem qBK(n:Nat)(F:Nat->List Tm)(l:List Tm):af (aC l (bF n F)) (bF n λi=>aC l (F i)):=
 (af.zB _ _).trans ((qfl n F l).trans (Lt λi _=>af.zB _ _))
theorem XY(L n:Nat)(P:Nat->List Tm):aM L n P=bF n λi=>shift (xp L (i:Int)) (P i):=rfl
theorem qER(L:Nat)(i j:Int):Mo.add (xp L i) (xp L j)=xp L (i+j):=by
 unfold xp Mo.add;simp only[Mo.mk.injEq];refine⟨?_,?_,?_,?_⟩<;>(split<;>simp)
def lH(L:Nat)(P Q:Nat->List Tm)(i j:Nat):List Tm:=shift (xp L ((i+j:Nat):Int)) (aC (P i) (Q j))
theorem qBJ(L n n':Nat)(P Q:Nat->List Tm):af (aC (aM L n P) (aM L n' Q)) (bF n λi=>bF n' λj=>lH L P Q i j):=by
 rw[XY,XY];refine(qfl _ _ _).trans (Lt λi _=>(qBK _ _ _).trans (Lt λj _=>?_));unfold lH;refine(OO _ _ _).trans (((qp5 _ _ _).shift _).trans ?_);rw[qfP,qER,show(j:Int)+(i:Int)=((i+j:Nat):Int) by omega];exact af.refl _
theorem Tx(L n:Nat)(P:Nat->List Tm)(r:List Tm):af (aM L n λi=>aC (P i) r) (aC (aM L n P) r):=by
 rw[XY,XY];refine af.symm ((qfl _ _ _).trans (Lt λi _=>OO _ _ _))
theorem qwp(nz:Nat->Bool)(F:Nat->List Tm)(l:List Nat)(h:∀i∈l,nz i=false->af (F i) []):af ((l.filter nz).flatMap F) (l.flatMap F):=by
 induction l with
 |nil=>exact af.refl _
 |cons i l ih=>
  have h1:=ih λj hj=>h j (List.mem_cons_of_mem _ hj);rw[List.filter_cons];cases hz:nz i
  ·rw[aj (by simp),List.flatMap_cons];have h2:=(h i List.mem_cons_self hz).symm.append h1;simpa using h2
  ·rw[av rfl,List.flatMap_cons,List.flatMap_cons];exact(af.refl _).append h1
theorem qqn{nz:Nat->Bool}{n c:Nat}{σ:Nat->Nat}(h:jL nz n c σ)(F:Nat->List Tm)(hz:∀i,i<n->nz i=false->af (F i) []):af (bF c λa=>F (σ a)) (bF n F):=by
 unfold bF
 have e:(List.range c).flatMap (λa=>F (σ a))=((List.range c).map σ).flatMap F:=by rw[List.flatMap_map]
 rw[e,h];exact qwp nz F _ λi hi=>hz i (by simpa using hi)
theorem qpJ{nz:Nat->Bool}{n c:Nat}{σ:Nat->Nat}(h:jL nz n c σ)(F:Nat->List Tm):aB (bF c λa=>F (σ a))<=aB (bF n F):=by
 unfold bF
 have e:(List.range c).flatMap (λa=>F (σ a))=((List.range c).map σ).flatMap F:=by rw[List.flatMap_map]
 rw[e,h];generalize List.range n=l
 induction l with
 |nil=>exact aA _
 |cons i l ih=>
  rw[List.filter_cons,List.flatMap_cons,kK]
  split
  ·rw[List.flatMap_cons,kK];omega
  ·omega
theorem qpI(n:Nat)(F:Nat->List Tm)(f:Nat->Nat)(h:∀i,i<n->aB (F i)=f i)(g:Nat->List Tm)(c:Nat)(hg:∀i,i<n->f i=aB (g i)*c):aB (bF n F)=aB (bF n g)*c:=by
 induction n with
 |zero=>simp[bF,aB]
 |succ n ih=>
  rw[kL,kL,kK,kK,ih (λi hi=>h i (by omega)) λi hi=>hg i (by omega),h n (by omega),hg n (by omega),Nat.add_mul]
theorem qA3(L n n':Nat)(P Q:Nat->List Tm):aB (bF n λi=>bF n' λj=>lH L P Q i j)=aB (aM L n P)*aB (aM L n' Q):=by
 have hq:∀(n:Nat)(P:Nat->List Tm),aB (aM L n P)=aB (bF n P):=by
  intro n P
  induction n with
  |zero=>rfl
  |succ n ih=>rw[gF,kL,kK,kK,zu,ih]
 rw[hq,hq];refine qpI n _ (λi=>aB (P i)*aB (bF n' Q)) (λi _=>?_) P (aB (bF n' Q)) (λ_ _=>rfl);rw[Nat.mul_comm];refine qpI n' _ (λj=>aB (Q j)*aB (P i)) (λj _=>?_) Q (aB (P i)) (λ_ _=>rfl);unfold lH;rw[zu,DN,Nat.mul_comm]
theorem XW{L K k0:Nat}(hk:k0<K){F F':Nat->List Tm}{l:List Tm}(h:∀k,k<K->k≠k0->F' k=F k)(h0:F' k0=F k0++l):
 af (aM L K F') (aM L K F++shift (xp L (k0:Int)) l)/\aB (aM L K F')=aB (aM L K F)+aB l:=by
 induction K with
 |zero=>omega
 |succ K ih=>
  rw[gF,gF]
  by_cases hK:k0=K
  ·subst hK;have e:aM L k0 F'=aM L k0 F:=OQ _ _ _ _ λi hi=>h i (by omega) (by omega);rw[e,h0,Yg];refine⟨λm=>by simp only[iJ];omega,?_⟩;simp only[kK,zu];omega
  ·obtain⟨i1,i2⟩:=ih (by omega) λk hk=>h k (by omega);rw[h K (by omega) (by omega)];refine⟨λm=>?_,?_⟩
   ·have:=i1 m;simp only[iJ]at this⊢;omega
   ·simp only[kK,zu]at i2⊢;omega
def bE(B:Nat)(l:List Tm):Prop:=∀m,aH l m≠0->∀k,m.get k<=B
theorem bE.bP{B:Nat}{l r:List Tm}(h:bE B l)(hs:af l r):bE B r:=λm hm k=>h m (by rw[hs m];exact hm) k
theorem bE.mono{B C:Nat}{l:List Tm}(h:bE B l)(hs:B<=C):bE C l:=λm hm k=>by have:=h m hm k;omega
theorem OI{l:List Tm}(h:¬af l []):∃m,aH l m≠0:=by
 refine gQ λhn=>h λm=>?_;refine gQ λhm=>hn ⟨m,hm⟩
theorem bE.append{B:Nat}{l r:List Tm}(h:bE B l)(k:bE B r):bE B (l++r):=λm hm j=>by
 rw[iJ]at hm
 by_cases h1:aH l m=0
 ·exact k m (by omega) j
 ·exact h m h1 j
theorem quG{l r:List Tm}{m:Mo}(h:aH (aC l r) m≠0):∃s∈l,aH r (Mo.sub m s.2)≠0:=by
 induction l with
 |nil=>exact absurd rfl h
 |cons s l ih=>
  rw[rX]at h
  by_cases h1:aH r (Mo.sub m s.2)=0
  ·rw[h1,Int.mul_zero,Int.zero_add]at h;obtain⟨t,ht,h2⟩:=ih h;exact⟨t,List.mem_cons_of_mem _ ht,h2⟩
  ·exact⟨s,List.mem_cons_self,h1⟩
theorem qby{l r:List Tm}{m:Mo}(hl:BD l)(h:aH (aC l r) m≠0):∃m1,aH l m1≠0/\aH r (Mo.sub m m1)≠0:=by
 induction l with
 |nil=>exact absurd rfl h
 |cons s l ih=>
  have hd:=List.pairwise_cons.1 hl;have lY:∀m1,aH (s::l) m1=(if s.2=m1 then s.1 else 0)+aH l m1:=λ_=>rfl;have hz:aH l s.2=0:=rY λt ht e=>hd.1 t ht e.symm;rw[rX]at h
  by_cases h1:s.1*aH r (Mo.sub m s.2)=0
  ·rw[h1,Int.zero_add]at h;obtain⟨m1,h2,h3⟩:=ih hd.2 h;refine⟨m1,?_,h3⟩;rw[lY,aj (λe=>h2 (by rw[<-e];exact hz))];simpa using h2
  ·refine⟨s.2,?_,λe=>h1 (by rw[e,Int.mul_zero])⟩;rw[lY,av rfl,hz];intro e;exact h1 (by rw[show s.1=0 by omega,Int.zero_mul])
theorem o6{l:List Tm}(h:∀m:Mo,m.nn=false->aH l m=0):af (norm l) l:=by
 intro m;rw[Lp];unfold mK;cases hm:m.nn
 ·rw[aj (by simp),h m hm]
 ·rw[av rfl]
theorem qbo{l:List Tm}(h:Canon l):BD l:=by
 unfold BD;exact h.1.imp (λ{s t}(hlt:Mo.lt t.2 s.2)(e:s.2=t.2)=>Mo.Ii hlt e.symm)
theorem bE.aC{B C:Nat}{l r:List Tm}(hl:bE B l)(hr:bE C r)(nl:∀m:Mo,m.nn=false->aH l m=0):bE (B+C) (aC l r):=by
 intro m hm k;have hs:=o6 nl;rw[<-(hs.qN r) m]at hm;obtain⟨m1,h1,h2⟩:=qby (qbo (o7 l)) hm;have a1:=hl m1 (by rw[<-hs m1];exact h1) k;have a2:=hr _ h2 k;rw[EI]at a2;omega
theorem Ll{l r:List Tm}(nl:∀m:Mo,m.nn=false->aH l m=0)(nr:∀m:Mo,m.nn=false->aH r m=0)(m:Mo)(hm:m.nn=false):aH (aC l r) m=0:=by
 refine gQ λhc=>?_;have hs:=o6 nl;rw[<-(hs.qN r) m]at hc;obtain⟨m1,h1,h2⟩:=qby (qbo (o7 l)) hc
 have g1:m1.nn=true:=by
  cases h:m1.nn
  ·exact absurd (by rw[hs m1];exact nl m1 h) h1
  ·rfl
 have g2:(Mo.sub m m1).nn=true:=by
  cases h:(Mo.sub m m1).nn
  ·exact absurd (nr _ h) h2
  ·rfl
 rw[Mo.uZ]at g1 g2;simp only[Mo.sub]at g2;have:m.nn=true:=(Mo.uZ m).2 ⟨by omega,by omega,by omega,by omega⟩;rw[hm]at this;cases this
theorem Mo.qAe{x a b:Mo}(h:Mo.lt x a):Mo.lt b (Mo.sub (Mo.add a b) x):=by
 unfold Mo.lt at*;simp only[Mo.add,Mo.sub];omega
theorem qub{s t:Tm}{l r:List Tm}(hl:Canon (s::l))(hr:Canon (t::r)):aH (aC (s::l) (t::r)) (Mo.add s.2 t.2)=s.1*t.1:=by
 rw[rX]
 have e1:Mo.sub (Mo.add s.2 t.2) s.2=t.2:=by rw[Mo.Vj];exact((Mo.add_eq _ _ _).1 rfl).symm
 rw[e1,hr.EE]
 have e2:aH (aC l (t::r)) (Mo.add s.2 t.2)=0:=by
  refine gQ λhc=>?_;obtain⟨u,hu,h2⟩:=quG hc;have h3:=Mo.qAe (b:=t.2) (hl.head u hu);refine h2 (Canon.qbx λq hq=>?_);rcases List.mem_cons.1 hq with rfl|hq
  ·exact h3
  ·exact Mo.lt_trans (hr.head q hq) h3
 rw[e2,Int.add_zero]
theorem Tw{l r:List Tm}(nl:∀m:Mo,m.nn=false->aH l m=0)(nr:∀m:Mo,m.nn=false->aH r m=0)(hl:¬af l [])(hr:¬af r []):¬af (aC l r) []:=by
 intro h;have s1:=o6 nl;have s2:=o6 nr;have c1:=o7 l;have c2:=o7 r;have h':af (Go.Proofs.YtaafefeafonhdaaGreat.aC (norm l) (norm r)) []:=(af.aC s1 s2).trans h
 cases e1:norm l with
 |nil=>exact hl (by rw[e1]at s1;exact s1.symm)
 |cons s l'=>
  cases e2:norm r with
  |nil=>exact hr (by rw[e2]at s2;exact s2.symm)
  |cons t r'=>
   rw[e1]at c1 h';rw[e2]at c2 h';have:=h' (Mo.add s.2 t.2);rw[qub c1 c2]at this;have h3:=(c1.2 s List.mem_cons_self).1;have h4:=(c2.2 t List.mem_cons_self).1;have:s.1*t.1=0:=this;rcases Int.mul_eq_zero.1 this with h5|h5
   ·exact h3 h5
   ·exact h4 h5
theorem Ag{D n B:Nat}{P:Nat->List Tm}(hD:D+1<=4)(hn:1<=n)(bZ:∀i,i<n->dV D (P i))(fO:¬af (P (n-1)) [])(h:bE B (aM (D+1) n P)):n<=B+1/\∀i,i<n->bE B (P i):=by
 have key:∀i,i<n->∀m,aH (P i) m≠0->m.get (D+1)=0/\aH (aM (D+1) n P) (Mo.add m (xp (D+1) (i:Int)))≠0:=by
  intro i hi m hm;have h0:m.get (D+1)=0:=gQ λhc=>hm ((bZ i hi).uO (by omega) hD hc);exact⟨h0,by rw[QP (by omega) hD (λi hi=>bZ i hi) i hi m h0];exact hm⟩
 constructor
 ·obtain⟨m,hm⟩:=OI fO;obtain⟨h0,h1⟩:=key (n-1) (by omega) m hm;have:=h _ h1 (D+1);rw[iL,h0,gM _ _ _ (by omega) hD,av rfl]at this;omega
 ·intro i hi m hm k;obtain⟨h0,h1⟩:=key i hi m hm;have:=h _ h1 k;rw[iL,gM _ _ _ (by omega) hD]at this
  split at this<;>omega
def jd{α:Type}(f:Nat->α)(k:Nat)(a:α):Nat->α:=λi=>if i=k then a else f i
theorem jS{α:Type}(f:Nat->α)(k:Nat)(a:α):jd f k a k=a:=by unfold jd;rw[av rfl]
theorem oJ{α:Type}(f:Nat->α)(k:Nat)(a:α)(i:Nat)(h:i≠k):jd f k a i=f i:=by unfold jd;rw[aj h]
def MP(M:Nat->Prop)(v:Nat->Value)(K:Nat):Nat->Prop:=λb=>M b\/∃k,k<K/\(v k).ownBlock=some b
structure rV(M:Nat->Prop)(B0:Nat)(w:World)(D gp K:Nat)(v:Nat->Value)(c:Nat->Nat)(xx:Nat->Nat->PE)(S:Nat->Nat->List Tm):Prop where
 blk:au w gp 34 K v
 own:∀k,k<K->Own w B0 42 4 (v k) (c k) (px (xx k))
 sep:∀k k',k<K->k'<K->k≠k'->∀b,(v k).ownBlock=some b->(v k').ownBlock≠some b
 cr:∀k,k<K->∀i,i<c k->aG (MP M v K) w D (xx k i) (S k i)
 Q4:M gp
 Np:gp<B0
 MB:Mb M w
 BM:∀g,M g->g<B0
theorem rV.ext{M:Nat->Prop}{B0:Nat}{w w':World}{D gp K:Nat}{v:Nat->Value}{c:Nat->Nat}{xx:Nat->Nat->PE}{S:Nat->Nat->List Tm}(h:rV M B0 w D gp K v c xx S)(he:Ext w w'):rV M B0 w' D gp K v c xx S:=
 ⟨h.blk.ext he,λk hk=>(h.own k hk).ext he,h.sep,λk hk i hi=>(h.cr k hk i hi).ext he,h.Q4,h.Np,h.MB.ext he,h.BM⟩
theorem rV.mb{M:Nat->Prop}{B0:Nat}{w:World}{D gp K:Nat}{v:Nat->Value}{c:Nat->Nat}{xx:Nat->Nat->PE}{S:Nat->Nat->List Tm}(h:rV M B0 w D gp K v c xx S):Mb (MP M v K) w:=by
 intro g hg;rcases hg with hg|⟨k,hk,e⟩
 ·exact h.MB g hg
 ·exact((h.own k hk).lt g e).2
theorem rV.step{M:Nat->Prop}{B0:Nat}{w wa wb wc:World}{D gp K:Nat}{v:Nat->Value}{c:Nat->Nat}{xx:Nat->Nat->PE}{S:Nat->Nat->List Tm}(h:rV M B0 w D gp K v c xx S){k0:Nat}(hk:k0<K){gg cap2:Nat}{y:PE}{l:List Tm}
 (he:Ext w wa) (hO:Own wb B0 42 4 (.slice (some ⟨gg,0,none⟩) (c k0+1) cap2) (c k0+1) (px (snoc (xx k0) (c k0) y))) (hg:wa.grownBy wb (v k0).ownBlock) (hat:(v k0).ownBlock=some gg\/wa.heap.size<=gg)
 (az:Ext wb wc) (hy:aG (λb=>MP M v K b\/b=gg) wc D y l):
 rV M B0 (wc.setCell ⟨gp,k0,none⟩ (.slice (some ⟨gg,0,none⟩) (c k0+1) cap2)) D gp K (jd v k0 (.slice (some ⟨gg,0,none⟩) (c k0+1) cap2)) (jd c k0 (c k0+1)) (jd xx k0 (snoc (xx k0) (c k0) y)) (jd S k0 (snoc (S k0) (c k0) l)):=by
 have AQ:=hO.lt gg rfl;have Dp:(Value.slice (some ⟨gg,0,none⟩) (c k0+1) cap2).ownBlock=some gg:=rfl;have hga:gp<wa.heap.size:=(h.blk.ext he).lt
 have hne:∀k b,k<K->(v k).ownBlock=some b->b≠gp:=λk b hk hb e=>by have:=(h.own k hk).lt b hb;have:=h.Np;omega
 have qxX:gg≠gp:=by have:=h.Np;omega
 have hmu:∀b,(MP M v K b\/b=gg)->MP M v K b\/wa.heap.size<=b:=by
  rintro b (hb|rfl)
  ·exact .inl hb
  ·rcases hat with h1|h1
   ·exact .inl (.inr ⟨k0,hk,h1⟩)
   ·exact .inr h1
 have qyk:Kp (λb=>MP M v K b\/b=gg) wa wb:=Kp.grown hg λq hq=>.inl (.inr ⟨k0,hk,hq⟩);have qm6:Kp (λb=>MP M v K b\/b=gg) wc (wc.setCell ⟨gp,k0,none⟩ (.slice (some ⟨gg,0,none⟩) (c k0+1) cap2)):=Kp.set _ _ (p:=⟨gp,k0,none⟩) (.inl (.inl h.Q4)) _
 have qnc:∀b,MP M (jd v k0 (.slice (some ⟨gg,0,none⟩) (c k0+1) cap2)) K b->(MP M v K b\/b=gg):=by
  rintro b (hb|⟨k,jU,e⟩)
  ·exact .inl (.inl hb)
  ·by_cases hkk:k=k0
   ·subst hkk;rw[jS,Dp]at e;cases e;exact .inr rfl
   ·rw[oJ _ _ _ _ hkk]at e;exact .inl (.inr ⟨k,jU,e⟩)
 have hsz:wa.heap.size<=wb.heap.size:=hg.size
 have qyN:∀k b,k<K->k≠k0->(v k).ownBlock=some b->(wc.setCell ⟨gp,k0,none⟩ (.slice (some ⟨gg,0,none⟩) (c k0+1) cap2)).heap[b]?=w.heap[b]?:=by
  intro k b jU hkk hb;have gD:=((h.own k jU).lt b hb).2;have hba:b<wa.heap.size:=bB gD he.size;rw[Below.heap_setCell _ _ _ _ (hne k b jU hb),az.heap (by omega),hg.block b hba (λe=>h.sep k k0 jU hk hkk b hb e.symm),he.heap gD]
 refine⟨?_,λk jU=>?_,λk k' jU WG hkk b hb=>?_,λk jU i hi=>?_,h.Q4,h.Np,?_,h.BM⟩
 ·have h1:au wb gp _ _ v:=(h.blk.ext he).grown hg (λe=>hne k0 gp hk e.symm rfl);exact((h1.ext az).set k0 _).congr λi _=>rfl
 ·by_cases hkk:k=k0
  ·subst hkk;rw[jS,jS,jS]
   exact(hO.ext az).of_heap λb hb=>by cases hb;exact Below.heap_setCell _ _ _ _ qxX
  ·rw[oJ _ _ _ _ hkk,oJ _ _ _ _ hkk,oJ _ _ _ _ hkk];exact(h.own k jU).of_heap λb hb=>qyN k b jU hkk hb
 ·by_cases h1:k=k0
  ·subst h1;rw[jS,Dp]at hb;cases hb;rw[oJ _ _ _ _ (Ne.symm hkk)];rcases hat with h2|h2
   ·exact h.sep k k' jU WG hkk _ h2
   ·intro e;have:=((h.own k' WG).lt _ e).2;have:=he.size;omega
  ·rw[oJ _ _ _ _ h1]at hb
   by_cases h2:k'=k0
   ·subst h2;rw[jS,Dp];intro e;cases e;rcases hat with h3|h3
    ·exact h.sep k k' jU WG hkk _ hb h3
    ·have:=((h.own k jU).lt _ hb).2;have:=he.size;omega
   ·rw[oJ _ _ _ _ h2];exact h.sep k k' jU WG hkk b hb
 ·have hold:∀k,k<K->∀i,i<c k->aG (MP M (jd v k0 (.slice (some ⟨gg,0,none⟩) (c k0+1) cap2)) K) (wc.setCell ⟨gp,k0,none⟩ (.slice (some ⟨gg,0,none⟩) (c k0+1) cap2)) D (xx k i) (S k i):=λk jU i hi=>
   ((((((h.cr k jU i hi).ext he).more hmu).kp qyk).ext az).kp qm6).more λb hb=>.inl (qnc b hb)
  by_cases hkk:k=k0
  ·subst hkk;rw[jS]at hi;rw[jS,jS]
   by_cases qI:i=c k
   ·subst qI;rw[jC,jC];exact(hy.kp qm6).more λb hb=>.inl (qnc b hb)
   ·rw[j4 _ _ _ _ (by omega),j4 _ _ _ _ (by omega)];exact hold k jU i (by omega)
  ·rw[oJ _ _ _ _ hkk]at hi;rw[oJ _ _ _ _ hkk,oJ _ _ _ _ hkk];exact hold k jU i hi
 ·intro g Wp;have:=h.MB g Wp;have:=he.size;have:=az.size;simp[World.setCell];omega
theorem rV.replace{M:Nat->Prop}{B0:Nat}{w:World}{D gp K:Nat}{v:Nat->Value}{c:Nat->Nat}{xx:Nat->Nat->PE}{S:Nat->Nat->List Tm}(h:rV M B0 w D gp K v c xx S){k0:Nat}(hk:k0<K){gg cap2 q:Nat}(hv:v k0=.slice (some ⟨gg,0,none⟩) (c k0) cap2)(hq:q<c k0){y:PE}{l:List Tm}(hy:aG (MP M v K) w D y l):
 rV M B0 (aD w gg (q*4) (.int .i64 y.lv) (.bool y.b) (.slice y.a y.n y.p) (.slice y.ka y.kn y.kp)) D gp K v c (jd xx k0 (jd (xx k0) q y)) (jd S k0 (jd (S k0) q l)):=by
 have Dp:(v k0).ownBlock=some gg:=by rw[hv];rfl
 have AQ:=(h.own k0 hk).lt gg Dp;have aT:Kp (MP M v K) w (aD w gg (q*4) (.int .i64 y.lv) (.bool y.b) (.slice y.a y.n y.p) (.slice y.ka y.kn y.kp)):=Kp.aD (.inr ⟨k0,hk,Dp⟩) _ _ _ _ _;refine⟨h.blk.of_heap (fD _ _ _ _ _ _ _ _ (by have:=h.Np;omega)),λk jU=>?_,h.sep,λk jU i hi=>?_,h.Q4,h.Np,h.MB.size (by rw[kN];exact aA _),h.BM⟩
 ·by_cases hkk:k=k0
  ·subst hkk;rw[jS];have h0:=h.own k jU;rw[hv]at h0⊢;rcases h0 with⟨h1,_⟩|⟨g,cap,F,h1,hg,hB,hc,hm,hF⟩
   ·cases h1
   ·simp only[Value.slice.injEq,Option.some.injEq,Addr.mk.injEq,and_true,true_and]at h1;obtain⟨rfl,rfl⟩:=h1;refine .inr ⟨gg,cap2,_,rfl,hg,hB.aD (q*4) _ _ _ _,hc,hm,λj hj=>?_⟩
    by_cases hj1:j<q*4\/q*4+4<=j
    ·rw[sN _ _ _ _ _ _ _ hj1,hF j hj];unfold px;rw[oJ _ _ _ _ (by omega)]
    ·have Wy:j=q*4\/j=q*4+1\/j=q*4+2\/j=q*4+3:=by omega
     rcases Wy with rfl|rfl|rfl|rfl
     ·rw[D6,Fx,jS]
     ·rw[D7,Fy,jS]
     ·rw[D8,Fz,jS]
     ·rw[D9,FB,jS]
  ·rw[oJ _ _ _ _ hkk];exact(h.own k jU).of_heap λb hb=>fD _ _ _ _ _ _ _ _ (λe=>h.sep k0 k hk jU (Ne.symm hkk) gg Dp (e ▸ hb))
 ·by_cases hkk:k=k0
  ·subst hkk;rw[jS,jS]
   by_cases qI:i=q
   ·subst qI;rw[jS,jS];exact hy.kp aT
   ·rw[oJ _ _ _ _ qI,oJ _ _ _ _ qI];exact(h.cr k jU i hi).kp aT
  ·rw[oJ _ _ _ _ hkk,oJ _ _ _ _ hkk];exact(h.cr k jU i hi).kp aT
def U8(L:Nat):Prop:=∀(M:Nat->Prop)(l r:List Tm)(B C:Nat)(c0 c1 c2 c3 d0 d1 d2 d3:Value)(w:World),Mb M w->CR M w L c0 c1 c2 c3 l->CR M w L d0 d1 d2 d3 r->aF (aB l)+aF (aB r)<=1099511627776->bE B l->bE C r->(B+1)*(C+1)<=1099511627776->
 Calls Tryz.prog 67 #[.agg #[c0,c1,c2,c3],.agg #[d0,d1,d2,d3]] w (vE M w L (aC l r))
def qiM(L:Nat):Prop:=∀(M:Nat->Prop)(l r:List Tm)(B C:Nat)(x y:PE)(w:World),Mb M w->aG M w L x l->aG M w L y r->aF (aB l)+aF (aB r)<=1099511627776->bE B l->bE C r->(B+1)*(C+1)<=1099511627776->x.lv=y.lv->x.lv≠0->mY x.lv x.n=false->mY y.lv y.n=false->
 Calls Tryz.prog 67 #[.agg (ag x),.agg (ag y)] w (vE M w L (aC l r))
def qaF(M:Nat->Prop)(w:World)(L:Nat)(l:List Tm)(x y:PE):Prop:=∃lx ly B C,aG M w L x lx/\aG M w L y ly/\y.lv<=x.lv/\af (aC lx ly) l/\aF (aB lx)+aF (aB ly)<=1099511627776/\bE B lx/\bE C ly/\(B+1)*(C+1)<=1099511627776/\¬(x.lv=y.lv/\x.lv≠0/\mY x.lv x.n=false/\mY y.lv y.n=false)
theorem qAu(L:Nat)(ih:∀D,D<L->U8 D)(heq:qiM L):U8 L:=by
 intro M l r B C c0 c1 c2 c3 d0 d1 d2 d3 w hM h k hL hB hC mV;obtain⟨x,rfl,rfl,rfl,rfl,hx,oZ,hxL,hx4⟩:=h.pe;obtain⟨y,rfl,rfl,rfl,rfl,hy,qL,hyL,hy4⟩:=k.pe
 by_cases hne:x.lv=y.lv/\x.lv≠0/\mY x.lv x.n=false/\mY y.lv y.n=false
 ·exact heq M l r B C x y w hM hx hy hL hB hC mV hne.1 hne.2.1 hne.2.2.1 hne.2.2.2
 clear heq;have pE:=ae ih
 have HA:Hid ((¬x.lv<y.lv->qaF M w L (aC l r) x y)/\(x.lv<y.lv->qaF M w L (aC l r) y x)):=
  ⟨λhlt=>⟨l,r,B,C,hx,hy,by omega,af.refl _,hL,hB,hC,mV,hne⟩,λhlt=>⟨r,l,C,B,hy,hx,by omega,af.zB _ _,by omega,hC,hB,by rw[Nat.mul_comm];exact mV,λhh=>by omega⟩⟩
 clear h k hx hy hL hB hC mV ih hne;generalize aC l r=R at*
 go_enter Tryz.func67,Tryz.ntmps67
 go_upto_if 21 with(fail)
 go_cut [2,3,4] (λs2 s3 s4 wx=>s2=.pointer (some ⟨w.heap.size,0,none⟩)/\s3=.pointer (some ⟨w.heap.size+1,0,none⟩)/\s4=.pointer (some ⟨w.heap.size+2,0,none⟩)/\Hid (∃X Y,qaF M w L R X Y/\wx=((w.alloc (.cells (ag X) 42)).alloc (.cells (ag Y) 42)).alloc (.cells #[.int .i64 0,.bool false,.slice none 0 0,.slice none 0 0] 42)))
 case first=>
  go_wp2
  ·go_meet
   exact⟨rfl,rfl,rfl,y,x,HA.out.2 (by assumption),rfl⟩
  ·go_meet
   exact⟨rfl,rfl,rfl,x,y,HA.out.1 (by assumption),rfl⟩
 case rest=>
  obtain⟨rfl,rfl,rfl,hc⟩:=hcut;obtain⟨X,Y,hA,rfl⟩:=hc.out;clear hc HA;obtain⟨lx,ly,B1,C1,hX,hY,hYX,Rw,jF,Rc,Re,Q9,hNE⟩:=hA;have Ko:=CR.pe hX
  have hXf:0<=X.lv/\X.lv<=L/\X.lv<=4:=by
   obtain⟨x',e0,_,_,_,_,h1,h2,h3⟩:=Ko;simp only[Value.int.injEq,true_and]at e0;rw[e0];exact⟨h1,h2,h3⟩
  have hYf:0<=Y.lv:=by
   obtain⟨x',e0,_,_,_,_,h1,h2,h3⟩:=CR.pe hY;simp only[Value.int.injEq,true_and]at e0;rw[e0];exact h1
  clear Ko;have aL:Ext w (((w.alloc (.cells (ag X) 42)).alloc (.cells (ag Y) 42)).alloc (.cells #[.int .i64 0,.bool false,.slice none 0 0,.slice none 0 0] 42)):=(((ai w).alloc _).alloc _).alloc _;have b0:=((au.aO w (ag X) 42 4 rfl).alloc (.cells (ag Y) 42)).alloc (.cells #[.int .i64 0,.bool false,.slice none 0 0,.slice none 0 0] 42);have b1:=(au.aO (w.alloc (.cells (ag X) 42)) (ag Y) 42 4 rfl).alloc (.cells #[.int .i64 0,.bool false,.slice none 0 0,.slice none 0 0] 42);have b2:=au.aO ((w.alloc (.cells (ag X) 42)).alloc (.cells (ag Y) 42)) #[.int .i64 0,.bool false,.slice none 0 0,.slice none 0 0] 42 4 rfl;simp only[World.size_alloc]at b1 b2
  have wH:w.heap.size+3<=(((w.alloc (.cells (ag X) 42)).alloc (.cells (ag Y) 42)).alloc (.cells #[.int .i64 0,.bool false,.slice none 0 0,.slice none 0 0] 42)).heap.size:=by simp
  generalize fK:((w.alloc (.cells (ag X) 42)).alloc (.cells (ag Y) 42)).alloc (.cells #[.int .i64 0,.bool false,.slice none 0 0,.slice none 0 0] 42)=W0 at aL b0 b1 b2 wH⊢;clear fK;have HX:=ae hX;have HY:=ae hY;have F6:=ae Rw;have tF:=ae jF;have l5:=ae Rc;have Zi:=ae Re;have oF:=ae Q9;have Eo:=ae hNE;have dC:=ae aL;have dO:=ae b0;have bS:=ae b1;have cK:=ae b2;have zX:=CR.SL hX;have zY:=CR.SL hY;have HZX:=ae zX;have HZY:=ae zY;have x0:=b0.cell (i:=0) (by omega);have x1:=b0.cell (i:=1) (by omega);have x2:=b0.cell (i:=2) (by omega);have x3:=b0.cell (i:=3) (by omega);have y0:=b1.cell (i:=0) (by omega);have y1:=b1.cell (i:=1) (by omega);have y2:=b1.cell (i:=2) (by omega);have y3:=b1.cell (i:=3) (by omega);simp only[arr]at x0 x1 x2 x3 y0 y1 y2 y3
  have hw1:w.heap.size<W0.heap.size:=by omega
  have iy:w.heap.size+1<W0.heap.size:=by omega
  have Cu:=IA X.lv X.b X.a X.n X.p X.ka X.kn X.kp W0;clear hX hY Rw jF Rc Re Q9 aL b0 b1 b2 zX zY hNE;cases xR:mY X.lv X.n
  ·rw[xR]at Cu;go_wp2_with (fail);refine Cu.mono ?_;rintro e w1 ⟨rfl,ah⟩;have dI:=ah.size;have Cv:=IA Y.lv Y.b Y.a Y.n Y.p Y.ka Y.kn Y.kp w1;rw[<-ah.cell hw1]at x0 x1 x2 x3;rw[<-ah.cell iy]at y0 y1 y2 y3
   have hv1:w.heap.size<w1.heap.size:=by omega
   have hv2:w.heap.size+1<w1.heap.size:=by omega
   have aP:=ae (dC.out.trans ah);have wR:=ae (dO.out.ext ah);have uA:=ae (bS.out.ext ah);have o9:=ae (cK.out.ext ah);clear ah Cu dC dO bS cK;cases xS:mY Y.lv Y.n
   ·rw[xS]at Cv;go_wp2_with (fail);refine Cv.mono ?_;rintro e w2 ⟨rfl,az⟩;have hs2:=az.size;rw[<-az.cell hv1]at x0 x1 x2 x3;rw[<-az.cell hv2]at y0 y1 y2 y3
    have hu1:w.heap.size<w2.heap.size:=by omega
    have om:w.heap.size+1<w2.heap.size:=by omega
    have aZ:=ae (aP.out.trans az);have iV:=ae (wR.out.ext az);have tu:=ae (uA.out.ext az);have kY:=ae (o9.out.ext az)
    have jW:w.heap.size+3<=w2.heap.size:=by omega
    clear az Cv aP wR uA o9 wH hw1 iy hv1 hv2
    have BQ:Hid (¬af lx []):=λhs=>by have:=HZX.out.2 hs;rw[xR]at this;cases this
    have P5:Hid (¬af ly []):=λhs=>by have:=HZY.out.2 hs;rw[xS]at this;cases this
    clear dI hs2
    by_cases hl0:X.lv=0
    ·have oh:(X.lv==0)=true:=by simpa using hl0
     have hYl:Y.lv=0:=by omega
     have hX:=HX.out;have hY:=HY.out;unfold aG at hX hY;rw[hl0]at hX;rw[hYl]at hY;obtain⟨zx,Nw,hSx,hNx,_⟩:=hX.Nf;obtain⟨zy,Rm,hSy,hNy,_⟩:=hY.Nf;have PN:Hid (dh (Mx M w.heap.size (w.heap.size+3)) w2 (.bool X.b) (.slice X.a X.n X.p) zx):=(Nw.dB.more (Mx.more (aA _))).ext aZ.out;have Ut:Hid (dh (Mx M w.heap.size (w.heap.size+3)) w2 (.bool Y.b) (.slice Y.a Y.n Y.p) zy):=(Rm.dB.more (Mx.more (aA _))).ext aZ.out
     have tC:Hid (aF zx.natAbs+aF zy.natAbs<=1099511627776):=by
      have h1:=fu hNx;have h2:=fu hNy;have h3:=tF.out;show _<=_;omega
     have HR:Hid (af [(zx*zy,Mo.zero)] R):=by
      refine af.trans ?_ ((af.aC hSx hSy).trans F6.out);intro m;simp[aC,smul,shift,Mo.add_zero',aH]
     have fQ:Hid (Mb (Mx M w.heap.size (w.heap.size+3)) w2):=Mx.mb hM aZ.out.size jW;clear hX hY Nw Rm hSx hSy hNx hNy hl0 hYl;go_wp2_with (fail);refine(Ow _ _ _ _ zx zy w2 fQ.out PN.out Ut.out tC.out).mono ?_;rintro e w4 ⟨e0,e1,rfl,hc,bg⟩;obtain⟨b2,a2,n2,p2,rfl,rfl⟩:=hc.form;obtain⟨⟨q0,q1,q2,q3⟩,⟨f0,f1,f2,f3⟩,⟨r0,r1,r2,r3⟩,HF⟩:=vw (M:=M) (w:=w) (kY.out.ext bg) (Mx.at (by omega)) (by omega) (aZ.out.trans bg) ((CR.const hc L).bP HR.out) Mx.sub;simp only[arr]at q0 q1 q2 q3;clear bg hc;go_wp2;exact aV (v:=.agg #[.int .i64 0,.bool b2,.slice a2 n2 p2,.slice none 0 0]) (by simp[results,Tryz.results67,go_sem,r0,r1,r2,r3]) rfl HF.out
    ·have oh:(X.lv==0)=false:=by simpa using hl0
     have hX:=HX.out;unfold aG at hX;obtain⟨D,yP,nT,Aj,_,_,b,off,n,cap,P,fw,eX,kT,mI,dY,jG,eu,hb,nV,dw,bZ,fO,eB,jB⟩:=hX.Io hl0;simp only[Value.slice.injEq]at kT;obtain⟨jN,hkn,aT⟩:=kT;obtain⟨oQ,GY⟩:=Ag nT (by omega) bZ fO (l5.out.bP eB.symm);have El:=ae dw;have Jg:=ae fO;have HSP:=ae eB;have FZ:=ae jB;have Pt:=ae GY;have uQ:(0:Int)<=(D:Int):=jE _;have zQ:=ae (pE.out D (by omega));have ZO:Hid (∀i,i<n->aB (P i)<=aB lx):=λi hi=>aK (DR (D+1) n P i hi) jB;rw[yP]at oh hYX;have Ps:=ae yP
     have Ef:Hid (au w2 w.heap.size 42 4 (arr #[.int .i64 ((D:Int)+1),.bool X.b,.slice X.a X.n X.p,.slice (some ⟨b,off,none⟩) n cap])):=by have:=iV.out;rw[show ag X= #[.int .i64 ((D:Int)+1),.bool X.b,.slice X.a X.n X.p,.slice (some ⟨b,off,none⟩) n cap]from by unfold ag;rw[jN,hkn,aT,yP]]at this;exact this
     clear hX dw bZ fO eB jB GY jN hkn aT yP hl0 fw eX iV HX hXf x0 x1 x2 x3;have x0:=Ef.out.cell (i:=0) (by omega);have x3:=Ef.out.cell (i:=3) (by omega);simp only[arr]at x0 x3
     by_cases jT:Y.lv<(D:Int)+1
     ·obtain⟨i0,hi,hz0,hz1,hz2⟩:=info_parts Tryz.xU;have qx3:decide (Y.lv<(D:Int)+1)=true:=decide_eq_true jT;have Qr:Hid (aG M w D Y ly):=CR.OW HY.out (by omega)
      go_wp2_with (first|(refine wpList_make_full _ rfl _ _ _ rfl w2.heap.size 42 i0 (.agg #[.int .i64 0,.bool false,.slice none 0 0,.slice none 0 0]) 4 Tryz.underlying34 hi hz0 hz1 .i64 .i64 _ _ n rfl rfl ?c4 ?c5 ?c2 ?c3 ?c6 ?_))
      case c2=>rw[hz2];omega
      case c3=>unfold maxLen;omega
      case c4=>simp
      case c5=>simp
      case c6=>omega
      intro w5 hown hgrow;have bR:=(au.made hown rfl (by omega)).congr (f':=fH) (λi _=>Ed i);have aU:=mE hgrow;have l6:Hid (Kids (Mx M w.heap.size (w2.heap.size+1)) w5 D w2.heap.size n (λ_=>[])):=Kids.fresh bR
      have Dt:w2.heap.size+1<=w5.heap.size:=by have:=bR.lt;omega
      have cZ:=ae (aZ.out.trans aU);have PG:=ae (Ef.out.ext aU);have PH:=ae (tu.out.ext aU);have bQ:=ae (kY.out.ext aU);rw[<-aU.cell hu1]at x0 x3
      have Dx:w.heap.size<w5.heap.size:=by omega
      clear hown hgrow bR aU aZ Ef tu kY y0 y1 y2 y3;go_wp2
      go_loopw [55] (λi wr=>∃k:Nat,k<=n/\i=.int .i64 k/\w2.heap.size+1<=wr.heap.size/\Hid (Kids (Mx M w.heap.size (w2.heap.size+1)) wr D w2.heap.size n (λi=>if i<k then aC (P i) ly else[]))/\Hid (Ext w wr)/\Hid (au wr w.heap.size 42 4 (arr #[.int .i64 ((D:Int)+1),.bool X.b,.slice X.a X.n X.p,.slice (some ⟨b,off,none⟩) n cap]))/\
       Hid (au wr (w.heap.size+1) 42 4 (arr (ag Y)))/\Hid (au wr (w.heap.size+2) 42 4 (arr #[.int .i64 0,.bool false,.slice none 0 0,.slice none 0 0]))) (λi _=>n-(intOf i).toNat)
      case atStart=>exact⟨0,bu _,rfl,Dt,l6.out.congr λi _=>by rw[aj (by omega)];exact af.refl _,cZ,PG,PH,bQ⟩
      case round=>
       clear l6 cZ PG PH bQ x0 x3 Dt Dx;obtain⟨k,hk,rfl,hsz,HK,bM,uz,T9,iO⟩:=hrel
       by_cases hlt:k<n
       ·obtain⟨e0,e1,e2,e3,z0,z1,z2,z3,bW⟩:=El.out k hlt;rw[<-bM.out.cell hb]at z0 z1 z2 z3
        have gD:b<wr.heap.size:=by omega
        obtain⟨kk,rfl,rfl,rfl,rfl,hkk,_⟩:=bW.pe;have aQ:Ext wr (wr.alloc (.cells (ag kk) 42)):=(ai wr).alloc _;have Rb:aG (Mx M w.heap.size (w2.heap.size+1)) (wr.alloc (.cells (ag kk) 42)) D kk (P k):=((hkk.more (Mx.more (aA _))).ext bM.out).ext aQ;have qkL:aG (Mx M w.heap.size (w2.heap.size+1)) (wr.alloc (.cells (ag kk) 42)) D Y ly:=((Qr.out.more (Mx.more (aA _))).ext bM.out).ext aQ;have jr:Mb (Mx M w.heap.size (w2.heap.size+1)) (wr.alloc (.cells (ag kk) 42)):=Mx.mb hM (by simp;have:=bM.out.size;omega) (by simp;omega);have aJ:=ae (zQ.out _ _ _ _ _ _ _ _ _ _ _ _ _ _ jr Rb qkL (by have:=tF.out;have:=fu (ZO.out k hlt);omega) (Pt.out k hlt) Zi.out oF.out);have ek:=ae aQ;have vZ:=T9.out.ext aQ;have y0:=vZ.cell (i:=0) (by omega);have y1:=vZ.cell (i:=1) (by omega);have y2:=vZ.cell (i:=2) (by omega);have y3:=vZ.cell (i:=3) (by omega);simp only[arr]at y0 y1 y2 y3;have wK:=vZ.lt;clear bW hkk Rb qkL jr aQ vZ;go_wp2_with (fail);refine(aJ.out).mono ?_;rintro e w4 ⟨d0,d1,d2,d3,rfl,bW,bg⟩;obtain⟨lF,b2,a2,n2,p2,iW,kC,iX,rfl,rfl,rfl,rfl,_⟩:=bW.form;have fM:=ek.out.trans bg;have fJ:=HK.out.ext fM;obtain⟨⟨_,k0⟩,⟨_,k1⟩,⟨_,k2⟩,⟨_,k3⟩,bn,jh⟩:=fJ.at k hlt;have jw:=bn (k*4);have ku:=bn (k*4+1);have kv:=bn (k*4+2);have oU:=bn (k*4+3)
        have nD:Hid (Kids (Mx M w.heap.size (w2.heap.size+1)) (aD w4 w2.heap.size (k*4) (.int .i64 lF) (.bool b2) (.slice a2 n2 p2) (.slice iW kC iX)) D w2.heap.size n (λi=>if i<k+1 then aC (P i) ly else[])):=by
         refine(fJ.set (Mx.at (by omega)) k hlt bW).congr λi _=>?_
         by_cases fe:i=k
         ·subst fe;rw[av rfl,av (by omega)];exact af.refl _
         ·rw[aj fe]
          by_cases h3:i<k
          ·rw[av h3,av (by omega)];exact af.refl _
          ·rw[aj h3,aj (by omega)];exact af.refl _
        have cZ:Hid (Ext w (aD w4 w2.heap.size (k*4) (.int .i64 lF) (.bool b2) (.slice a2 n2 p2) (.slice iW kC iX))):=(bM.out.trans fM).aD (by omega) _ _ _ _ _;have mM:Hid (au (aD w4 w2.heap.size (k*4) (.int .i64 lF) (.bool b2) (.slice a2 n2 p2) (.slice iW kC iX)) w.heap.size _ _ _):=(uz.out.ext fM).of_heap (fD _ _ _ _ _ _ _ _ (by omega));have vJ:Hid (au (aD w4 w2.heap.size (k*4) (.int .i64 lF) (.bool b2) (.slice a2 n2 p2) (.slice iW kC iX)) (w.heap.size+1) _ _ _):=(T9.out.ext fM).of_heap (fD _ _ _ _ _ _ _ _ (by omega));have vK:Hid (au (aD w4 w2.heap.size (k*4) (.int .i64 lF) (.bool b2) (.slice a2 n2 p2) (.slice iW kC iX)) (w.heap.size+2) _ _ _):=(iO.out.ext fM).of_heap (fD _ _ _ _ _ _ _ _ (by omega))
        have uG:Hid (w2.heap.size+1<=(aD w4 w2.heap.size (k*4) (.int .i64 lF) (.bool b2) (.slice a2 n2 p2) (.slice iW kC iX)).heap.size):=by show _<=_;rw[kN];have:=fM.size;omega
        clear fJ bn bW bg fM;go_wp2
        go_roundw
        case rel=>exact⟨k+1,by omega,by go_num,uG.out,nD,cZ,mM,vJ,vK⟩
        case measure=>simp[intOf];omega
       ·have hkn:k=n:=by omega
        subst hkn;have x0:=uz.out.cell (i:=0) (by omega);simp only[arr]at x0
        have Su:w.heap.size<wr.heap.size:=by omega
        have HFN:Hid (CR (Mx M w.heap.size (w.heap.size+3)) wr L (.int .i64 ((D:Int)+1)) (.bool false) (.slice none 0 0) (.slice (some ⟨w2.heap.size,0,none⟩) k k) R):=by
         refine(CR.bP (CR.node (D:=D) nT mI dY (aA _) (by unfold maxLen;omega) (by omega) (λhh=>hh.elim (hM.new (by omega)) (by omega)) (λi hi=>HK.out.bC (λg hg=>.inl (hg.imp id λh=>by omega)) i hi) ?_) ?_).up Aj
         ·rw[av (by omega)];obtain⟨_,_,_,_,_,_,_,_,qym⟩:=El.out (k-1) (by omega);exact Tw qym.nn (CR.nn HY.out) Jg.out P5.out
         ·refine af.trans (qO _ _ _ _ λi hi=>by rw[av hi];exact af.refl _) ((Tx (D+1) k P ly).trans ?_);exact(HSP.out.qN ly).trans F6.out
        obtain⟨⟨q0,q1,q2,q3⟩,⟨f0,f1,f2,f3⟩,⟨r0,r1,r2,r3⟩,HF⟩:=vw (M:=M) (w:=w) iO.out (Mx.at (by omega)) (by omega) bM.out HFN.out Mx.sub;simp only[arr]at q0 q1 q2 q3;go_wp2;exact aV (v:=.agg #[.int .i64 ((D:Int)+1),.bool false,.slice none 0 0,.slice (some ⟨w2.heap.size,0,none⟩) k k]) (by simp[results,Tryz.results67,go_sem,r0,r1,r2,r3]) rfl HF.out
     ·exact absurd ⟨by have:=Ps.out;omega,by have:=Ps.out;omega,xR,xS⟩ Eo.out
   ·rw[xS]at Cv
    have BS:Hid (af [] R):=by
     refine af.trans ?_ F6.out;exact(((HZY.out.1 xS).vg lx).trans (by rw[XT];exact af.refl _)).symm
    go_wp2_with (fail);refine Cv.mono ?_;rintro e w2 ⟨rfl,az⟩;obtain⟨⟨q0,q1,q2,q3⟩,⟨f0,f1,f2,f3⟩,⟨r0,r1,r2,r3⟩,HF⟩:=vw (M:=M) (w:=w) (o9.out.ext az) (Mx.at (M:=M) (k:=w.heap.size+3) ⟨by omega,by omega⟩) (by omega) (aP.out.trans az) ((CR.zero (Mx M w.heap.size (w.heap.size+3)) w2 L).bP BS.out) Mx.sub;simp only[arr]at q0 q1 q2 q3;clear az Cv;go_wp2;exact aV (v:=.agg #[.int .i64 0,.bool false,.slice none 0 0,.slice none 0 0]) (by simp[results,Tryz.results67,go_sem,r0,r1,r2,r3]) rfl HF.out
  ·rw[xR]at Cu
   have BS:Hid (af [] R):=by
    refine af.trans ?_ F6.out;exact((HZX.out.1 xR).qN ly).symm
   go_wp2_with (fail);refine Cu.mono ?_;rintro e w1 ⟨rfl,ah⟩;obtain⟨⟨q0,q1,q2,q3⟩,⟨f0,f1,f2,f3⟩,⟨r0,r1,r2,r3⟩,HF⟩:=vw (M:=M) (w:=w) (cK.out.ext ah) (Mx.at (M:=M) (k:=w.heap.size+3) ⟨by omega,by omega⟩) (by omega) (dC.out.trans ah) ((CR.zero (Mx M w.heap.size (w.heap.size+3)) w1 L).bP BS.out) Mx.sub;simp only[arr]at q0 q1 q2 q3;clear ah Cu;go_wp2;exact aV (v:=.agg #[.int .i64 0,.bool false,.slice none 0 0,.slice none 0 0]) (by simp[results,Tryz.results67,go_sem,r0,r1,r2,r3]) rfl HF.out
end Go.Proofs.YtaafefeafonhdaaGreat
