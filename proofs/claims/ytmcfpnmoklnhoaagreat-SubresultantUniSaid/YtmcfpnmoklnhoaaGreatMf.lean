/- Mf -/
import Derived.Test.YtmcfpnmoklnhoaaGreatMe
import Derived.Test.YtmcfpnmoklnhoaaGreatMa
import Derived.Deep.DeepCutAuto
set_option linter.unusedVariables false
set_option maxRecDepth 100000
set_option maxHeartbeats 400000000
set_option linter.unusedSimpArgs false
namespace Go.Proofs.YtmcfpnmoklnhoaaGreat
open Go.RowKit
theorem Tryz.Jy:(Tryz.prog.info? 30).map (λi=>(i.zero,i.size,i.bytes))=some (some (.agg #[.bool false,.slice none 0 0]),2,32):=by kernel_rfl
def xI(w:World)(g N k:Nat)(x:Nat->PE):Prop:=∃f,ak w g 30 (N*2) f/\∀i,i<k->f (i*2)=.bool (x i).b/\f (i*2+1)=.slice (x i).a (x i).n (x i).p
theorem xI.set{w:World}{g N k:Nat}{x:Nat->PE}(h:xI w g N k x):xI ((w.setCell ⟨g,k*2,none⟩ (.bool (x k).b)).setCell ⟨g,k*2+1,none⟩ (.slice (x k).a (x k).n (x k).p)) g N (k+1) x:=by
 obtain⟨f,hB,hf⟩:=h;refine⟨_,(hB.set _ _).set _ _,λi hi=>?_⟩;unfold iK
 by_cases gH:i=k
 ·subst gH;simp
 ·rw[if_neg (by omega),if_neg (by omega),if_neg (by omega),if_neg (by omega)];exact hf i (by omega)
theorem xI.ext{w w':World}{g N k:Nat}{x:Nat->PE}(h:xI w g N k x)(he:Ext w w'):xI w' g N k x:=by
 obtain⟨f,hB,hf⟩:=h;exact⟨f,hB.ext he,hf⟩
theorem xI.at{w:World}{g N k j:Nat}{x:Nat->PE}(h:xI w g N k x)(hj:j<N):(∃e,w.cell? ⟨g,j*2,none⟩=some e)/\(∃e,w.cell? ⟨g,j*2+1,none⟩=some e)/\(∀o,w.frozen? ⟨g,o,none⟩=false)/\g<w.heap.size:=by
 obtain⟨f,hB,hf⟩:=h;exact⟨⟨_,hB.cell (by omega)⟩,⟨_,hB.cell (by omega)⟩,hB.frozen,hB.lt⟩
theorem xI.row{M:Nat->Prop}{w:World}{g N:Nat}{x:Nat->PE}{z:Nat->Int}(h:xI w g N N x)(hN:N<=1099511627776)(hz:∀i,i<N->dB M w (.bool (x i).b) (.slice (x i).a (x i).n (x i).p) (z i)):qgk M w (.slice (some ⟨g,0,none⟩) N N) N z:=by
 obtain⟨f,hB,hf⟩:=h;refine⟨hN,.inr ⟨g,0,N,_,_,rfl,Nat.le_refl _,by unfold maxLen;omega,hB.lt,λi hi=>⟨?_,?_,hz i hi⟩⟩⟩
 ·rw[Nat.zero_add,hB.cell (by omega),(hf i hi).1]
 ·rw[Nat.zero_add,hB.cell (by omega),(hf i hi).2]
theorem qwL(x:Nat->PE)(k:Nat)(h:0<jq x k):∃i,i<k/\(x i).lv=jq x k:=by
 induction k with
 |zero=>exact absurd h (Int.lt_irrefl 0)
 |succ k ih=>
  unfold jq at h⊢
  split
  ·exact⟨k,by omega,rfl⟩
  ·rename_i hc;rw[if_neg hc]at h;obtain⟨i,hi,e⟩:=ih h;exact⟨i,by omega,e⟩
def mX(x:Nat->PE)(P:Nat->List Tm)(Q:Nat->Nat->List Tm)(D e i:Nat):List Tm:=if(x i).lv=(D:Int)+1 then(if e<(x i).kn then Q i e else[])else(if e=0 then P i else[])
def WK(L:Nat):Prop:=∀(M:Nat->Prop)(v:Value)(N:Nat)(P:Nat->List Tm)(w:World),Mb M w->dV M w L v N P->az (aC (bB N P))<=1099511627776->Calls Tryz.prog 97 #[v] w (uK M w L (bB N P))
theorem qqQ(L:Nat)(ih:∀D,D<L->WK D):WK L:=by
 intro M v N P w hM h hL;obtain⟨i0,hi,hz0,hz1,hz2⟩:=info_parts Tryz.yo;obtain⟨j0,hj,rU,iy,qx⟩:=info_parts Tryz.Jy;obtain⟨a,cap,rfl⟩:=h.form;obtain⟨x,hx⟩:=h.x;have LD:=h.1;have HX:=Lib.hid hx;have HH:=Lib.hid h;have HL:=Lib.hid hL;have kG:=Lib.hid ih;have aQ:Ext w (w.alloc (.cells #[.int .i64 0,.bool false,.slice none 0 0,.slice none 0 0] 33)):=(Ext.refl w).alloc _;have gQ:=Lib.hid (ak.bf w #[.int .i64 0,.bool false,.slice none 0 0,.slice none 0 0] 33 4 rfl);have gB:=Lib.hid aQ;clear h hL hx aQ ih
 go_enter Tryz.func97,Tryz.ntmps97
 go_wp2
 go_loopw [17,3,4] (λi lv s wr=>∃k:Nat,k<=N/\i=.int .i64 k/\lv=.int .i64 (jq x k)/\s=.int .i64 (jB x k)/\Hid (Ext (w.alloc (.cells #[.int .i64 0,.bool false,.slice none 0 0,.slice none 0 0] 33)) wr)) (λi _ _ _=>N-(intOf i).toNat)
 case atStart=>exact⟨0,Nat.zero_le _,rfl,rfl,rfl,Ext.refl _⟩
 case round=>
  obtain⟨k,hk,rfl,rfl,rfl,gD⟩:=hrel;have hsz:=gD.out.size;simp only[World.size_alloc]at hsz
  by_cases hlt:k<N
  ·obtain⟨⟨b,off,rfl,kP,gm,hb,pq,hcell⟩,bR,hl0,PZ,Jl⟩:=HX.out k hlt;obtain⟨y0,y1,y2,y3⟩:=hcell.ext hb (gB.out.trans gD.out)
   have iH:b<wr.heap.size:=by omega
   have hkn:=bR.Vu;have gF:Hid (jB x k<=1099511627776):=qmr x k _ λi hi=>(HX.out i (by omega)).2.1.Vu;clear bR hcell
   by_cases c1:jq x k<(x k).lv
   ·have Ih:Hid ((x k).lv=jq x (k+1)):=by show _=_;unfold jq;rw[if_pos c1]
    have uf:Hid ((x k).kn=jB x (k+1)):=by show _=_;unfold jB;rw[if_pos c1]
    have dW:=Lib.hid (gD.out.alloc (.cells #[.int .i64 (x k).lv,.bool (x k).b,.slice (x k).a (x k).n (x k).p,.slice (x k).ka (x k).kn (x k).kp] 33));go_wp2
    go_roundw
    case rel=>exact⟨k+1,by omega,by go_num,by rw[Ih.out],by rw[uf.out],dW⟩
    case measure=>simp[intOf];omega
   ·have c1':decide (jq x k<(x k).lv)=false:=decide_eq_false c1;have dW:=Lib.hid (gD.out.alloc (.cells #[.int .i64 (x k).lv,.bool (x k).b,.slice (x k).a (x k).n (x k).p,.slice (x k).ka (x k).kn (x k).kp] 33))
    have Ih:Hid (jq x k=jq x (k+1)):=by show _=jq x (k+1);conv=>rhs;unfold jq;rw[if_neg c1]
    by_cases c2:(x k).lv=jq x k
    ·have c2':((x k).lv==jq x k)=true:=by simpa using c2
     by_cases c3:jB x k<(x k).kn
     ·have uf:Hid ((x k).kn=jB x (k+1)):=by show _=_;unfold jB;rw[if_neg c1,if_pos c2,if_pos c3]
      have xu:Hid (max (jB x k:Int) ((x k).kn:Int)=(jB x (k+1):Int)):=by show _=_;rw[<-uf.out];omega
      clear c2;go_wp2
      go_roundw
      case rel=>exact⟨k+1,by omega,by go_num,by rw[Ih.out],by rw[xu.out],dW⟩
      case measure=>simp[intOf];omega
     ·have uf:Hid (jB x k=jB x (k+1)):=by show _=jB x (k+1);conv=>rhs;unfold jB;rw[if_neg c1,if_pos c2,if_neg c3]
      have xu:Hid (max (jB x k:Int) ((x k).kn:Int)=(jB x (k+1):Int)):=by show _=_;rw[<-uf.out];omega
      clear c2;go_wp2
      go_roundw
      case rel=>exact⟨k+1,by omega,by go_num,by rw[Ih.out],by rw[xu.out],dW⟩
      case measure=>simp[intOf];omega
    ·have c2':((x k).lv==jq x k)=false:=by simpa using c2
     have uf:Hid (jB x k=jB x (k+1)):=by show _=jB x (k+1);conv=>rhs;unfold jB;rw[if_neg c1,if_neg c2]
     clear c2;go_wp2
     go_roundw
     case rel=>exact⟨k+1,by omega,by go_num,by rw[Ih.out],by rw[uf.out],dW⟩
     case measure=>simp[intOf];omega
  ·have hkn:k=N:=by omega
   subst hkn;obtain⟨wo,rfl⟩:∃wo:World,wo=wr:=⟨_,rfl⟩;have bL:=Lib.hid (gB.out.trans gD.out);have jD:=Lib.hid (gQ.out.ext gD.out)
   by_cases hz:jq x k=0
   ·have Ms:(jq x k==0)=true:=by simpa using hz
    obtain⟨z,Vo⟩:=pick (0:Int) (n:=k) (Q:=λi z=>dJ M w (.bool (x i).b) (.slice (x i).a (x i).n (x i).p) z/\ae [(z,Mo.zero)] (P i)/\z.natAbs<=aC (P i)) (λi hi=>by
     obtain⟨_,bR,hl0,_⟩:=HX.out i hi;have h1:=qcL x k i hi
     have h2:(x i).lv=0:=by omega
     unfold aI at bR;rw[h2]at bR;obtain⟨z,hI,hS,hN,_⟩:=bR.Lb
     exact⟨z,hI,hS,hN⟩)
    have Y4:=Lib.hid Vo;clear hz Vo
    go_wp2_with (first|(refine wpList_make_full _ rfl _ _ _ rfl wo.heap.size 30 j0 (.agg #[.bool false,.slice none 0 0]) 2 Tryz.underlying22 hj rU iy .i64 .i64 _ _ k rfl rfl ?c4 ?c5 ?c2 ?c3 ?c6 ?_))
    case c2=>rw[qx];omega
    case c3=>unfold maxLen;omega
    case c4=>simp
    case c5=>simp
    case c6=>omega
    intro w1 hown hgrow;have bI:=(ak.made hown rfl (by omega));have af:=lM hgrow;have xw:Hid (xI w1 wo.heap.size k 0 x):=⟨_,bI,λi hi=>by omega⟩;clear hown hgrow bI;go_wp2
    go_loopw [44] (λi wr=>∃q:Nat,q<=k/\i=.int .i64 q/\Hid (xI wr wo.heap.size k q x)/\Hid (Ext wo wr)) (λi _=>k-(intOf i).toNat)
    case atStart=>exact⟨0,Nat.zero_le _,rfl,xw,af⟩
    case round=>
     clear xw af;obtain⟨q,hq,rfl,Yf,H7⟩:=hrel;have qCv:=H7.out.size
     by_cases Mg:q<k
     ·obtain⟨⟨b,off,rfl,kP,gm,hb,pq,hcell⟩,bR,hl0,PZ,Jl⟩:=HX.out q Mg;obtain⟨y0,y1,y2,y3⟩:=hcell.ext hb (bL.out.trans H7.out)
      have iH:b<wr.heap.size:=by omega
      have dW:Hid (Ext wr (wr.alloc (.cells #[.int .i64 (x q).lv,.bool (x q).b,.slice (x q).a (x q).n (x q).p,.slice (x q).ka (x q).kn (x q).kp] 33))):=(Ext.refl wr).alloc _;obtain⟨⟨_,n0⟩,⟨_,n1⟩,aV,dZ⟩:=(Yf.out.ext dW.out).at Mg;have fr0:=aV (q*2);have fr1:=aV (q*2+1);have xy:=Lib.hid (Yf.out.ext dW.out).set;have aU:Hid (Ext wo (((wr.alloc (.cells #[.int .i64 (x q).lv,.bool (x q).b,.slice (x q).a (x q).n (x q).p,.slice (x q).ka (x q).kn (x q).kp] 33)).setCell ⟨wo.heap.size,q*2,none⟩ (.bool (x q).b)).setCell ⟨wo.heap.size,q*2+1,none⟩ (.slice (x q).a (x q).n (x q).p))):=((H7.out.trans dW.out).set (by simp) _).set (by simp) _;clear bR hcell aV;go_wp2
      go_roundw
      case rel=>exact⟨q+1,by omega,by go_num,xy,aU⟩
      case measure=>simp[intOf];omega
     ·have qb9:q=k:=by omega
      subst qb9;have HRO:=Lib.hid (Yf.out.row (M:=Mx M w.heap.size (w.heap.size+1)) (z:=z) LD (λi hi=>(((Y4.out i hi).1.eH).more (Mx.more (Nat.le_refl _))).ext (bL.out.trans H7.out)));have Y2:Hid (az (yE z q)<=1099511627776):=Nat.le_trans (ji (qAx z q P λi hi=>(Y4.out i hi).2.2)) HL.out;have jG:Hid (Mb (Mx M w.heap.size (w.heap.size+1)) wr):=Mx.mb hM (bL.out.trans H7.out).size (by omega);go_wp2_with (fail);refine(qv0 _ q z wr jG.out HRO.out Y2.out).mono ?_;rintro e w2 ⟨e0,e1,rfl,hc,aA⟩;obtain⟨b2,a2,n2,p2,rfl,rfl⟩:=hc.form;obtain⟨⟨q0,q1,q2,q3⟩,⟨f0,f1,f2,f3⟩,⟨r0,r1,r2,r3⟩,HF⟩:=uH (M:=M) (w:=w) (L:=L) ((jD.out.ext H7.out).ext aA) (Mx.at (by omega)) (Nat.le_refl _) ((bL.out.trans H7.out).trans aA) ((CR.const hc L).bZ ((qxW z q).trans (JP λi hi=>(Y4.out i hi).2.1))) Mx.sub;simp only[arr]at q0 q1 q2 q3;clear hc aA;go_wp2;exact bodyPost_ret (v:=.agg #[.int .i64 0,.bool b2,.slice a2 n2 p2,.slice none 0 0]) (by simp[results,Tryz.results97,go_sem,r0,r1,r2,r3]) rfl HF.out
   ·obtain⟨D,hD⟩:∃D:Nat,jq x k=(D:Int)+1:=⟨(jq x k-1).toNat,by have:=qwM x k;omega⟩
    have jk:D+1<=4:=by have:=qmq x k 4 (by omega) λi hi=>(HX.out i hi).2.2.2.2;omega
    have uw:D+1<=L:=by have:=qmq x k L (by omega) λi hi=>(HX.out i hi).2.2.2.1;omega
    have Sl:Hid (∀i,i<k->(x i).lv<=(D:Int)+1):=λi hi=>by have:=qcL x k i hi;omega
    have Bd:Hid (∀i,i<k->(x i).lv=(D:Int)+1->(x i).kn<=jB x k):=λi hi he=>qwN x k i hi (by omega);have hsL:jB x k<=1099511627776:=qmr x k _ λi hi=>(HX.out i hi).2.1.Vu;obtain⟨i1,UR,UT⟩:=qwL x k (by omega);have uu:(0:Int)<=(D:Int):=Int.natCast_nonneg _
    have xS:((D:Int)+1==0)=false:=by simp;omega
    obtain⟨Q,hQ⟩:=pick (λ_=>([]:List Tm)) (n:=k) (Q:=λi Q=>(x i).lv=(D:Int)+1->∃b off,(x i).ka=some ⟨b,off,none⟩/\2<=(x i).kn/\(x i).kn<=(x i).kp/\(x i).kp<=maxLen/\b<w.heap.size/\¬M b/\(∀e,e<(x i).kn->uh M w D b (off+e*4) (Q e))/\ae (aJ (D+1) (x i).kn Q) (P i)/\∀e,e<(x i).kn->aC (Q e)<=aC (P i)) (λi hi=>by
     by_cases hl:(x i).lv=(D:Int)+1
     ·obtain⟨_,bR,_⟩:=HX.out i hi;unfold aI at bR;rw[hl]at bR;obtain⟨D',hDD,_,_,a',p',b,off,n1,uj,Q,dR,dO,oH,lu,eu,kP,gm,hb,pq,dh,bT,fF,eB,jo⟩:=bR.GX (by omega)
      have:D'=D:=by omega
      subst this;simp only[Value.slice.injEq]at oH;refine⟨Q,λ_=>⟨b,off,oH.1,by omega,by omega,by omega,hb,pq,λe he=>dh e (by omega),?_,λe he=>?_⟩⟩
      ·rw[oH.2.1];exact eB
      ·exact Nat.le_trans (JL (D'+1) n1 Q e (by omega)) jo
     ·exact⟨λ_=>[],λh=>absurd h hl⟩)
    have hs2:2<=jB x k:=by
     obtain⟨_,_,_,h2,_⟩:=hQ i1 UR (by omega);have:=Bd.out i1 UR (by omega);omega
    have HQ:=Lib.hid hQ
    have Fv:Hid (ae (aJ (D+1) (jB x k) λe=>bB k (mX x P Q D e)) (bB k P)):=by
     refine(qxO _ _ _ _).trans (JP λi hi=>?_)
     by_cases hl:(x i).lv=(D:Int)+1
     ·obtain⟨_,_,_,_,_,_,_,_,_,eB,_⟩:=hQ i hi hl;have hle:=Bd.out i hi hl;refine ae.trans ((MQ hle λe h1 h2=>?_).symm.trans (sZ _ _ _ _ λe he=>?_)) eB
      ·unfold mX;rw[if_pos hl,if_neg (by omega)];exact ae.refl _
      ·unfold mX;rw[if_pos hl,if_pos he];exact ae.refl _
     ·refine ae.trans (MQ (show 1<=jB x k by omega) λe h1 h2=>?_).symm ((qnm _ _).trans ?_)
      ·unfold mX;rw[if_neg hl,if_neg (by omega)];exact ae.refl _
      ·unfold mX;rw[if_neg hl,if_pos rfl];exact ae.refl _
    have A7:Hid (∀e,az (aC (bB k (mX x P Q D e)))<=1099511627776):=λe=>by
     refine Nat.le_trans (ji (qnx λi hi=>?_)) HL.out;unfold mX
     by_cases hl:(x i).lv=(D:Int)+1
     ·rw[if_pos hl]
      split
      ·obtain⟨_,_,_,_,_,_,_,_,_,_,jo⟩:=hQ i hi hl;exact jo e (by assumption)
      ·exact Nat.zero_le _
     ·rw[if_neg hl]
      split
      ·exact Nat.le_refl _
      ·exact Nat.zero_le _
    have yJ:=Lib.hid (kG.out D (by omega));rw[hD];generalize jB x k=s at*;clear hQ hz hD UR UT
    go_wp2_with (first|(refine wpList_make_full _ rfl _ _ _ rfl wo.heap.size 33 i0 (.agg #[.int .i64 0,.bool false,.slice none 0 0,.slice none 0 0]) 4 Tryz.underlying31 hi hz0 hz1 .i64 .i64 _ _ s rfl rfl ?d4 ?d5 ?d2 ?d3 ?d6 ?_))
    case d2=>rw[hz2];omega
    case d3=>unfold maxLen;omega
    case d4=>simp
    case d5=>simp
    case d6=>omega
    intro w1 hown hgrow;have bI:=(ak.made hown rfl (by omega)).congr (f':=fu) (λi _=>CY i);have af:=lM hgrow;have cB:=Lib.hid (jD.out.ext af);have aL:=Lib.hid (bL.out.trans af)
    have dP:wo.heap.size+1<=w1.heap.size:=by have:=bI.lt;omega
    have oP:Hid (Kids (Mx M w.heap.size (wo.heap.size+1)) w1 D wo.heap.size s (λ_=>[])):=Kids.fresh bI;clear hown hgrow bI af;go_wp2
    go_loopw [62] (λi wr=>∃e:Nat,e<=s/\i=.int .i64 e/\wo.heap.size+1<=wr.heap.size/\Hid (Kids (Mx M w.heap.size (wo.heap.size+1)) wr D wo.heap.size s (λi=>if i<e then bB k (mX x P Q D i)else[]))/\Hid (Ext w wr)/\Hid (ak wr w.heap.size 33 4 (arr #[.int .i64 0,.bool false,.slice none 0 0,.slice none 0 0]))) (λi _=>s-(intOf i).toNat)
    case atStart=>exact⟨0,Nat.zero_le _,rfl,dP,oP.out.congr λi _=>by rw[if_neg (by omega)];exact ae.refl _,aL,cB⟩
    case round=>
     clear oP aL cB dP;obtain⟨e,he,rfl,Qk,HK,Fa,qep⟩:=hrel
     by_cases hes:e<s
     ·go_wp2;obtain⟨wi,rfl⟩:∃wi:World,wi=wr:=⟨_,rfl⟩
      go_loopw [67,12] (λi v wr=>∃(q c:Nat)(xx:Nat->PE)(S:Nat->List Tm),q<=k/\c<=q/\i=.int .i64 q/\Own wr wi.heap.size 33 4 v c (px xx)/\Hid (∀i,i<c->aI (Mx M w.heap.size (wo.heap.size+1)) wi D (xx i) (S i))/\Hid (bB c S=bB q (mX x P Q D e))/\Hid (Ext wi wr)) (λi _ _=>k-(intOf i).toNat)
      case atStart=>exact⟨0,0,λ_=>PE.z,λ_=>[],Nat.zero_le _,Nat.le_refl _,rfl,Own.nil _ _ _ _ _,λi hi=>by omega,rfl,Ext.refl _⟩
      case round=>
       obtain⟨q,c,xx,S,hq,Pz,rfl,hO,HS,pW,AV⟩:=hrel;obtain⟨va,vc,rfl⟩:=hO.form;have Jt:=AV.out.size
       by_cases Mg:q<k
       ·obtain⟨⟨b,off,rfl,kP,gm,hb,pq,hcell⟩,bR,hl0,PZ,Jl⟩:=HX.out q Mg;obtain⟨y0,y1,y2,y3⟩:=hcell.ext hb (Fa.out.trans AV.out)
        have iH:b<wr.heap.size:=by omega
        have Xz:Hid (aI (Mx M w.heap.size (wo.heap.size+1)) wi L (x q) (P q)):=(bR.more (Mx.more (Nat.le_refl _))).ext Fa.out;have dW:Hid (Ext wr (wr.alloc (.cells (ah (x q)) 33))):=(Ext.refl wr).alloc _;have hle:=Sl.out q Mg;have HKL:=bR.Vu;clear bR hcell
        by_cases hl:(x q).lv=(D:Int)+1
        ·have Ev:((x q).lv==(D:Int)+1)=true:=by simpa using hl
         have UY:decide ((x q).lv<(D:Int)+1)=false:=decide_eq_false (by omega)
         by_cases sO:e<(x q).kn
         ·obtain⟨b2,uF,lS,kz,qB0,qkE,gX,qty,dh,_⟩:=HQ.out q Mg hl;obtain⟨d0,d1,d2,d3,u0,u1,u2,u3,hCK⟩:=dh e sO;obtain⟨y,rfl,rfl,rfl,rfl,hyC,_⟩:=hCK.pe;rw[<-(Fa.out.trans AV.out).cell gX]at u0 u1 u2 u3
          have qBb:b2<wr.heap.size:=by omega
          have Y0:Hid (aI (Mx M w.heap.size (wo.heap.size+1)) wi D y (Q q e)):=(hyC.more (Mx.more (Nat.le_refl _))).ext Fa.out;rw[lS]at y3
          have A9:Hid (mX x P Q D e q=Q q e):=by show _=_;unfold mX;rw[if_pos hl,if_pos sO]
          clear dh hCK hyC hl;have E9:Hid (Ext wr ((wr.alloc (.cells #[.int .i64 (x q).lv,.bool (x q).b,.slice (x q).a (x q).n (x q).p,.slice (some ⟨b2,uF,none⟩) (x q).kn (x q).kp] 33)).alloc (.cells (ah y) 33))):=((Ext.refl wr).alloc _).alloc _;have pz:=hO.ext E9.out;have jO:=ak.bf (wr.alloc (.cells #[.int .i64 (x q).lv,.bool (x q).b,.slice (x q).a (x q).n (x q).p,.slice (some ⟨b2,uF,none⟩) (x q).kn (x q).kp] 33)) (ah y) 33 4 rfl;simp only[World.size_alloc]at jO;clear lS;have yQ:Hid (∀j,j<4->(arr (ah y) j).oneCell'=true):=Q5 y
          go_wp2_with (at_builtin;refine Ru _ rfl (.tmp 83) (.tmp 89) _ rfl wi.heap.size 33 i0 _ 4 64 Tryz.underlying31 hi hz0 hz1 hz2 rfl (by omega) (.slice va c vc) c (px xx) rfl pz (wr.heap.size+1) 33 1 (arr (ah y)) rfl jO yQ.out ?s1 ?s2 ?s3 ?_)
          case s1=>unfold maxLen;omega
          case s2=>omega
          case s3=>simp;omega
          intro gg cap2 w2 jP dU hat Ew;have Pe:Ext wi w2:=(AV.out.trans E9.out).grown dU (λg hg=>(hO.lt g hg).1)
          have HF:Hid (∃(q' c':Nat)(xx:Nat->PE)(S:Nat->List Tm),q'<=k/\c'<=q'/\Value.int .i64 ((q:Int)+1)=.int .i64 q'/\Own w2 wi.heap.size 33 4 (.slice (some ⟨gg,0,none⟩) (c+1) cap2) c' (px xx)/\Hid (∀i,i<c'->aI (Mx M w.heap.size (wo.heap.size+1)) wi D (xx i) (S i))/\Hid (bB c' S=bB q' (mX x P Q D e))/\Hid (Ext wi w2)):=by
           refine⟨q+1,c+1,snoc xx c y,snoc S c (Q q e),by omega,by omega,by simp,jP.congr λj hj=>Ra xx c y j hj,λi hi=>?_,?_,Pe⟩
           ·by_cases Eo:i=c
            ·subst Eo;rw[tH,tH];exact Y0.out
            ·rw[yA _ _ _ _ (by omega),yA _ _ _ _ (by omega)];exact HS.out i (by omega)
           ·show _=_;rw[qdd,kr,pW.out,A9.out]
          clear jP dU hat Pe pz jO hO;go_wp2
          go_roundw
          case rel=>exact HF.out
          case measure=>simp[intOf];omega
         ·have qBt:decide ((e:Int)<((x q).kn:Int))=false:=decide_eq_false (by omega);have qBu:decide (e<(x q).kn)=false:=decide_eq_false sO
          have A9:Hid (mX x P Q D e q=[]):=by show _=_;unfold mX;rw[if_pos hl,if_neg sO]
          have Ba:Hid (bB c S=bB (q+1) (mX x P Q D e)):=by show _=_;rw[kr,A9.out,List.append_nil];exact pW.out
          have hO2:=hO.ext dW.out;have aU:=Lib.hid (AV.out.trans dW.out);clear hl hO;go_wp2
          go_roundw
          case rel=>exact⟨q+1,c,xx,S,by omega,by omega,by go_num,hO2,HS,Ba,aU⟩
          case measure=>simp[intOf];omega
        ·have Ev:((x q).lv==(D:Int)+1)=false:=by simpa using hl
         have UY:decide ((x q).lv<(D:Int)+1)=true:=decide_eq_true (by omega)
         by_cases kM:e=0
         ·have qt8:((e:Int)==0)=true:=by simp;omega
          have A9:Hid (mX x P Q D e q=P q):=by show _=_;unfold mX;rw[if_neg hl,if_pos kM]
          have Y0:Hid (aI (Mx M w.heap.size (wo.heap.size+1)) wi D (x q) (P q)):=CR.MU Xz.out (by omega);have E9:Hid (Ext wr ((wr.alloc (.cells (ah (x q)) 33)).alloc (.cells (ah (x q)) 33))):=((Ext.refl wr).alloc _).alloc _;have pz:=hO.ext E9.out;have jO:=ak.bf (wr.alloc (.cells (ah (x q)) 33)) (ah (x q)) 33 4 rfl;simp only[World.size_alloc]at jO;have yQ:Hid (∀j,j<4->(arr (ah (x q)) j).oneCell'=true):=Q5 (x q);clear hl kM
          go_wp2_with (at_builtin;refine Ru _ rfl (.tmp 100) (.tmp 102) _ rfl wi.heap.size 33 i0 _ 4 64 Tryz.underlying31 hi hz0 hz1 hz2 rfl (by omega) (.slice va c vc) c (px xx) rfl pz (wr.heap.size+1) 33 1 (arr (ah (x q))) rfl jO yQ.out ?t1 ?t2 ?t3 ?_)
          case t1=>unfold maxLen;omega
          case t2=>omega
          case t3=>simp;omega
          intro gg cap2 w2 jP dU hat Ew;have Pe:Ext wi w2:=(AV.out.trans E9.out).grown dU (λg hg=>(hO.lt g hg).1)
          have HF:Hid (∃(q' c':Nat)(xx:Nat->PE)(S:Nat->List Tm),q'<=k/\c'<=q'/\Value.int .i64 ((q:Int)+1)=.int .i64 q'/\Own w2 wi.heap.size 33 4 (.slice (some ⟨gg,0,none⟩) (c+1) cap2) c' (px xx)/\Hid (∀i,i<c'->aI (Mx M w.heap.size (wo.heap.size+1)) wi D (xx i) (S i))/\Hid (bB c' S=bB q' (mX x P Q D e))/\Hid (Ext wi w2)):=by
           refine⟨q+1,c+1,snoc xx c (x q),snoc S c (P q),by omega,by omega,by simp,jP.congr λj hj=>Ra xx c (x q) j hj,λi hi=>?_,?_,Pe⟩
           ·by_cases Eo:i=c
            ·subst Eo;rw[tH,tH];exact Y0.out
            ·rw[yA _ _ _ _ (by omega),yA _ _ _ _ (by omega)];exact HS.out i (by omega)
           ·show _=_;rw[qdd,kr,pW.out,A9.out]
          clear jP dU hat Pe pz jO hO;go_wp2
          go_roundw
          case rel=>exact HF.out
          case measure=>simp[intOf];omega
         ·have qt8:((e:Int)==0)=false:=by simp;omega
          have A9:Hid (mX x P Q D e q=[]):=by show _=_;unfold mX;rw[if_neg hl,if_neg kM]
          have Ba:Hid (bB c S=bB (q+1) (mX x P Q D e)):=by show _=_;rw[kr,A9.out,List.append_nil];exact pW.out
          have hO2:=hO.ext dW.out;have aU:=Lib.hid (AV.out.trans dW.out);clear hl hO;go_wp2
          go_roundw
          case rel=>exact⟨q+1,c,xx,S,by omega,by omega,by go_num,hO2,HS,Ba,aU⟩
          case measure=>simp[intOf];omega
       ·have qb9:q=k:=by omega
        subst qb9;have jG:Hid (Mb (Mx M w.heap.size (wo.heap.size+1)) wi):=Mx.mb hM Fa.out.size Qk;have uP:=Lib.hid (hO.toK (M:=Mx M w.heap.size (wo.heap.size+1)) (D:=D) (S:=S) (λi hi=>(HS.out i hi).ext AV.out) (λg hg=>jG.out.new hg) (by omega));have aO:=Lib.hid (yJ.out _ _ _ _ _ (jG.out.ext AV.out) uP.out (by rw[pW.out];exact A7.out e));go_wp2_with (fail);refine(aO.out).mono ?_;rintro e2 w4 ⟨d0,d1,d2,d3,rfl,bR,aW⟩;obtain⟨kS,b2,a2,n2,p2,iU,j6,iV,rfl,rfl,rfl,rfl,_⟩:=bR.form;have aR:=AV.out.trans aW;have eF:=HK.out.ext aR;obtain⟨⟨_,k0⟩,⟨_,k1⟩,⟨_,k2⟩,⟨_,k3⟩,aV,l5⟩:=eF.at e hes;have fB:=aV (e*4);have fo:=aV (e*4+1);have lh:=aV (e*4+2);have pG:=aV (e*4+3)
        have lJ:Hid (Kids (Mx M w.heap.size (wo.heap.size+1)) (aH w4 wo.heap.size (e*4) (.int .i64 kS) (.bool b2) (.slice a2 n2 p2) (.slice iU j6 iV)) D wo.heap.size s (λi=>if i<e+1 then bB q (mX x P Q D i)else[])):=by
         refine(eF.set (Mx.at (by omega)) e hes bR).congr λi _=>?_
         by_cases gH:i=e
         ·subst gH;rw[if_pos rfl,if_pos (by omega),pW.out];exact ae.refl _
         ·rw[if_neg gH]
          by_cases h3:i<e
          ·rw[if_pos h3,if_pos (by omega)];exact ae.refl _
          ·rw[if_neg h3,if_neg (by omega)];exact ae.refl _
        have eD:Hid (Ext w (aH w4 wo.heap.size (e*4) (.int .i64 kS) (.bool b2) (.slice a2 n2 p2) (.slice iU j6 iV))):=(Fa.out.trans aR).aH (by omega) _ _ _ _ _;have vQ:Hid (ak (aH w4 wo.heap.size (e*4) (.int .i64 kS) (.bool b2) (.slice a2 n2 p2) (.slice iU j6 iV)) w.heap.size _ _ _):=(qep.out.ext aR).of_heap (il _ _ _ _ _ _ _ _ (by omega))
        have p8:Hid (wo.heap.size+1<=(aH w4 wo.heap.size (e*4) (.int .i64 kS) (.bool b2) (.slice a2 n2 p2) (.slice iU j6 iV)).heap.size):=by show _<=_;rw[lU];have:=aR.size;omega
        clear eF aV bR aW aR hO;go_wp2
        go_roundw
        case rel=>exact⟨e+1,by omega,by go_num,p8.out,lJ,eD,vQ⟩
        case measure=>simp[intOf];omega
     ·have qua:e=s:=by omega
      subst qua
      have uP:Hid (dV (Mx M w.heap.size (w.heap.size+1)) wr D (.slice (some ⟨wo.heap.size,0,none⟩) e e) e (λi=>bB k (mX x P Q D i))):=by
       refine dV.congr (dV.qcX (HK.out.more λg hg=>.inl (hg.imp id λh=>by omega)) (λhh=>hh.elim (hM.new (by omega)) (by omega)) hsL) λi hi=>?_;rw[if_pos hi];exact ae.refl _
      have aO:=Lib.hid (qdo (Mx M w.heap.size (w.heap.size+1)) D _ e _ wr (Mx.mb hM Fa.out.size (by omega)) jk uP.out);go_wp2_with (fail);refine(aO.out).mono ?_;rintro e2 w4 ⟨d0,d1,d2,d3,rfl,bR,aW⟩;obtain⟨kS,b2,a2,n2,p2,iU,j6,iV,rfl,rfl,rfl,rfl,_⟩:=bR.form;obtain⟨⟨q0,q1,q2,q3⟩,⟨f0,f1,f2,f3⟩,⟨r0,r1,r2,r3⟩,HF⟩:=uH (M:=M) (w:=w) (L:=L) (qep.out.ext aW) (Mx.at (by omega)) (Nat.le_refl _) (Fa.out.trans aW) ((bR.up uw).bZ Fv.out) Mx.sub;simp only[arr]at q0 q1 q2 q3;clear bR aW;go_wp2;exact bodyPost_ret (v:=.agg #[.int .i64 kS,.bool b2,.slice a2 n2 p2,.slice iU j6 iV]) (by simp[results,Tryz.results97,go_sem,r0,r1,r2,r3]) rfl HF.out
theorem qnT(L:Nat):WK L:=by
 induction L using Nat.strongRecOn with
 |_ L ih=>exact qqQ L λD hD=>ih D hD
def xH(M:Nat->Prop)(w:World)(u:Value)(c:Nat)(σ:Nat->Nat):Prop:=
 (u=.slice none 0 0/\c=0)\/∃g cap,u=.slice (some ⟨g,0,none⟩) c cap/\c<=cap/\cap<=maxLen/\(g<w.heap.size/\¬M g)/\∀i,i<c->w.cell? ⟨g,i,none⟩=some (.int .i64 (σ i:Nat))
theorem xH.kp{M:Nat->Prop}{w w':World}{u:Value}{c:Nat}{σ:Nat->Nat}(h:xH M w u c σ)(he:Kp M w w'):xH M w' u c σ:=by
 rcases h with h|⟨g,cap,h1,h2,h3,h4,h5⟩
 ·exact .inl h
 ·exact .inr ⟨g,cap,h1,h2,h3,⟨Nat.lt_of_lt_of_le h4.1 he.1,h4.2⟩,λi hi=>by rw[he.cell h4.1 h4.2];exact h5 i hi⟩
theorem xH.ext{M:Nat->Prop}{w w':World}{u:Value}{c:Nat}{σ:Nat->Nat}(h:xH M w u c σ)(he:Ext w w'):xH M w' u c σ:=h.kp (Kp.jC he)
theorem xH.form{M:Nat->Prop}{w:World}{u:Value}{c:Nat}{σ:Nat->Nat}(h:xH M w u c σ):∃a cap,u=.slice a c cap:=by
 rcases h with⟨rfl,rfl⟩|⟨g,cap,rfl,_⟩
 ·exact⟨_,_,rfl⟩
 ·exact⟨_,_,rfl⟩
theorem xH.at{M:Nat->Prop}{w:World}{a:Option Addr}{c cap:Nat}{σ:Nat->Nat}(h:xH M w (.slice a c cap) c σ)(i:Nat)(hi:i<c):∃g,a=some ⟨g,0,none⟩/\c<=cap/\cap<=maxLen/\g<w.heap.size/\¬M g/\w.cell? ⟨g,i,none⟩=some (.int .i64 (σ i:Nat)):=by
 rcases h with⟨_,h⟩|⟨g,cap',h1,h2,h3,h4,h5⟩
 ·omega
 ·simp only[Value.slice.injEq,true_and]at h1;obtain⟨rfl,rfl⟩:=h1;exact⟨g,rfl,h2,h3,h4.1,h4.2,h5 i hi⟩
def qI(nz:Nat->Bool)(k c:Nat)(σ:Nat->Nat):Prop:=(List.range c).map σ=(List.range k).filter nz
theorem qI.len{nz:Nat->Bool}{k c:Nat}{σ:Nat->Nat}(h:qI nz k c σ):c<=k:=by
 have h1:=congrArg List.length h;have h2:=List.length_filter_le nz (List.range k);simp only[List.length_map,List.length_range]at h1 h2;omega
theorem qI.skip{nz:Nat->Bool}{k c:Nat}{σ:Nat->Nat}(h:qI nz k c σ)(hz:nz k=false):qI nz (k+1) c σ:=by
 unfold qI at*;rw[h,List.range_succ,List.filter_append];simp[hz]
theorem qI.take{nz:Nat->Bool}{k c:Nat}{σ:Nat->Nat}(h:qI nz k c σ)(hz:nz k=true):qI nz (k+1) (c+1) (snoc σ c k):=by
 unfold qI at*;rw[List.range_succ,List.map_append,List.range_succ,List.filter_append, <-h]
 congr 1
 ·apply List.map_congr_left;intro i hi;exact yA _ _ _ _ (by simpa using hi)
 ·simp[hz,tH]
theorem qI.mem{nz:Nat->Bool}{k c:Nat}{σ:Nat->Nat}(h:qI nz k c σ)(i:Nat)(hi:i<c):σ i<k/\nz (σ i)=true:=by
 have:σ i∈(List.range k).filter nz:=by rw[<-h];exact List.mem_map.2 ⟨i,by simpa using hi,rfl⟩
 simpa using this
theorem qxq(z:Int)(j:Nat)(hj:j<1):(arr #[.int .i64 z] j).oneCell'=true:=by
 have:j=0:=by omega
 subst this;rfl
def QG(σ:Nat->Nat):Nat->Value:=λj=>.int .i64 (σ j:Nat)
theorem qvL(σ:Nat->Nat)(c k:Nat)(j:Nat)(hj:j<(c+1)*1):app (QG σ) c (arr #[.int .i64 (k:Int)]) j=QG (snoc σ c k) j:=by
 unfold app QG
 by_cases h:j<c
 ·rw[if_pos h,yA _ _ _ _ (by omega)]
 ·rw[if_neg h]
  have:j=c:=by omega
  subst this;rw[tH,Nat.sub_self];rfl
theorem qnX(M:Nat->Prop)(D:Nat)(v:Value)(N:Nat)(P:Nat->List Tm)(w:World)(hM:Mb M w)(h:dV M w D v N P):
 Calls Tryz.prog 158 #[v] w λe w'=>∃(u:Value)(c:Nat)(σ:Nat->Nat)(nz:Nat->Bool),e=.returned u/\xH M w' u c σ/\qI nz N c σ/\(∀i,i<N->(nz i=true↔¬ae (P i) []))/\Ext w w':=by
 obtain⟨i0,hi,hz0,hz1,hz2⟩:=info_parts Tryz.qlS;obtain⟨a,cap,rfl⟩:=h.form;obtain⟨x,hx⟩:=h.x;have LD:=h.1;have HX:=Lib.hid hx
 have Dq:Hid (∀i,i<N->(((!mM (x i).lv (x i).n)=true)↔¬ae (P i) [])):=λi hi=>by
  have:=CR.QJ (hx i hi).2.1;rw[<-this];simp
 clear h hx
 go_enter Tryz.func158,Tryz.ntmps158
 go_wp2
 go_loopw [8,3] (λi v wr=>∃(k c:Nat)(σ:Nat->Nat),k<=N/\i=.int .i64 k/\Own wr w.heap.size 3 1 v c (QG σ)/\Hid (qI (λi=> !mM (x i).lv (x i).n) k c σ)/\Hid (Ext w wr)) (λi _ _=>N-(intOf i).toNat)
 case atStart=>exact⟨0,0,λ_=>0,Nat.zero_le _,rfl,Own.nil _ _ _ _ _,rfl,Ext.refl _⟩
 case round=>
  obtain⟨k,c,σ,hk,rfl,hO,HS,gD⟩:=hrel;obtain⟨va,vc,rfl⟩:=hO.form;have hsz:=gD.out.size;have zN:=HS.out.len
  by_cases hlt:k<N
  ·obtain⟨⟨b,off,rfl,kP,gm,hb,pq,hcell⟩,bR,hl0,PZ,Jl⟩:=HX.out k hlt;obtain⟨y0,y1,y2,y3⟩:=hcell.ext hb gD.out
   have iH:b<wr.heap.size:=by omega
   have dW:Hid (Ext wr (wr.alloc (.cells (ah (x k)) 33))):=(Ext.refl wr).alloc _;have aS:=He (x k).lv (x k).b (x k).a (x k).n (x k).p (x k).ka (x k).kn (x k).kp (wr.alloc (.cells (ah (x k)) 33));clear bR hcell;cases EH:mM (x k).lv (x k).n
   ·rw[EH]at aS;have aO:=Lib.hid aS;have xA:Hid (qI (λi=> !mM (x i).lv (x i).n) (k+1) (c+1) (snoc σ c k)):=HS.out.take (by simp[EH]);clear aS;go_wp2_with (fail);refine(aO.out).mono ?_;rintro e w1 ⟨rfl,af⟩;have ig:Ext wr w1:=dW.out.trans af;have dP:=ig.size;have pz:=(hO.ext ig).ext ((Ext.refl _).alloc (.cells #[.int .i64 (k:Int)] 3));have jO:=ak.bf w1 #[.int .i64 (k:Int)] 3 1 rfl;have yQ:=Lib.hid (qxq (k:Int));have aL:=Lib.hid (ig.trans ((Ext.refl _).alloc (.cells #[.int .i64 (k:Int)] 3)));clear af ig
    go_wp2_with (at_builtin;refine Ru _ rfl (.tmp 16) (.tmp 18) _ rfl w.heap.size 3 i0 _ 1 8 Tryz.underlying177 hi hz0 hz1 hz2 rfl (by omega) (.slice va c vc) c (QG σ) rfl pz w1.heap.size 3 1 (arr #[.int .i64 (k:Int)]) rfl jO yQ.out ?s1 ?s2 ?s3 ?_)
    case s1=>unfold maxLen;omega
    case s2=>omega
    case s3=>simp;omega
    intro gg cap2 w2 jP dU hat Ew;have HF:Hid (Ext w w2):=(gD.out.trans aL.out).grown dU (λg hg=>(hO.lt g hg).1);have vw:=jP.congr λj hj=>qvL σ c k j hj;clear jP dU hat pz jO hO;go_wp2
    go_roundw
    case rel=>exact⟨k+1,c+1,snoc σ c k,by omega,by go_num,vw,xA,HF⟩
    case measure=>simp[intOf];omega
   ·rw[EH]at aS;have aO:=Lib.hid aS;have xA:Hid (qI (λi=> !mM (x i).lv (x i).n) (k+1) c σ):=HS.out.skip (by simp[EH]);clear aS;go_wp2_with (fail);refine(aO.out).mono ?_;rintro e w1 ⟨rfl,af⟩;have ig:Ext wr w1:=dW.out.trans af;have HF:=Lib.hid (gD.out.trans ig);have vw:=hO.ext ig;clear af ig hO;go_wp2
    go_roundw
    case rel=>exact⟨k+1,c,σ,by omega,by go_num,vw,xA,HF⟩
    case measure=>simp[intOf];omega
  ·have hkn:k=N:=by omega
   subst hkn
   have hI:xH M wr (.slice va c vc) c σ:=by
    rcases hO with h|⟨g,cap',F,h1,hg,hB,fD,gm,hF⟩
    ·exact .inl h
    ·refine .inr ⟨g,cap',h1,fD,gm,⟨hB.lt,hM.new hg⟩,λi hi=>?_⟩;rw[hB.cell (by omega),hF i (by omega)];rfl
   have HI:=Lib.hid hI;clear hI;go_wp2;go_ret;exact⟨_,c,σ,_,rfl,HI.out,HS.out,Dq.out,gD.out⟩
theorem qnh(k:Mo)(l r:List Tm):ae (ai l (shift k r)) (shift k (ai l r)):=
 (ae.sW l (shift k r)).trans ((G7 k r l).trans ((ae.sW r l).shift k))
theorem qc8(n:Nat)(F:Nat->List Tm)(r:List Tm):ae (ai (bB n F) r) (bB n λi=>ai (F i) r):=by
 induction n with
 |zero=>exact ae.refl _
 |succ n ih=>rw[kr,kr,Cw];exact ih.append (ae.refl _)
theorem qxJ(n:Nat)(F:Nat->List Tm)(l:List Tm):ae (ai l (bB n F)) (bB n λi=>ai l (F i)):=
 (ae.sW _ _).trans ((qc8 n F l).trans (JP λi _=>ae.sW _ _))
theorem VR(L n:Nat)(P:Nat->List Tm):aJ L n P=bB n λi=>shift (xp L (i:Int)) (P i):=rfl
theorem qAc(L:Nat)(i j:Int):Mo.add (xp L i) (xp L j)=xp L (i+j):=by
 unfold xp Mo.add;simp only[Mo.mk.injEq];refine⟨?_,?_,?_,?_⟩<;>(split<;>simp)
def kU(L:Nat)(P Q:Nat->List Tm)(i j:Nat):List Tm:=shift (xp L ((i+j:Nat):Int)) (ai (P i) (Q j))
theorem qxI(L n n':Nat)(P Q:Nat->List Tm):ae (ai (aJ L n P) (aJ L n' Q)) (bB n λi=>bB n' λj=>kU L P Q i j):=by
 rw[VR,VR];refine(qc8 _ _ _).trans (JP λi _=>(qxJ _ _ _).trans (JP λj _=>?_));unfold kU;refine(G7 _ _ _).trans (((qnh _ _ _).shift _).trans ?_);rw[qdr,qAc,show(j:Int)+(i:Int)=((i+j:Nat):Int) by omega];exact ae.refl _
theorem VN(L n:Nat)(P:Nat->List Tm)(r:List Tm):ae (aJ L n λi=>ai (P i) r) (ai (aJ L n P) r):=by
 rw[VR,VR];refine ae.symm ((qc8 _ _ _).trans (JP λi _=>G7 _ _ _))
theorem qsY(nz:Nat->Bool)(F:Nat->List Tm)(l:List Nat)(h:∀i∈l,nz i=false->ae (F i) []):ae ((l.filter nz).flatMap F) (l.flatMap F):=by
 induction l with
 |nil=>exact ae.refl _
 |cons i l ih=>
  have h1:=ih λj hj=>h j (List.mem_cons_of_mem _ hj);rw[List.filter_cons];cases hz:nz i
  ·rw[if_neg (by simp),List.flatMap_cons];have h2:=(h i List.mem_cons_self hz).symm.append h1;simpa using h2
  ·rw[if_pos rfl,List.flatMap_cons,List.flatMap_cons];exact(ae.refl _).append h1
theorem qny{nz:Nat->Bool}{n c:Nat}{σ:Nat->Nat}(h:qI nz n c σ)(F:Nat->List Tm)(hz:∀i,i<n->nz i=false->ae (F i) []):ae (bB c λa=>F (σ a)) (bB n F):=by
 unfold bB
 have e:(List.range c).flatMap (λa=>F (σ a))=((List.range c).map σ).flatMap F:=by rw[List.flatMap_map]
 rw[e,h];exact qsY nz F _ λi hi=>hz i (by simpa using hi)
theorem qmT{nz:Nat->Bool}{n c:Nat}{σ:Nat->Nat}(h:qI nz n c σ)(F:Nat->List Tm):aC (bB c λa=>F (σ a))<=aC (bB n F):=by
 unfold bB
 have e:(List.range c).flatMap (λa=>F (σ a))=((List.range c).map σ).flatMap F:=by rw[List.flatMap_map]
 rw[e,h];generalize List.range n=l
 induction l with
 |nil=>exact Nat.le_refl _
 |cons i l ih=>
  rw[List.filter_cons,List.flatMap_cons,kT]
  split
  ·rw[List.flatMap_cons,kT];omega
  ·omega
theorem qmS(n:Nat)(F:Nat->List Tm)(f:Nat->Nat)(h:∀i,i<n->aC (F i)=f i)(g:Nat->List Tm)(c:Nat)(hg:∀i,i<n->f i=aC (g i)*c):aC (bB n F)=aC (bB n g)*c:=by
 induction n with
 |zero=>simp[bB,aC]
 |succ n ih=>
  rw[kr,kr,kT,kT,ih (λi hi=>h i (by omega)) λi hi=>hg i (by omega),h n (by omega),hg n (by omega),Nat.add_mul]
theorem qxb(L n n':Nat)(P Q:Nat->List Tm):aC (bB n λi=>bB n' λj=>kU L P Q i j)=aC (aJ L n P)*aC (aJ L n' Q):=by
 have hq:∀(n:Nat)(P:Nat->List Tm),aC (aJ L n P)=aC (bB n P):=by
  intro n P
  induction n with
  |zero=>rfl
  |succ n ih=>rw[fK,kr,kT,kT,yu,ih]
 rw[hq,hq];refine qmS n _ (λi=>aC (P i)*aC (bB n' Q)) (λi _=>?_) P (aC (bB n' Q)) (λ_ _=>rfl);rw[Nat.mul_comm];refine qmS n' _ (λj=>aC (Q j)*aC (P i)) (λj _=>?_) Q (aC (P i)) (λ_ _=>rfl);unfold kU;rw[yu,Cu,Nat.mul_comm]
theorem qda{L K k0:Nat}(hk:k0<K){F F':Nat->List Tm}{l:List Tm}(h:∀k,k<K->k≠k0->F' k=F k)(h0:F' k0=F k0++l):
 ae (aJ L K F') (aJ L K F++shift (xp L (k0:Int)) l)/\aC (aJ L K F')=aC (aJ L K F)+aC l:=by
 induction K with
 |zero=>omega
 |succ K ih=>
  rw[fK,fK]
  by_cases hK:k0=K
  ·subst hK;have e:aJ L k0 F'=aJ L k0 F:=VQ _ _ _ _ λi hi=>h i (by omega) (by omega);rw[e,h0,V8];refine⟨λm=>by simp only[gW];omega,?_⟩;simp only[kT,yu];omega
  ·obtain⟨i1,i2⟩:=ih (by omega) λk hk=>h k (by omega);rw[h K (by omega) (by omega)];refine⟨λm=>?_,?_⟩
   ·have:=i1 m;simp only[gW]at this⊢;omega
   ·simp only[kT,yu]at i2⊢;omega
def bn(B:Nat)(l:List Tm):Prop:=∀m,aB l m≠0->∀k,m.get k<=B
theorem bn.bZ{B:Nat}{l r:List Tm}(h:bn B l)(hs:ae l r):bn B r:=λm hm k=>h m (by rw[hs m];exact hm) k
theorem bn.mono{B C:Nat}{l:List Tm}(h:bn B l)(hs:B<=C):bn C l:=λm hm k=>by have:=h m hm k;omega
theorem MK{l:List Tm}(h:¬ae l []):∃m,aB l m≠0:=by
 refine Classical.byContradiction λhn=>h λm=>?_;refine Classical.byContradiction λhm=>hn ⟨m,hm⟩
theorem bn.append{B:Nat}{l r:List Tm}(h:bn B l)(k:bn B r):bn B (l++r):=λm hm j=>by
 rw[gW]at hm
 by_cases h1:aB l m=0
 ·exact k m (by omega) j
 ·exact h m h1 j
theorem qrz{l r:List Tm}{m:Mo}(h:aB (ai l r) m≠0):∃s∈l,aB r (Mo.sub m s.2)≠0:=by
 induction l with
 |nil=>exact absurd rfl h
 |cons s l ih=>
  rw[um]at h
  by_cases h1:aB r (Mo.sub m s.2)=0
  ·rw[h1,Int.mul_zero,Int.zero_add]at h;obtain⟨t,ht,h2⟩:=ih h;exact⟨t,List.mem_cons_of_mem _ ht,h2⟩
  ·exact⟨s,List.mem_cons_self,h1⟩
theorem OJ{l r:List Tm}{m:Mo}(hl:AO l)(h:aB (ai l r) m≠0):∃m1,aB l m1≠0/\aB r (Mo.sub m m1)≠0:=by
 induction l with
 |nil=>exact absurd rfl h
 |cons s l ih=>
  have hd:=List.pairwise_cons.1 hl;have mH:∀m1,aB (s::l) m1=(if s.2=m1 then s.1 else 0)+aB l m1:=λ_=>rfl;have hz:aB l s.2=0:=qh λt ht e=>hd.1 t ht e.symm;rw[um]at h
  by_cases h1:s.1*aB r (Mo.sub m s.2)=0
  ·rw[h1,Int.zero_add]at h;obtain⟨m1,h2,h3⟩:=ih hd.2 h;refine⟨m1,?_,h3⟩;rw[mH,if_neg (λe=>h2 (by rw[<-e];exact hz))];simpa using h2
  ·refine⟨s.2,?_,λe=>h1 (by rw[e,Int.mul_zero])⟩;rw[mH,if_pos rfl,hz];intro e;exact h1 (by rw[show s.1=0 by omega,Int.zero_mul])
theorem l7{l:List Tm}(h:∀m:Mo,m.nn=false->aB l m=0):ae (norm l) l:=by
 intro m;rw[MJ];unfold qz;cases hm:m.nn
 ·rw[if_neg (by simp),h m hm]
 ·rw[if_pos rfl]
theorem OG{l:List Tm}(h:Canon l):AO l:=by
 unfold AO;exact h.1.imp (λ{s t}(hlt:Mo.lt t.2 s.2)(e:s.2=t.2)=>Mo.JF hlt e.symm)
theorem bn.ai{B C:Nat}{l r:List Tm}(hl:bn B l)(hr:bn C r)(nl:∀m:Mo,m.nn=false->aB l m=0):bn (B+C) (ai l r):=by
 intro m hm k;have hs:=l7 nl;rw[<-(hs.mY r) m]at hm;obtain⟨m1,h1,h2⟩:=OJ (OG (qZ l)) hm;have a1:=hl m1 (by rw[<-hs m1];exact h1) k;have a2:=hr _ h2 k;rw[sJ]at a2;omega
theorem Ar{l r:List Tm}(nl:∀m:Mo,m.nn=false->aB l m=0)(nr:∀m:Mo,m.nn=false->aB r m=0)(m:Mo)(hm:m.nn=false):aB (ai l r) m=0:=by
 refine Classical.byContradiction λhc=>?_;have hs:=l7 nl;rw[<-(hs.mY r) m]at hc;obtain⟨m1,h1,h2⟩:=OJ (OG (qZ l)) hc
 have g1:m1.nn=true:=by
  cases h:m1.nn
  ·exact absurd (by rw[hs m1];exact nl m1 h) h1
  ·rfl
 have g2:(Mo.sub m m1).nn=true:=by
  cases h:(Mo.sub m m1).nn
  ·exact absurd (nr _ h) h2
  ·rfl
 rw[Mo.Ap]at g1 g2;simp only[Mo.sub]at g2;have:m.nn=true:=(Mo.Ap m).2 ⟨by omega,by omega,by omega,by omega⟩;rw[hm]at this;cases this
theorem Mo.qwu{x a b:Mo}(h:Mo.lt x a):Mo.lt b (Mo.sub (Mo.add a b) x):=by
 unfold Mo.lt at*;simp only[Mo.add,Mo.sub];omega
theorem qq9{s t:Tm}{l r:List Tm}(hl:Canon (s::l))(hr:Canon (t::r)):aB (ai (s::l) (t::r)) (Mo.add s.2 t.2)=s.1*t.1:=by
 rw[um]
 have e1:Mo.sub (Mo.add s.2 t.2) s.2=t.2:=by rw[Mo.TF];exact((Mo.add_eq _ _ _).1 rfl).symm
 rw[e1,hr.DU]
 have e2:aB (ai l (t::r)) (Mo.add s.2 t.2)=0:=by
  refine Classical.byContradiction λhc=>?_;obtain⟨u,hu,h2⟩:=qrz hc;have h3:=Mo.qwu (b:=t.2) (hl.head u hu);refine h2 (Canon.Z5 λq hq=>?_);rcases List.mem_cons.1 hq with rfl|hq
  ·exact h3
  ·exact Mo.lt_trans (hr.head q hq) h3
 rw[e2,Int.add_zero]
theorem lT{l r:List Tm}(nl:∀m:Mo,m.nn=false->aB l m=0)(nr:∀m:Mo,m.nn=false->aB r m=0)(hl:¬ae l [])(hr:¬ae r []):¬ae (ai l r) []:=by
 intro h;have s1:=l7 nl;have s2:=l7 nr;have c1:=qZ l;have c2:=qZ r;have h':ae (Go.Proofs.YtmcfpnmoklnhoaaGreat.ai (norm l) (norm r)) []:=(ae.ai s1 s2).trans h
 cases e1:norm l with
 |nil=>exact hl (by rw[e1]at s1;exact s1.symm)
 |cons s l'=>
  cases e2:norm r with
  |nil=>exact hr (by rw[e2]at s2;exact s2.symm)
  |cons t r'=>
   rw[e1]at c1 h';rw[e2]at c2 h';have:=h' (Mo.add s.2 t.2);rw[qq9 c1 c2]at this;have h3:=(c1.2 s List.mem_cons_self).1;have h4:=(c2.2 t List.mem_cons_self).1;have:s.1*t.1=0:=this;rcases Int.mul_eq_zero.1 this with h5|h5
   ·exact h3 h5
   ·exact h4 h5
theorem BD{D n B:Nat}{P:Nat->List Tm}(hD:D+1<=4)(hn:1<=n)(bT:∀i,i<n->dN D (P i))(fF:¬ae (P (n-1)) [])(h:bn B (aJ (D+1) n P)):n<=B+1/\∀i,i<n->bn B (P i):=by
 have key:∀i,i<n->∀m,aB (P i) m≠0->m.get (D+1)=0/\aB (aJ (D+1) n P) (Mo.add m (xp (D+1) (i:Int)))≠0:=by
  intro i hi m hm;have h0:m.get (D+1)=0:=Classical.byContradiction λhc=>hm ((bT i hi).uX (by omega) hD hc);exact⟨h0,by rw[Ub (by omega) hD (λi hi=>bT i hi) i hi m h0];exact hm⟩
 constructor
 ·obtain⟨m,hm⟩:=MK fF;obtain⟨h0,h1⟩:=key (n-1) (by omega) m hm;have:=h _ h1 (D+1);rw[gL,h0,dX _ _ _ (by omega) hD,if_pos rfl]at this;omega
 ·intro i hi m hm k;obtain⟨h0,h1⟩:=key i hi m hm;have:=h _ h1 k;rw[gL,dX _ _ _ (by omega) hD]at this
  split at this<;>omega
def jc{α:Type}(f:Nat->α)(k:Nat)(a:α):Nat->α:=λi=>if i=k then a else f i
theorem jJ{α:Type}(f:Nat->α)(k:Nat)(a:α):jc f k a k=a:=by unfold jc;rw[if_pos rfl]
theorem oD{α:Type}(f:Nat->α)(k:Nat)(a:α)(i:Nat)(h:i≠k):jc f k a i=f i:=by unfold jc;rw[if_neg h]
def MP(M:Nat->Prop)(v:Nat->Value)(K:Nat):Nat->Prop:=λb=>M b\/∃k,k<K/\(v k).ownBlock=some b
structure rE(M:Nat->Prop)(B0:Nat)(w:World)(D gp K:Nat)(v:Nat->Value)(c:Nat->Nat)(xx:Nat->Nat->PE)(S:Nat->Nat->List Tm):Prop where
 blk:ak w gp 31 K v
 own:∀k,k<K->Own w B0 33 4 (v k) (c k) (px (xx k))
 sep:∀k k',k<K->k'<K->k≠k'->∀b,(v k).ownBlock=some b->(v k').ownBlock≠some b
 cr:∀k,k<K->∀i,i<c k->aI (MP M v K) w D (xx k i) (S k i)
 OX:M gp
 Ll:gp<B0
 MB:Mb M w
 BM:∀g,M g->g<B0
theorem rE.ext{M:Nat->Prop}{B0:Nat}{w w':World}{D gp K:Nat}{v:Nat->Value}{c:Nat->Nat}{xx:Nat->Nat->PE}{S:Nat->Nat->List Tm}(h:rE M B0 w D gp K v c xx S)(he:Ext w w'):rE M B0 w' D gp K v c xx S:=
 ⟨h.blk.ext he,λk hk=>(h.own k hk).ext he,h.sep,λk hk i hi=>(h.cr k hk i hi).ext he,h.OX,h.Ll,h.MB.ext he,h.BM⟩
theorem rE.mb{M:Nat->Prop}{B0:Nat}{w:World}{D gp K:Nat}{v:Nat->Value}{c:Nat->Nat}{xx:Nat->Nat->PE}{S:Nat->Nat->List Tm}(h:rE M B0 w D gp K v c xx S):Mb (MP M v K) w:=by
 intro g hg;rcases hg with hg|⟨k,hk,e⟩
 ·exact h.MB g hg
 ·exact((h.own k hk).lt g e).2
theorem rE.step{M:Nat->Prop}{B0:Nat}{w wa wb wc:World}{D gp K:Nat}{v:Nat->Value}{c:Nat->Nat}{xx:Nat->Nat->PE}{S:Nat->Nat->List Tm}(h:rE M B0 w D gp K v c xx S){k0:Nat}(hk:k0<K){gg cap2:Nat}{y:PE}{l:List Tm}
 (he:Ext w wa) (hO:Own wb B0 33 4 (.slice (some ⟨gg,0,none⟩) (c k0+1) cap2) (c k0+1) (px (snoc (xx k0) (c k0) y))) (hg:wa.grownBy wb (v k0).ownBlock) (hat:(v k0).ownBlock=some gg\/wa.heap.size<=gg)
 (aA:Ext wb wc) (hy:aI (λb=>MP M v K b\/b=gg) wc D y l):
 rE M B0 (wc.setCell ⟨gp,k0,none⟩ (.slice (some ⟨gg,0,none⟩) (c k0+1) cap2)) D gp K (jc v k0 (.slice (some ⟨gg,0,none⟩) (c k0+1) cap2)) (jc c k0 (c k0+1)) (jc xx k0 (snoc (xx k0) (c k0) y)) (jc S k0 (snoc (S k0) (c k0) l)):=by
 have Gi:=hO.lt gg rfl;have Cj:(Value.slice (some ⟨gg,0,none⟩) (c k0+1) cap2).ownBlock=some gg:=rfl;have hga:gp<wa.heap.size:=(h.blk.ext he).lt
 have hne:∀k b,k<K->(v k).ownBlock=some b->b≠gp:=λk b hk hb e=>by have:=(h.own k hk).lt b hb;have:=h.Ll;omega
 have quh:gg≠gp:=by have:=h.Ll;omega
 have hmu:∀b,(MP M v K b\/b=gg)->MP M v K b\/wa.heap.size<=b:=by
  rintro b (hb|rfl)
  ·exact .inl hb
  ·rcases hat with h1|h1
   ·exact .inl (.inr ⟨k0,hk,h1⟩)
   ·exact .inr h1
 have quH:Kp (λb=>MP M v K b\/b=gg) wa wb:=Kp.grown hg λq hq=>.inl (.inr ⟨k0,hk,hq⟩);have qkF:Kp (λb=>MP M v K b\/b=gg) wc (wc.setCell ⟨gp,k0,none⟩ (.slice (some ⟨gg,0,none⟩) (c k0+1) cap2)):=Kp.set _ _ (p:=⟨gp,k0,none⟩) (.inl (.inl h.OX)) _
 have qkJ:∀b,MP M (jc v k0 (.slice (some ⟨gg,0,none⟩) (c k0+1) cap2)) K b->(MP M v K b\/b=gg):=by
  rintro b (hb|⟨k,jS,e⟩)
  ·exact .inl (.inl hb)
  ·by_cases hkk:k=k0
   ·subst hkk;rw[jJ,Cj]at e;cases e;exact .inr rfl
   ·rw[oD _ _ _ _ hkk]at e;exact .inl (.inr ⟨k,jS,e⟩)
 have hsz:wa.heap.size<=wb.heap.size:=hg.size
 have qu7:∀k b,k<K->k≠k0->(v k).ownBlock=some b->(wc.setCell ⟨gp,k0,none⟩ (.slice (some ⟨gg,0,none⟩) (c k0+1) cap2)).heap[b]?=w.heap[b]?:=by
  intro k b jS hkk hb;have iH:=((h.own k jS).lt b hb).2;have hba:b<wa.heap.size:=Nat.lt_of_lt_of_le iH he.size;rw[Below.heap_setCell _ _ _ _ (hne k b jS hb),aA.heap (by omega),hg.block b hba (λe=>h.sep k k0 jS hk hkk b hb e.symm),he.heap iH]
 refine⟨?_,λk jS=>?_,λk k' jS UW hkk b hb=>?_,λk jS i hi=>?_,h.OX,h.Ll,?_,h.BM⟩
 ·have h1:ak wb gp _ _ v:=(h.blk.ext he).grown hg (λe=>hne k0 gp hk e.symm rfl);exact((h1.ext aA).set k0 _).congr λi _=>rfl
 ·by_cases hkk:k=k0
  ·subst hkk;rw[jJ,jJ,jJ]
   exact(hO.ext aA).of_heap λb hb=>by cases hb;exact Below.heap_setCell _ _ _ _ quh
  ·rw[oD _ _ _ _ hkk,oD _ _ _ _ hkk,oD _ _ _ _ hkk];exact(h.own k jS).of_heap λb hb=>qu7 k b jS hkk hb
 ·by_cases h1:k=k0
  ·subst h1;rw[jJ,Cj]at hb;cases hb;rw[oD _ _ _ _ (Ne.symm hkk)];rcases hat with h2|h2
   ·exact h.sep k k' jS UW hkk _ h2
   ·intro e;have:=((h.own k' UW).lt _ e).2;have:=he.size;omega
  ·rw[oD _ _ _ _ h1]at hb
   by_cases h2:k'=k0
   ·subst h2;rw[jJ,Cj];intro e;cases e;rcases hat with h3|h3
    ·exact h.sep k k' jS UW hkk _ hb h3
    ·have:=((h.own k jS).lt _ hb).2;have:=he.size;omega
   ·rw[oD _ _ _ _ h2];exact h.sep k k' jS UW hkk b hb
 ·have hold:∀k,k<K->∀i,i<c k->aI (MP M (jc v k0 (.slice (some ⟨gg,0,none⟩) (c k0+1) cap2)) K) (wc.setCell ⟨gp,k0,none⟩ (.slice (some ⟨gg,0,none⟩) (c k0+1) cap2)) D (xx k i) (S k i):=λk jS i hi=>
   ((((((h.cr k jS i hi).ext he).more hmu).kp quH).ext aA).kp qkF).more λb hb=>.inl (qkJ b hb)
  by_cases hkk:k=k0
  ·subst hkk;rw[jJ]at hi;rw[jJ,jJ]
   by_cases Eo:i=c k
   ·subst Eo;rw[tH,tH];exact(hy.kp qkF).more λb hb=>.inl (qkJ b hb)
   ·rw[yA _ _ _ _ (by omega),yA _ _ _ _ (by omega)];exact hold k jS i (by omega)
  ·rw[oD _ _ _ _ hkk]at hi;rw[oD _ _ _ _ hkk,oD _ _ _ _ hkk];exact hold k jS i hi
 ·intro g hgM;have:=h.MB g hgM;have:=he.size;have:=aA.size;simp[World.setCell];omega
theorem rE.replace{M:Nat->Prop}{B0:Nat}{w:World}{D gp K:Nat}{v:Nat->Value}{c:Nat->Nat}{xx:Nat->Nat->PE}{S:Nat->Nat->List Tm}(h:rE M B0 w D gp K v c xx S){k0:Nat}(hk:k0<K){gg cap2 q:Nat}(hv:v k0=.slice (some ⟨gg,0,none⟩) (c k0) cap2)(hq:q<c k0){y:PE}{l:List Tm}(hy:aI (MP M v K) w D y l):
 rE M B0 (aH w gg (q*4) (.int .i64 y.lv) (.bool y.b) (.slice y.a y.n y.p) (.slice y.ka y.kn y.kp)) D gp K v c (jc xx k0 (jc (xx k0) q y)) (jc S k0 (jc (S k0) q l)):=by
 have Cj:(v k0).ownBlock=some gg:=by rw[hv];rfl
 have Gi:=(h.own k0 hk).lt gg Cj;have aZ:Kp (MP M v K) w (aH w gg (q*4) (.int .i64 y.lv) (.bool y.b) (.slice y.a y.n y.p) (.slice y.ka y.kn y.kp)):=Kp.aH (.inr ⟨k0,hk,Cj⟩) _ _ _ _ _;refine⟨h.blk.of_heap (il _ _ _ _ _ _ _ _ (by have:=h.Ll;omega)),λk jS=>?_,h.sep,λk jS i hi=>?_,h.OX,h.Ll,h.MB.size (by rw[lU];exact Nat.le_refl _),h.BM⟩
 ·by_cases hkk:k=k0
  ·subst hkk;rw[jJ];have h0:=h.own k jS;rw[hv]at h0⊢;rcases h0 with⟨h1,_⟩|⟨g,cap,F,h1,hg,hB,hc,hm,hF⟩
   ·cases h1
   ·simp only[Value.slice.injEq,Option.some.injEq,Addr.mk.injEq,and_true,true_and]at h1;obtain⟨rfl,rfl⟩:=h1;refine .inr ⟨gg,cap2,_,rfl,hg,hB.aH (q*4) _ _ _ _,hc,hm,λj hj=>?_⟩
    by_cases hj1:j<q*4\/q*4+4<=j
    ·rw[rZ _ _ _ _ _ _ _ hj1,hF j hj];unfold px;rw[oD _ _ _ _ (by omega)]
    ·have hjc:j=q*4\/j=q*4+1\/j=q*4+2\/j=q*4+3:=by omega
     rcases hjc with rfl|rfl|rfl|rfl
     ·rw[Cy,JQ,jJ]
     ·rw[Cz,JR,jJ]
     ·rw[CB,JS,jJ]
     ·rw[CV,JU,jJ]
  ·rw[oD _ _ _ _ hkk];exact(h.own k jS).of_heap λb hb=>il _ _ _ _ _ _ _ _ (λe=>h.sep k0 k hk jS (Ne.symm hkk) gg Cj (e ▸ hb))
 ·by_cases hkk:k=k0
  ·subst hkk;rw[jJ,jJ]
   by_cases Eo:i=q
   ·subst Eo;rw[jJ,jJ];exact hy.kp aZ
   ·rw[oD _ _ _ _ Eo,oD _ _ _ _ Eo];exact(h.cr k jS i hi).kp aZ
  ·rw[oD _ _ _ _ hkk,oD _ _ _ _ hkk];exact(h.cr k jS i hi).kp aZ
def Tj(L:Nat):Prop:=∀(M:Nat->Prop)(l r:List Tm)(B C:Nat)(c0 c1 c2 c3 d0 d1 d2 d3:Value)(w:World),Mb M w->CR M w L c0 c1 c2 c3 l->CR M w L d0 d1 d2 d3 r->az (aC l)+az (aC r)<=1099511627776->bn B l->bn C r->(B+1)*(C+1)<=1099511627776->
 Calls Tryz.prog 118 #[.agg #[c0,c1,c2,c3],.agg #[d0,d1,d2,d3]] w (uK M w L (ai l r))
def qgn(L:Nat):Prop:=∀(M:Nat->Prop)(l r:List Tm)(B C:Nat)(x y:PE)(w:World),Mb M w->aI M w L x l->aI M w L y r->az (aC l)+az (aC r)<=1099511627776->bn B l->bn C r->(B+1)*(C+1)<=1099511627776->x.lv=y.lv->x.lv≠0->mM x.lv x.n=false->mM y.lv y.n=false->
 Calls Tryz.prog 118 #[.agg (ah x),.agg (ah y)] w (uK M w L (ai l r))
def Zb(M:Nat->Prop)(w:World)(L:Nat)(l:List Tm)(x y:PE):Prop:=∃lx ly B C,aI M w L x lx/\aI M w L y ly/\y.lv<=x.lv/\ae (ai lx ly) l/\az (aC lx)+az (aC ly)<=1099511627776/\bn B lx/\bn C ly/\(B+1)*(C+1)<=1099511627776/\¬(x.lv=y.lv/\x.lv≠0/\mM x.lv x.n=false/\mM y.lv y.n=false)
theorem qwE(L:Nat)(ih:∀D,D<L->Tj D)(heq:qgn L):Tj L:=by
 intro M l r B C c0 c1 c2 c3 d0 d1 d2 d3 w hM h k hL hB hC mF;obtain⟨x,rfl,rfl,rfl,rfl,hx,wU,hxL,hx4⟩:=h.pe;obtain⟨y,rfl,rfl,rfl,rfl,hy,rU,hyL,hy4⟩:=k.pe
 by_cases hne:x.lv=y.lv/\x.lv≠0/\mM x.lv x.n=false/\mM y.lv y.n=false
 ·exact heq M l r B C x y w hM hx hy hL hB hC mF hne.1 hne.2.1 hne.2.2.1 hne.2.2.2
 clear heq;have kG:=Lib.hid ih
 have HA:Hid ((¬x.lv<y.lv->Zb M w L (ai l r) x y)/\(x.lv<y.lv->Zb M w L (ai l r) y x)):=
  ⟨λhlt=>⟨l,r,B,C,hx,hy,by omega,ae.refl _,hL,hB,hC,mF,hne⟩,λhlt=>⟨r,l,C,B,hy,hx,by omega,ae.sW _ _,by omega,hC,hB,by rw[Nat.mul_comm];exact mF,λhh=>by omega⟩⟩
 clear h k hx hy hL hB hC mF ih hne;generalize ai l r=R at*
 go_enter Tryz.func118,Tryz.ntmps118
 go_upto_if 21 with(fail)
 go_cut [2,3,4] (λs2 s3 s4 wx=>s2=.pointer (some ⟨w.heap.size,0,none⟩)/\s3=.pointer (some ⟨w.heap.size+1,0,none⟩)/\s4=.pointer (some ⟨w.heap.size+2,0,none⟩)/\Hid (∃X Y,Zb M w L R X Y/\wx=((w.alloc (.cells (ah X) 33)).alloc (.cells (ah Y) 33)).alloc (.cells #[.int .i64 0,.bool false,.slice none 0 0,.slice none 0 0] 33)))
 case first=>
  go_wp2
  ·go_meet
   exact⟨rfl,rfl,rfl,y,x,HA.out.2 (by assumption),rfl⟩
  ·go_meet
   exact⟨rfl,rfl,rfl,x,y,HA.out.1 (by assumption),rfl⟩
 case rest=>
  obtain⟨rfl,rfl,rfl,hc⟩:=hcut;obtain⟨X,Y,hA,rfl⟩:=hc.out;clear hc HA;obtain⟨lx,ly,B1,C1,hX,hY,hYX,qjr,ky,O9,Pb,O5,hNE⟩:=hA;have Jc:=CR.pe hX
  have hXf:0<=X.lv/\X.lv<=L/\X.lv<=4:=by
   obtain⟨x',e0,_,_,_,_,h1,h2,h3⟩:=Jc;simp only[Value.int.injEq,true_and]at e0;rw[e0];exact⟨h1,h2,h3⟩
  have hYf:0<=Y.lv:=by
   obtain⟨x',e0,_,_,_,_,h1,h2,h3⟩:=CR.pe hY;simp only[Value.int.injEq,true_and]at e0;rw[e0];exact h1
  clear Jc;have aQ:Ext w (((w.alloc (.cells (ah X) 33)).alloc (.cells (ah Y) 33)).alloc (.cells #[.int .i64 0,.bool false,.slice none 0 0,.slice none 0 0] 33)):=(((Ext.refl w).alloc _).alloc _).alloc _;have b0:=((ak.bf w (ah X) 33 4 rfl).alloc (.cells (ah Y) 33)).alloc (.cells #[.int .i64 0,.bool false,.slice none 0 0,.slice none 0 0] 33);have b1:=(ak.bf (w.alloc (.cells (ah X) 33)) (ah Y) 33 4 rfl).alloc (.cells #[.int .i64 0,.bool false,.slice none 0 0,.slice none 0 0] 33);have b2:=ak.bf ((w.alloc (.cells (ah X) 33)).alloc (.cells (ah Y) 33)) #[.int .i64 0,.bool false,.slice none 0 0,.slice none 0 0] 33 4 rfl;simp only[World.size_alloc]at b1 b2
  have wT:w.heap.size+3<=(((w.alloc (.cells (ah X) 33)).alloc (.cells (ah Y) 33)).alloc (.cells #[.int .i64 0,.bool false,.slice none 0 0,.slice none 0 0] 33)).heap.size:=by simp
  generalize xX:((w.alloc (.cells (ah X) 33)).alloc (.cells (ah Y) 33)).alloc (.cells #[.int .i64 0,.bool false,.slice none 0 0,.slice none 0 0] 33)=W0 at aQ b0 b1 b2 wT⊢;clear xX;have HX:=Lib.hid hX;have HY:=Lib.hid hY;have Fv:=Lib.hid qjr;have Di:=Lib.hid ky;have oN:=Lib.hid O9;have XE:=Lib.hid Pb;have oL:=Lib.hid O5;have oQ:=Lib.hid hNE;have gB:=Lib.hid aQ;have gQ:=Lib.hid b0;have cB:=Lib.hid b1;have fH:=Lib.hid b2;have zX:=CR.QJ hX;have zY:=CR.QJ hY;have HZX:=Lib.hid zX;have HZY:=Lib.hid zY;have x0:=b0.cell (i:=0) (by omega);have x1:=b0.cell (i:=1) (by omega);have x2:=b0.cell (i:=2) (by omega);have x3:=b0.cell (i:=3) (by omega);have y0:=b1.cell (i:=0) (by omega);have y1:=b1.cell (i:=1) (by omega);have y2:=b1.cell (i:=2) (by omega);have y3:=b1.cell (i:=3) (by omega);simp only[arr]at x0 x1 x2 x3 y0 y1 y2 y3
  have hw1:w.heap.size<W0.heap.size:=by omega
  have kQ:w.heap.size+1<W0.heap.size:=by omega
  have Bw:=He X.lv X.b X.a X.n X.p X.ka X.kn X.kp W0;clear hX hY qjr ky O9 Pb O5 aQ b0 b1 b2 zX zY hNE;cases EI:mM X.lv X.n
  ·rw[EI]at Bw;go_wp2_with (fail);refine Bw.mono ?_;rintro e w1 ⟨rfl,af⟩;have dP:=af.size;have BA:=He Y.lv Y.b Y.a Y.n Y.p Y.ka Y.kn Y.kp w1;rw[<-af.cell hw1]at x0 x1 x2 x3;rw[<-af.cell kQ]at y0 y1 y2 y3
   have hv1:w.heap.size<w1.heap.size:=by omega
   have hv2:w.heap.size+1<w1.heap.size:=by omega
   have aL:=Lib.hid (gB.out.trans af);have oM:=Lib.hid (gQ.out.ext af);have De:=Lib.hid (cB.out.ext af);have mf:=Lib.hid (fH.out.ext af);clear af Bw gB gQ cB fH;cases EJ:mM Y.lv Y.n
   ·rw[EJ]at BA;go_wp2_with (fail);refine BA.mono ?_;rintro e w2 ⟨rfl,aA⟩;have hs2:=aA.size;rw[<-aA.cell hv1]at x0 x1 x2 x3;rw[<-aA.cell hv2]at y0 y1 y2 y3
    have hu1:w.heap.size<w2.heap.size:=by omega
    have oJ:w.heap.size+1<w2.heap.size:=by omega
    have aU:=Lib.hid (aL.out.trans aA);have ic:=Lib.hid (oM.out.ext aA);have oh:=Lib.hid (De.out.ext aA);have uM:=Lib.hid (mf.out.ext aA)
    have l6:w.heap.size+3<=w2.heap.size:=by omega
    clear aA BA aL oM De mf wT hw1 kQ hv1 hv2
    have A8:Hid (¬ae lx []):=λhs=>by have:=HZX.out.2 hs;rw[EI]at this;cases this
    have HNY:Hid (¬ae ly []):=λhs=>by have:=HZY.out.2 hs;rw[EJ]at this;cases this
    clear dP hs2
    by_cases hl0:X.lv=0
    ·have nT:(X.lv==0)=true:=by simpa using hl0
     have hYl:Y.lv=0:=by omega
     have hX:=HX.out;have hY:=HY.out;unfold aI at hX hY;rw[hl0]at hX;rw[hYl]at hY;obtain⟨zx,Pg,hSx,hNx,_⟩:=hX.Lb;obtain⟨zy,Ph,hSy,hNy,_⟩:=hY.Lb;have R9:Hid (dB (Mx M w.heap.size (w.heap.size+3)) w2 (.bool X.b) (.slice X.a X.n X.p) zx):=(Pg.eH.more (Mx.more (Nat.le_refl _))).ext aU.out;have Sa:Hid (dB (Mx M w.heap.size (w.heap.size+3)) w2 (.bool Y.b) (.slice Y.a Y.n Y.p) zy):=(Ph.eH.more (Mx.more (Nat.le_refl _))).ext aU.out
     have yK:Hid (az zx.natAbs+az zy.natAbs<=1099511627776):=by
      have h1:=ji hNx;have h2:=ji hNy;have h3:=Di.out;show _<=_;omega
     have HR:Hid (ae [(zx*zy,Mo.zero)] R):=by
      refine ae.trans ?_ ((ae.ai hSx hSy).trans Fv.out);intro m;simp[ai,smul,shift,Mo.add_zero',aB]
     have jG:Hid (Mb (Mx M w.heap.size (w.heap.size+3)) w2):=Mx.mb hM aU.out.size l6;clear hX hY Pg Ph hSx hSy hNx hNy hl0 hYl;go_wp2_with (fail);refine(qlU _ _ _ _ zx zy w2 jG.out R9.out Sa.out yK.out).mono ?_;rintro e w4 ⟨e0,e1,rfl,hc,aW⟩;obtain⟨b2,a2,n2,p2,rfl,rfl⟩:=hc.form;obtain⟨⟨q0,q1,q2,q3⟩,⟨f0,f1,f2,f3⟩,⟨r0,r1,r2,r3⟩,HF⟩:=uH (M:=M) (w:=w) (uM.out.ext aW) (Mx.at (by omega)) (by omega) (aU.out.trans aW) ((CR.const hc L).bZ HR.out) Mx.sub;simp only[arr]at q0 q1 q2 q3;clear aW hc;go_wp2;exact bodyPost_ret (v:=.agg #[.int .i64 0,.bool b2,.slice a2 n2 p2,.slice none 0 0]) (by simp[results,Tryz.results118,go_sem,r0,r1,r2,r3]) rfl HF.out
    ·have nT:(X.lv==0)=false:=by simpa using hl0
     have hX:=HX.out;unfold aI at hX;obtain⟨D,zn,jk,uw,_,_,b,off,n,cap,P,dR,dO,oH,lu,eu,kP,gm,hb,pq,dh,bT,fF,eB,jo⟩:=hX.GX hl0;simp only[Value.slice.injEq]at oH;obtain⟨lS,hkn,aZ⟩:=oH;obtain⟨lZ,wJ⟩:=BD jk (by omega) bT fF (oN.out.bZ eB.symm);have xq:=Lib.hid dh;have Dq:=Lib.hid fF;have YD:=Lib.hid eB;have A7:=Lib.hid jo;have E8:=Lib.hid wJ;have uu:(0:Int)<=(D:Int):=Int.natCast_nonneg _;have yJ:=Lib.hid (kG.out D (by omega));have Su:Hid (∀i,i<n->aC (P i)<=aC lx):=λi hi=>Nat.le_trans (JL (D+1) n P i hi) jo;rw[zn]at nT hYX;have NB:=Lib.hid zn
     have Dh:Hid (ak w2 w.heap.size 33 4 (arr #[.int .i64 ((D:Int)+1),.bool X.b,.slice X.a X.n X.p,.slice (some ⟨b,off,none⟩) n cap])):=by have:=ic.out;rw[show ah X= #[.int .i64 ((D:Int)+1),.bool X.b,.slice X.a X.n X.p,.slice (some ⟨b,off,none⟩) n cap]from by unfold ah;rw[lS,hkn,aZ,zn]]at this;exact this
     clear hX dh bT fF eB jo wJ lS hkn aZ zn hl0 dR dO ic HX hXf x0 x1 x2 x3;have x0:=Dh.out.cell (i:=0) (by omega);have x3:=Dh.out.cell (i:=3) (by omega);simp only[arr]at x0 x3
     by_cases jR:Y.lv<(D:Int)+1
     ·obtain⟨i0,hi,hz0,hz1,hz2⟩:=info_parts Tryz.yo;have qur:decide (Y.lv<(D:Int)+1)=true:=decide_eq_true jR;have DF:Hid (aI M w D Y ly):=CR.MU HY.out (by omega)
      go_wp2_with (first|(refine wpList_make_full _ rfl _ _ _ rfl w2.heap.size 33 i0 (.agg #[.int .i64 0,.bool false,.slice none 0 0,.slice none 0 0]) 4 Tryz.underlying31 hi hz0 hz1 .i64 .i64 _ _ n rfl rfl ?c4 ?c5 ?c2 ?c3 ?c6 ?_))
      case c2=>rw[hz2];omega
      case c3=>unfold maxLen;omega
      case c4=>simp
      case c5=>simp
      case c6=>omega
      intro w5 hown hgrow;have bI:=(ak.made hown rfl (by omega)).congr (f':=fu) (λi _=>CY i);have aR:=lM hgrow;have oP:Hid (Kids (Mx M w.heap.size (w2.heap.size+1)) w5 D w2.heap.size n (λ_=>[])):=Kids.fresh bI
      have Mi:w2.heap.size+1<=w5.heap.size:=by have:=bI.lt;omega
      have eD:=Lib.hid (aU.out.trans aR);have NG:=Lib.hid (Dh.out.ext aR);have NH:=Lib.hid (oh.out.ext aR);have dY:=Lib.hid (uM.out.ext aR);rw[<-aR.cell hu1]at x0 x3
      have GI:w.heap.size<w5.heap.size:=by omega
      clear hown hgrow bI aR aU Dh oh uM y0 y1 y2 y3;go_wp2
      go_loopw [55] (λi wr=>∃k:Nat,k<=n/\i=.int .i64 k/\w2.heap.size+1<=wr.heap.size/\Hid (Kids (Mx M w.heap.size (w2.heap.size+1)) wr D w2.heap.size n (λi=>if i<k then ai (P i) ly else[]))/\Hid (Ext w wr)/\Hid (ak wr w.heap.size 33 4 (arr #[.int .i64 ((D:Int)+1),.bool X.b,.slice X.a X.n X.p,.slice (some ⟨b,off,none⟩) n cap]))/\
       Hid (ak wr (w.heap.size+1) 33 4 (arr (ah Y)))/\Hid (ak wr (w.heap.size+2) 33 4 (arr #[.int .i64 0,.bool false,.slice none 0 0,.slice none 0 0]))) (λi _=>n-(intOf i).toNat)
      case atStart=>exact⟨0,Nat.zero_le _,rfl,Mi,oP.out.congr λi _=>by rw[if_neg (by omega)];exact ae.refl _,eD,NG,NH,dY⟩
      case round=>
       clear oP eD NG NH dY x0 x3 Mi GI;obtain⟨k,hk,rfl,hsz,HK,bL,tN,RD,jD⟩:=hrel
       by_cases hlt:k<n
       ·obtain⟨e0,e1,e2,e3,z0,z1,z2,z3,bR⟩:=xq.out k hlt;rw[<-bL.out.cell hb]at z0 z1 z2 z3
        have iH:b<wr.heap.size:=by omega
        obtain⟨kk,rfl,rfl,rfl,rfl,hkk,_⟩:=bR.pe;have aN:Ext wr (wr.alloc (.cells (ah kk) 33)):=(Ext.refl wr).alloc _;have O7:aI (Mx M w.heap.size (w2.heap.size+1)) (wr.alloc (.cells (ah kk) 33)) D kk (P k):=((hkk.more (Mx.more (Nat.le_refl _))).ext bL.out).ext aN;have qiz:aI (Mx M w.heap.size (w2.heap.size+1)) (wr.alloc (.cells (ah kk) 33)) D Y ly:=((DF.out.more (Mx.more (Nat.le_refl _))).ext bL.out).ext aN;have jf:Mb (Mx M w.heap.size (w2.heap.size+1)) (wr.alloc (.cells (ah kk) 33)):=Mx.mb hM (by simp;have:=bL.out.size;omega) (by simp;omega);have aO:=Lib.hid (yJ.out _ _ _ _ _ _ _ _ _ _ _ _ _ _ jf O7 qiz (by have:=Di.out;have:=ji (Su.out k hlt);omega) (E8.out k hlt) XE.out oL.out);have dW:=Lib.hid aN;have xZ:=RD.out.ext aN;have y0:=xZ.cell (i:=0) (by omega);have y1:=xZ.cell (i:=1) (by omega);have y2:=xZ.cell (i:=2) (by omega);have y3:=xZ.cell (i:=3) (by omega);simp only[arr]at y0 y1 y2 y3;have sU:=xZ.lt;clear bR hkk O7 qiz jf aN xZ;go_wp2_with (fail);refine(aO.out).mono ?_;rintro e w4 ⟨d0,d1,d2,d3,rfl,bR,aW⟩;obtain⟨kS,b2,a2,n2,p2,iU,j6,iV,rfl,rfl,rfl,rfl,_⟩:=bR.form;have fe:=dW.out.trans aW;have eF:=HK.out.ext fe;obtain⟨⟨_,k0⟩,⟨_,k1⟩,⟨_,k2⟩,⟨_,k3⟩,aV,l5⟩:=eF.at k hlt;have fB:=aV (k*4);have fo:=aV (k*4+1);have lh:=aV (k*4+2);have pG:=aV (k*4+3)
        have lJ:Hid (Kids (Mx M w.heap.size (w2.heap.size+1)) (aH w4 w2.heap.size (k*4) (.int .i64 kS) (.bool b2) (.slice a2 n2 p2) (.slice iU j6 iV)) D w2.heap.size n (λi=>if i<k+1 then ai (P i) ly else[])):=by
         refine(eF.set (Mx.at (by omega)) k hlt bR).congr λi _=>?_
         by_cases gH:i=k
         ·subst gH;rw[if_pos rfl,if_pos (by omega)];exact ae.refl _
         ·rw[if_neg gH]
          by_cases h3:i<k
          ·rw[if_pos h3,if_pos (by omega)];exact ae.refl _
          ·rw[if_neg h3,if_neg (by omega)];exact ae.refl _
        have eD:Hid (Ext w (aH w4 w2.heap.size (k*4) (.int .i64 kS) (.bool b2) (.slice a2 n2 p2) (.slice iU j6 iV))):=(bL.out.trans fe).aH (by omega) _ _ _ _ _;have vQ:Hid (ak (aH w4 w2.heap.size (k*4) (.int .i64 kS) (.bool b2) (.slice a2 n2 p2) (.slice iU j6 iV)) w.heap.size _ _ _):=(tN.out.ext fe).of_heap (il _ _ _ _ _ _ _ _ (by omega));have jV:Hid (ak (aH w4 w2.heap.size (k*4) (.int .i64 kS) (.bool b2) (.slice a2 n2 p2) (.slice iU j6 iV)) (w.heap.size+1) _ _ _):=(RD.out.ext fe).of_heap (il _ _ _ _ _ _ _ _ (by omega));have EZ:Hid (ak (aH w4 w2.heap.size (k*4) (.int .i64 kS) (.bool b2) (.slice a2 n2 p2) (.slice iU j6 iV)) (w.heap.size+2) _ _ _):=(jD.out.ext fe).of_heap (il _ _ _ _ _ _ _ _ (by omega))
        have p8:Hid (w2.heap.size+1<=(aH w4 w2.heap.size (k*4) (.int .i64 kS) (.bool b2) (.slice a2 n2 p2) (.slice iU j6 iV)).heap.size):=by show _<=_;rw[lU];have:=fe.size;omega
        clear eF aV bR aW fe;go_wp2
        go_roundw
        case rel=>exact⟨k+1,by omega,by go_num,p8.out,lJ,eD,vQ,jV,EZ⟩
        case measure=>simp[intOf];omega
       ·have hkn:k=n:=by omega
        subst hkn;have x0:=tN.out.cell (i:=0) (by omega);simp only[arr]at x0
        have Qu:w.heap.size<wr.heap.size:=by omega
        have HFN:Hid (CR (Mx M w.heap.size (w.heap.size+3)) wr L (.int .i64 ((D:Int)+1)) (.bool false) (.slice none 0 0) (.slice (some ⟨w2.heap.size,0,none⟩) k k) R):=by
         refine(CR.bZ (CR.node (D:=D) jk lu eu (Nat.le_refl _) (by unfold maxLen;omega) (by omega) (λhh=>hh.elim (hM.new (by omega)) (by omega)) (λi hi=>HK.out.bu (λg hg=>.inl (hg.imp id λh=>by omega)) i hi) ?_) ?_).up uw
         ·rw[if_pos (by omega)];obtain⟨_,_,_,_,_,_,_,_,quK⟩:=xq.out (k-1) (by omega);exact lT quK.nn (CR.nn HY.out) Dq.out HNY.out
         ·refine ae.trans (sZ _ _ _ _ λi hi=>by rw[if_pos hi];exact ae.refl _) ((VN (D+1) k P ly).trans ?_);exact(YD.out.mY ly).trans Fv.out
        obtain⟨⟨q0,q1,q2,q3⟩,⟨f0,f1,f2,f3⟩,⟨r0,r1,r2,r3⟩,HF⟩:=uH (M:=M) (w:=w) jD.out (Mx.at (by omega)) (by omega) bL.out HFN.out Mx.sub;simp only[arr]at q0 q1 q2 q3;go_wp2;exact bodyPost_ret (v:=.agg #[.int .i64 ((D:Int)+1),.bool false,.slice none 0 0,.slice (some ⟨w2.heap.size,0,none⟩) k k]) (by simp[results,Tryz.results118,go_sem,r0,r1,r2,r3]) rfl HF.out
     ·exact absurd ⟨by have:=NB.out;omega,by have:=NB.out;omega,EI,EJ⟩ oQ.out
   ·rw[EJ]at BA
    have Bb:Hid (ae [] R):=by
     refine ae.trans ?_ Fv.out;exact(((HZY.out.1 EJ).rf lx).trans (by rw[JN];exact ae.refl _)).symm
    go_wp2_with (fail);refine BA.mono ?_;rintro e w2 ⟨rfl,aA⟩;obtain⟨⟨q0,q1,q2,q3⟩,⟨f0,f1,f2,f3⟩,⟨r0,r1,r2,r3⟩,HF⟩:=uH (M:=M) (w:=w) (mf.out.ext aA) (Mx.at (M:=M) (k:=w.heap.size+3) ⟨by omega,by omega⟩) (by omega) (aL.out.trans aA) ((CR.zero (Mx M w.heap.size (w.heap.size+3)) w2 L).bZ Bb.out) Mx.sub;simp only[arr]at q0 q1 q2 q3;clear aA BA;go_wp2;exact bodyPost_ret (v:=.agg #[.int .i64 0,.bool false,.slice none 0 0,.slice none 0 0]) (by simp[results,Tryz.results118,go_sem,r0,r1,r2,r3]) rfl HF.out
  ·rw[EI]at Bw
   have Bb:Hid (ae [] R):=by
    refine ae.trans ?_ Fv.out;exact((HZX.out.1 EI).mY ly).symm
   go_wp2_with (fail);refine Bw.mono ?_;rintro e w1 ⟨rfl,af⟩;obtain⟨⟨q0,q1,q2,q3⟩,⟨f0,f1,f2,f3⟩,⟨r0,r1,r2,r3⟩,HF⟩:=uH (M:=M) (w:=w) (fH.out.ext af) (Mx.at (M:=M) (k:=w.heap.size+3) ⟨by omega,by omega⟩) (by omega) (gB.out.trans af) ((CR.zero (Mx M w.heap.size (w.heap.size+3)) w1 L).bZ Bb.out) Mx.sub;simp only[arr]at q0 q1 q2 q3;clear af Bw;go_wp2;exact bodyPost_ret (v:=.agg #[.int .i64 0,.bool false,.slice none 0 0,.slice none 0 0]) (by simp[results,Tryz.results118,go_sem,r0,r1,r2,r3]) rfl HF.out
end Go.Proofs.YtmcfpnmoklnhoaaGreat
