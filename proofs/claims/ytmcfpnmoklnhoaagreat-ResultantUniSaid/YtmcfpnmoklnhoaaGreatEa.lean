/- Ea -/
import Derived.Test.YtmcfpnmoklnhoaaGreatDe
import Derived.Test.YtmcfpnmoklnhoaaGreatBd
import Derived.Test.YtmcfpnmoklnhoaaGreatDa
set_option linter.unusedVariables false
set_option maxRecDepth 100000
set_option maxHeartbeats 400000000
set_option linter.unusedSimpArgs false
namespace Go.Proofs.YtmcfpnmoklnhoaaGreat
open Go.RowKit
def iK(L:Nat)(l:List Tm):Prop:=∀m,aL l m≠0->m.get L=0
theorem iK.nil(L:Nat):iK L []:=λ_ hm=>absurd rfl hm
theorem iK.append{L:Nat}{l r:List Tm}(h:iK L l)(k:iK L r):iK L (l++r):=λm hm=>by
 rw[iZ]at hm
 by_cases h1:aL l m=0
 ·exact k m (by omega)
 ·exact h m h1
theorem iK.neg{L:Nat}{l:List Tm}(h:iK L l):iK L (dN l):=λm hm=>h m (λe=>hm (by rw[qO,e];rfl))
theorem iK.aF{L:Nat}{l r:List Tm}(h:iK L l)(k:iK L r)(nl:NN l):iK L (aF l r):=λm hm=>by
 have hs:=ow nl;rw[<-(hs.oC r) m]at hm;obtain⟨m1,h1,h2⟩:=Qu (Qp (sF l)) hm;have a1:=h m1 (by rw[<-hs m1];exact h1);have a2:=k _ h2;rw[sZ]at a2;omega
theorem vD{L:Nat}(h1:1<=L)(h4:L<=4)(e:Int)(l:List Tm):iK L (ck L e l):=λm hm=>by
 rw[oh h1 h4]at hm
 split at hm
 ·assumption
 ·exact absurd rfl hm
theorem bT{l r:List Tm}(h:NN l)(k:NN r):NN (aF l r):=λm hm=>BO h k m hm
def ji(L B A:Nat)(l:List Tm):Prop:=NN l/\iK L l/\bH B l/\aH (aK l)<=A
theorem ji.mono{L B A B' A':Nat}{l:List Tm}(h:ji L B A l)(hB:B<=B')(hA:A<=A'):ji L B' A' l:=⟨h.1,h.2.1,h.2.2.1.mono hB,aR h.2.2.2 hA⟩
theorem ji.aF{L B A C D:Nat}{l r:List Tm}(h:ji L B A l)(k:ji L C D r):ji L (B+C) (A+D) (aF l r):=
 ⟨bT h.1 k.1,h.2.1.aF k.2.1 h.1,bH.aF h.2.2.1 k.2.2.1 h.1,by rw[zL];exact aR (pQ _ _) (Nat.add_le_add h.2.2.2 k.2.2.2)⟩
theorem ji.sub{L B A:Nat}{l r:List Tm}(h:ji L B A l)(k:ji L B A r):ji L B (A+1) (l++dN r):=
 ⟨h.1.append (qP k.1),h.2.1.append k.2.1.neg,h.2.2.1.append (Tf k.2.2.1),by
  rw[lN,qea];have:=Nl (aK l) (aK r);have:=h.2.2.2;have:=k.2.2.2
  omega⟩
def pF(k:Nat)(c top:List Tm)(G R:Nat->List Tm)(j i:Nat):List Tm:=if i<j then(if k<=i then aF (R i) c++dN (aF top (G (i-k)))else aF (R i) c)else R i
theorem qAd(k:Nat)(c top:List Tm)(G R:Nat->List Tm)(i:Nat):pF k c top G R 0 i=R i:=ah (Nat.not_lt_zero _)
theorem qz9(k:Nat)(c top:List Tm)(G R:Nat->List Tm)(j:Nat):pF k c top G R j j=R j:=ah (Nat.lt_irrefl _)
theorem qAb(k:Nat)(c top:List Tm)(G R:Nat->List Tm)(j i:Nat)(h:¬k<=j):pF k c top G R (j+1) i=if i=j then aF (R j) c else pF k c top G R j i:=by
 unfold pF
 by_cases h1:i=j
 ·subst h1;rw[ai (by omega),ah h,ai rfl]
 ·rw[ah h1]
  by_cases h2:i<j
  ·rw[ai h2,ai (by omega)]
  ·rw[ah h2,ah (by omega)]
theorem qAa(k:Nat)(c top:List Tm)(G R:Nat->List Tm)(j i:Nat)(h:k<=j):pF k c top G R (j+1) i=if i=j then aF (R j) c++dN (aF top (G (j-k)))else pF k c top G R j i:=by
 unfold pF
 by_cases h1:i=j
 ·subst h1;rw[ai (by omega),ai h,ai rfl]
 ·rw[ah h1]
  by_cases h2:i<j
  ·rw[ai h2,ai (by omega)]
  ·rw[ah h2,ah (by omega)]
def OG(L V k:Nat)(c:List Tm)(T:Nat->List Tm):List Tm:=aQ L V λi=>if k<=i then aF (T i) (bO c (i-k))else[]
def Da(L n V B C A D:Nat)(c l r:List Tm)(k:Nat)(R T:Nat->List Tm):Prop:=
 af (aF (bO c (V-k)) l) (aF (OG L V k c T) r++aQ L (n+k) R)/\
 (∀i,i<n+k->ji L (B+(V-k)*C) (A+(V-k)*(D+1)) (R i))/\
 (∀i,k<=i->i<V->ji L (B+V*C) (A+V*(D+1)) (T i))
theorem Da.start{L n V B C A D:Nat}{c l r:List Tm}{R T:Nat->List Tm}(hs:af (aQ L (n+V) R) l)(h:∀i,i<n+V->ji L B A (R i)):Da L n V B C A D c l r V R T:=by
 refine⟨?_,λi hi=>?_,λi h1 h2=>by omega⟩
 ·have h0:af (OG L V V c T) []:=OM λi hi=>by rw[ah (by omega)];exact af.refl _
  rw[Nat.sub_self];exact(af.uI _ _).trans ((OJ l).trans (hs.symm.trans ((h0.oC r).symm.append (af.refl (aQ L (n+V) R)))))
 ·rw[Nat.sub_self,Nat.zero_mul,Nat.zero_mul];exact h i hi
theorem qpp(L n:Nat)(P:Nat->List Tm)(r:List Tm):af (aQ L n λi=>aF (P i) r) (aF (aQ L n P) r):=Ya L n P r
theorem Da.step{L n V B C A D:Nat}{l r:List Tm}{k:Nat}{R T G:Nat->List Tm}(h:Da L n V B C A D (G n) l r (k+1) R T)(hk:k<V)(hr:af (aQ L (n+1) G) r)(hG:∀i,i<n+1->ji L C D (G i))(hT:T k=R (n+k)):
 Da L n V B C A D (G n) l r k (pF k (G n) (R (n+k)) G R (n+k)) T:=by
 obtain⟨h1,h2,h3⟩:=h
 have es:V-k=(V-(k+1))+1:=by omega
 have e1:(V-k)*C=(V-(k+1))*C+C:=by rw[es,Nat.add_mul,Nat.one_mul]
 have e2:(V-k)*(D+1)=(V-(k+1))*(D+1)+(D+1):=by rw[es,Nat.add_mul,Nat.one_mul]
 have e3:=eB C (show V-(k+1)<=V by omega);have e4:=eB (D+1) (show V-(k+1)<=V by omega);refine⟨?_,λi hi=>?_,λi hi hiV=>?_⟩
 ·have hQ:af (OG L V k (G n) T) (aF (OG L V (k+1) (G n) T) (G n)++shift (xp L (k:Int)) (R (n+k))):=by
   have hg:=(qet (L:=L) hk (F':=λi=>if k<=i then(if i=k then R (n+k)else aF (T i) (bO (G n) (i-k)))else[]) (F:=λi=>if k+1<=i then aF (T i) (bO (G n) (i-k))else[]) (l:=R (n+k)) (λi hi iq=>?_) ?_).1
   ·refine af.trans (tT _ _ _ _ λi hi=>?_) (hg.trans ((af.trans (tT _ _ _ (λi=>aF (if k+1<=i then aF (T i) (bO (G n) (i-(k+1)))else[]) (G n)) λi hi=>?_) (qpp _ _ _ _)).append (af.refl _)))
    ·by_cases h5:k<=i
     ·rw[ai h5,ai h5]
      by_cases h6:i=k
      ·rw[ai h6,h6,Nat.sub_self,hT];exact OJ _
      ·rw[ah h6];exact af.refl _
     ·rw[ah h5,ah h5];exact af.refl _
    ·by_cases h5:k+1<=i
     ·rw[ai h5,ai h5,show i-k=(i-(k+1))+1 by omega,Lm];exact(af.OI _ _ _).symm
     ·rw[ah h5,ah h5];exact af.refl _
   ·by_cases h5:k<=i
    ·rw[ai h5,ah iq,ai (by omega)]
    ·rw[ah h5,ah (by omega)]
   ·show(if k<=k then(if k=k then R (n+k)else aF (T k) (bO (G n) (k-k)))else[])=(if k+1<=k then aF (T k) (bO (G n) (k-k))else[])++R (n+k);rw[ai (aI _),ai rfl,ah (by omega)];rfl
  have hU:=((hr.symm.sI (shift (xp L (k:Int)) (R (n+k))))).trans (qpq L k (R (n+k)) G (n+1))
  have hU2:af (aQ L (k+(n+1)) λi=>if k<=i then aF (R (n+k)) (G (i-k))else[]) (aQ L (n+k) (λi=>if k<=i then aF (R (n+k)) (G (i-k))else[])++shift (xp L ((n+k:Nat):Int)) (aF (R (n+k)) (G n))):=by
   rw[show k+(n+1)=(n+k)+1 by omega,gT,ai (by omega),show n+k-k=n by omega];exact af.refl _
  have hR:af (aQ L (n+k) (pF k (G n) (R (n+k)) G R (n+k))) (aF (aQ L (n+k) R) (G n)++dN (aQ L (n+k) λi=>if k<=i then aF (R (n+k)) (G (i-k))else[])):=by
   refine af.trans (tT _ _ _ (λi=>aF (R i) (G n)++dN (if k<=i then aF (R (n+k)) (G (i-k))else[])) λi hi=>?_) ((qpk _ _ _ _).trans ((qpp _ _ _ _).append (Ya _ _ _ _)));unfold pF;rw[ai hi]
   by_cases h5:k<=i
   ·rw[ai h5,ai h5];exact af.refl _
   ·rw[ah h5,ah h5];intro m;rw[iZ,qO];simp[aL]
  have hT:af (aF (aQ L (n+k+1) R) (G n)) (aF (aQ L (n+k) R) (G n)++shift (xp L ((n+k:Nat):Int)) (aF (R (n+k)) (G n))):=by
   rw[gT,Eg];exact(af.refl _).append (I6 _ _ _)
  have hL:af (aF (bO (G n) (V-k)) l) (aF (aF (OG L V (k+1) (G n) T) (G n)) r++aF (aQ L (n+k+1) R) (G n)):=by
   rw[es,Lm];refine(af.OI _ _ _).trans (((af.uI _ _).sI _).trans ((af.OI _ _ _).symm.trans ((h1.oC _).trans ?_)));rw[Eg];refine af.append ?_ (af.refl _);exact(af.OI _ _ _).trans (((af.uI _ _).sI _).trans (af.OI _ _ _).symm)
  intro m;have a1:=hL m;have a2:=(hQ.oC r) m;have a3:=(hU.trans hU2) m;have a4:=hR m;have a5:=hT m;rw[Eg]at a2;simp only[iZ,qO]at a1 a2 a3 a4 a5⊢;omega
 ·rw[e1,e2];have g1:=h2 i (by omega);have gt:=h2 (n+k) (by omega);have gn:=hG n (Nat.lt_succ_self n);unfold pF;rw[ai hi, <-Nat.add_assoc B]
  by_cases h5:k<=i
  ·rw[ai h5];exact((g1.aF gn).sub (gt.aF (hG (i-k) (by omega)))).mono (aI _) (by omega)
  ·rw[ah h5];exact(g1.aF gn).mono (aI _) (by omega)
 ·by_cases iq:i=k
  ·rw[iq,hT];exact(h2 (n+k) (by omega)).mono (by omega) (by omega)
  ·exact h3 i (by omega) hiV
def iE(n V:Nat)(G R0:Nat->List Tm):Nat->Nat->List Tm
 |0=>R0
 |t+1=>pF (V-1-t) (G n) (iE n V G R0 t (n+(V-1-t))) G (iE n V G R0 t) (n+(V-1-t))
def vQ(n V:Nat)(G R0:Nat->List Tm)(i:Nat):List Tm:=iE n V G R0 (V-1-i) (n+i)
theorem qpg{n V k:Nat}(G R0:Nat->List Tm)(hk:k<V):iE n V G R0 (V-k)=pF k (G n) (iE n V G R0 (V-(k+1)) (n+k)) G (iE n V G R0 (V-(k+1))) (n+k):=by
 have e:V-k=(V-(k+1))+1:=by omega
 rw[e];show pF (V-1-(V-(k+1))) _ _ _ _ _=_;rw[show V-1-(V-(k+1))=k by omega]
theorem qph{n V k:Nat}(G R0:Nat->List Tm):vQ n V G R0 k=iE n V G R0 (V-(k+1)) (n+k):=by
 unfold vQ;rw[show V-1-k=V-(k+1) by omega]
theorem qeq{L n V B C A D:Nat}{l r:List Tm}{R0 G:Nat->List Tm}(hs:af (aQ L (n+V) R0) l)(h:∀i,i<n+V->ji L B A (R0 i))(hr:af (aQ L (n+1) G) r)(hG:∀i,i<n+1->ji L C D (G i)):∀t,t<=V->Da L n V B C A D (G n) l r (V-t) (iE n V G R0 t) (vQ n V G R0)
 |0,_=>Da.start hs h
 |t+1,ht=>by
  have ih:=qeq hs h hr hG t (by omega);rw[show V-t=(V-(t+1))+1 by omega]at ih;have h2:=ih.step (by omega) hr hG (by rw[qph];rw[show V-(V-(t+1)+1)=t by omega]);have h3:=qpg (n:=n) (V:=V) (k:=V-(t+1)) G R0 (by omega);rw[show V-(V-(t+1))=t+1 by omega,show V-(V-(t+1)+1)=t by omega]at h3;rw[h3];exact h2
theorem Da.done{L n V B C A D:Nat}{c l r:List Tm}{R T:Nat->List Tm}(h:Da L n V B C A D c l r 0 R T):af (aF (bO c V) l) (aF (aQ L V λi=>aF (T i) (bO c i)) r++aQ L n R):=by
 have h1:=h.1
 have h2:OG L V 0 c T=aQ L V λi=>aF (T i) (bO c i):=Yc _ _ _ _ λi _=>by rw[ai (bK _),Nat.sub_zero]
 rw[h2]at h1;exact h1
theorem qvr{L n:Nat}(h1:1<=L)(h4:L<=4){R:Nat->List Tm}(hf:∀i,i<n->iK L (R i)){m:Mo}(hm:aL (aQ L n R) m≠0):m.get L<(n:Int):=by
 induction n with
 |zero=>exact absurd rfl hm
 |succ n ih=>
  rw[gT,iZ,rP]at hm
  by_cases hc:aL (aQ L n R) m=0
  ·have fw:aL (R n) (Mo.sub m (xp L (n:Int)))≠0:=by omega
   have:=hf n (by omega) _ fw;rw[sZ,eQ _ _ _ h1 h4,ai rfl]at this;omega
  ·have:=ih (λi hi=>hf i (by omega)) hc;omega
theorem qAc{L n a:Nat}(h1:1<=L)(h4:L<=4){R:Nat->List Tm}(hf:∀i,i<n->iK L (R i))(hn:∀i,i<n->NN (R i))(hz:¬af (aQ L n R) [])(hd:bE L (aQ L n R) a):a<n:=by
 obtain⟨m,hm,hg⟩:=Qz (NN.aQ hn) hz hd;have:=qvr h1 h4 hf hm;omega
theorem QI{w wr w':World}{r:Option Nat}(h:w.grownBy wr r)(he:Ext wr w'):w.grownBy w' r:=QM h (he.grownBy r)
theorem qbN{w wr:World}{g b:Nat}(h:w.grownBy wr (some g))(hb:b=g\/w.heap.size<=b)(o:Nat)(e0 e1 e2 e3:Value):w.grownBy (aM wr b o e0 e1 e2 e3) (some g):=
 ⟨h.os,h.tape,h.output,by rw[nW];exact h.size,λi hi hr=>by
  rw[iI _ _ _ _ _ _ _ _ (λe=>by
   rcases hb with rfl|hb
   ·exact hr (by rw[e])
   ·omega)]
  exact h.block i hi hr⟩
def uY(g o:Nat)(y:PE)(gd o2:Nat)(c:PE)(w:World):Prop:=jK w g o y/\jK w gd o2 c/\g<w.heap.size/\gd<w.heap.size
theorem uY.ext{g o:Nat}{y:PE}{gd o2:Nat}{c:PE}{w w':World}(h:uY g o y gd o2 c w)(he:Ext w w'):uY g o y gd o2 c w':=⟨h.1.ext h.2.2.1 he,h.2.1.ext h.2.2.2 he,dH h.2.2.1 he.size,dH h.2.2.2 he.size⟩
def xG(g o:Nat)(y:PE)(gt:Nat)(z:PE)(gd o2:Nat)(c:PE)(w:World):Prop:=jK w g o y/\P4 w gt z/\jK w gd o2 c/\g<w.heap.size/\gt<w.heap.size/\gd<w.heap.size
theorem xG.ext{g o:Nat}{y:PE}{gt:Nat}{z:PE}{gd o2:Nat}{c:PE}{w w':World}(h:xG g o y gt z gd o2 c w)(he:Ext w w'):xG g o y gt z gd o2 c w':=⟨h.1.ext h.2.2.2.1 he,h.2.1.ext he,h.2.2.1.ext h.2.2.2.2.2 he,dH h.2.2.2.1 he.size,dH h.2.2.2.2.1 he.size,dH h.2.2.2.2.2 he.size⟩
def qit(M:Nat->Prop)(w:World)(n V g:Nat)(G R0:Nat->List Tm)(e:Ending)(w':World):Prop:=∃gt,e=.returned (.tuple #[.slice (some ⟨gt,0,none⟩) V V,.slice (some ⟨g,0,none⟩) n (n+V)])/\w.heap.size<=gt/\Kids (λb=>M b\/b=gt) w' 4 g (n+V) (iE n V G R0 V)/\Kids (λb=>M b\/b=gt) w' 4 gt V (vQ n V G R0)/\w.grownBy w' (some g)
theorem qz7{L n V B C A D:Nat}{R0 G:Nat->List Tm}(h:∀i,i<n+V->ji L B A (R0 i))(hG:∀i,i<n+1->ji L C D (G i))(t:Nat)(ht:t<=V)(i:Nat)(hi:i<n+(V-t)):ji L (B+V*C) (A+V*(D+1)) (iE n V G R0 t i):=by
 have:=(qeq (l:=aQ L (n+V) R0) (r:=aQ L (n+1) G) (af.refl _) h (af.refl _) hG t ht).2.1 i hi;rw[show V-(V-t)=t by omega]at this;have e1:=eB C ht;have e2:=eB (D+1) ht;exact this.mono (by omega) (by omega)
theorem qAt(M:Nat->Prop)(L n V B C A D g gd:Nat)(R0 G:Nat->List Tm)(w:World)(hM:Mb M w)(hg:M g)(jF:gd≠g)(hR:Kids M w 4 g (n+V) R0)(hG:Kids M w 4 gd (n+1) G)(hV:1<=V)(hnV:n+V<=1000000)
 (Fh:∀i,i<n+V->ji L B A (R0 i)) (Fb:∀i,i<n+1->ji L C D (G i)) (hB:B+V*C+C<=1000000) (oH:(B+V*C+1)*(C+1)<=1099511627776) (hA:A+V*(D+1)+D+2<=549755813888):
 Calls Tryz.prog 61 #[.slice (some ⟨g,0,none⟩) (n+V) (n+V),.slice (some ⟨gd,0,none⟩) (n+1) (n+1)] w (qit M w n V g G R0):=by
 obtain⟨i0,hi,hz0,hz1,hz2⟩:=info_parts Tryz.zH;have HM:=ae hM;have HG:=ae hG;have HR:=ae hR;have qh:=ae Fh;have Zm:=ae Fb;have HB:=ae hB;have qg:=ae oH;have HA:=ae hA;have Gq:=ae hg;have fA:=(hR.at 0 (by omega)).2.2.2.2.2;have qmf:=(hG.at 0 (by omega)).2.2.2.2.2;have jg:(0:Int)<=(n:Int):=iw _
 have hV1:(1:Int)<=(V:Int):=by omega
 have Oc:(n:Int)+(V:Int)<=1000000:=by omega
 clear hM hR hG Fh Fb hB oH hA hg
 go_enter Tryz.func61,Tryz.ntmps61
 have jG:(n:Int)+(V:Int)-(n:Int)=(V:Int):=by omega
 have hmx:max (V:Int) 0=(V:Int):=by omega
 go_upto_region 3 with(fail)
 go_wp2_with (first|(at_make;refine LK _ rfl _ _ _ rfl 33 i0 (.agg #[.int .i64 0,.bool false,.slice none 0 0,.slice none 0 0]) 4 Tryz.underlying31 hi hz0 hz1 .i64 .i64 _ _ V rfl rfl ?c4 ?c5 ?c2 ?c3 ?_))
 case c2=>rw[hz2];omega
 case c3=>unfold maxLen;omega
 case c4=>go_num
 case c5=>go_num
 have cO:=Ql w V 33;have az:=(aA w).alloc (.cells (madeCells (Value.agg #[.int .i64 0,.bool false,.slice none 0 0,.slice none 0 0]).cells (V*4)) 33);intro w1 hw1;replace hw1:w.alloc (.cells (madeCells (Value.agg #[.int .i64 0,.bool false,.slice none 0 0,.slice none 0 0]).cells (V*4)) 33)=w1:=hw1.out.symm;rw[hw1]at cO az;obtain⟨gt,kR⟩:∃gt,gt=w.heap.size:=⟨_,rfl⟩;rw[<-kR]at cO⊢
 have Ia:g≠gt:=by omega
 have qwK:gd≠gt:=by omega
 have Ob:∀b,(M b\/b=gt)->M b\/w.heap.size<=b:=λb hb=>hb.imp id λh=>by omega
 have kH:Hid (Mb (λb=>M b\/b=gt) w1):=pz (HM.out.ext az) cO.lt
 have Ao:Hid (Kids (λb=>M b\/b=gt) w1 4 g (n+V) (iE n V G R0 0)):=by
  exact(HR.out.more Ob).ext az
 have Mm:Hid (Kids (λb=>M b\/b=gt) w1 4 gt V (λi=>if V<=i then vQ n V G R0 i else[])):=(Kids.fresh cO).congr λi hi=>by rw[ah (by omega)];exact af.refl _
 have xk:Hid (Kids (λb=>M b\/b=gt) w1 4 gd (n+1) G):=(HG.out.more Ob).ext az;have qgw:Hid (w.grownBy w1 (some g)):=az.grownBy _;have Gi:Hid (gt=w.heap.size):=kR;have qkv:Hid (∀t,t<=V->∀i,i<n+(V-t)->ji L (B+V*C) (A+V*(D+1)) (iE n V G R0 t i)):=qz7 qh.out Zm.out;have Uh:Hid (∀i,i<n+1->ji L C D (G i)):=Zm.out;clear hw1 cO az HR HG qh Zm HM kR Ob hi hz0 hz1 hz2;go_wp2
 go_loopw [23,0] (λiv rs wr=>∃t k:Nat,t+k=V/\iv=.int .i64 (t:Int)/\rs=.slice (some ⟨g,0,none⟩) (n+k) (n+V)/\Hid (Kids (λb=>M b\/b=gt) wr 4 g (n+V) (iE n V G R0 t))/\Hid (Kids (λb=>M b\/b=gt) wr 4 gt V (λi=>if k<=i then vQ n V G R0 i else[]))/\Hid (Kids (λb=>M b\/b=gt) wr 4 gd (n+1) G)/\Hid (Mb (λb=>M b\/b=gt) wr)/\Hid (w.grownBy wr (some g))) (λiv _ _=>V-(intOf iv).toNat)
 case atStart=>exact⟨0,V,Nat.zero_add V,rfl,rfl,Ao,Mm,xk,kH,qgw⟩
 case round=>
  clear Ao Mm xk kH qgw jG hmx;obtain⟨t,k1,R6,rfl,rfl,HR,HT,HG,eP,xm⟩:=hrel
  by_cases iO:k1=0
  ·subst iO
   obtain rfl:t=V:=by omega
   have jS:¬(t:Int)<(t:Int):=by omega
   have HF:Hid (qit M w n t g G R0 (.returned (.tuple #[.slice (some ⟨gt,0,none⟩) t t,.slice (some ⟨g,0,none⟩) n (n+t)])) wr):=⟨gt,rfl,Nat.le_of_eq Gi.out.symm,HR.out,HT.out.congr λi _=>by rw[ai (bK _)];exact af.refl _,xm.out⟩;clear HR HT HG eP xm;go_wp2;exact bu (v:=.tuple #[.slice (some ⟨gt,0,none⟩) t t,.slice (some ⟨g,0,none⟩) n (n+t)]) (by simp[results,Tryz.results61,go_sem]) rfl HF.out
  ·obtain⟨k,rfl⟩:∃k,k1=k+1:=⟨k1-1,by omega⟩
   have hlt:(t:Int)<(V:Int):=by omega
   have NZ:(V:Int)-1-(t:Int)=(k:Int):=by omega
   have qw7:(0:Int)<=(k:Int):=iw _
   have qxu:(0:Int)<=(n:Int)+(k:Int):=by omega
   have qxv:(n:Int)+(k:Int)<(n:Int)+((k:Int)+1):=by omega
   have qxw:((n:Int)+(k:Int)).toNat=n+k:=by omega
   have yF:Hid (t+(k+1)=V):=R6;obtain⟨z,⟨z0,z1,z2,z3⟩,hz⟩:=HR.out.kI (n+k) (by omega);have qH:=HR.out.lt;obtain⟨gp,FC⟩:∃gp,wr.heap.size=gp:=⟨_,rfl⟩;have aT:=(aA wr).alloc (.cells (ak z) 33);have bQ:=aG.bq wr (ak z) 33 4 rfl;rw[FC]at bQ;have qwW:=HT.out.lt
   have qmg:gp≠g:=by omega
   have qwQ:gp≠gt:=by omega
   obtain⟨W2,jW⟩:∃W2,wr.alloc (.cells (ak z) 33)=W2:=⟨_,rfl⟩;rw[jW]at aT bQ;have wG:=ae jW;have Pz:=ae FC;have wO:=HT.out.ext aT;obtain⟨⟨_,k0⟩,⟨_,k1⟩,⟨_,k2⟩,⟨_,k3⟩,bA,qwX⟩:=wO.at k (by omega);have fV:=bA (k*4);have fP:=bA (k*4+1);have iU:=bA (k*4+2);have p9:=bA (k*4+3);obtain⟨p0,p1,p2,p3⟩:=bQ.p4
   have hkV:(k:Int)<(V:Int):=by omega
   obtain⟨W3,pV⟩:∃W3,aM W2 gt (k*4) (.int .i64 z.lv) (.bool z.b) (.slice z.a z.n z.p) (.slice z.ka z.kn z.kp)=W3:=⟨_,rfl⟩;have Ig:Kp (λb=>M b\/b=gt) W2 W3:=pV ▸ Kp.aM (.inr rfl) _ _ _ _ _;have Xf:∀b,b≠gt->W3.heap[b]?=W2.heap[b]?:=λb hb=>pV ▸ iI _ _ _ _ _ _ _ _ hb;have R5:W3.heap.size=W2.heap.size:=pV ▸ nW _ _ _ _ _ _ _
   have HT3:Hid (Kids (λb=>M b\/b=gt) W3 4 gt V (λi=>if k<=i then vQ n V G R0 i else[])):=by
    have h5:=wO.set (.inr rfl) k (by omega) (hz.ext aT);rw[pV]at h5;refine h5.congr λi hi=>?_
    by_cases h1:i=k
    ·subst h1;rw[ai rfl,ai (aI _),qph,show V-(i+1)=t by omega];exact af.refl _
    ·rw[ah h1]
     by_cases h2:k+1<=i
     ·rw[ai h2,ai (by omega)];exact af.refl _
     ·rw[ah h2,ah (by omega)];exact af.refl _
   have rH:Hid (Kids (λb=>M b\/b=gt) W3 4 g (n+V) (pF k (G n) (iE n V G R0 t (n+k)) G (iE n V G R0 t) 0)):=((HR.out.ext aT).kp (Xf g Ia) Ig).congr λi _=>by rw[qAd];exact af.refl _
   have wB:Hid (Kids (λb=>M b\/b=gt) W3 4 gd (n+1) G):=(HG.out.ext aT).kp (Xf gd qwK) Ig;have Mg:Hid (P4 W3 gp z):=sH bQ.p4 (Xf gp qwQ);have Qc:Hid (aN (λb=>M b\/b=gt) W3 4 z (iE n V G R0 t (n+k))):=(hz.ext aT).kp Ig;have pK:Hid (Mb (λb=>M b\/b=gt) W3):=(eP.out.ext aT).size (by omega);have qgx:Hid (w.grownBy W3 (some g)):=pV ▸ qbN (QI xm.out aT) (.inr (Nat.le_of_eq Gi.out.symm)) _ _ _ _ _;have Ui:Hid (∀i,i<n+(k+1)->ji L (B+V*C) (A+V*(D+1)) (iE n V G R0 t i)):=λi hi=>qkv.out t (by omega) i (by omega);unfold aM at pV;have CB:=ae pV;clear hz iO R6 jW FC pV wO bA bQ aT Ig Xf R5 HT HR HG eP xm qkv qH qwW
   go_upto_region 9 with(fail)
   rw[wG.out,Pz.out];clear z0 z1 z2 z3
   go_upto_region 10 with(fail)
   rw[CB.out];clear k0 k1 k2 k3 fV fP iU p9 p0 p1 p2 p3 qwX wG CB Pz;go_wp2
   go_loopw [47] (λjv uM=>∃j:Nat,j<=n+k/\jv=.int .i64 (j:Int)/\Hid (Kids (λb=>M b\/b=gt) uM 4 g (n+V) (pF k (G n) (iE n V G R0 t (n+k)) G (iE n V G R0 t) j))/\Hid (Kids (λb=>M b\/b=gt) uM 4 gt V (λi=>if k<=i then vQ n V G R0 i else[]))/\Hid (Kids (λb=>M b\/b=gt) uM 4 gd (n+1) G)/\Hid (P4 uM gp z)/\Hid (aN (λb=>M b\/b=gt) uM 4 z (iE n V G R0 t (n+k)))/\Hid (Mb (λb=>M b\/b=gt) uM)/\Hid (w.grownBy uM (some g))) (λjv _=>n+k-(intOf jv).toNat)
   case atStart=>exact⟨0,bK _,rfl,rH,HT3,wB,Mg,Qc,pK,qgx⟩
   case round=>
    clear rH HT3 wB Mg Qc pK qgx;obtain⟨j,hj,rfl,HR,HT,HG,HP,HZ,eP,xm⟩:=hrel
    by_cases qM:j<n+k
    ·have sQ:=ae qM
     have DX:(j:Int)<(n:Int)+(k:Int):=by omega
     have WO:(0:Int)<=(j:Int):=iw _;obtain⟨y,wV,hy⟩:=HR.out.kI j (by omega);rw[qz9]at hy;obtain⟨c,gW,hc⟩:=HG.out.kI n (by omega);have Ib:=HR.out.lt;have WL:=HG.out.lt;have hd:=(aA wr).drew;have hS:uY g (j*4) y gd (n*4) c wr.drew:=uY.ext ⟨wV,gW,Ib,WL⟩ hd;have HR4:=ae (HR.out.ext hd);have EH:=ae (HT.out.ext hd);have HG4:=ae (HG.out.ext hd);have Gt:Hid (P4 wr.drew gp z):=HP.out.ext hd;have Qd:=ae (HZ.out.ext hd);have ZQ:=ae (eP.out.ext hd);have qgy:=ae (QI xm.out hd);have CX:=ae (hy.ext hd);have Pn:=ae (hc.ext hd);have qmm:g<wr.drew.heap.size:=hS.2.2.1;have qwL:gd<wr.drew.heap.size:=hS.2.2.2;have qEw:(0:Int)<=(n:Int):=jg
     have qEX:(n:Int)<(n:Int)+1:=by omega
     clear wV gW hy hc hd HR HT HG HP HZ eP xm qM
     go_upto_region 14 with(fail)
     refine gB (uY g (j*4) y gd (n*4) c) 12 (by kernel_rfl) hS (λhHeld=>?_);clear hS;generalize wr.drew=wd at*
     have O1:Hid (∀W:World,Ext wd W->Calls Tryz.prog 55 #[.agg (ak y),.agg (ak c)] W (dO (λb=>M b\/b=gt) W 4 (aF (iE n V G R0 t j) (G n)))):=λW he=>by
      have h1:=Ui.out j (by have:=sQ.out;omega);have h2:=Uh.out n (by omega);have h3:=HA.out;exact Tv _ y c _ _ (B+V*C) C W (ZQ.out.ext he) (CX.out.ext he).pi (Pn.out.ext he).pi (by have:=h1.2.2.2;have:=h2.2.2.2;omega) h1.2.2.1 h2.2.2.1 qg.out
     (refine cB [0,1,2,3,4,5,6,7,8,9] ?_;(iterate 10 (refine bZ (v:=?_) ?_ ?_;rotate_left 1;(intro wS hSw;obtain⟨⟨S1,S2,S3,S4⟩,⟨S5,S6,S7,S8⟩,S9,rM⟩:=hSw;go_simp;try with_reducible rfl);(try simp only[Act.put,aB,aC,aD])));refine cK ?_);((refine aO 10 ?_;intro K hK);go_simp;(refine(O1.out _ (aA _)).mono ?_);rintro e_ u1 ⟨v,rfl,hv,bM⟩;go_wp2_with (fail);(try clear ag);(have ag:=hHeld.ext bM);(refine hK.out _ _ (λ_=>ag) ?_);clear hK K;(try simp only[Act.put,aB,aC,aD]));(refine cB [11] ?_;(iterate 1 (refine bZ (v:=?_) ?_ ?_;rotate_left 1;(intro wS hSw;obtain⟨⟨S1,S2,S3,S4⟩,⟨S5,S6,S7,S8⟩,S9,rM⟩:=hSw;go_simp;try with_reducible rfl);(try simp only[Act.put,aB,aC,aD])));refine cK ?_);have NL:=HR4.out.ext bM;obtain⟨⟨_,k0⟩,⟨_,k1⟩,⟨_,k2⟩,⟨_,k3⟩,bA,mH⟩:=NL.at j (by have:=sQ.out;omega);have fV:=bA (j*4);have fP:=bA (j*4+1);have iU:=bA (j*4+2);have p9:=bA (j*4+3);obtain⟨W4,gG⟩:∃W4,aM u1 g (j*4) (.int .i64 v.lv) (.bool v.b) (.slice v.a v.n v.p) (.slice v.ka v.kn v.kp)=W4:=⟨_,rfl⟩;have FH:Kp (λb=>M b\/b=gt) u1 W4:=gG ▸ Kp.aM (.inl Gq.out) _ _ _ _ _;have FL:∀b,b≠g->W4.heap[b]?=u1.heap[b]?:=λb hb=>gG ▸ iI _ _ _ _ _ _ _ _ hb;have KV:W4.heap.size=u1.heap.size:=gG ▸ nW _ _ _ _ _ _ _
     have Mi:Hid (Kids (λb=>M b\/b=gt) W4 4 g (n+V) (λi=>if i=j then aF (iE n V G R0 t j) (G n)else pF k (G n) (iE n V G R0 t (n+k)) G (iE n V G R0 t) j i)):=by
      have h5:=NL.set (.inl Gq.out) j (by have:=sQ.out;omega) hv;rw[gG]at h5;exact h5
     have HT5:Hid (Kids (λb=>M b\/b=gt) W4 4 gt V (λi=>if k<=i then vQ n V G R0 i else[])):=(EH.out.ext bM).kp (FL gt (Ne.symm Ia)) FH;have Gh:Hid (Kids (λb=>M b\/b=gt) W4 4 gd (n+1) G):=(HG4.out.ext bM).kp (FL gd jF) FH;have oG:Hid (P4 W4 gp z):=sH (Gt.out.ext bM) (FL gp qmg);have ME:Hid (aN (λb=>M b\/b=gt) W4 4 z (iE n V G R0 t (n+k))):=(Qd.out.ext bM).kp FH;have uR:Hid (Mb (λb=>M b\/b=gt) W4):=(ZQ.out.ext bM).size (by omega);have ZC:Hid (w.grownBy W4 (some g)):=gG ▸ qbN (QI qgy.out bM) (.inl rfl) _ _ _ _ _;unfold aM at gG;have CV:=ae gG;clear NL bA hv bM FH FL KV gG HR4 EH HG4 Gt Qd ZQ qgy CX Pn O1 hHeld ag;((refine aO 12 ?_;intro K hK);go_simp;(refine hK.out _ _ (λh=>absurd rfl h) ?_);clear hK K;refine dX ?_)
     go_upto_region 15 with(fail)
     rw[CV.out];clear k0 k1 k2 k3 fV fP iU p9 mH CV
     by_cases qJ:k<=j
     ·have qc7:(k:Int)<=(j:Int):=by omega
      have ZK:=ae qJ;obtain⟨q,hq⟩:∃q,q=j-k:=⟨_,rfl⟩
      have hqI:(j:Int)-(k:Int)=(q:Int):=by omega
      have vM:(0:Int)<=(q:Int):=iw _
      have x8:(q:Int)<(n:Int)+1:=by have:=sQ.out;omega
      have qdx:q<n+1:=by omega
      have Ec:IntKind.i64.wrap (q:Int)=(q:Int):=by rw[IntKind.wrap_i64];omega
      obtain⟨y2,wV,hy⟩:=Mi.out.kI j (by have:=sQ.out;omega);rw[ai rfl]at hy;obtain⟨c2,gW,hc⟩:=Gh.out.kI q qdx;have Ib:=Mi.out.lt;have WL:=Gh.out.lt;have hd:=(aA W4).drew;have qmh:=oF _ _ oG.out.1;have hS:xG g (j*4) y2 gp z gd (q*4) c2 W4.drew:=xG.ext ⟨wV,oG.out,gW,Ib,qmh,WL⟩ hd;have EC:=ae (Mi.out.ext hd);have HT6:=ae (HT5.out.ext hd);have HG6:=ae (Gh.out.ext hd);have HP6:Hid (P4 W4.drew gp z):=oG.out.ext hd;have MF:=ae (ME.out.ext hd);have UH:=ae (uR.out.ext hd);have qgz:=ae (QI ZC.out hd);have HY6:=ae (hy.ext hd);have HC6:=ae (hc.ext hd);have HQ:=ae hq;have qmm:g<W4.drew.heap.size:=hS.2.2.2.1;have qwL:gd<W4.drew.heap.size:=hS.2.2.2.2.2;have qEh:gp<W4.drew.heap.size:=hS.2.2.2.2.1;have HQN:=ae qdx;clear wV gW hy hc hd Mi HT5 Gh oG ME uR ZC qJ hq qdx Ib WL qmh
      go_upto_region 16 with(fail)
      refine gB (xG g (j*4) y2 gp z gd (q*4) c2) 16 (by kernel_rfl) hS (λhHeld=>?_);clear hS;generalize W4.drew=Jo at*;have xq:Hid (ji L (B+V*C+C) (A+V*(D+1)+D) (aF (iE n V G R0 t j) (G n))):=(Ui.out j (by have:=sQ.out;omega)).aF (Uh.out n (by omega));have kX:Hid (ji L (B+V*C+C) (A+V*(D+1)+D) (aF (iE n V G R0 t (n+k)) (G q))):=(Ui.out (n+k) (by omega)).aF (Uh.out q HQN.out)
      have C16:Hid (∀W:World,Ext Jo W->Calls Tryz.prog 55 #[.agg (ak z),.agg (ak c2)] W (dO (λb=>M b\/b=gt) W 4 (aF (iE n V G R0 t (n+k)) (G q)))):=λW he=>by
       have h1:=Ui.out (n+k) (by omega);have h2:=Uh.out q HQN.out;have h3:=HA.out;exact Tv _ z c2 _ _ (B+V*C) C W (UH.out.ext he) (MF.out.ext he).pi (HC6.out.ext he).pi (by have:=h1.2.2.2;have:=h2.2.2.2;omega) h1.2.2.1 h2.2.2.1 qg.out
      have F9:Hid (∀(W:World)(x:PE),Ext Jo W->aN (λb=>M b\/b=gt) W 4 x (aF (iE n V G R0 t (n+k)) (G q))->Calls Tryz.prog 38 #[.agg (ak y2),.agg (ak x)] W (dO (λb=>M b\/b=gt) W 4 (aF (iE n V G R0 t j) (G n)++dN (aF (iE n V G R0 t (n+k)) (G q))))):=λW x he hx=>by
       have h1:=xq.out.sub kX.out;have h3:=HA.out;have h4:=HB.out;exact qeG _ y2 x _ _ (B+V*C+C) W (UH.out.ext he) (HY6.out.ext he).pi hx.pi (aR h1.2.2.2 (by omega)) (by have:=kX.out.2.2.2;omega) kX.out.2.2.1 (by omega)
      (refine cB [0,1,2,3,4,5,6,7,8,9,10,11,12] ?_;(iterate 13 (refine bZ (v:=?_) ?_ ?_;rotate_left 1;(intro wS hSw;obtain⟨⟨S1,S2,S3,S4⟩,⟨S5,S6,S7,S8⟩,⟨S9,rM,uW,uX⟩,AO,uY,J4⟩:=hSw;go_simp;try with_reducible rfl);(try simp only[Act.put,aB,aC,aD])));refine cK ?_);((refine aO 13 ?_;intro K hK);go_simp;(refine(C16.out _ (aA _)).mono ?_);rintro e_ u2 ⟨x,rfl,hx,bM⟩;go_wp2_with (fail);(try clear ag);(have ag:=hHeld.ext bM);(refine hK.out _ _ (λ_=>ag) ?_);clear hK K;(try simp only[Act.put,aB,aC,aD]));((refine aO 14 ?_;intro K hK);go_simp;(refine(F9.out _ x bM hx).mono ?_);rintro e_ u3 ⟨v2,rfl,hv2,fM⟩;go_wp2_with (fail);(try clear ag);(have ag:=hHeld.ext (bM.trans fM));(refine hK.out _ _ (λ_=>ag) ?_);clear hK K;(try simp only[Act.put,aB,aC,aD]));(refine cB [15] ?_;(iterate 1 (refine bZ (v:=?_) ?_ ?_;rotate_left 1;(intro wS hSw;obtain⟨⟨S1,S2,S3,S4⟩,⟨S5,S6,S7,S8⟩,⟨S9,rM,uW,uX⟩,AO,uY,J4⟩:=hSw;go_simp;try with_reducible rfl);(try simp only[Act.put,aB,aC,aD])));refine cK ?_);have lh:=bM.trans fM;have hR7:=EC.out.ext lh;obtain⟨⟨_,k0⟩,⟨_,k1⟩,⟨_,k2⟩,⟨_,k3⟩,bA,mH⟩:=hR7.at j (by have:=sQ.out;omega);have fV:=bA (j*4);have fP:=bA (j*4+1);have iU:=bA (j*4+2);have p9:=bA (j*4+3);have FH:Kp (λb=>M b\/b=gt) u3 (aM u3 g (j*4) (.int .i64 v2.lv) (.bool v2.b) (.slice v2.a v2.n v2.p) (.slice v2.ka v2.kn v2.kp)):=Kp.aM (.inl Gq.out) _ _ _ _ _
      have FL:∀b,b≠g->(aM u3 g (j*4) (.int .i64 v2.lv) (.bool v2.b) (.slice v2.a v2.n v2.p) (.slice v2.ka v2.kn v2.kp)).heap[b]?=u3.heap[b]?:=λb hb=>iI _ _ _ _ _ _ _ _ hb;have KV:(aM u3 g (j*4) (.int .i64 v2.lv) (.bool v2.b) (.slice v2.a v2.n v2.p) (.slice v2.ka v2.kn v2.kp)).heap.size=u3.heap.size:=nW _ _ _ _ _ _ _
      have HR7:Hid (Kids (λb=>M b\/b=gt) (aM u3 g (j*4) (.int .i64 v2.lv) (.bool v2.b) (.slice v2.a v2.n v2.p) (.slice v2.ka v2.kn v2.kp)) 4 g (n+V) (pF k (G n) (iE n V G R0 t (n+k)) G (iE n V G R0 t) (j+1))):=by
       refine(hR7.set (.inl Gq.out) j (by have:=sQ.out;omega) hv2).congr λi _=>?_;rw[qAa _ _ _ _ _ _ _ ZK.out, <-HQ.out]
       by_cases h1:i=j
       ·rw[ai h1,ai h1];exact af.refl _
       ·rw[ah h1,ah h1,ah h1];exact af.refl _
      have HT7:Hid (Kids (λb=>M b\/b=gt) (aM u3 g (j*4) (.int .i64 v2.lv) (.bool v2.b) (.slice v2.a v2.n v2.p) (.slice v2.ka v2.kn v2.kp)) 4 gt V (λi=>if k<=i then vQ n V G R0 i else[])):=(HT6.out.ext lh).kp (FL gt (Ne.symm Ia)) FH;have HG7:Hid (Kids (λb=>M b\/b=gt) (aM u3 g (j*4) (.int .i64 v2.lv) (.bool v2.b) (.slice v2.a v2.n v2.p) (.slice v2.ka v2.kn v2.kp)) 4 gd (n+1) G):=(HG6.out.ext lh).kp (FL gd jF) FH;have HP7:Hid (P4 (aM u3 g (j*4) (.int .i64 v2.lv) (.bool v2.b) (.slice v2.a v2.n v2.p) (.slice v2.ka v2.kn v2.kp)) gp z):=sH (HP6.out.ext lh) (FL gp qmg);have HZ7:Hid (aN (λb=>M b\/b=gt) (aM u3 g (j*4) (.int .i64 v2.lv) (.bool v2.b) (.slice v2.a v2.n v2.p) (.slice v2.ka v2.kn v2.kp)) 4 z (iE n V G R0 t (n+k))):=(MF.out.ext lh).kp FH;have Mc:Hid (Mb (λb=>M b\/b=gt) (aM u3 g (j*4) (.int .i64 v2.lv) (.bool v2.b) (.slice v2.a v2.n v2.p) (.slice v2.ka v2.kn v2.kp))):=(UH.out.ext lh).size (by omega);have qrG:Hid (w.grownBy (aM u3 g (j*4) (.int .i64 v2.lv) (.bool v2.b) (.slice v2.a v2.n v2.p) (.slice v2.ka v2.kn v2.kp)) (some g)):=qbN (QI qgz.out lh) (.inl rfl) _ _ _ _ _;clear hR7 bA hx hv2 bM fM lh FH FL KV EC HT6 HG6 HP6 MF UH qgz HY6 HC6 C16 F9 hHeld ag xq kX;((refine aO 16 ?_;intro K hK);go_simp;(refine hK.out _ _ (λh=>absurd rfl h) ?_);clear hK K;refine dX ?_);go_wp2
      go_roundw
      case rel=>exact⟨j+1,sQ.out,by go_num,HR7,HT7,HG7,HP7,HZ7,Mc,qrG⟩
      case measure=>have:=sQ.out;simp[intOf];omega
     ·have qc7:¬(k:Int)<=(j:Int):=by omega
      have EC:Hid (Kids (λb=>M b\/b=gt) W4 4 g (n+V) (pF k (G n) (iE n V G R0 t (n+k)) G (iE n V G R0 t) (j+1))):=Mi.out.congr λi _=>by rw[qAb _ _ _ _ _ _ _ qJ];exact af.refl _
      clear Mi;go_wp2
      go_roundw
      case rel=>exact⟨j+1,sQ.out,by go_num,EC,HT5,Gh,oG,ME,uR,ZC⟩
      case measure=>have:=sQ.out;simp[intOf];omega
    ·obtain rfl:j=n+k:=by omega
     have jS:¬(((n+k:Nat):Int))<(n:Int)+(k:Int):=by omega
     have EC:Hid (Kids (λb=>M b\/b=gt) wr 4 g (n+V) (iE n V G R0 (t+1))):=by
      have h5:=qpg (n:=n) (V:=V) (k:=k) G R0 (by have:=yF.out;omega);rw[show V-(k+1)=t by have:=yF.out;omega,show V-k=t+1 by have:=yF.out;omega]at h5;rw[h5];exact HR.out
     have qas:Hid (t+1+k=V):=by have:=yF.out;show _=_;omega
     clear HR HP HZ;go_wp2
     go_roundw
     case rel=>exact⟨t+1,k,qas.out,by go_num,rfl,EC,HT,HG,eP,xm⟩
     case measure=>have:=yF.out;simp[intOf];omega
end Go.Proofs.YtmcfpnmoklnhoaaGreat
