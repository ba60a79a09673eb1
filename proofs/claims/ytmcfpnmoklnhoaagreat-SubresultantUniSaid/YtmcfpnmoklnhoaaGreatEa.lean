/- Ea -/
import Derived.Test.YtmcfpnmoklnhoaaGreatDr
import Derived.Test.YtmcfpnmoklnhoaaGreatBd
import Derived.Test.YtmcfpnmoklnhoaaGreatDa
set_option linter.unusedVariables false
set_option maxRecDepth 100000
set_option maxHeartbeats 400000000
set_option linter.unusedSimpArgs false
namespace Go.Proofs.YtmcfpnmoklnhoaaGreat
open Go.RowKit
def gK(L:Nat)(l:List Tm):Prop:=∀m,aB l m≠0->m.get L=0
theorem gK.nil(L:Nat):gK L []:=λ_ hm=>absurd rfl hm
theorem gK.append{L:Nat}{l r:List Tm}(h:gK L l)(k:gK L r):gK L (l++r):=λm hm=>by
 rw[gW]at hm
 by_cases h1:aB l m=0
 ·exact k m (by omega)
 ·exact h m h1
theorem gK.neg{L:Nat}{l:List Tm}(h:gK L l):gK L (di l):=λm hm=>h m (λe=>hm (by rw[qA,e];rfl))
theorem gK.ai{L:Nat}{l r:List Tm}(h:gK L l)(k:gK L r)(nl:NN l):gK L (ai l r):=λm hm=>by
 have hs:=l7 nl;rw[<-(hs.mY r) m]at hm;obtain⟨m1,h1,h2⟩:=OJ (OG (qZ l)) hm;have a1:=h m1 (by rw[<-hs m1];exact h1);have a2:=k _ h2;rw[sJ]at a2;omega
theorem uY{L:Nat}(h1:1<=L)(h4:L<=4)(e:Int)(l:List Tm):gK L (ck L e l):=λm hm=>by
 rw[mE h1 h4]at hm
 split at hm
 ·assumption
 ·exact absurd rfl hm
theorem bE{l r:List Tm}(h:NN l)(k:NN r):NN (ai l r):=λm hm=>Ar h k m hm
def iA(L B A:Nat)(l:List Tm):Prop:=NN l/\gK L l/\bn B l/\az (aC l)<=A
theorem iA.mono{L B A B' A':Nat}{l:List Tm}(h:iA L B A l)(hB:B<=B')(hA:A<=A'):iA L B' A' l:=⟨h.1,h.2.1,h.2.2.1.mono hB,Nat.le_trans h.2.2.2 hA⟩
theorem iA.ai{L B A C D:Nat}{l r:List Tm}(h:iA L B A l)(k:iA L C D r):iA L (B+C) (A+D) (ai l r):=
 ⟨bE h.1 k.1,h.2.1.ai k.2.1 h.1,bn.ai h.2.2.1 k.2.2.1 h.1,by rw[Cu];exact Nat.le_trans (qJ _ _) (Nat.add_le_add h.2.2.2 k.2.2.2)⟩
theorem iA.sub{L B A:Nat}{l r:List Tm}(h:iA L B A l)(k:iA L B A r):iA L B (A+1) (l++di r):=
 ⟨h.1.append (qB k.1),h.2.1.append k.2.1.neg,h.2.2.1.append (QV k.2.2.1),by
  rw[kT,qcP];have:=Lf (aC l) (aC r);have:=h.2.2.2;have:=k.2.2.2
  omega⟩
def nZ(k:Nat)(c top:List Tm)(G R:Nat->List Tm)(j i:Nat):List Tm:=if i<j then(if k<=i then ai (R i) c++di (ai top (G (i-k)))else ai (R i) c)else R i
theorem qxF(k:Nat)(c top:List Tm)(G R:Nat->List Tm)(i:Nat):nZ k c top G R 0 i=R i:=if_neg (Nat.not_lt_zero _)
theorem qxB(k:Nat)(c top:List Tm)(G R:Nat->List Tm)(j:Nat):nZ k c top G R j j=R j:=if_neg (Nat.lt_irrefl _)
theorem qxD(k:Nat)(c top:List Tm)(G R:Nat->List Tm)(j i:Nat)(h:¬k<=j):nZ k c top G R (j+1) i=if i=j then ai (R j) c else nZ k c top G R j i:=by
 unfold nZ
 by_cases h1:i=j
 ·subst h1;rw[if_pos (by omega),if_neg h,if_pos rfl]
 ·rw[if_neg h1]
  by_cases h2:i<j
  ·rw[if_pos h2,if_pos (by omega)]
  ·rw[if_neg h2,if_neg (by omega)]
theorem qxC(k:Nat)(c top:List Tm)(G R:Nat->List Tm)(j i:Nat)(h:k<=j):nZ k c top G R (j+1) i=if i=j then ai (R j) c++di (ai top (G (j-k)))else nZ k c top G R j i:=by
 unfold nZ
 by_cases h1:i=j
 ·subst h1;rw[if_pos (by omega),if_pos h,if_pos rfl]
 ·rw[if_neg h1]
  by_cases h2:i<j
  ·rw[if_pos h2,if_pos (by omega)]
  ·rw[if_neg h2,if_neg (by omega)]
def MN(L V k:Nat)(c:List Tm)(T:Nat->List Tm):List Tm:=aJ L V λi=>if k<=i then ai (T i) (bA c (i-k))else[]
def Bl(L n V B C A D:Nat)(c l r:List Tm)(k:Nat)(R T:Nat->List Tm):Prop:=
 ae (ai (bA c (V-k)) l) (ai (MN L V k c T) r++aJ L (n+k) R)/\
 (∀i,i<n+k->iA L (B+(V-k)*C) (A+(V-k)*(D+1)) (R i))/\
 (∀i,k<=i->i<V->iA L (B+V*C) (A+V*(D+1)) (T i))
theorem Bl.start{L n V B C A D:Nat}{c l r:List Tm}{R T:Nat->List Tm}(hs:ae (aJ L (n+V) R) l)(h:∀i,i<n+V->iA L B A (R i)):Bl L n V B C A D c l r V R T:=by
 refine⟨?_,λi hi=>?_,λi h1 h2=>by omega⟩
 ·have h0:ae (MN L V V c T) []:=MS λi hi=>by rw[if_neg (by omega)];exact ae.refl _
  rw[Nat.sub_self];exact(ae.sW _ _).trans ((Q8 l).trans (hs.symm.trans ((h0.mY r).symm.append (ae.refl (aJ L (n+V) R)))))
 ·rw[Nat.sub_self,Nat.zero_mul,Nat.zero_mul];exact h i hi
theorem qnn(L n:Nat)(P:Nat->List Tm)(r:List Tm):ae (aJ L n λi=>ai (P i) r) (ai (aJ L n P) r):=VN L n P r
theorem Bl.step{L n V B C A D:Nat}{l r:List Tm}{k:Nat}{R T G:Nat->List Tm}(h:Bl L n V B C A D (G n) l r (k+1) R T)(hk:k<V)(hr:ae (aJ L (n+1) G) r)(hG:∀i,i<n+1->iA L C D (G i))(hT:T k=R (n+k)):
 Bl L n V B C A D (G n) l r k (nZ k (G n) (R (n+k)) G R (n+k)) T:=by
 obtain⟨h1,h2,h3⟩:=h
 have es:V-k=(V-(k+1))+1:=by omega
 have e1:(V-k)*C=(V-(k+1))*C+C:=by rw[es,Nat.add_mul,Nat.one_mul]
 have e2:(V-k)*(D+1)=(V-(k+1))*(D+1)+(D+1):=by rw[es,Nat.add_mul,Nat.one_mul]
 have e3:=Nat.mul_le_mul_right C (show V-(k+1)<=V by omega);have e4:=Nat.mul_le_mul_right (D+1) (show V-(k+1)<=V by omega);refine⟨?_,λi hi=>?_,λi hi hiV=>?_⟩
 ·have hQ:ae (MN L V k (G n) T) (ai (MN L V (k+1) (G n) T) (G n)++shift (xp L (k:Int)) (R (n+k))):=by
   have hg:=(qda (L:=L) hk (F':=λi=>if k<=i then(if i=k then R (n+k)else ai (T i) (bA (G n) (i-k)))else[]) (F:=λi=>if k+1<=i then ai (T i) (bA (G n) (i-k))else[]) (l:=R (n+k)) (λi hi gH=>?_) ?_).1
   ·refine ae.trans (sZ _ _ _ _ λi hi=>?_) (hg.trans ((ae.trans (sZ _ _ _ (λi=>ai (if k+1<=i then ai (T i) (bA (G n) (i-(k+1)))else[]) (G n)) λi hi=>?_) (qnn _ _ _ _)).append (ae.refl _)))
    ·by_cases h5:k<=i
     ·rw[if_pos h5,if_pos h5]
      by_cases h6:i=k
      ·rw[if_pos h6,h6,Nat.sub_self,hT];exact Q8 _
      ·rw[if_neg h6];exact ae.refl _
     ·rw[if_neg h5,if_neg h5];exact ae.refl _
    ·by_cases h5:k+1<=i
     ·rw[if_pos h5,if_pos h5,show i-k=(i-(k+1))+1 by omega,JO];exact(ae.MO _ _ _).symm
     ·rw[if_neg h5,if_neg h5];exact ae.refl _
   ·by_cases h5:k<=i
    ·rw[if_pos h5,if_neg gH,if_pos (by omega)]
    ·rw[if_neg h5,if_neg (by omega)]
   ·show(if k<=k then(if k=k then R (n+k)else ai (T k) (bA (G n) (k-k)))else[])=(if k+1<=k then ai (T k) (bA (G n) (k-k))else[])++R (n+k);rw[if_pos (Nat.le_refl _),if_pos rfl,if_neg (by omega)];rfl
  have hU:=((hr.symm.rf (shift (xp L (k:Int)) (R (n+k))))).trans (qno L k (R (n+k)) G (n+1))
  have hU2:ae (aJ L (k+(n+1)) λi=>if k<=i then ai (R (n+k)) (G (i-k))else[]) (aJ L (n+k) (λi=>if k<=i then ai (R (n+k)) (G (i-k))else[])++shift (xp L ((n+k:Nat):Int)) (ai (R (n+k)) (G n))):=by
   rw[show k+(n+1)=(n+k)+1 by omega,fK,if_pos (by omega),show n+k-k=n by omega];exact ae.refl _
  have hR:ae (aJ L (n+k) (nZ k (G n) (R (n+k)) G R (n+k))) (ai (aJ L (n+k) R) (G n)++di (aJ L (n+k) λi=>if k<=i then ai (R (n+k)) (G (i-k))else[])):=by
   refine ae.trans (sZ _ _ _ (λi=>ai (R i) (G n)++di (if k<=i then ai (R (n+k)) (G (i-k))else[])) λi hi=>?_) ((qni _ _ _ _).trans ((qnn _ _ _ _).append (VN _ _ _ _)));unfold nZ;rw[if_pos hi]
   by_cases h5:k<=i
   ·rw[if_pos h5,if_pos h5];exact ae.refl _
   ·rw[if_neg h5,if_neg h5];intro m;rw[gW,qA];simp[aB]
  have hT:ae (ai (aJ L (n+k+1) R) (G n)) (ai (aJ L (n+k) R) (G n)++shift (xp L ((n+k:Nat):Int)) (ai (R (n+k)) (G n))):=by
   rw[fK,Cw];exact(ae.refl _).append (G7 _ _ _)
  have hL:ae (ai (bA (G n) (V-k)) l) (ai (ai (MN L V (k+1) (G n) T) (G n)) r++ai (aJ L (n+k+1) R) (G n)):=by
   rw[es,JO];refine(ae.MO _ _ _).trans (((ae.sW _ _).rf _).trans ((ae.MO _ _ _).symm.trans ((h1.mY _).trans ?_)));rw[Cw];refine ae.append ?_ (ae.refl _);exact(ae.MO _ _ _).trans (((ae.sW _ _).rf _).trans (ae.MO _ _ _).symm)
  intro m;have a1:=hL m;have a2:=(hQ.mY r) m;have a3:=(hU.trans hU2) m;have a4:=hR m;have a5:=hT m;rw[Cw]at a2;simp only[gW,qA]at a1 a2 a3 a4 a5⊢;omega
 ·rw[e1,e2];have g1:=h2 i (by omega);have gt:=h2 (n+k) (by omega);have gn:=hG n (Nat.lt_succ_self n);unfold nZ;rw[if_pos hi, <-Nat.add_assoc B]
  by_cases h5:k<=i
  ·rw[if_pos h5];exact((g1.ai gn).sub (gt.ai (hG (i-k) (by omega)))).mono (Nat.le_refl _) (by omega)
  ·rw[if_neg h5];exact(g1.ai gn).mono (Nat.le_refl _) (by omega)
 ·by_cases gH:i=k
  ·rw[gH,hT];exact(h2 (n+k) (by omega)).mono (by omega) (by omega)
  ·exact h3 i (by omega) hiV
def fT(n V:Nat)(G R0:Nat->List Tm):Nat->Nat->List Tm
 |0=>R0
 |t+1=>nZ (V-1-t) (G n) (fT n V G R0 t (n+(V-1-t))) G (fT n V G R0 t) (n+(V-1-t))
def uG(n V:Nat)(G R0:Nat->List Tm)(i:Nat):List Tm:=fT n V G R0 (V-1-i) (n+i)
theorem qne{n V k:Nat}(G R0:Nat->List Tm)(hk:k<V):fT n V G R0 (V-k)=nZ k (G n) (fT n V G R0 (V-(k+1)) (n+k)) G (fT n V G R0 (V-(k+1))) (n+k):=by
 have e:V-k=(V-(k+1))+1:=by omega
 rw[e];show nZ (V-1-(V-(k+1))) _ _ _ _ _=_;rw[show V-1-(V-(k+1))=k by omega]
theorem qnf{n V k:Nat}(G R0:Nat->List Tm):uG n V G R0 k=fT n V G R0 (V-(k+1)) (n+k):=by
 unfold uG;rw[show V-1-k=V-(k+1) by omega]
theorem qc7{L n V B C A D:Nat}{l r:List Tm}{R0 G:Nat->List Tm}(hs:ae (aJ L (n+V) R0) l)(h:∀i,i<n+V->iA L B A (R0 i))(hr:ae (aJ L (n+1) G) r)(hG:∀i,i<n+1->iA L C D (G i)):∀t,t<=V->Bl L n V B C A D (G n) l r (V-t) (fT n V G R0 t) (uG n V G R0)
 |0,_=>Bl.start hs h
 |t+1,ht=>by
  have ih:=qc7 hs h hr hG t (by omega);rw[show V-t=(V-(t+1))+1 by omega]at ih;have h2:=ih.step (by omega) hr hG (by rw[qnf];rw[show V-(V-(t+1)+1)=t by omega]);have h3:=qne (n:=n) (V:=V) (k:=V-(t+1)) G R0 (by omega);rw[show V-(V-(t+1))=t+1 by omega,show V-(V-(t+1)+1)=t by omega]at h3;rw[h3];exact h2
theorem Bl.done{L n V B C A D:Nat}{c l r:List Tm}{R T:Nat->List Tm}(h:Bl L n V B C A D c l r 0 R T):ae (ai (bA c V) l) (ai (aJ L V λi=>ai (T i) (bA c i)) r++aJ L n R):=by
 have h1:=h.1
 have h2:MN L V 0 c T=aJ L V λi=>ai (T i) (bA c i):=VQ _ _ _ _ λi _=>by rw[if_pos (Nat.zero_le _),Nat.sub_zero]
 rw[h2]at h1;exact h1
theorem qsZ{L n:Nat}(h1:1<=L)(h4:L<=4){R:Nat->List Tm}(hf:∀i,i<n->gK L (R i)){m:Mo}(hm:aB (aJ L n R) m≠0):m.get L<(n:Int):=by
 induction n with
 |zero=>exact absurd rfl hm
 |succ n ih=>
  rw[fK,gW,rG]at hm
  by_cases hc:aB (aJ L n R) m=0
  ·have dO:aB (R n) (Mo.sub m (xp L (n:Int)))≠0:=by omega
   have:=hf n (by omega) _ dO;rw[sJ,dX _ _ _ h1 h4,if_pos rfl]at this;omega
  ·have:=ih (λi hi=>hf i (by omega)) hc;omega
theorem qxE{L n a:Nat}(h1:1<=L)(h4:L<=4){R:Nat->List Tm}(hf:∀i,i<n->gK L (R i))(hn:∀i,i<n->NN (R i))(hz:¬ae (aJ L n R) [])(hd:bD L (aJ L n R) a):a<n:=by
 obtain⟨m,hm,hg⟩:=OM (NN.aJ hn) hz hd;have:=qsZ h1 h4 hf hm;omega
theorem OU{w wr w':World}{r:Option Nat}(h:w.grownBy wr r)(he:Ext wr w'):w.grownBy w' r:=OY h (he.grownBy r)
theorem qax{w wr:World}{g b:Nat}(h:w.grownBy wr (some g))(hb:b=g\/w.heap.size<=b)(o:Nat)(e0 e1 e2 e3:Value):w.grownBy (aH wr b o e0 e1 e2 e3) (some g):=
 ⟨h.os,h.tape,h.output,by rw[lU];exact h.size,λi hi hr=>by
  rw[il _ _ _ _ _ _ _ _ (λe=>by
   rcases hb with rfl|hb
   ·exact hr (by rw[e])
   ·omega)]
  exact h.block i hi hr⟩
def FI(g o:Nat)(y:PE)(gd o2:Nat)(c:PE)(w:World):Prop:=eX w g o y/\eX w gd o2 c/\g<w.heap.size/\gd<w.heap.size
theorem FI.ext{g o:Nat}{y:PE}{gd o2:Nat}{c:PE}{w w':World}(h:FI g o y gd o2 c w)(he:Ext w w'):FI g o y gd o2 c w':=⟨h.1.ext h.2.2.1 he,h.2.1.ext h.2.2.2 he,Nat.lt_of_lt_of_le h.2.2.1 he.size,Nat.lt_of_lt_of_le h.2.2.2 he.size⟩
def KS(g o:Nat)(y:PE)(gt:Nat)(z:PE)(gd o2:Nat)(c:PE)(w:World):Prop:=eX w g o y/\P4 w gt z/\eX w gd o2 c/\g<w.heap.size/\gt<w.heap.size/\gd<w.heap.size
theorem KS.ext{g o:Nat}{y:PE}{gt:Nat}{z:PE}{gd o2:Nat}{c:PE}{w w':World}(h:KS g o y gt z gd o2 c w)(he:Ext w w'):KS g o y gt z gd o2 c w':=⟨h.1.ext h.2.2.2.1 he,h.2.1.ext he,h.2.2.1.ext h.2.2.2.2.2 he,Nat.lt_of_lt_of_le h.2.2.2.1 he.size,Nat.lt_of_lt_of_le h.2.2.2.2.1 he.size,Nat.lt_of_lt_of_le h.2.2.2.2.2 he.size⟩
def qgz(M:Nat->Prop)(w:World)(n V g:Nat)(G R0:Nat->List Tm)(e:Ending)(w':World):Prop:=∃gt,e=.returned (.tuple #[.slice (some ⟨gt,0,none⟩) V V,.slice (some ⟨g,0,none⟩) n (n+V)])/\w.heap.size<=gt/\Kids (λb=>M b\/b=gt) w' 4 g (n+V) (fT n V G R0 V)/\Kids (λb=>M b\/b=gt) w' 4 gt V (uG n V G R0)/\w.grownBy w' (some g)
theorem qxz{L n V B C A D:Nat}{R0 G:Nat->List Tm}(h:∀i,i<n+V->iA L B A (R0 i))(hG:∀i,i<n+1->iA L C D (G i))(t:Nat)(ht:t<=V)(i:Nat)(hi:i<n+(V-t)):iA L (B+V*C) (A+V*(D+1)) (fT n V G R0 t i):=by
 have:=(qc7 (l:=aJ L (n+V) R0) (r:=aJ L (n+1) G) (ae.refl _) h (ae.refl _) hG t ht).2.1 i hi;rw[show V-(V-t)=t by omega]at this;have e1:=Nat.mul_le_mul_right C ht;have e2:=Nat.mul_le_mul_right (D+1) ht;exact this.mono (by omega) (by omega)
theorem qxU(M:Nat->Prop)(L n V B C A D g gd:Nat)(R0 G:Nat->List Tm)(w:World)(hM:Mb M w)(hg:M g)(iF:gd≠g)(hR:Kids M w 4 g (n+V) R0)(hG:Kids M w 4 gd (n+1) G)(hV:1<=V)(hnV:n+V<=1000000)
 (Ea:∀i,i<n+V->iA L B A (R0 i)) (D6:∀i,i<n+1->iA L C D (G i)) (hB:B+V*C+C<=1000000) (mF:(B+V*C+1)*(C+1)<=1099511627776) (hA:A+V*(D+1)+D+2<=549755813888):
 Calls Tryz.prog 61 #[.slice (some ⟨g,0,none⟩) (n+V) (n+V),.slice (some ⟨gd,0,none⟩) (n+1) (n+1)] w (qgz M w n V g G R0):=by
 obtain⟨i0,hi,hz0,hz1,hz2⟩:=info_parts Tryz.yo;have HM:=Lib.hid hM;have HG:=Lib.hid hG;have HR:=Lib.hid hR;have oM:=Lib.hid Ea;have Xy:=Lib.hid D6;have HB:=Lib.hid hB;have oL:=Lib.hid mF;have HA:=Lib.hid hA;have Fq:=Lib.hid hg;have dZ:=(hR.at 0 (by omega)).2.2.2.2.2;have qkn:=(hG.at 0 (by omega)).2.2.2.2.2;have iw:(0:Int)<=(n:Int):=Int.natCast_nonneg _
 have hV1:(1:Int)<=(V:Int):=by omega
 have Jn:(n:Int)+(V:Int)<=1000000:=by omega
 clear hM hR hG Ea D6 hB mF hA hg
 go_enter Tryz.func61,Tryz.ntmps61
 have iT:(n:Int)+(V:Int)-(n:Int)=(V:Int):=by omega
 have hmx:max (V:Int) 0=(V:Int):=by omega
 go_upto_region 3 with(fail)
 go_wp2_with (first|(at_make;refine Nb _ rfl _ _ _ rfl 33 i0 (.agg #[.int .i64 0,.bool false,.slice none 0 0,.slice none 0 0]) 4 Tryz.underlying31 hi hz0 hz1 .i64 .i64 _ _ V rfl rfl ?c4 ?c5 ?c2 ?c3 ?_))
 case c2=>rw[hz2];omega
 case c3=>unfold maxLen;omega
 case c4=>go_num
 case c5=>go_num
 have bI:=OA w V 33;have af:=(Ext.refl w).alloc (.cells (madeCells (Value.agg #[.int .i64 0,.bool false,.slice none 0 0,.slice none 0 0]).cells (V*4)) 33);intro w1 hw1;replace hw1:w.alloc (.cells (madeCells (Value.agg #[.int .i64 0,.bool false,.slice none 0 0,.slice none 0 0]).cells (V*4)) 33)=w1:=hw1.out.symm;rw[hw1]at bI af;obtain⟨gt,jR⟩:∃gt,gt=w.heap.size:=⟨_,rfl⟩;rw[<-jR]at bI⊢
 have Gi:g≠gt:=by omega
 have quf:gd≠gt:=by omega
 have Mc:∀b,(M b\/b=gt)->M b\/w.heap.size<=b:=λb hb=>hb.imp id λh=>by omega
 have kW:Hid (Mb (λb=>M b\/b=gt) w1):=mO (HM.out.ext af) bI.lt
 have tZ:Hid (Kids (λb=>M b\/b=gt) w1 4 g (n+V) (fT n V G R0 0)):=by
  exact(HR.out.more Mc).ext af
 have Ku:Hid (Kids (λb=>M b\/b=gt) w1 4 gt V (λi=>if V<=i then uG n V G R0 i else[])):=(Kids.fresh bI).congr λi hi=>by rw[if_neg (by omega)];exact ae.refl _
 have xm:Hid (Kids (λb=>M b\/b=gt) w1 4 gd (n+1) G):=(HG.out.more Mc).ext af;have qeN:Hid (w.grownBy w1 (some g)):=af.grownBy _;have Ff:Hid (gt=w.heap.size):=jR;have qiB:Hid (∀t,t<=V->∀i,i<n+(V-t)->iA L (B+V*C) (A+V*(D+1)) (fT n V G R0 t i)):=qxz oM.out Xy.out;have RJ:Hid (∀i,i<n+1->iA L C D (G i)):=Xy.out;clear hw1 bI af HR HG oM Xy HM jR Mc hi hz0 hz1 hz2;go_wp2
 go_loopw [23,0] (λiv rs wr=>∃t k:Nat,t+k=V/\iv=.int .i64 (t:Int)/\rs=.slice (some ⟨g,0,none⟩) (n+k) (n+V)/\Hid (Kids (λb=>M b\/b=gt) wr 4 g (n+V) (fT n V G R0 t))/\Hid (Kids (λb=>M b\/b=gt) wr 4 gt V (λi=>if k<=i then uG n V G R0 i else[]))/\Hid (Kids (λb=>M b\/b=gt) wr 4 gd (n+1) G)/\Hid (Mb (λb=>M b\/b=gt) wr)/\Hid (w.grownBy wr (some g))) (λiv _ _=>V-(intOf iv).toNat)
 case atStart=>exact⟨0,V,Nat.zero_add V,rfl,rfl,tZ,Ku,xm,kW,qeN⟩
 case round=>
  clear tZ Ku xm kW qeN iT hmx;obtain⟨t,k1,Ql,rfl,rfl,HR,HT,HG,dL,vR⟩:=hrel
  by_cases fJ:k1=0
  ·subst fJ
   obtain rfl:t=V:=by omega
   have iZ:¬(t:Int)<(t:Int):=by omega
   have HF:Hid (qgz M w n t g G R0 (.returned (.tuple #[.slice (some ⟨gt,0,none⟩) t t,.slice (some ⟨g,0,none⟩) n (n+t)])) wr):=⟨gt,rfl,Nat.le_of_eq Ff.out.symm,HR.out,HT.out.congr λi _=>by rw[if_pos (Nat.zero_le _)];exact ae.refl _,vR.out⟩;clear HR HT HG dL vR;go_wp2;exact bodyPost_ret (v:=.tuple #[.slice (some ⟨gt,0,none⟩) t t,.slice (some ⟨g,0,none⟩) n (n+t)]) (by simp[results,Tryz.results61,go_sem]) rfl HF.out
  ·obtain⟨k,rfl⟩:∃k,k1=k+1:=⟨k1-1,by omega⟩
   have hlt:(t:Int)<(V:Int):=by omega
   have Er:(V:Int)-1-(t:Int)=(k:Int):=by omega
   have quD:(0:Int)<=(k:Int):=Int.natCast_nonneg _
   have qu1:(0:Int)<=(n:Int)+(k:Int):=by omega
   have qu2:(n:Int)+(k:Int)<(n:Int)+((k:Int)+1):=by omega
   have qu3:((n:Int)+(k:Int)).toNat=n+k:=by omega
   have xG:Hid (t+(k+1)=V):=Ql;obtain⟨z,⟨z0,z1,z2,z3⟩,hz⟩:=HR.out.jH (n+k) (by omega);have pI:=HR.out.lt;obtain⟨gp,En⟩:∃gp,wr.heap.size=gp:=⟨_,rfl⟩;have aN:=(Ext.refl wr).alloc (.cells (ah z) 33);have bH:=ak.bf wr (ah z) 33 4 rfl;rw[En]at bH;have qus:=HT.out.lt
   have qkr:gp≠g:=by omega
   have qul:gp≠gt:=by omega
   obtain⟨W2,jg⟩:∃W2,wr.alloc (.cells (ah z) 33)=W2:=⟨_,rfl⟩;rw[jg]at aN bH;have uS:=Lib.hid jg;have NI:=Lib.hid En;have vC:=HT.out.ext aN;obtain⟨⟨_,k0⟩,⟨_,k1⟩,⟨_,k2⟩,⟨_,k3⟩,aV,qut⟩:=vC.at k (by omega);have fB:=aV (k*4);have fo:=aV (k*4+1);have lh:=aV (k*4+2);have pG:=aV (k*4+3);obtain⟨p0,p1,p2,p3⟩:=bH.p4
   have hkV:(k:Int)<(V:Int):=by omega
   obtain⟨W3,qo⟩:∃W3,aH W2 gt (k*4) (.int .i64 z.lv) (.bool z.b) (.slice z.a z.n z.p) (.slice z.ka z.kn z.kp)=W3:=⟨_,rfl⟩;have Gm:Kp (λb=>M b\/b=gt) W2 W3:=qo ▸ Kp.aH (.inr rfl) _ _ _ _ _;have U8:∀b,b≠gt->W3.heap[b]?=W2.heap[b]?:=λb hb=>qo ▸ il _ _ _ _ _ _ _ _ hb;have Qk:W3.heap.size=W2.heap.size:=qo ▸ lU _ _ _ _ _ _ _
   have HT3:Hid (Kids (λb=>M b\/b=gt) W3 4 gt V (λi=>if k<=i then uG n V G R0 i else[])):=by
    have h5:=vC.set (.inr rfl) k (by omega) (hz.ext aN);rw[qo]at h5;refine h5.congr λi hi=>?_
    by_cases h1:i=k
    ·subst h1;rw[if_pos rfl,if_pos (Nat.le_refl _),qnf,show V-(i+1)=t by omega];exact ae.refl _
    ·rw[if_neg h1]
     by_cases h2:k+1<=i
     ·rw[if_pos h2,if_pos (by omega)];exact ae.refl _
     ·rw[if_neg h2,if_neg (by omega)];exact ae.refl _
   have qD:Hid (Kids (λb=>M b\/b=gt) W3 4 g (n+V) (nZ k (G n) (fT n V G R0 t (n+k)) G (fT n V G R0 t) 0)):=((HR.out.ext aN).kp (U8 g Gi) Gm).congr λi _=>by rw[qxF];exact ae.refl _
   have uN:Hid (Kids (λb=>M b\/b=gt) W3 4 gd (n+1) G):=(HG.out.ext aN).kp (U8 gd quf) Gm;have Kk:Hid (P4 W3 gp z):=rW bH.p4 (U8 gp qul);have HZ3:Hid (aI (λb=>M b\/b=gt) W3 4 z (fT n V G R0 t (n+k))):=(hz.ext aN).kp Gm;have uQ:Hid (Mb (λb=>M b\/b=gt) W3):=(dL.out.ext aN).size (by omega);have qeO:Hid (w.grownBy W3 (some g)):=qo ▸ qax (OU vR.out aN) (.inr (Nat.le_of_eq Ff.out.symm)) _ _ _ _ _;have RL:Hid (∀i,i<n+(k+1)->iA L (B+V*C) (A+V*(D+1)) (fT n V G R0 t i)):=λi hi=>qiB.out t (by omega) i (by omega);unfold aH at qo;have Bh:=Lib.hid qo;clear hz fJ Ql jg En qo vC aV bH aN Gm U8 Qk HT HR HG dL vR qiB pI qus
   go_upto_region 9 with(fail)
   rw[uS.out,NI.out];clear z0 z1 z2 z3
   go_upto_region 10 with(fail)
   rw[Bh.out];clear k0 k1 k2 k3 fB fo lh pG p0 p1 p2 p3 qut uS Bh NI;go_wp2
   go_loopw [47] (λjv tJ=>∃j:Nat,j<=n+k/\jv=.int .i64 (j:Int)/\Hid (Kids (λb=>M b\/b=gt) tJ 4 g (n+V) (nZ k (G n) (fT n V G R0 t (n+k)) G (fT n V G R0 t) j))/\Hid (Kids (λb=>M b\/b=gt) tJ 4 gt V (λi=>if k<=i then uG n V G R0 i else[]))/\Hid (Kids (λb=>M b\/b=gt) tJ 4 gd (n+1) G)/\Hid (P4 tJ gp z)/\Hid (aI (λb=>M b\/b=gt) tJ 4 z (fT n V G R0 t (n+k)))/\Hid (Mb (λb=>M b\/b=gt) tJ)/\Hid (w.grownBy tJ (some g))) (λjv _=>n+k-(intOf jv).toNat)
   case atStart=>exact⟨0,Nat.zero_le _,rfl,qD,HT3,uN,Kk,HZ3,uQ,qeO⟩
   case round=>
    clear qD HT3 uN Kk HZ3 uQ qeO;obtain⟨j,hj,rfl,HR,HT,HG,HP,HZ,dL,vR⟩:=hrel
    by_cases nU:j<n+k
    ·have ry:=Lib.hid nU
     have Gs:(j:Int)<(n:Int)+(k:Int):=by omega
     have hj0:(0:Int)<=(j:Int):=Int.natCast_nonneg _;obtain⟨y,vI,hy⟩:=HR.out.jH j (by omega);rw[qxB]at hy;obtain⟨c,fD,hc⟩:=HG.out.jH n (by omega);have UO:=HR.out.lt;have UN:=HG.out.lt;have hd:=(Ext.refl wr).drew;have hS:FI g (j*4) y gd (n*4) c wr.drew:=FI.ext ⟨vI,fD,UO,UN⟩ hd;have HR4:=Lib.hid (HR.out.ext hd);have Dw:=Lib.hid (HT.out.ext hd);have HG4:=Lib.hid (HG.out.ext hd);have Fs:Hid (P4 wr.drew gp z):=HP.out.ext hd;have HZ4:=Lib.hid (HZ.out.ext hd);have X8:=Lib.hid (dL.out.ext hd);have qeP:=Lib.hid (OU vR.out hd);have Ir:=Lib.hid (hy.ext hd);have Nz:=Lib.hid (hc.ext hd);have quu:g<wr.drew.heap.size:=hS.2.2.1;have qug:gd<wr.drew.heap.size:=hS.2.2.2;have qBV:(0:Int)<=(n:Int):=iw
     have qCo:(n:Int)<(n:Int)+1:=by omega
     clear vI fD hy hc hd HR HT HG HP HZ dL vR nU
     go_upto_region 14 with(fail)
     refine fM (FI g (j*4) y gd (n*4) c) 12 (by kernel_rfl) hS (λhHeld=>?_);clear hS;generalize wr.drew=wd at*
     have Ng:Hid (∀W:World,Ext wd W->Calls Tryz.prog 55 #[.agg (ah y),.agg (ah c)] W (dH (λb=>M b\/b=gt) W 4 (ai (fT n V G R0 t j) (G n)))):=λW he=>by
      have h1:=RL.out j (by have:=ry.out;omega);have h2:=RJ.out n (by omega);have h3:=HA.out;exact V3 _ y c _ _ (B+V*C) C W (X8.out.ext he) (Ir.out.ext he).pi (Nz.out.ext he).pi (by have:=h1.2.2.2;have:=h2.2.2.2;omega) h1.2.2.1 h2.2.2.1 oL.out
     (refine dF [0,1,2,3,4,5,6,7,8,9] ?_;(iterate 10 (refine dD (v:=?_) ?_ ?_;rotate_left 1;(intro wS hSw;obtain⟨⟨S1,S2,S3,S4⟩,⟨S5,S6,S7,S8⟩,S9,vZ⟩:=hSw;go_simp;try with_reducible rfl);(try simp only[Act.put,aD,aF,aG])));refine dG ?_);((refine aK 10 ?_;intro K hK);go_simp;(refine(Ng.out _ (Ext.refl _)).mono ?_);rintro e_ u1 ⟨v,rfl,hv,bN⟩;go_wp2_with (fail);(try clear ag);(have ag:=hHeld.ext bN);(refine hK.out _ _ (λ_=>ag) ?_);clear hK K;(try simp only[Act.put,aD,aF,aG]));(refine dF [11] ?_;(iterate 1 (refine dD (v:=?_) ?_ ?_;rotate_left 1;(intro wS hSw;obtain⟨⟨S1,S2,S3,S4⟩,⟨S5,S6,S7,S8⟩,S9,vZ⟩:=hSw;go_simp;try with_reducible rfl);(try simp only[Act.put,aD,aF,aG])));refine dG ?_);have LJ:=HR4.out.ext bN;obtain⟨⟨_,k0⟩,⟨_,k1⟩,⟨_,k2⟩,⟨_,k3⟩,aV,kN⟩:=LJ.at j (by have:=ry.out;omega);have fB:=aV (j*4);have fo:=aV (j*4+1);have lh:=aV (j*4+2);have pG:=aV (j*4+3);obtain⟨W4,lY⟩:∃W4,aH u1 g (j*4) (.int .i64 v.lv) (.bool v.b) (.slice v.a v.n v.p) (.slice v.ka v.kn v.kp)=W4:=⟨_,rfl⟩;have Es:Kp (λb=>M b\/b=gt) u1 W4:=lY ▸ Kp.aH (.inl Fq.out) _ _ _ _ _;have EB:∀b,b≠g->W4.heap[b]?=u1.heap[b]?:=λb hb=>lY ▸ il _ _ _ _ _ _ _ _ hb;have Jt:W4.heap.size=u1.heap.size:=lY ▸ lU _ _ _ _ _ _ _
     have Km:Hid (Kids (λb=>M b\/b=gt) W4 4 g (n+V) (λi=>if i=j then ai (fT n V G R0 t j) (G n)else nZ k (G n) (fT n V G R0 t (n+k)) G (fT n V G R0 t) j i)):=by
      have h5:=LJ.set (.inl Fq.out) j (by have:=ry.out;omega) hv;rw[lY]at h5;exact h5
     have YH:Hid (Kids (λb=>M b\/b=gt) W4 4 gt V (λi=>if k<=i then uG n V G R0 i else[])):=(Dw.out.ext bN).kp (EB gt (Ne.symm Gi)) Es;have Fe:Hid (Kids (λb=>M b\/b=gt) W4 4 gd (n+1) G):=(HG4.out.ext bN).kp (EB gd iF) Es;have mo:Hid (P4 W4 gp z):=rW (Fs.out.ext bN) (EB gp qkr);have KE:Hid (aI (λb=>M b\/b=gt) W4 4 z (fT n V G R0 t (n+k))):=(HZ4.out.ext bN).kp Es;have yP:Hid (Mb (λb=>M b\/b=gt) W4):=(X8.out.ext bN).size (by omega);have XP:Hid (w.grownBy W4 (some g)):=lY ▸ qax (OU qeP.out bN) (.inl rfl) _ _ _ _ _;unfold aH at lY;have Bi:=Lib.hid lY;clear LJ aV hv bN Es EB Jt lY HR4 Dw HG4 Fs HZ4 X8 qeP Ir Nz Ng hHeld ag;((refine aK 12 ?_;intro K hK);go_simp;(refine hK.out _ _ (λh=>absurd rfl h) ?_);clear hK K;refine ek ?_)
     go_upto_region 15 with(fail)
     rw[Bi.out];clear k0 k1 k2 k3 fB fo lh pG kN Bi
     by_cases pJ:k<=j
     ·have qbJ:(k:Int)<=(j:Int):=by omega
      have XW:=Lib.hid pJ;obtain⟨q,hq⟩:∃q,q=j-k:=⟨_,rfl⟩
      have hqI:(j:Int)-(k:Int)=(q:Int):=by omega
      have rT:(0:Int)<=(q:Int):=Int.natCast_nonneg _
      have wQ:(q:Int)<(n:Int)+1:=by have:=ry.out;omega
      have qca:q<n+1:=by omega
      have EE:IntKind.i64.wrap (q:Int)=(q:Int):=by rw[IntKind.wrap_i64];omega
      obtain⟨y2,vI,hy⟩:=Km.out.jH j (by have:=ry.out;omega);rw[if_pos rfl]at hy;obtain⟨c2,fD,hc⟩:=Fe.out.jH q qca;have UO:=Km.out.lt;have UN:=Fe.out.lt;have hd:=(Ext.refl W4).drew;have qks:=World.block_lt_of_cell? _ _ mo.out.1;have hS:KS g (j*4) y2 gp z gd (q*4) c2 W4.drew:=KS.ext ⟨vI,mo.out,fD,UO,qks,UN⟩ hd;have Dr:=Lib.hid (Km.out.ext hd);have HT6:=Lib.hid (YH.out.ext hd);have HG6:=Lib.hid (Fe.out.ext hd);have HP6:Hid (P4 W4.drew gp z):=mo.out.ext hd;have KF:=Lib.hid (KE.out.ext hd);have Sn:=Lib.hid (yP.out.ext hd);have qeQ:=Lib.hid (OU XP.out hd);have HY6:=Lib.hid (hy.ext hd);have HC6:=Lib.hid (hc.ext hd);have HQ:=Lib.hid hq;have quu:g<W4.drew.heap.size:=hS.2.2.2.1;have qug:gd<W4.drew.heap.size:=hS.2.2.2.2.2;have qBH:gp<W4.drew.heap.size:=hS.2.2.2.2.1;have HQN:=Lib.hid qca;clear vI fD hy hc hd Km YH Fe mo KE yP XP pJ hq qca UO UN qks
      go_upto_region 16 with(fail)
      refine fM (KS g (j*4) y2 gp z gd (q*4) c2) 16 (by kernel_rfl) hS (λhHeld=>?_);clear hS;generalize W4.drew=Hq at*;have vT:Hid (iA L (B+V*C+C) (A+V*(D+1)+D) (ai (fT n V G R0 t j) (G n))):=(RL.out j (by have:=ry.out;omega)).ai (RJ.out n (by omega));have kV:Hid (iA L (B+V*C+C) (A+V*(D+1)+D) (ai (fT n V G R0 t (n+k)) (G q))):=(RL.out (n+k) (by omega)).ai (RJ.out q HQN.out)
      have C16:Hid (∀W:World,Ext Hq W->Calls Tryz.prog 55 #[.agg (ah z),.agg (ah c2)] W (dH (λb=>M b\/b=gt) W 4 (ai (fT n V G R0 t (n+k)) (G q)))):=λW he=>by
       have h1:=RL.out (n+k) (by omega);have h2:=RJ.out q HQN.out;have h3:=HA.out;exact V3 _ z c2 _ _ (B+V*C) C W (Sn.out.ext he) (KF.out.ext he).pi (HC6.out.ext he).pi (by have:=h1.2.2.2;have:=h2.2.2.2;omega) h1.2.2.1 h2.2.2.1 oL.out
      have EX:Hid (∀(W:World)(x:PE),Ext Hq W->aI (λb=>M b\/b=gt) W 4 x (ai (fT n V G R0 t (n+k)) (G q))->Calls Tryz.prog 38 #[.agg (ah y2),.agg (ah x)] W (dH (λb=>M b\/b=gt) W 4 (ai (fT n V G R0 t j) (G n)++di (ai (fT n V G R0 t (n+k)) (G q))))):=λW x he hx=>by
       have h1:=vT.out.sub kV.out;have h3:=HA.out;have h4:=HB.out;exact qnR _ y2 x _ _ (B+V*C+C) W (Sn.out.ext he) (HY6.out.ext he).pi hx.pi (Nat.le_trans h1.2.2.2 (by omega)) (by have:=kV.out.2.2.2;omega) kV.out.2.2.1 (by omega)
      (refine dF [0,1,2,3,4,5,6,7,8,9,10,11,12] ?_;(iterate 13 (refine dD (v:=?_) ?_ ?_;rotate_left 1;(intro wS hSw;obtain⟨⟨S1,S2,S3,S4⟩,⟨S5,S6,S7,S8⟩,⟨S9,vZ,yZ,wh⟩,Tv,FI,S15⟩:=hSw;go_simp;try with_reducible rfl);(try simp only[Act.put,aD,aF,aG])));refine dG ?_);((refine aK 13 ?_;intro K hK);go_simp;(refine(C16.out _ (Ext.refl _)).mono ?_);rintro e_ u2 ⟨x,rfl,hx,bN⟩;go_wp2_with (fail);(try clear ag);(have ag:=hHeld.ext bN);(refine hK.out _ _ (λ_=>ag) ?_);clear hK K;(try simp only[Act.put,aD,aF,aG]));((refine aK 14 ?_;intro K hK);go_simp;(refine(EX.out _ x bN hx).mono ?_);rintro e_ u3 ⟨v2,rfl,hv2,iG⟩;go_wp2_with (fail);(try clear ag);(have ag:=hHeld.ext (bN.trans iG));(refine hK.out _ _ (λ_=>ag) ?_);clear hK K;(try simp only[Act.put,aD,aF,aG]));(refine dF [15] ?_;(iterate 1 (refine dD (v:=?_) ?_ ?_;rotate_left 1;(intro wS hSw;obtain⟨⟨S1,S2,S3,S4⟩,⟨S5,S6,S7,S8⟩,⟨S9,vZ,yZ,wh⟩,Tv,FI,S15⟩:=hSw;go_simp;try with_reducible rfl);(try simp only[Act.put,aD,aF,aG])));refine dG ?_);have pg:=bN.trans iG;have hR7:=Dr.out.ext pg;obtain⟨⟨_,k0⟩,⟨_,k1⟩,⟨_,k2⟩,⟨_,k3⟩,aV,kN⟩:=hR7.at j (by have:=ry.out;omega);have fB:=aV (j*4);have fo:=aV (j*4+1);have lh:=aV (j*4+2);have pG:=aV (j*4+3);have Es:Kp (λb=>M b\/b=gt) u3 (aH u3 g (j*4) (.int .i64 v2.lv) (.bool v2.b) (.slice v2.a v2.n v2.p) (.slice v2.ka v2.kn v2.kp)):=Kp.aH (.inl Fq.out) _ _ _ _ _
      have EB:∀b,b≠g->(aH u3 g (j*4) (.int .i64 v2.lv) (.bool v2.b) (.slice v2.a v2.n v2.p) (.slice v2.ka v2.kn v2.kp)).heap[b]?=u3.heap[b]?:=λb hb=>il _ _ _ _ _ _ _ _ hb;have Jt:(aH u3 g (j*4) (.int .i64 v2.lv) (.bool v2.b) (.slice v2.a v2.n v2.p) (.slice v2.ka v2.kn v2.kp)).heap.size=u3.heap.size:=lU _ _ _ _ _ _ _
      have HR7:Hid (Kids (λb=>M b\/b=gt) (aH u3 g (j*4) (.int .i64 v2.lv) (.bool v2.b) (.slice v2.a v2.n v2.p) (.slice v2.ka v2.kn v2.kp)) 4 g (n+V) (nZ k (G n) (fT n V G R0 t (n+k)) G (fT n V G R0 t) (j+1))):=by
       refine(hR7.set (.inl Fq.out) j (by have:=ry.out;omega) hv2).congr λi _=>?_;rw[qxC _ _ _ _ _ _ _ XW.out, <-HQ.out]
       by_cases h1:i=j
       ·rw[if_pos h1,if_pos h1];exact ae.refl _
       ·rw[if_neg h1,if_neg h1,if_neg h1];exact ae.refl _
      have HT7:Hid (Kids (λb=>M b\/b=gt) (aH u3 g (j*4) (.int .i64 v2.lv) (.bool v2.b) (.slice v2.a v2.n v2.p) (.slice v2.ka v2.kn v2.kp)) 4 gt V (λi=>if k<=i then uG n V G R0 i else[])):=(HT6.out.ext pg).kp (EB gt (Ne.symm Gi)) Es;have HG7:Hid (Kids (λb=>M b\/b=gt) (aH u3 g (j*4) (.int .i64 v2.lv) (.bool v2.b) (.slice v2.a v2.n v2.p) (.slice v2.ka v2.kn v2.kp)) 4 gd (n+1) G):=(HG6.out.ext pg).kp (EB gd iF) Es;have HP7:Hid (P4 (aH u3 g (j*4) (.int .i64 v2.lv) (.bool v2.b) (.slice v2.a v2.n v2.p) (.slice v2.ka v2.kn v2.kp)) gp z):=rW (HP6.out.ext pg) (EB gp qkr);have HZ7:Hid (aI (λb=>M b\/b=gt) (aH u3 g (j*4) (.int .i64 v2.lv) (.bool v2.b) (.slice v2.a v2.n v2.p) (.slice v2.ka v2.kn v2.kp)) 4 z (fT n V G R0 t (n+k))):=(KF.out.ext pg).kp Es;have Dn:Hid (Mb (λb=>M b\/b=gt) (aH u3 g (j*4) (.int .i64 v2.lv) (.bool v2.b) (.slice v2.a v2.n v2.p) (.slice v2.ka v2.kn v2.kp))):=(Sn.out.ext pg).size (by omega);have qpt:Hid (w.grownBy (aH u3 g (j*4) (.int .i64 v2.lv) (.bool v2.b) (.slice v2.a v2.n v2.p) (.slice v2.ka v2.kn v2.kp)) (some g)):=qax (OU qeQ.out pg) (.inl rfl) _ _ _ _ _;clear hR7 aV hx hv2 bN iG pg Es EB Jt Dr HT6 HG6 HP6 KF Sn qeQ HY6 HC6 C16 EX hHeld ag vT kV;((refine aK 16 ?_;intro K hK);go_simp;(refine hK.out _ _ (λh=>absurd rfl h) ?_);clear hK K;refine ek ?_);go_wp2
      go_roundw
      case rel=>exact⟨j+1,ry.out,by go_num,HR7,HT7,HG7,HP7,HZ7,Dn,qpt⟩
      case measure=>have:=ry.out;simp[intOf];omega
     ·have qbJ:¬(k:Int)<=(j:Int):=by omega
      have Dr:Hid (Kids (λb=>M b\/b=gt) W4 4 g (n+V) (nZ k (G n) (fT n V G R0 t (n+k)) G (fT n V G R0 t) (j+1))):=Km.out.congr λi _=>by rw[qxD _ _ _ _ _ _ _ pJ];exact ae.refl _
      clear Km;go_wp2
      go_roundw
      case rel=>exact⟨j+1,ry.out,by go_num,Dr,YH,Fe,mo,KE,yP,XP⟩
      case measure=>have:=ry.out;simp[intOf];omega
    ·obtain rfl:j=n+k:=by omega
     have iZ:¬(((n+k:Nat):Int))<(n:Int)+(k:Int):=by omega
     have Dr:Hid (Kids (λb=>M b\/b=gt) wr 4 g (n+V) (fT n V G R0 (t+1))):=by
      have h5:=qne (n:=n) (V:=V) (k:=k) G R0 (by have:=xG.out;omega);rw[show V-(k+1)=t by have:=xG.out;omega,show V-k=t+1 by have:=xG.out;omega]at h5;rw[h5];exact HR.out
     have YJ:Hid (t+1+k=V):=by have:=xG.out;show _=_;omega
     clear HR HP HZ;go_wp2
     go_roundw
     case rel=>exact⟨t+1,k,YJ.out,by go_num,rfl,Dr,HT,HG,dL,vR⟩
     case measure=>have:=xG.out;simp[intOf];omega
end Go.Proofs.YtmcfpnmoklnhoaaGreat
