/- pseudo.reduce: plain law. pseudo.reduce: the walk. -/
import Derived.Test.YtmcfpnmoklnhoaaGreatDr
import Derived.Test.YtmcfpnmoklnhoaaGreatDu
import Derived.Test.YtmcfpnmoklnhoaaGreatBd
import Derived.Test.YtmcfpnmoklnhoaaGreatDa
set_option linter.unusedVariables false
set_option maxRecDepth 100000
set_option maxHeartbeats 400000000
set_option linter.unusedSimpArgs false

namespace Go.Proofs.YtmcfpnmoklnhoaaGreat
open Go.RowKit

def Fre (L:Nat) (l:List Tm):Prop:=∀ m,qab l m≠0->m.get L=0
theorem Fre.nil (L:Nat):Fre L []:=fun _ hm=>absurd rfl hm
theorem Fre.append {L:Nat} {l r:List Tm} (h:Fre L l) (k:Fre L r):Fre L (l ++ r):=fun m hm=>by
 rw [qae] at hm
 by_cases h1:qab l m=0
 ·exact k m (by omega)
 ·exact h m h1
theorem Fre.neg {L:Nat} {l:List Tm} (h:Fre L l):Fre L (qbz l):=fun m hm=>h m (fun e=>hm (by rw [qaL,e];rfl))
theorem Fre.pmul {L:Nat} {l r:List Tm} (h:Fre L l) (k:Fre L r) (nl:NN l):Fre L (pmul l r):=fun m hm=>by
 have hs:=qam nl;rw [<- (hs.pmul_left r) m] at hm;obtain ⟨m1,h1,h2⟩:=qb1 (qdg (qaH l)) hm;have a1:=h m1 (by rw [<- hs m1];exact h1);have a2:=k _ h2;rw [qbG] at a2;omega
theorem qfZ {L:Nat} (h1:1<=L) (h4:L<=4) (e:Int) (l:List Tm):Fre L (ck L e l):=fun m hm=>by
 rw [qaQ h1 h4] at hm
 split at hm
 ·assumption
 ·exact absurd rfl hm
theorem qez {l r:List Tm} (h:NN l) (k:NN r):NN (pmul l r):=fun m hm=>qiE h k m hm
def Cof (L B A:Nat) (l:List Tm):Prop:=NN l/\Fre L l/\Deg B l/\dlen (nrm l)<=A
theorem Cof.mono {L B A B' A':Nat} {l:List Tm} (h:Cof L B A l) (hB:B<=B') (hA:A<=A'):Cof L B' A' l:=⟨h.1,h.2.1,h.2.2.1.mono hB,Nat.le_trans h.2.2.2 hA⟩
theorem Cof.pmul {L B A C D:Nat} {l r:List Tm} (h:Cof L B A l) (k:Cof L C D r):Cof L (B+C) (A+D) (pmul l r):=
 ⟨qez h.1 k.1,h.2.1.pmul k.2.1 h.1,Deg.pmul h.2.2.1 k.2.2.1 h.1,by rw [qbb];exact Nat.le_trans (qaD _ _) (Nat.add_le_add h.2.2.2 k.2.2.2)⟩
theorem Cof.sub {L B A:Nat} {l r:List Tm} (h:Cof L B A l) (k:Cof L B A r):Cof L B (A+1) (l ++ qbz r):=
 ⟨h.1.append (qdw k.1),h.2.1.append k.2.1.neg,h.2.2.1.append (qdQ k.2.2.1),by
  rw [qai,qdP];have:=qco (nrm l) (nrm r);have:=h.2.2.2;have:=k.2.2.2
  omega⟩
def pdS (k:Nat) (c top:List Tm) (G R:Nat->List Tm) (j i:Nat):List Tm:=if i<j then (if k<=i then pmul (R i) c ++ qbz (pmul top (G (i - k))) else pmul (R i) c) else R i
theorem qqi (k:Nat) (c top:List Tm) (G R:Nat->List Tm) (i:Nat):pdS k c top G R 0 i=R i:=if_neg (Nat.not_lt_zero _)
theorem qtn (k:Nat) (c top:List Tm) (G R:Nat->List Tm) (j:Nat):pdS k c top G R j j=R j:=if_neg (Nat.lt_irrefl _)
theorem qtl (k:Nat) (c top:List Tm) (G R:Nat->List Tm) (j i:Nat) (h : ¬ k<=j):pdS k c top G R (j+1) i=if i=j then pmul (R j) c else pdS k c top G R j i:=by
 unfold pdS
 by_cases h1:i=j
 ·subst h1;rw [if_pos (by omega),if_neg h,if_pos rfl]
 ·rw [if_neg h1]
  by_cases h2:i<j
  ·rw [if_pos h2,if_pos (by omega)]
  ·rw [if_neg h2,if_neg (by omega)]
theorem qtm (k:Nat) (c top:List Tm) (G R:Nat->List Tm) (j i:Nat) (h:k<=j):pdS k c top G R (j+1) i=if i=j then pmul (R j) c ++ qbz (pmul top (G (j - k))) else pdS k c top G R j i:=by
 unfold pdS
 by_cases h1:i=j
 ·subst h1;rw [if_pos (by omega),if_pos h,if_pos rfl]
 ·rw [if_neg h1]
  by_cases h2:i<j
  ·rw [if_pos h2,if_pos (by omega)]
  ·rw [if_neg h2,if_neg (by omega)]
def pdQ (L V k:Nat) (c:List Tm) (T:Nat->List Tm):List Tm:=poly L V fun i=>if k<=i then pmul (T i) (qbm c (i - k)) else []
def PdT (L n V B C A D:Nat) (c l r:List Tm) (k:Nat) (R T:Nat->List Tm):Prop:=
 Sim (pmul (qbm c (V - k)) l) (pmul (pdQ L V k c T) r ++ poly L (n+k) R) /\
 (∀ i,i<n+k->Cof L (B+(V - k)*C) (A+(V - k)*(D+1)) (R i)) /\
 (∀ i,k<=i->i<V->Cof L (B+V*C) (A+V*(D+1)) (T i))
theorem PdT.start {L n V B C A D:Nat} {c l r:List Tm} {R T:Nat->List Tm} (hs:Sim (poly L (n+V) R) l) (h : ∀ i,i<n+V->Cof L B A (R i)):PdT L n V B C A D c l r V R T:=by
 refine ⟨?_,fun i hi=>?_,fun i h1 h2=>by omega⟩
 ·have h0:Sim (pdQ L V V c T) []:=qcj fun i hi=>by rw [if_neg (by omega)];exact Sim.refl _
  rw [Nat.sub_self];exact (Sim.pmul_comm _ _).trans ((qdL l).trans (hs.symm.trans ((h0.pmul_left r).symm.append (Sim.refl (poly L (n+V) R)))))
 ·rw [Nat.sub_self,Nat.zero_mul,Nat.zero_mul];exact h i hi
theorem qfU (L n:Nat) (P:Nat->List Tm) (r:List Tm):Sim (poly L n fun i=>pmul (P i) r) (pmul (poly L n P) r):=qaX L n P r
theorem PdT.step {L n V B C A D : Nat} {l r : List Tm} {k : Nat} {R T G : Nat -> List Tm} (h : PdT L n V B C A D (G n) l r (k + 1) R T) (hk : k < V) (hr : Sim (poly L (n + 1) G) r) (hG : ∀ i, i < n + 1 -> Cof L C D (G i)) (hT : T k = R (n + k)) :
  PdT L n V B C A D (G n) l r k (pdS k (G n) (R (n+k)) G R (n+k)) T:=by
 obtain ⟨h1,h2,h3⟩:=h
 have es:V - k=(V - (k+1))+1:=by omega
 have e1:(V - k)*C=(V - (k+1))*C+C:=by rw [es,Nat.add_mul,Nat.one_mul]
 have e2:(V - k)*(D+1)=(V - (k+1))*(D+1)+(D+1):=by rw [es,Nat.add_mul,Nat.one_mul]
 have e3:=Nat.mul_le_mul_right C (show V - (k+1)<=V by omega);have e4:=Nat.mul_le_mul_right (D+1) (show V - (k+1)<=V by omega);refine ⟨?_,fun i hi=>?_,fun i hi hiV=>?_⟩
 ·have hQ : Sim (pdQ L V k (G n) T) (pmul (pdQ L V (k + 1) (G n) T) (G n) ++ shift (xp L (k : Int)) (R (n + k))) := by
   have hg:=(qdK (L:=L) hk (F':=fun i=>if k<=i then (if i=k then R (n+k) else pmul (T i) (qbm (G n) (i - k))) else []) (F:=fun i=>if k+1<=i then pmul (T i) (qbm (G n) (i - k)) else []) (l:=R (n+k)) (fun i hi hik=>?_) ?_).1
   ·refine Sim.trans (qaC _ _ _ _ fun i hi=>?_) (hg.trans ((Sim.trans (qaC _ _ _ (fun i=>pmul (if k+1<=i then pmul (T i) (qbm (G n) (i - (k+1))) else []) (G n)) fun i hi=>?_) (qfU _ _ _ _)).append (Sim.refl _)))
    ·by_cases h5:k<=i
     ·rw [if_pos h5,if_pos h5]
      by_cases h6:i=k
      ·rw [if_pos h6,h6,Nat.sub_self,hT];exact qdL _
      ·rw [if_neg h6];exact Sim.refl _
     ·rw [if_neg h5,if_neg h5];exact Sim.refl _
    ·by_cases h5:k+1<=i
     ·rw [if_pos h5,if_pos h5,show i - k=(i - (k+1))+1 by omega,qcu];exact (Sim.pmul_assoc _ _ _).symm
     ·rw [if_neg h5,if_neg h5];exact Sim.refl _
   ·by_cases h5:k<=i
    ·rw [if_pos h5,if_neg hik,if_pos (by omega)]
    ·rw [if_neg h5,if_neg (by omega)]
   ·show (if k<=k then (if k=k then R (n+k) else pmul (T k) (qbm (G n) (k - k))) else [])=(if k+1<=k then pmul (T k) (qbm (G n) (k - k)) else []) ++ R (n+k);rw [if_pos (Nat.le_refl _),if_pos rfl,if_neg (by omega)];rfl
  have hU:=((hr.symm.pmul_right (shift (xp L (k:Int)) (R (n+k))))).trans (qiw L k (R (n+k)) G (n+1))
  have hU2:Sim (poly L (k+(n+1)) fun i=>if k<=i then pmul (R (n+k)) (G (i - k)) else []) (poly L (n+k) (fun i=>if k<=i then pmul (R (n+k)) (G (i - k)) else []) ++ shift (xp L ((n+k:Nat):Int)) (pmul (R (n+k)) (G n))):=by
   rw [show k+(n+1)=(n+k)+1 by omega,qaf,if_pos (by omega),show n+k - k=n by omega];exact Sim.refl _
  have hR:Sim (poly L (n+k) (pdS k (G n) (R (n+k)) G R (n+k))) (pmul (poly L (n+k) R) (G n) ++ qbz (poly L (n+k) fun i=>if k<=i then pmul (R (n+k)) (G (i - k)) else [])):=by
   refine Sim.trans (qaC _ _ _ (fun i=>pmul (R i) (G n) ++ qbz (if k<=i then pmul (R (n+k)) (G (i - k)) else [])) fun i hi=>?_) ((qds _ _ _ _).trans ((qfU _ _ _ _).append (qaX _ _ _ _)));unfold pdS;rw [if_pos hi]
   by_cases h5:k<=i
   ·rw [if_pos h5,if_pos h5];exact Sim.refl _
   ·rw [if_neg h5,if_neg h5];intro m;rw [qae,qaL];simp [qab]
  have hT:Sim (pmul (poly L (n+k+1) R) (G n)) (pmul (poly L (n+k) R) (G n) ++ shift (xp L ((n+k:Nat):Int)) (pmul (R (n+k)) (G n))):=by
   rw [qaf,qav];exact (Sim.refl _).append (qaJ _ _ _)
  have hL:Sim (pmul (qbm (G n) (V - k)) l) (pmul (pmul (pdQ L V (k+1) (G n) T) (G n)) r ++ pmul (poly L (n+k+1) R) (G n)):=by
   rw [es,qcu];refine (Sim.pmul_assoc _ _ _).trans (((Sim.pmul_comm _ _).pmul_right _).trans ((Sim.pmul_assoc _ _ _).symm.trans ((h1.pmul_left _).trans ?_)));rw [qav];refine Sim.append ?_ (Sim.refl _);exact (Sim.pmul_assoc _ _ _).trans (((Sim.pmul_comm _ _).pmul_right _).trans (Sim.pmul_assoc _ _ _).symm)
  intro m;have a1:=hL m;have a2:=(hQ.pmul_left r) m;have a3:=(hU.trans hU2) m;have a4:=hR m;have a5:=hT m;rw [qav] at a2;simp only [qae,qaL] at a1 a2 a3 a4 a5 ⊢;omega
 ·rw [e1,e2];have g1:=h2 i (by omega);have gt:=h2 (n+k) (by omega);have gn:=hG n (Nat.lt_succ_self n);unfold pdS;rw [if_pos hi,<- Nat.add_assoc B]
  by_cases h5:k<=i
  ·rw [if_pos h5];exact ((g1.pmul gn).sub (gt.pmul (hG (i - k) (by omega)))).mono (Nat.le_refl _) (by omega)
  ·rw [if_neg h5];exact (g1.pmul gn).mono (Nat.le_refl _) (by omega)
 ·by_cases hik:i=k
  ·rw [hik,hT];exact (h2 (n+k) (by omega)).mono (by omega) (by omega)
  ·exact h3 i (by omega) hiV
def pdR (n V:Nat) (G R0:Nat->List Tm):Nat->Nat->List Tm
 | 0=>R0
 | t+1=>pdS (V - 1 - t) (G n) (pdR n V G R0 t (n+(V - 1 - t))) G (pdR n V G R0 t) (n+(V - 1 - t))
def qdu (n V:Nat) (G R0:Nat->List Tm) (i:Nat):List Tm:=pdR n V G R0 (V - 1 - i) (n+i)
theorem qjr {n V k:Nat} (G R0:Nat->List Tm) (hk:k<V):pdR n V G R0 (V - k)=pdS k (G n) (pdR n V G R0 (V - (k+1)) (n+k)) G (pdR n V G R0 (V - (k+1))) (n+k):=by
 have e:V - k=(V - (k+1))+1:=by omega
 rw [e];show pdS (V - 1 - (V - (k+1))) _ _ _ _ _=_;rw [show V - 1 - (V - (k+1))=k by omega]
theorem qjq {n V k:Nat} (G R0:Nat->List Tm):qdu n V G R0 k=pdR n V G R0 (V - (k+1)) (n+k):=by
 unfold qdu;rw [show V - 1 - k=V - (k+1) by omega]
theorem qiy {L n V B C A D:Nat} {l r:List Tm} {R0 G:Nat->List Tm} (hs:Sim (poly L (n+V) R0) l) (h : ∀ i,i<n+V->Cof L B A (R0 i)) (hr:Sim (poly L (n+1) G) r) (hG : ∀ i,i<n+1->Cof L C D (G i)) : ∀ t,t<=V->PdT L n V B C A D (G n) l r (V - t) (pdR n V G R0 t) (qdu n V G R0)
 | 0,_=>PdT.start hs h
 | t+1,ht=>by
  have ih:=qiy hs h hr hG t (by omega);rw [show V - t=(V - (t+1))+1 by omega] at ih;have h2:=ih.step (by omega) hr hG (by rw [qjq];rw [show V - (V - (t+1)+1)=t by omega]);have h3:=qjr (n:=n) (V:=V) (k:=V - (t+1)) G R0 (by omega);rw [show V - (V - (t+1))=t+1 by omega,show V - (V - (t+1)+1)=t by omega] at h3;rw [h3];exact h2
theorem PdT.done {L n V B C A D:Nat} {c l r:List Tm} {R T:Nat->List Tm} (h:PdT L n V B C A D c l r 0 R T):Sim (pmul (qbm c V) l) (pmul (poly L V fun i=>pmul (T i) (qbm c i)) r ++ poly L n R):=by
 have h1:=h.1
 have h2:pdQ L V 0 c T=poly L V fun i=>pmul (T i) (qbm c i):=qff _ _ _ _ fun i _=>by rw [if_pos (Nat.zero_le _),Nat.sub_zero]
 rw [h2] at h1;exact h1


theorem qhO {w wr w':World} {r:Option Nat} (h:w.grownBy wr r) (he:Ext wr w'):w.grownBy w' r:=qbF h (he.grownBy r)
theorem qiK {w wr:World} {g b:Nat} (h:w.grownBy wr (some g)) (hb:b=g∨w.heap.size<=b) (o:Nat) (e0 e1 e2 e3:Value):w.grownBy (set4 wr b o e0 e1 e2 e3) (some g):=
 ⟨h.os,h.tape,h.output,by rw [qaq];exact h.size,fun i hi hr=>by
  rw [qag _ _ _ _ _ _ _ _ (fun e=>by
   rcases hb with rfl | hb
   ·exact hr (by rw [e])
   ·omega)]
  exact h.block i hi hr⟩
def S14 (g o:Nat) (y:PE) (gd o2:Nat) (c:PE) (w:World):Prop:=qaZ w g o y/\qaZ w gd o2 c/\g<w.heap.size/\gd<w.heap.size
theorem S14.ext {g o:Nat} {y:PE} {gd o2:Nat} {c:PE} {w w':World} (h:S14 g o y gd o2 c w) (he:Ext w w'):S14 g o y gd o2 c w':=⟨h.1.ext h.2.2.1 he,h.2.1.ext h.2.2.2 he,Nat.lt_of_lt_of_le h.2.2.1 he.size,Nat.lt_of_lt_of_le h.2.2.2 he.size⟩
def S16 (g o:Nat) (y:PE) (gt:Nat) (z:PE) (gd o2:Nat) (c:PE) (w:World):Prop:=qaZ w g o y/\P4 w gt z/\qaZ w gd o2 c/\g<w.heap.size/\gt<w.heap.size/\gd<w.heap.size
theorem S16.ext {g o:Nat} {y:PE} {gt:Nat} {z:PE} {gd o2:Nat} {c:PE} {w w':World} (h:S16 g o y gt z gd o2 c w) (he:Ext w w'):S16 g o y gt z gd o2 c w':=⟨h.1.ext h.2.2.2.1 he,h.2.1.ext he,h.2.2.1.ext h.2.2.2.2.2 he,Nat.lt_of_lt_of_le h.2.2.2.1 he.size,Nat.lt_of_lt_of_le h.2.2.2.2.1 he.size,Nat.lt_of_lt_of_le h.2.2.2.2.2 he.size⟩
def qsZ (M:Nat->Prop) (w:World) (n V g:Nat) (G R0:Nat->List Tm) (e:Ending) (w':World):Prop:=∃ gt,e = .returned (.tuple #[.slice (some ⟨gt,0,none⟩) V V,.slice (some ⟨g,0,none⟩) n (n+V)])/\w.heap.size<=gt/\qax (fun b=>M b∨b=gt) w' 4 g (n+V) (pdR n V G R0 V)/\qax (fun b=>M b∨b=gt) w' 4 gt V (qdu n V G R0)/\w.grownBy w' (some g)
theorem qqj {L n V B C A D:Nat} {R0 G:Nat->List Tm} (h : ∀ i,i<n+V->Cof L B A (R0 i)) (hG : ∀ i,i<n+1->Cof L C D (G i)) (t:Nat) (ht:t<=V) (i:Nat) (hi:i<n+(V - t)):Cof L (B+V*C) (A+V*(D+1)) (pdR n V G R0 t i):=by
 have:=(qiy (l:=poly L (n+V) R0) (r:=poly L (n+1) G) (Sim.refl _) h (Sim.refl _) hG t ht).2.1 i hi;rw [show V - (V - t)=t by omega] at this;have e1:=Nat.mul_le_mul_right C ht;have e2:=Nat.mul_le_mul_right (D+1) ht;exact this.mono (by omega) (by omega)
theorem qlV (M : Nat -> Prop) (L n V B C A D g gd : Nat) (R0 G : Nat -> List Tm) (w : World) (hM : Mb M w) (hg : M g) (hgd : gd ≠ g) (hR : qax M w 4 g (n + V) R0) (hG : qax M w 4 gd (n + 1) G) (hV : 1 <= V) (hnV : n + V <= 1000000)
  (hR0 : ∀ i,i<n+V->Cof L B A (R0 i)) (hG0 : ∀ i,i<n+1->Cof L C D (G i)) (hB:B+V*C+C<=1000000) (hBC:(B+V*C+1)*(C+1)<=1099511627776) (hA:A+V*(D+1)+D+2<=549755813888) :
  Calls Tryz.prog 61 #[.slice (some ⟨g,0,none⟩) (n+V) (n+V),.slice (some ⟨gd,0,none⟩) (n+1) (n+1)] w (qsZ M w n V g G R0):=by
 obtain ⟨i0,hi,hz0,hz1,hz2⟩:=info_parts Tryz.info33;have HM:=Lib.hid hM;have HG:=Lib.hid hG;have HR:=Lib.hid hR;have HC0:=Lib.hid hR0;have HCG:=Lib.hid hG0;have HB:=Lib.hid hB;have HBC:=Lib.hid hBC;have HA:=Lib.hid hA;have HMg:=Lib.hid hg;have hgl:=(hR.at 0 (by omega)).2.2.2.2.2;have hgdl:=(hG.at 0 (by omega)).2.2.2.2.2;have hn0:(0:Int)<=(n:Int):=Int.natCast_nonneg _
 have hV1:(1:Int)<=(V:Int):=by omega
 have hnI:(n:Int)+(V:Int)<=1000000:=by omega
 clear hM hR hG hR0 hG0 hB hBC hA hg
 go_enter Tryz.func61,Tryz.ntmps61
 have hst:(n:Int)+(V:Int) - (n:Int)=(V:Int):=by omega
 have hmx:max (V:Int) 0=(V:Int):=by omega
 go_upto_region 3 with (fail)
 go_wp2_with (first | (at_make;refine qbS _ rfl _ _ _ rfl 33 i0 (.agg #[.int .i64 0,.bool false,.slice none 0 0,.slice none 0 0]) 4 Tryz.underlying31 hi hz0 hz1 .i64 .i64 _ _ V rfl rfl ?c4 ?c5 ?c2 ?c3 ?_))
 case c2=>rw [hz2];omega
 case c3=>unfold maxLen;omega
 case c4=>go_num
 case c5=>go_num
 have hBk:=qbJ w V 33;have he1:=(Ext.refl w).alloc (.cells (madeCells (Value.agg #[.int .i64 0,.bool false,.slice none 0 0,.slice none 0 0]).cells (V*4)) 33);intro w1 hw1;replace hw1:w.alloc (.cells (madeCells (Value.agg #[.int .i64 0,.bool false,.slice none 0 0,.slice none 0 0]).cells (V*4)) 33)=w1:=hw1.out.symm;rw [hw1] at hBk he1;obtain ⟨gt,hgt⟩ : ∃ gt,gt=w.heap.size:=⟨_,rfl⟩;rw [<- hgt] at hBk ⊢
 have hgg:g≠gt:=by omega
 have hgdt:gd≠gt:=by omega
 have hml : ∀ b,(M b∨b=gt)->M b∨w.heap.size<=b:=fun b hb=>hb.imp id fun h=>by omega
 have HM1:Hid (Mb (fun b=>M b∨b=gt) w1):=qb9 (HM.out.ext he1) hBk.lt
 have HR1:Hid (qax (fun b=>M b∨b=gt) w1 4 g (n+V) (pdR n V G R0 0)):=by
  exact (HR.out.more hml).ext he1
 have HT1:Hid (qax (fun b=>M b∨b=gt) w1 4 gt V (fun i=>if V<=i then qdu n V G R0 i else [])):=(qax.fresh hBk).congr fun i hi=>by rw [if_neg (by omega)];exact Sim.refl _
 have HG1:Hid (qax (fun b=>M b∨b=gt) w1 4 gd (n+1) G):=(HG.out.more hml).ext he1;have HGB1:Hid (w.grownBy w1 (some g)):=he1.grownBy _;have HGT:Hid (gt=w.heap.size):=hgt;have hCof:Hid (∀ t,t<=V -> ∀ i,i<n+(V - t)->Cof L (B+V*C) (A+V*(D+1)) (pdR n V G R0 t i)):=qqj HC0.out HCG.out;have HCn:Hid (∀ i,i<n+1->Cof L C D (G i)):=HCG.out;clear hw1 hBk he1 HR HG HC0 HCG HM hgt hml hi hz0 hz1 hz2;go_wp2
 go_loopw [23,0] (fun iv rs wr=>∃ t k:Nat,t+k=V/\iv = .int .i64 (t:Int)/\rs = .slice (some ⟨g,0,none⟩) (n+k) (n+V)/\Hid (qax (fun b=>M b∨b=gt) wr 4 g (n+V) (pdR n V G R0 t))/\Hid (qax (fun b=>M b∨b=gt) wr 4 gt V (fun i=>if k<=i then qdu n V G R0 i else []))/\Hid (qax (fun b=>M b∨b=gt) wr 4 gd (n+1) G)/\Hid (Mb (fun b=>M b∨b=gt) wr)/\Hid (w.grownBy wr (some g))) (fun iv _ _=>V - (intOf iv).toNat)
 case atStart=>exact ⟨0,V,Nat.zero_add V,rfl,rfl,HR1,HT1,HG1,HM1,HGB1⟩
 case round=>
  clear HR1 HT1 HG1 HM1 HGB1 hst hmx;obtain ⟨t,k1,htk,rfl,rfl,HR,HT,HG,HMB,HGB⟩:=hrel
  by_cases hk0:k1=0
  ·subst hk0
   obtain rfl:t=V:=by omega
   have hge : ¬ (t:Int)<(t:Int):=by omega
   have HF:Hid (qsZ M w n t g G R0 (.returned (.tuple #[.slice (some ⟨gt,0,none⟩) t t,.slice (some ⟨g,0,none⟩) n (n+t)])) wr):=⟨gt,rfl,Nat.le_of_eq HGT.out.symm,HR.out,HT.out.congr fun i _=>by rw [if_pos (Nat.zero_le _)];exact Sim.refl _,HGB.out⟩;clear HR HT HG HMB HGB;go_wp2;exact bodyPost_ret (v:=.tuple #[.slice (some ⟨gt,0,none⟩) t t,.slice (some ⟨g,0,none⟩) n (n+t)]) (by simp [results,Tryz.results61,go_sem]) rfl HF.out
  ·obtain ⟨k,rfl⟩ : ∃ k,k1=k+1:=⟨k1 - 1,by omega⟩
   have hlt:(t:Int)<(V:Int):=by omega
   have hkI:(V:Int) - 1 - (t:Int)=(k:Int):=by omega
   have hk0':(0:Int)<=(k:Int):=Int.natCast_nonneg _
   have hnk0:(0:Int)<=(n:Int)+(k:Int):=by omega
   have hnk1:(n:Int)+(k:Int)<(n:Int)+((k:Int)+1):=by omega
   have hnk2:((n:Int)+(k:Int)).toNat=n+k:=by omega
   have HTK:Hid (t+(k+1)=V):=htk;obtain ⟨z,⟨z0,z1,z2,z3⟩,hz⟩:=HR.out.cel (n+k) (by omega);have hgr:=HR.out.lt;obtain ⟨gp,hgp⟩ : ∃ gp,wr.heap.size=gp:=⟨_,rfl⟩;have hEa:=(Ext.refl wr).alloc (.cells (peA z) 33);have hBa:=Blk.of_arr wr (peA z) 33 4 rfl;rw [hgp] at hBa;have hgtl:=HT.out.lt
   have hgpg:gp≠g:=by omega
   have hgpt:gp≠gt:=by omega
   obtain ⟨W2,hW2⟩ : ∃ W2,wr.alloc (.cells (peA z) 33)=W2:=⟨_,rfl⟩;rw [hW2] at hEa hBa;have HW2:=Lib.hid hW2;have HGP:=Lib.hid hgp;have hT2:=HT.out.ext hEa;obtain ⟨⟨_,k0⟩,⟨_,k1⟩,⟨_,k2⟩,⟨_,k3⟩,hfr,hgtl2⟩:=hT2.at k (by omega);have hf0:=hfr (k*4);have hf1:=hfr (k*4+1);have hf2:=hfr (k*4+2);have hf3:=hfr (k*4+3);obtain ⟨p0,p1,p2,p3⟩:=hBa.p4
   have hkV:(k:Int)<(V:Int):=by omega
   obtain ⟨W3,hW3⟩ : ∃ W3,set4 W2 gt (k*4) (.int .i64 z.lv) (.bool z.b) (.slice z.a z.n z.p) (.slice z.ka z.kn z.kp)=W3:=⟨_,rfl⟩;have hkp3:Kp (fun b=>M b∨b=gt) W2 W3:=hW3 ▸ Kp.set4 (.inr rfl) _ _ _ _ _;have hot3 : ∀ b,b≠gt->W3.heap[b]? = W2.heap[b]?:=fun b hb=>hW3 ▸ qag _ _ _ _ _ _ _ _ hb;have hsz3:W3.heap.size=W2.heap.size:=hW3 ▸ qaq _ _ _ _ _ _ _
   have HT3:Hid (qax (fun b=>M b∨b=gt) W3 4 gt V (fun i=>if k<=i then qdu n V G R0 i else [])):=by
    have h5:=hT2.set (.inr rfl) k (by omega) (hz.ext hEa);rw [hW3] at h5;refine h5.congr fun i hi=>?_
    by_cases h1:i=k
    ·subst h1;rw [if_pos rfl,if_pos (Nat.le_refl _),qjq,show V - (i+1)=t by omega];exact Sim.refl _
    ·rw [if_neg h1]
     by_cases h2:k+1<=i
     ·rw [if_pos h2,if_pos (by omega)];exact Sim.refl _
     ·rw [if_neg h2,if_neg (by omega)];exact Sim.refl _
   have HR3:Hid (qax (fun b=>M b∨b=gt) W3 4 g (n+V) (pdS k (G n) (pdR n V G R0 t (n+k)) G (pdR n V G R0 t) 0)):=((HR.out.ext hEa).kp (hot3 g hgg) hkp3).congr fun i _=>by rw [qqi];exact Sim.refl _
   have HG3:Hid (qax (fun b=>M b∨b=gt) W3 4 gd (n+1) G):=(HG.out.ext hEa).kp (hot3 gd hgdt) hkp3;have HP3:Hid (P4 W3 gp z):=qak hBa.p4 (hot3 gp hgpt);have HZ3:Hid (CRx (fun b=>M b∨b=gt) W3 4 z (pdR n V G R0 t (n+k))):=(hz.ext hEa).kp hkp3;have HM3:Hid (Mb (fun b=>M b∨b=gt) W3):=(HMB.out.ext hEa).size (by omega);have HGB3:Hid (w.grownBy W3 (some g)):=hW3 ▸ qiK (qhO HGB.out hEa) (.inr (Nat.le_of_eq HGT.out.symm)) _ _ _ _ _;have HCt:Hid (∀ i,i<n+(k+1)->Cof L (B+V*C) (A+V*(D+1)) (pdR n V G R0 t i)):=fun i hi=>hCof.out t (by omega) i (by omega);unfold set4 at hW3;have HW3:=Lib.hid hW3;clear hz hk0 htk hW2 hgp hW3 hT2 hfr hBa hEa hkp3 hot3 hsz3 HT HR HG HMB HGB hCof hgr hgtl
   go_upto_region 9 with (fail)
   rw [HW2.out,HGP.out];clear z0 z1 z2 z3
   go_upto_region 10 with (fail)
   rw [HW3.out];clear k0 k1 k2 k3 hf0 hf1 hf2 hf3 p0 p1 p2 p3 hgtl2 HW2 HW3 HGP;go_wp2
   go_loopw [47] (fun jv wr2=>∃ j:Nat,j<=n+k/\jv = .int .i64 (j:Int)/\Hid (qax (fun b=>M b∨b=gt) wr2 4 g (n+V) (pdS k (G n) (pdR n V G R0 t (n+k)) G (pdR n V G R0 t) j))/\Hid (qax (fun b=>M b∨b=gt) wr2 4 gt V (fun i=>if k<=i then qdu n V G R0 i else []))/\Hid (qax (fun b=>M b∨b=gt) wr2 4 gd (n+1) G)/\Hid (P4 wr2 gp z)/\Hid (CRx (fun b=>M b∨b=gt) wr2 4 z (pdR n V G R0 t (n+k)))/\Hid (Mb (fun b=>M b∨b=gt) wr2)/\Hid (w.grownBy wr2 (some g))) (fun jv _=>n+k - (intOf jv).toNat)
   case atStart=>exact ⟨0,Nat.zero_le _,rfl,HR3,HT3,HG3,HP3,HZ3,HM3,HGB3⟩
   case round=>
    clear HR3 HT3 HG3 HP3 HZ3 HM3 HGB3;obtain ⟨j,hj,rfl,HR,HT,HG,HP,HZ,HMB,HGB⟩:=hrel
    by_cases hlt2:j<n+k
    ·have HLT2:=Lib.hid hlt2
     have hltI:(j:Int)<(n:Int)+(k:Int):=by omega
     have hj0:(0:Int)<=(j:Int):=Int.natCast_nonneg _;obtain ⟨y,hyc,hy⟩:=HR.out.cel j (by omega);rw [qtn] at hy;obtain ⟨c,hcc,hc⟩:=HG.out.cel n (by omega);have hgl2:=HR.out.lt;have hgdl2:=HG.out.lt;have hd:=(Ext.refl wr).drew;have hS:S14 g (j*4) y gd (n*4) c wr.drew:=S14.ext ⟨hyc,hcc,hgl2,hgdl2⟩ hd;have HR4:=Lib.hid (HR.out.ext hd);have HT4:=Lib.hid (HT.out.ext hd);have HG4:=Lib.hid (HG.out.ext hd);have HP4:Hid (P4 wr.drew gp z):=HP.out.ext hd;have HZ4:=Lib.hid (HZ.out.ext hd);have HMB4:=Lib.hid (HMB.out.ext hd);have HGB4:=Lib.hid (qhO HGB.out hd);have HY4:=Lib.hid (hy.ext hd);have HC4:=Lib.hid (hc.ext hd);have hgwd:g<wr.drew.heap.size:=hS.2.2.1;have hgdwd:gd<wr.drew.heap.size:=hS.2.2.2;have hjn0:(0:Int)<=(n:Int):=hn0
     have hnn1:(n:Int)<(n:Int)+1:=by omega
     clear hyc hcc hy hc hd HR HT HG HP HZ HMB HGB hlt2
     go_upto_region 14 with (fail)
     refine qad (S14 g (j*4) y gd (n*4) c) 12 (by kernel_rfl) hS (fun hHeld=>?_);clear hS;generalize wr.drew=wd at *
     have C14:Hid (∀ W:World,Ext wd W->Calls Tryz.prog 55 #[.agg (peA y),.agg (peA c)] W (qa8 (fun b=>M b∨b=gt) W 4 (pmul (pdR n V G R0 t j) (G n)))):=fun W he=>by
      have h1:=HCt.out j (by have:=HLT2.out;omega);have h2:=HCn.out n (by omega);have h3:=HA.out;exact qfP _ y c _ _ (B+V*C) C W (HMB4.out.ext he) (HY4.out.ext he).pi (HC4.out.ext he).pi (by have:=h1.2.2.2;have:=h2.2.2.2;omega) h1.2.2.1 h2.2.2.1 HBC.out
     (refine tkB [0,1,2,3,4,5,6,7,8,9] ?_;(iterate 10 (refine tk1 (oi:=?_) (v:=?_) (by kernel_rfl) (by first | exact hSn | exact hHeld) ?_ ?_ ?_ ?_ ?_;rotate_left 2;(simp only [xgA,xgB,xgC];rfl);rfl;(intro wS hSw;obtain ⟨⟨S1,S2,S3,S4⟩,⟨S5,S6,S7,S8⟩,S9,S10⟩:=hSw;go_simp;try with_reducible rfl);(exact fun _ _ _ h=>h);(try simp only [Act.put,xgD,xgE,xgF])));refine tkE ?_);((refine qaa 10 (o:=?_) (by kernel_rfl) ?_ ?_;rotate_left 1;(simp only [xgA,xgB,xgC];rfl);intro K hK);go_simp;(refine (C14.out _ (Ext.refl _)).mono ?_);rintro e_ u1 ⟨v,rfl,hv,ed1⟩;go_wp2_with (fail);(try clear hSn);(have hSn:=hHeld.ext ed1);(refine hK.out _ _ (fun _=>hSn) ?_);clear hK K;(try simp only [Act.put,xgD,xgE,xgF]));(refine tkB [11] ?_;(iterate 1 (refine tk1 (oi:=?_) (v:=?_) (by kernel_rfl) (by first | exact hSn | exact hHeld) ?_ ?_ ?_ ?_ ?_;rotate_left 2;(simp only [xgA,xgB,xgC];rfl);rfl;(intro wS hSw;obtain ⟨⟨S1,S2,S3,S4⟩,⟨S5,S6,S7,S8⟩,S9,S10⟩:=hSw;go_simp;try with_reducible rfl);(exact fun _ _ _ h=>h);(try simp only [Act.put,xgD,xgE,xgF])));refine tkE ?_);have hR5:=HR4.out.ext ed1;obtain ⟨⟨_,k0⟩,⟨_,k1⟩,⟨_,k2⟩,⟨_,k3⟩,hfr,hg5⟩:=hR5.at j (by have:=HLT2.out;omega);have hf0:=hfr (j*4);have hf1:=hfr (j*4+1);have hf2:=hfr (j*4+2);have hf3:=hfr (j*4+3);obtain ⟨W4,hW4⟩ : ∃ W4,set4 u1 g (j*4) (.int .i64 v.lv) (.bool v.b) (.slice v.a v.n v.p) (.slice v.ka v.kn v.kp)=W4:=⟨_,rfl⟩;have hkp4:Kp (fun b=>M b∨b=gt) u1 W4:=hW4 ▸ Kp.set4 (.inl HMg.out) _ _ _ _ _;have hot4 : ∀ b,b≠g->W4.heap[b]? = u1.heap[b]?:=fun b hb=>hW4 ▸ qag _ _ _ _ _ _ _ _ hb
     have hsz4:W4.heap.size=u1.heap.size:=hW4 ▸ qaq _ _ _ _ _ _ _
     have HR5:Hid (qax (fun b=>M b∨b=gt) W4 4 g (n+V) (fun i=>if i=j then pmul (pdR n V G R0 t j) (G n) else pdS k (G n) (pdR n V G R0 t (n+k)) G (pdR n V G R0 t) j i)):=by
      have h5:=hR5.set (.inl HMg.out) j (by have:=HLT2.out;omega) hv;rw [hW4] at h5;exact h5
     have HT5:Hid (qax (fun b=>M b∨b=gt) W4 4 gt V (fun i=>if k<=i then qdu n V G R0 i else [])):=(HT4.out.ext ed1).kp (hot4 gt (Ne.symm hgg)) hkp4;have HG5:Hid (qax (fun b=>M b∨b=gt) W4 4 gd (n+1) G):=(HG4.out.ext ed1).kp (hot4 gd hgd) hkp4;have HP5:Hid (P4 W4 gp z):=qak (HP4.out.ext ed1) (hot4 gp hgpg);have HZ5:Hid (CRx (fun b=>M b∨b=gt) W4 4 z (pdR n V G R0 t (n+k))):=(HZ4.out.ext ed1).kp hkp4;have HM5:Hid (Mb (fun b=>M b∨b=gt) W4):=(HMB4.out.ext ed1).size (by omega);have HGB5:Hid (w.grownBy W4 (some g)):=hW4 ▸ qiK (qhO HGB4.out ed1) (.inl rfl) _ _ _ _ _;unfold set4 at hW4;have HW4:=Lib.hid hW4;clear hR5 hfr hv ed1 hkp4 hot4 hsz4 hW4 HR4 HT4 HG4 HP4 HZ4 HMB4 HGB4 HY4 HC4 C14 hHeld hSn;((refine qaa 12 (o:=?_) (by kernel_rfl) ?_ ?_;rotate_left 1;(simp only [xgA,xgB,xgC];rfl);intro K hK);go_simp;(refine hK.out _ _ (fun h=>absurd rfl h) ?_);clear hK K;refine qac (by kernel_rfl) ?_ _)
     go_upto_region 15 with (fail)
     rw [HW4.out];clear k0 k1 k2 k3 hf0 hf1 hf2 hf3 hg5 HW4
     by_cases hjk:k<=j
     ·have hjkI:(k:Int)<=(j:Int):=by omega
      have HJK:=Lib.hid hjk;obtain ⟨q,hq⟩ : ∃ q,q=j - k:=⟨_,rfl⟩
      have hqI:(j:Int) - (k:Int)=(q:Int):=by omega
      have hq0:(0:Int)<=(q:Int):=Int.natCast_nonneg _
      have hqn:(q:Int)<(n:Int)+1:=by have:=HLT2.out;omega
      have hqn2:q<n+1:=by omega
      have hwq:IntKind.i64.wrap (q:Int)=(q:Int):=by rw [IntKind.wrap_i64];omega
      obtain ⟨y2,hyc,hy⟩:=HR5.out.cel j (by have:=HLT2.out;omega);rw [if_pos rfl] at hy;obtain ⟨c2,hcc,hc⟩:=HG5.out.cel q hqn2;have hgl2:=HR5.out.lt;have hgdl2:=HG5.out.lt;have hd:=(Ext.refl W4).drew;have hgpl:=World.block_lt_of_cell? _ _ HP5.out.1;have hS:S16 g (j*4) y2 gp z gd (q*4) c2 W4.drew:=S16.ext ⟨hyc,HP5.out,hcc,hgl2,hgpl,hgdl2⟩ hd;have HR6:=Lib.hid (HR5.out.ext hd);have HT6:=Lib.hid (HT5.out.ext hd);have HG6:=Lib.hid (HG5.out.ext hd);have HP6:Hid (P4 W4.drew gp z):=HP5.out.ext hd;have HZ6:=Lib.hid (HZ5.out.ext hd);have HMB6:=Lib.hid (HM5.out.ext hd);have HGB6:=Lib.hid (qhO HGB5.out hd);have HY6:=Lib.hid (hy.ext hd);have HC6:=Lib.hid (hc.ext hd);have HQ:=Lib.hid hq;have hgwd:g<W4.drew.heap.size:=hS.2.2.2.1;have hgdwd:gd<W4.drew.heap.size:=hS.2.2.2.2.2;have hgpwd:gp<W4.drew.heap.size:=hS.2.2.2.2.1;have HQN:=Lib.hid hqn2;clear hyc hcc hy hc hd HR5 HT5 HG5 HP5 HZ5 HM5 HGB5 hjk hq hqn2 hgl2 hgdl2 hgpl
      go_upto_region 16 with (fail)
      refine qad (S16 g (j*4) y2 gp z gd (q*4) c2) 16 (by kernel_rfl) hS (fun hHeld=>?_);clear hS;generalize W4.drew=wd2 at *;have HK1:Hid (Cof L (B+V*C+C) (A+V*(D+1)+D) (pmul (pdR n V G R0 t j) (G n))):=(HCt.out j (by have:=HLT2.out;omega)).pmul (HCn.out n (by omega));have HK2:Hid (Cof L (B+V*C+C) (A+V*(D+1)+D) (pmul (pdR n V G R0 t (n+k)) (G q))):=(HCt.out (n+k) (by omega)).pmul (HCn.out q HQN.out)
      have C16:Hid (∀ W:World,Ext wd2 W->Calls Tryz.prog 55 #[.agg (peA z),.agg (peA c2)] W (qa8 (fun b=>M b∨b=gt) W 4 (pmul (pdR n V G R0 t (n+k)) (G q)))):=fun W he=>by
       have h1:=HCt.out (n+k) (by omega);have h2:=HCn.out q HQN.out;have h3:=HA.out;exact qfP _ z c2 _ _ (B+V*C) C W (HMB6.out.ext he) (HZ6.out.ext he).pi (HC6.out.ext he).pi (by have:=h1.2.2.2;have:=h2.2.2.2;omega) h1.2.2.1 h2.2.2.1 HBC.out
      have C17:Hid (∀ (W:World) (x:PE),Ext wd2 W->CRx (fun b=>M b∨b=gt) W 4 x (pmul (pdR n V G R0 t (n+k)) (G q))->Calls Tryz.prog 38 #[.agg (peA y2),.agg (peA x)] W (qa8 (fun b=>M b∨b=gt) W 4 (pmul (pdR n V G R0 t j) (G n) ++ qbz (pmul (pdR n V G R0 t (n+k)) (G q))))):=fun W x he hx=>by
       have h1:=HK1.out.sub HK2.out;have h3:=HA.out;have h4:=HB.out;exact qjh _ y2 x _ _ (B+V*C+C) W (HMB6.out.ext he) (HY6.out.ext he).pi hx.pi (Nat.le_trans h1.2.2.2 (by omega)) (by have:=HK2.out.2.2.2;omega) HK2.out.2.2.1 (by omega)
      (refine tkB [0,1,2,3,4,5,6,7,8,9,10,11,12] ?_;(iterate 13 (refine tk1 (oi:=?_) (v:=?_) (by kernel_rfl) (by first | exact hSn | exact hHeld) ?_ ?_ ?_ ?_ ?_;rotate_left 2;(simp only [xgA,xgB,xgC];rfl);rfl;(intro wS hSw;obtain ⟨⟨S1,S2,S3,S4⟩,⟨S5,S6,S7,S8⟩,⟨S9,S10,S11,S12⟩,S13,S14,S15⟩:=hSw;go_simp;try with_reducible rfl);(exact fun _ _ _ h=>h);(try simp only [Act.put,xgD,xgE,xgF])));refine tkE ?_);((refine qaa 13 (o:=?_) (by kernel_rfl) ?_ ?_;rotate_left 1;(simp only [xgA,xgB,xgC];rfl);intro K hK);go_simp;(refine (C16.out _ (Ext.refl _)).mono ?_);rintro e_ u2 ⟨x,rfl,hx,ed1⟩;go_wp2_with (fail);(try clear hSn);(have hSn:=hHeld.ext ed1);(refine hK.out _ _ (fun _=>hSn) ?_);clear hK K;(try simp only [Act.put,xgD,xgE,xgF]));((refine qaa 14 (o:=?_) (by kernel_rfl) ?_ ?_;rotate_left 1;(simp only [xgA,xgB,xgC];rfl);intro K hK);go_simp;(refine (C17.out _ x ed1 hx).mono ?_);rintro e_ u3 ⟨v2,rfl,hv2,ed2⟩;go_wp2_with (fail);(try clear hSn);(have hSn:=hHeld.ext (ed1.trans ed2));(refine hK.out _ _ (fun _=>hSn) ?_);clear hK K;(try simp only [Act.put,xgD,xgE,xgF]));(refine tkB [15] ?_;(iterate 1 (refine tk1 (oi:=?_) (v:=?_) (by kernel_rfl) (by first | exact hSn | exact hHeld) ?_ ?_ ?_ ?_ ?_;rotate_left 2;(simp only [xgA,xgB,xgC];rfl);rfl;(intro wS hSw;obtain ⟨⟨S1,S2,S3,S4⟩,⟨S5,S6,S7,S8⟩,⟨S9,S10,S11,S12⟩,S13,S14,S15⟩:=hSw;go_simp;try with_reducible rfl);(exact fun _ _ _ h=>h);(try simp only [Act.put,xgD,xgE,xgF])));refine tkE ?_);have ed3:=ed1.trans ed2;have hR7:=HR6.out.ext ed3;obtain ⟨⟨_,k0⟩,⟨_,k1⟩,⟨_,k2⟩,⟨_,k3⟩,hfr,hg5⟩:=hR7.at j (by have:=HLT2.out;omega)
      have hf0:=hfr (j*4);have hf1:=hfr (j*4+1);have hf2:=hfr (j*4+2);have hf3:=hfr (j*4+3);have hkp4:Kp (fun b=>M b∨b=gt) u3 (set4 u3 g (j*4) (.int .i64 v2.lv) (.bool v2.b) (.slice v2.a v2.n v2.p) (.slice v2.ka v2.kn v2.kp)):=Kp.set4 (.inl HMg.out) _ _ _ _ _;have hot4 : ∀ b,b≠g->(set4 u3 g (j*4) (.int .i64 v2.lv) (.bool v2.b) (.slice v2.a v2.n v2.p) (.slice v2.ka v2.kn v2.kp)).heap[b]? = u3.heap[b]?:=fun b hb=>qag _ _ _ _ _ _ _ _ hb;have hsz4:(set4 u3 g (j*4) (.int .i64 v2.lv) (.bool v2.b) (.slice v2.a v2.n v2.p) (.slice v2.ka v2.kn v2.kp)).heap.size=u3.heap.size:=qaq _ _ _ _ _ _ _
      have HR7:Hid (qax (fun b=>M b∨b=gt) (set4 u3 g (j*4) (.int .i64 v2.lv) (.bool v2.b) (.slice v2.a v2.n v2.p) (.slice v2.ka v2.kn v2.kp)) 4 g (n+V) (pdS k (G n) (pdR n V G R0 t (n+k)) G (pdR n V G R0 t) (j+1))):=by
       refine (hR7.set (.inl HMg.out) j (by have:=HLT2.out;omega) hv2).congr fun i _=>?_;rw [qtm _ _ _ _ _ _ _ HJK.out,<- HQ.out]
       by_cases h1:i=j
       ·rw [if_pos h1,if_pos h1];exact Sim.refl _
       ·rw [if_neg h1,if_neg h1,if_neg h1];exact Sim.refl _
      have HT7:Hid (qax (fun b=>M b∨b=gt) (set4 u3 g (j*4) (.int .i64 v2.lv) (.bool v2.b) (.slice v2.a v2.n v2.p) (.slice v2.ka v2.kn v2.kp)) 4 gt V (fun i=>if k<=i then qdu n V G R0 i else [])):=(HT6.out.ext ed3).kp (hot4 gt (Ne.symm hgg)) hkp4;have HG7:Hid (qax (fun b=>M b∨b=gt) (set4 u3 g (j*4) (.int .i64 v2.lv) (.bool v2.b) (.slice v2.a v2.n v2.p) (.slice v2.ka v2.kn v2.kp)) 4 gd (n+1) G):=(HG6.out.ext ed3).kp (hot4 gd hgd) hkp4;have HP7:Hid (P4 (set4 u3 g (j*4) (.int .i64 v2.lv) (.bool v2.b) (.slice v2.a v2.n v2.p) (.slice v2.ka v2.kn v2.kp)) gp z):=qak (HP6.out.ext ed3) (hot4 gp hgpg);have HZ7:Hid (CRx (fun b=>M b∨b=gt) (set4 u3 g (j*4) (.int .i64 v2.lv) (.bool v2.b) (.slice v2.a v2.n v2.p) (.slice v2.ka v2.kn v2.kp)) 4 z (pdR n V G R0 t (n+k))):=(HZ6.out.ext ed3).kp hkp4;have HM7:Hid (Mb (fun b=>M b∨b=gt) (set4 u3 g (j*4) (.int .i64 v2.lv) (.bool v2.b) (.slice v2.a v2.n v2.p) (.slice v2.ka v2.kn v2.kp))):=(HMB6.out.ext ed3).size (by omega);have HGB7:Hid (w.grownBy (set4 u3 g (j*4) (.int .i64 v2.lv) (.bool v2.b) (.slice v2.a v2.n v2.p) (.slice v2.ka v2.kn v2.kp)) (some g)):=qiK (qhO HGB6.out ed3) (.inl rfl) _ _ _ _ _;clear hR7 hfr hx hv2 ed1 ed2 ed3 hkp4 hot4 hsz4 HR6 HT6 HG6 HP6 HZ6 HMB6 HGB6 HY6 HC6 C16 C17 hHeld hSn HK1 HK2;((refine qaa 16 (o:=?_) (by kernel_rfl) ?_ ?_;rotate_left 1;(simp only [xgA,xgB,xgC];rfl);intro K hK);go_simp;(refine hK.out _ _ (fun h=>absurd rfl h) ?_);clear hK K;refine qac (by kernel_rfl) ?_ _);go_wp2
      go_roundw
      case rel=>exact ⟨j+1,HLT2.out,by go_num,HR7,HT7,HG7,HP7,HZ7,HM7,HGB7⟩
      case measure=>have:=HLT2.out;simp [intOf];omega
     ·have hjkI : ¬ (k:Int)<=(j:Int):=by omega
      have HR6:Hid (qax (fun b=>M b∨b=gt) W4 4 g (n+V) (pdS k (G n) (pdR n V G R0 t (n+k)) G (pdR n V G R0 t) (j+1))):=HR5.out.congr fun i _=>by rw [qtl _ _ _ _ _ _ _ hjk];exact Sim.refl _
      clear HR5;go_wp2
      go_roundw
      case rel=>exact ⟨j+1,HLT2.out,by go_num,HR6,HT5,HG5,HP5,HZ5,HM5,HGB5⟩
      case measure=>have:=HLT2.out;simp [intOf];omega
    ·obtain rfl:j=n+k:=by omega
     have hge : ¬ (((n+k:Nat):Int))<(n:Int)+(k:Int):=by omega
     have HR6:Hid (qax (fun b=>M b∨b=gt) wr 4 g (n+V) (pdR n V G R0 (t+1))):=by
      have h5:=qjr (n:=n) (V:=V) (k:=k) G R0 (by have:=HTK.out;omega);rw [show V - (k+1)=t by have:=HTK.out;omega,show V - k=t+1 by have:=HTK.out;omega] at h5;rw [h5];exact HR.out
     have HTK2:Hid (t+1+k=V):=by have:=HTK.out;show _=_;omega
     clear HR HP HZ;go_wp2
     go_roundw
     case rel=>exact ⟨t+1,k,HTK2.out,by go_num,rfl,HR6,HT,HG,HMB,HGB⟩
     case measure=>have:=HTK.out;simp [intOf];omega
end Go.Proofs.YtmcfpnmoklnhoaaGreat
