/- Division of polynomials in one variable: the loop of unidiv.Pseudo in integers is the division of chapter 24 with constants. unidiv.Exact in integers, plain: the quotient if there is one. The product of two polynomials in one variable, by its coefficients. A factor of a polynomial in one variable: its coefficients in that variable alone are a quotient, too. Factors of polynomials in one variable: a factor in several variables is one in that variable alone. The rest of a division with a constant leading coefficient vanishes exactly if the primitive part divides. Rows of integers of one's own: reading and writing; unipoly.Lead. unidiv.Pseudo. unidiv.Pseudo: the walk. unidiv.Exact: plain. unidiv.Exact: the walk. unidiv.Divides; cylinderlaw24.digits. PseudoUni, plain: the two layers give the same. -/
import Derived.Test.YtmcfpnmoklnhoaaGreatEc
import Derived.Test.YtmcfpnmoklnhoaaGreatBa
import Derived.Test.YtmcfpnmoklnhoaaGreatMv
import Derived.Test.YtmcfpnmoklnhoaaGreatNr
import Derived.Test.YtmcfpnmoklnhoaaGreatRc
import Derived.Test.YtmcfpnmoklnhoaaGreatFb
import Derived.Test.YtmcfpnmoklnhoaaGreatCa
import Derived.Test.YtmcfpnmoklnhoaaGreatEe
import Derived.Test.YtmcfpnmoklnhoaaGreatNe
import Derived.Test.YtmcfpnmoklnhoaaGreatDa
import Derived.Test.YtmcfpnmoklnhoaaGreatMw
set_option linter.unusedVariables false
set_option maxRecDepth 100000
set_option maxHeartbeats 400000000
set_option linter.unusedSimpArgs false

namespace Go.Proofs.YtmcfpnmoklnhoaaGreat

def cst (z:Int):List Tm:=[(z,Mo.zero)]
theorem qq1:Sim (cst 0) []:=qcj
theorem qgS (a b:Int):Sim (pmul (cst a) (cst b)) (cst (a*b)):=fun m=>by
 simp [pmul,cst,smul,shift,qab,Mo.add,Mo.zero]
theorem qtS (a b:Int):Sim (cst a ++ cst b) (cst (a+b)):=fun m=>by
 simp only [cst,List.cons_append,List.nil_append,qab]
 split <;> omega
theorem qtR (a b:Int):Sim (cst a ++ qbf (cst b)) (cst (a - b)):=by
 have h:=(Sim.refl (cst a)).append (qgS b (-1));rw [Int.mul_neg,Int.mul_one] at h;exact h.trans (qtS a (-b))
def zS (k:Nat) (c top:Int) (G R:Nat->Int) (j i:Nat):Int:=if i<j then (if k<=i then R i*c - top*G (i - k) else R i*c) else R i
def zR (n V:Nat) (G R0:Nat->Int):Nat->Nat->Int
 | 0=>R0
 | t+1=>zS (V - 1 - t) (G n) (zR n V G R0 t (n+(V - 1 - t))) G (zR n V G R0 t) (n+(V - 1 - t))
def qr8 (n V:Nat) (G R0:Nat->Int) (i:Nat):Int:=zR n V G R0 (V - 1 - i) (n+i)
theorem qsY {k j : Nat} {c top : Int} {G R : Nat -> Int} {c' top' : List Tm} {G' R' : Nat -> List Tm} (hc : Sim c' (cst c)) (ht : Sim top' (cst top)) (hG : ∀ i, Sim (G' i) (cst (G i))) (hR : ∀ i, Sim (R' i) (cst (R i))) (i : Nat) :
  Sim (pdS k c' top' G' R' j i) (cst (zS k c top G R j i)):=by
 unfold pdS zS
 split
 ·have h1:=((hR i).pmul hc).trans (qgS _ _)
  split
  ·exact (h1.append (((ht.pmul (hG _)).trans (qgS _ _)).pmul_left _)).trans (qtR _ _)
  ·exact h1
 ·exact hR i
theorem qh6 {n V:Nat} {G R0:Nat->Int} {G' R0':Nat->List Tm} (hG : ∀ i,Sim (G' i) (cst (G i))) (hR : ∀ i,Sim (R0' i) (cst (R0 i))) : ∀ t i,Sim (pdR n V G' R0' t i) (cst (zR n V G R0 t i))
 | 0=>hR
 | t+1=>fun i=>qsY (hG n) (qh6 hG hR t _) hG (qh6 hG hR t) i
theorem qnX {n V:Nat} {G R0:Nat->Int} {G' R0':Nat->List Tm} (hG : ∀ i,Sim (G' i) (cst (G i))) (hR : ∀ i,Sim (R0' i) (cst (R0 i))) (i:Nat):Sim (qdR n V G' R0' i) (cst (qr8 n V G R0 i)):=qh6 hG hR _ _
theorem qjZ (c:Int) : ∀ k,Sim (qaO (cst c) k) (cst (c ^ k))
 | 0=>by rw [Int.pow_zero];exact Sim.refl _
 | k+1=>by
  rw [Int.pow_succ];exact ((qjZ c k).pmul (Sim.refl _)).trans (qgS _ _)
theorem qtj (D:Nat) (z:Int):Low D (cst z):=(qe0 z).mono (Nat.zero_le _)
theorem qhB {D:Nat} (hD:D+1<=4) (n:Nat) (z:Nat->Int) (i:Nat):Sim (qbI (D+1) (upl (D+1) n z) i) (cst (if i<n then z i else 0)):=by
 refine (qbN hD (fun i _=>qtj D (z i)) i).trans ?_
 split
 ·exact Sim.refl _
 ·exact qq1.symm
def zx0 (n:Nat) (z:Nat->Int) (i:Nat):Int:=if i<n then z i else 0
theorem qnH {D : Nat} (hD : D + 1 <= 4) (n V m k : Nat) (f g : Nat -> Int) :
  Sim (qbU (D+1) n V (upl (D+1) m f) (upl (D+1) k g)) (upl (D+1) n (zR n V (zx0 k g) (zx0 m f) V)):=
 qaJ _ _ _ _ fun i _=>qh6 (qhB hD k g) (qhB hD m f) V i
theorem qsQ {D : Nat} (hD : D + 1 <= 4) (n V m k : Nat) (f g : Nat -> Int) :
  Sim (qeV (D+1) n V (upl (D+1) m f) (upl (D+1) k g)) (upl (D+1) V (fun i=>qr8 n V (zx0 k g) (zx0 m f) i*zx0 k g n ^ i)):=
 qaJ _ _ _ _ fun i _=>((qnX (qhB hD k g) (qhB hD m f) i).pmul ((qh0 (qhB hD k g n) i).trans (qjZ _ _))).trans (qgS _ _)
theorem qoU {a:Int} {A:Nat} (h:dlen a.natAbs<=A):dlen (-a).natAbs<=A:=by rw [Int.natAbs_neg];exact h
theorem qwm {k j D A:Nat} {c top:Int} {G R:Nat->Int} (hc:dlen c.natAbs<=D) (ht:dlen top.natAbs<=A) (hG : ∀ i,dlen (G i).natAbs<=D) (hR : ∀ i,dlen (R i).natAbs<=A) (i:Nat):dlen (zS k c top G R j i).natAbs<=A+(D+1):=by
 unfold zS
 have h1:dlen (R i*c).natAbs<=A+D:=by
  rw [Int.natAbs_mul];have:=qaY (R i).natAbs c.natAbs;have:=hR i;omega
 split
 ·split
  ·have h2 : dlen (top * G (i - k)).natAbs <= A + D := by
    rw [Int.natAbs_mul];have:=qaY top.natAbs (G (i - k)).natAbs;have:=hG (i - k);omega
   have h3:=qjk (R i*c) (-(top*G (i - k)));have h4:=qoU h2;rw [<- Int.sub_eq_add_neg] at h3;omega
  ·omega
 ·have:=hR i;omega
theorem qsb {n V D A:Nat} {G R0:Nat->Int} (hG : ∀ i,dlen (G i).natAbs<=D) (hR : ∀ i,dlen (R0 i).natAbs<=A) : ∀ t i,dlen (zR n V G R0 t i).natAbs<=A+t*(D+1)
 | 0=>fun i=>by rw [Nat.zero_mul];exact hR i
 | t+1=>fun i=>by
  have:=qwm (k:=V - 1 - t) (j:=n+(V - 1 - t)) (hG n) (qsb (n:=n) (V:=V) hG hR t (n+(V - 1 - t))) hG (qsb (n:=n) (V:=V) hG hR t) i;rw [Nat.succ_mul];unfold zR;omega
def zQ (n V:Nat) (G R0:Nat->Int) (t j:Nat):Int:=if V - t<=j/\j<V then qr8 n V G R0 j*G n ^ (j - (V - t)) else 0
theorem qsc (n V:Nat) (G R0:Nat->Int) (j:Nat):zQ n V G R0 0 j=0:=if_neg (by omega)
theorem qsd {n V t : Nat} (G R0 : Nat -> Int) (ht : t < V) {j : Nat} (hj : j < V) :
  zQ n V G R0 (t+1) j=if V - 1 - t<j then zQ n V G R0 t j*G n else if j=V - 1 - t then zR n V G R0 t (n+(V - 1 - t)) else zQ n V G R0 t j:=by
 unfold zQ;rcases Nat.lt_trichotomy j (V - 1 - t) with h | h | h
 ·rw [if_neg (by omega),if_neg (by omega),if_neg (by omega),if_neg (by omega)]
 ·rw [if_pos (by omega),if_neg (by omega),if_pos h,h,show V - 1 - t - (V - (t+1))=0 by omega,Int.pow_zero,Int.mul_one];unfold qr8;rw [show V - 1 - (V - 1 - t)=t by omega]
 ·rw [if_pos (by omega),if_pos h,if_pos (by omega),show j - (V - (t+1))=(j - (V - t))+1 by omega,Int.pow_succ,Int.mul_assoc]
theorem qus (n V:Nat) (G R0:Nat->Int) {j:Nat} (hj:j<V):zQ n V G R0 V j=qr8 n V G R0 j*G n ^ j:=by
 unfold zQ;rw [if_pos (by omega),Nat.sub_self,Nat.sub_zero]


def zC (q g:Nat->Int):Nat->Nat->Int
 | 0,_=>0
 | V+1,i=>zC q g V i+(if V<=i then q V*g (i - V) else 0)
def zE (V:Nat) (f g q:Nat->Int):Nat->Nat->Int
 | 0,i=>f i
 | t+1,i=>zE V f g q t i - (if V - 1 - t<=i then q (V - 1 - t)*g (i - (V - 1 - t)) else 0)
theorem qsi {V:Nat} {f g q:Nat->Int} : ∀ t i,t<=V->zE V f g q t i=f i - (zC q g V i - zC q g (V - t) i)
 | 0,i,_=>by simp [zE]
 | t+1,i,ht=>by
  unfold zE;rw [qsi t i (by omega),show V - t=(V - 1 - t)+1 by omega,show V - (t+1)=V - 1 - t by omega];simp only [zC];omega
theorem qkG {q q' g:Nat->Int} {i:Nat} : ∀ V,(∀ k,k<V->q k=q' k)->zC q g V i=zC q' g V i
 | 0,_=>rfl
 | V+1,h=>by
  simp only [zC];rw [qkG V fun k hk=>h k (by omega),h V (by omega)]
theorem qhH {q g:Nat->Int} {n:Nat} (hg : ∀ i,n<i->g i=0) : ∀ V i,n+V<=i->zC q g V i=0
 | 0,_,_=>rfl
 | V+1,i,h=>by
  simp only [zC];rw [qhH hg V i (by omega),hg (i - V) (by omega)];simp
theorem qfS {V:Nat} {f g q q':Nat->Int} : ∀ t i,(∀ k,V - t<=k->k<V->q k=q' k)->t<=V->zE V f g q t i=zE V f g q' t i
 | 0,_,_,_=>rfl
 | t+1,i,h,ht=>by
  unfold zE;rw [qfS t i (fun k h1 h2=>h k (by omega) h2) (by omega),h (V - 1 - t) (by omega) (by omega)]
theorem qsh {V n t:Nat} {f g q:Nat->Int} (hg : ∀ i,n<i->g i=0) (hf : ∀ i,f i=zC q g V i) (ht:t<V):zE V f g q t (V - 1 - t+n)=q (V - 1 - t)*g n:=by
 rw [qsi t _ (by omega),hf,show V - t=(V - 1 - t)+1 by omega];simp only [zC];rw [qhH hg (V - 1 - t) _ (by omega),if_pos (by omega),Nat.add_sub_cancel_left];omega
theorem qrl {V:Nat} {f g q:Nat->Int} (i:Nat):zE V f g q V i=f i - zC q g V i:=by
 rw [qsi V i (Nat.le_refl _),Nat.sub_self];simp [zC]


theorem qbZ (t:Int) {a b:Nat->Int} : ∀ n,(∀ i,i<n->a i=b i)->psI t a n=psI t b n
 | 0,_=>rfl
 | n+1,h=>by
  show psI t a n+a n*t ^ n=psI t b n+b n*t ^ n;rw [qbZ t n fun i hi=>h i (by omega),h n (by omega)]
theorem qhZ (t:Int) (a b:Nat->Int) : ∀ n,psI t (fun i=>a i+b i) n=psI t a n+psI t b n
 | 0=>rfl
 | n+1=>by
  show psI t (fun i=>a i+b i) n+(a n+b n)*t ^ n=psI t a n+a n*t ^ n+(psI t b n+b n*t ^ n);rw [qhZ t a b n,Int.add_mul];omega
theorem qeR (t:Int) : ∀ n,psI t (fun _=>0) n=0
 | 0=>rfl
 | n+1=>by
  show psI t (fun _=>0) n+0*t ^ n=0;rw [qeR t n];simp
theorem qhY (t:Int) (F:Nat->Int) (V:Nat) : ∀ k,psI t F (V+k)=psI t F V+t ^ V*psI t (fun i=>F (V+i)) k
 | 0=>by
  show psI t F V=psI t F V+t ^ V*0;simp
 | k+1=>by
  show psI t F (V+k)+F (V+k)*t ^ (V+k)=psI t F V+t ^ V*(psI t (fun i=>F (V+i)) k+F (V+k)*t ^ k);rw [qhY t F V k,Int.pow_add,Int.mul_add,Int.mul_left_comm (t ^ V) (F (V+k)) (t ^ k)];omega
theorem qhX (t c:Int) (a:Nat->Int) : ∀ n,psI t (fun i=>c*a i) n=c*psI t a n
 | 0=>by show (0:Int)=c*0;simp
 | n+1=>by
  show psI t (fun i=>c*a i) n+c*a n*t ^ n=c*(psI t a n+a n*t ^ n);rw [qhX t c a n,Int.mul_add,Int.mul_assoc]
theorem qqh (t c:Int) (g:Nat->Int) (V k r:Nat):psI t (fun i=>if V<=i then c*zx0 k g (i - V) else 0) (V+(k+r))=c*t ^ V*psI t g k:=by
 rw [qhY,qbZ t (b:=fun _=>0) V (fun i hi=>if_neg (by omega)),qeR,qhY,
  qbZ t (b:=fun i=>c*g i) k (fun i hi=>by show (if V<=V+i then _ else _)=_;rw [if_pos (by omega),Nat.add_sub_cancel_left,zx0,if_pos hi]),
  qbZ t (b:=fun _=>0) r (fun i hi=>by show (if V<=V+(k+i) then _ else _)=_;rw [if_pos (by omega),Nat.add_sub_cancel_left,zx0,if_neg (by omega)];simp),qeR,qhX]
 rw [Int.mul_zero,Int.add_zero,Int.zero_add,Int.mul_left_comm,Int.mul_assoc]
theorem qkF (t:Int) (q g:Nat->Int) (k N:Nat) : ∀ V,V+k<=N->psI t (zC q (zx0 k g) V) N=psI t q V*psI t g k
 | 0,_=>by
  have h0:psI t (zC q (zx0 k g) 0) N=0:=(qbZ t (b:=fun _=>0) N fun _ _=>rfl).trans (qeR t N);rw [h0];show (0:Int)=0*_;simp
 | V+1,h=>by
  show psI t (fun i=>zC q (zx0 k g) V i+(if V<=i then q V*zx0 k g (i - V) else 0)) N=(psI t q V+q V*t ^ V)*psI t g k;rw [qhZ,qkF t q g k N V (by omega),Int.add_mul];have:=qqh t (q V) g V k (N - (V+k));rw [show V+(k+(N - (V+k)))=N by omega] at this;rw [this]
theorem qle (z:Int):NN (cst z):=fun m hm=>by
 show qab [(z,Mo.zero)] m=0;unfold qab qab
 by_cases e:Mo.zero=m
 ·subst e;exact absurd hm (by decide)
 ·rw [if_neg e];rfl
theorem qbS (L n:Nat) (z:Nat->Int):NN (upl L n z):=NN.poly fun i _=>qle (z i)
theorem qjd (x:Nat->Int) {L:Nat} (h1:1<=L) (h4:L<=4) (n:Nat) (z:Nat->Int):ev x (upl L n z)=psI (x (L - 1)) z n:=
 (qoH x L n _ h1 h4 fun i _=>qle (z i)).trans (qbZ _ _ fun i _=>qgN x (z i))
theorem qso {L:Nat} (h1:1<=L) (h4:L<=4) (q g:Nat->Int) (V k N:Nat) (hN:V+k<=N):Sim (pmul (upl L V q) (upl L k g)) (upl L N (zC q (zx0 k g) V)):=
 qcs (qbG (qbS _ _ _) (qbS _ _ _)) (qbS _ _ _) fun x=>by
  rw [qaj x (qbS _ _ _) (qbS _ _ _),qjd x h1 h4,qjd x h1 h4,qjd x h1 h4,qkF _ q g k N V hN]


def zK (g:Nat->Int) (r:List Tm) (L:Nat) (m:Mo):Nat->Int
 | 0=>0
 | k+1=>zK g r L m k+g k*qab r (Mo.sub m (xp L (k:Int)))
theorem qdX (L:Nat) (g:Nat->Int) (r:List Tm) (m:Mo) : ∀ k,qab (pmul (upl L k g) r) m=zK g r L m k
 | 0=>rfl
 | k+1=>by
  unfold upl;rw [qal,qaq,qad];have h:=qdX L g r m k;unfold upl at h;rw [h];show _+qab (pmul [(g k,Mo.add Mo.zero (xp L (k:Int)))] r) m=_
  have e:Mo.add Mo.zero (xp L (k:Int))=xp L (k:Int):=by simp [Mo.add,Mo.zero]
  rw [e];show _+qab (shift (xp L (k:Int)) (smul (g k) r) ++ []) m=_;rw [List.append_nil,qaF,qag];rfl
theorem quG (L:Nat) (i j:Int):Mo.sub (xp L i) (xp L j)=xp L (i - j):=by
 simp only [Mo.sub,xp,Mo.mk.injEq];refine ⟨?_,?_,?_,?_⟩ <;> split <;> omega
theorem qu5 {L:Nat} (h1:1<=L) (h4:L<=4) {i:Int} (hi:i<0):(xp L i).nn=false:=by
 rcases qcJ h1 h4 with rfl | rfl | rfl | rfl <;> simp [Mo.nn,xp] <;> omega
theorem qsf {L:Nat} (h1:1<=L) (h4:L<=4) (g:Nat->Int) {r:List Tm} (hr:NN r) (i:Nat) : ∀ k,zK g r L (xp L (i:Int)) k=zC g (fun j=>qab r (xp L (j:Int))) k i
 | 0=>rfl
 | k+1=>by
  show zK g r L _ k+g k*qab r (Mo.sub (xp L (i:Int)) (xp L (k:Int)))=zC g _ k i+(if k<=i then g k*qab r (xp L ((i - k:Nat):Int)) else 0);rw [qsf h1 h4 g hr i k,quG]
  split
  ·rename_i h;rw [show ((i:Int) - (k:Int))=((i - k:Nat):Int) by omega]
  ·rename_i h;rw [hr _ (qu5 h1 h4 (i:=(i:Int) - (k:Int)) (by omega))];simp
theorem qrm (f:Nat->Int) (i:Nat) : ∀ m,zC f (fun j=>if j=0 then 1 else 0) m i=zx0 m f i
 | 0=>rfl
 | m+1=>by
  show zC f _ m i+(if m<=i then f m*(if i - m=0 then 1 else 0) else 0)=_;rw [qrm f i m];unfold zx0;rcases Nat.lt_trichotomy i m with h | h | h
  ·rw [if_pos h,if_neg (by omega),if_pos (by omega),Int.add_zero]
  ·subst h;rw [if_neg (by omega),if_pos (by omega),if_pos (by omega),if_pos (by omega),Int.zero_add,Int.mul_one]
  ·rw [if_neg (by omega),if_pos (by omega),if_neg (by omega),if_neg (by omega),Int.mul_zero,Int.add_zero]
theorem qq2 {L:Nat} (h1:1<=L) (h4:L<=4) (j:Nat):qab [((1:Int),Mo.zero)] (xp L (j:Int))=if j=0 then 1 else 0:=by
 have e:(Mo.zero=xp L (j:Int))↔j=0:=by
  rcases qcJ h1 h4 with rfl | rfl | rfl | rfl <;> simp [Mo.zero,xp] <;> omega
 unfold qab qab;simp only [e]
 split <;> rfl
theorem qei {L:Nat} (h1:1<=L) (h4:L<=4) (m:Nat) (f:Nat->Int) (i:Nat):qab (upl L m f) (xp L (i:Int))=zx0 m f i:=by
 rw [<- qeU (upl L m f) (xp L (i:Int)),qdX,qsf h1 h4 f (r:=[((1:Int),Mo.zero)]) (qle 1),<- qrm f i m]
 congr 1
 funext j
 exact qq2 h1 h4 j
theorem qsj (q g:Nat->Int) (V k i:Nat):zC g (zx0 V q) k i=zC q (zx0 k g) V i:=by
 have h:=qhV (V+k+i+1) (fun j=>zC g (zx0 V q) k j+(-1)*zC q (zx0 k g) V j) (fun t _=>by
  rw [qhZ t (zC g (zx0 V q) k) (fun j=>(-1)*zC q (zx0 k g) V j),qhX,qkF t g q V _ k (by omega),qkF t q g k _ V (by omega),Int.mul_comm (psI t g k)]
  omega) i (by omega)
 omega
theorem qm2 {n i:Nat} {z:Nat->Int} (h:n<=i):zx0 n z i=0:=if_neg (by omega)
theorem quu {g q:Nat->Int} {B:Nat} (h : ∀ i,B<=i->q i=0) (k i:Nat):zC g q k i=zC g (zx0 B q) k i:=by
 have e:q=zx0 B q:=by
  funext j
  unfold zx0
  split
  ·rfl
  ·exact h j (by omega)
 rw [<- e]
theorem quV {L : Nat} (h1 : 1 <= L) (h4 : L <= 4) {f g : Nat -> Int} {m k n : Nat} {r : List Tm} (hr : NN r) (hs : Sim (pmul (upl L k g) r) (upl L m f)) (hg : zx0 k g n ≠ 0) (hn : ∀ i, n < i -> zx0 k g i = 0) :
  (∀ i,m - n<=i->qab r (xp L (i:Int))=0) /\ ∀ i,zx0 m f i=zC (fun j=>qab r (xp L (j:Int))) (zx0 k g) (m - n) i:=by
 obtain ⟨B,hB⟩:=qeG r
 have hq : ∀ i,B+1<=i->qab r (xp L (i:Int))=0:=fun i hi=>Classical.byContradiction fun hc=>by
  have:=hB (xp L (i:Int)) hc L;rw [qaB L L _ h1 h4,if_pos rfl] at this;omega
 generalize hQ:(fun j:Nat=>qab r (xp L (j:Int)))=q at *
 have hq' : ∀ i,B+1<=i->q i=0:=fun i hi=>by rw [<- hQ];exact hq i hi
 have hf : ∀ i,zx0 m f i=zC g q k i:=fun i=>by
  rw [<- qei h1 h4 m f i,<- hs (xp L (i:Int)),qdX,qsf h1 h4 g hr,hQ]
 have hf2 : ∀ V,(∀ i,V<=i->q i=0) -> ∀ i,zx0 m f i=zC q (zx0 k g) V i:=fun V hV i=>by
  rw [hf i,quu hV,qsj]
 have down : ∀ d V,V=m - n+d->(∀ i,V<=i->q i=0) -> ∀ i,m - n<=i->q i=0:=by
  intro d
  induction d with
  | zero=>intro V hV h i hi;exact h i (by omega)
  | succ d ih=>
   intro V hV h;refine ih (m - n+d) rfl fun i hi=>?_
   by_cases e:i=m - n+d
   ·have h2:=hf2 (m - n+d+1) (fun j hj=>h j (by omega)) (m - n+d+n);rw [qm2 (by omega)] at h2;simp only [zC] at h2;rw [qhH hn _ _ (by omega),if_pos (by omega),Nat.add_sub_cancel_left,Int.zero_add] at h2;rw [e];exact (Int.mul_eq_zero.1 h2.symm).resolve_right hg
   ·exact h i (by omega)
 have hz : ∀ i,m - n<=i->q i=0:=down (B+1) _ rfl fun i hi=>hq' i (by omega);exact ⟨fun i hi=>by have:=hz i hi;rw [<- hQ] at this;exact this,hf2 _ hz⟩


theorem qjI {L:Nat} (h1:1<=L) (h4:L<=4) {a b:Nat->Int} {n N:Nat} (h : ∀ i,zx0 n a i=zx0 N b i):Sim (upl L n a) (upl L N b):=
 qcs (qbS _ _ _) (qbS _ _ _) fun x=>by
  rw [qjd x h1 h4,qjd x h1 h4]
  have key : ∀ (z:Nat->Int) (k r:Nat),psI (x (L - 1)) (zx0 k z) (k+r)=psI (x (L - 1)) z k:=fun z k r=>by
   rw [qhY,qbZ _ (a:=zx0 k z) (b:=z) k (fun i hi=>if_pos hi),qbZ _ (b:=fun _=>0) r (fun i hi=>qm2 (by omega)),qeR];simp
  rw [<- key a n N,<- key b N n,Nat.add_comm N n];exact qbZ _ _ fun i _=>h i
section
variable {L:Nat} (h1:1<=L) (h4:L<=4) {f g:Nat->Int} {m k n:Nat}
include h1 h4
theorem quA (hg:zx0 k g n≠0) : ¬ Sim (upl L k g) []:=fun h=>hg (by rw [<- qei h1 h4 k g n,h];rfl)
theorem qtJ (hg:zx0 k g n≠0) (hn : ∀ i,n<i->zx0 k g i=0):DgR L (upl L k g) n:=by
 refine ⟨fun m hm=>?_,.inr ⟨xp L (n:Int),by rw [qei h1 h4];exact hg,by rw [qaB L L _ h1 h4,if_pos rfl]⟩⟩;obtain ⟨t,ht,e⟩ : ∃ t ∈ upl L k g,t.2=m:=Classical.byContradiction fun hcc=>hm (qay fun t ht e=>hcc ⟨t,ht,e⟩);unfold upl poly at ht;obtain ⟨i,hi,ht⟩:=List.mem_flatMap.1 ht;unfold shift at ht;obtain ⟨s,hs,rfl⟩:=List.mem_map.1 ht;rw [List.mem_singleton.1 hs] at e
 have e2:m=xp L (i:Int):=by rw [<- e];simp [Mo.add,Mo.zero]
 rw [e2,qei h1 h4] at hm;rw [e2,qaB L L _ h1 h4,if_pos rfl];have : ¬ n<i:=fun h=>hm (hn i h);omega
theorem qoN {q:Nat->Int} (h : ∀ i,zx0 m f i=zC q (zx0 k g) (m - n) i):Sim (pmul (upl L (m - n) q) (upl L k g)) (upl L m f):=by
 refine (qso h1 h4 q g (m - n) k (m - n+k+m) (by omega)).trans (qjI h1 h4 fun i=>?_);have e : ∀ (n:Nat) (z:Nat->Int),zx0 n z i=if i<n then z i else 0:=fun _ _=>rfl;have hi':=h i;rw [e m f] at hi' ⊢;rw [e (m - n+k+m),<- hi']
 split
 ·rfl
 ·rename_i hj;rw [if_neg (by omega)]
theorem qsR {r : List Tm} (hr : NN r) (hs : Sim (pmul r (upl L k g)) (upl L m f)) (hg : zx0 k g n ≠ 0) (hn : ∀ i, n < i -> zx0 k g i = 0) :
  Sim r (upl L (m - n) fun j=>qab r (xp L (j:Int))) /\ ∀ i,zx0 m f i=zC (fun j=>qab r (xp L (j:Int))) (zx0 k g) (m - n) i:=by
 obtain ⟨_,hq⟩:=quV h1 h4 hr ((Sim.pmul_comm _ _).trans hs) hg hn;exact ⟨qbK hr (qbS _ _ _) (qbS _ _ _) (quA h1 h4 hg) (hs.trans (qoN h1 h4 hq).symm),hq⟩
theorem qrQ (hg:zx0 k g n≠0) (hn : ∀ i,n<i->zx0 k g i=0):Dv (upl L k g) (upl L m f) ↔ ∃ q,∀ i,zx0 m f i=zC q (zx0 k g) (m - n) i:=
 ⟨fun ⟨_,hr,hs⟩=>⟨_,(qsR h1 h4 hr hs hg hn).2⟩,fun ⟨_,hq⟩=>⟨_,qbS _ _ _,qoN h1 h4 hq⟩⟩
end


theorem quU {L n V B C A D:Nat} {f g:List Tm} (H:PdH L n V B C A D f g) {c:Int} (hc:Sim (ck L (n:Int) g) (cst c)) (h0:c≠0) (hg : ¬ Sim g []):Sim (qbU L n V f g) []↔Dv (snorm g) f:=by
 have hs:=qc6 H.ng;have ns:=qkO g;have nQ:=H.quo_nn;have nR:=H.rem_nn;have hp:=(qh0 hc V).trans (qjZ c V)
 have law : ∀ x,c ^ V*ev x f=ev x (qeV L n V f g)*(qdO (norm g)*ev x (snorm g))+ev x (qbU L n V f g):=fun x=>by
  have h:=qaU x ((hp.symm.pmul_left f).trans H.law);rw [qaj x (qle _) H.nf,qaN,qaj x nQ H.ng,<- qaU x hs,qda,show ev x (cst (c ^ V))=c ^ V from qgN x _] at h;exact h
 constructor
 ·intro hz;refine qtE ns (qmg H.ng hg) H.nf (c:=c ^ V) (Int.pow_ne_zero h0) ⟨smul (qdO (norm g)) (qeV L n V f g),qew nQ,qcs (qbG (qew nQ) ns) (qew H.nf) fun x=>?_⟩;have h:=law x;rw [qaU x hz,show ev x []=0 from rfl,Int.add_zero] at h;rw [qaj x (qew nQ) ns,qda,qda,h,Int.mul_assoc,Int.mul_left_comm]
 ·rintro ⟨q,nq,hq⟩;have nE:NN (smul (c ^ V) q ++ smul (-qdO (norm g)) (qeV L n V f g)):=NN.append (qew nq) (qew nQ)
  have hE:Sim (pmul (smul (c ^ V) q ++ smul (-qdO (norm g)) (qeV L n V f g)) (snorm g)) (qbU L n V f g):=qcs (qbG nE ns) nR fun x=>by
   have h:=law x;rw [<- qaU x hq,qaj x nq ns] at h;rw [qaj x nE ns,qaN,qda,qda]
   grind
  refine Classical.byContradiction fun hz=>?_;have zE : ¬ Sim (smul (c ^ V) q ++ smul (-qdO (norm g)) (qeV L n V f g)) []:=fun h=>hz (hE.symm.trans (h.pmul_left _));have zs : ¬ Sim (snorm g) []:=fun h=>hg (hs.symm.trans (h.smul _));obtain ⟨a,ha⟩:=qfm (k:=L) nE;obtain ⟨b,hb⟩:=qfm (k:=L) ns
  have hbn:b=n:=by
   have hc0:qdO (norm g)≠0:=qfc (qan g)
   have:DgR L g b:=⟨fun m hm=>hb.1 m fun e=>hm (by rw [<- hs m,qag,e,Int.mul_zero]),hb.2.imp id fun ⟨m,h1,h2⟩=>⟨m,fun e=>h1 (by
    rw [<- hs m,qag] at e
    exact (Int.mul_eq_zero.1 e).resolve_left hc0),h2⟩⟩
   exact qcx H.ng hg this H.dg
  have:=H.small hz ((qf6 H.h1 H.h4 nE ns zE zs ha hb).sim hE);omega
end Go.Proofs.YtmcfpnmoklnhoaaGreat

namespace Go.Proofs.YtmcfpnmoklnhoaaGreat
open Go.RowKit

def JC (w:World) (b o:Nat) (x:IE):Prop:=w.cell? ⟨b,o,none⟩=some (.bool x.b)/\w.cell? ⟨b,o+1,none⟩=some (.slice x.a x.n x.p)
theorem JC.of_heap {w w':World} {b o:Nat} {x:IE} (h:JC w b o x) (he:w'.heap[b]? = w.heap[b]?):JC w' b o x:=by
 have hc:=fun o=>World.cell?_of_block (w:=w) (w':=w') (a:=⟨b,o,none⟩) he;exact ⟨(hc _).trans h.1,(hc _).trans h.2⟩
theorem JC.ext {w w':World} {b o:Nat} {x:IE} (h:JC w b o x) (hb:b<w.heap.size) (he:Ext w w'):JC w' b o x:=h.of_heap (he.heap hb)
theorem JC.lt {w:World} {b o:Nat} {x:IE} (h:JC w b o x):b<w.heap.size:=World.block_lt_of_cell? _ _ h.1
abbrev IE.v (x:IE):Array Value:=#[.bool x.b,.slice x.a x.n x.p]
def IX (M:Nat->Prop) (w:World) (x:IE) (z:Int):Prop:=qbn M w (.bool x.b) (.slice x.a x.n x.p) z
theorem IX.ext {M:Nat->Prop} {w w':World} {x:IE} {z:Int} (h:IX M w x z) (he:Ext w w'):IX M w' x z:=qbn.ext h he
theorem IX.kp {M:Nat->Prop} {w w':World} {x:IE} {z:Int} (h:IX M w x z) (he:Kp M w w'):IX M w' x z:=qbn.kp h he
theorem IX.more {M M':Nat->Prop} {w:World} {x:IE} {z:Int} (h:IX M w x z) (hm : ∀ g,M' g->M g∨w.heap.size<=g):IX M' w x z:=qbn.more h hm
def qel (M:Nat->Prop) (w:World) (z:Int) (e:Ending) (w':World):Prop:=∃ x:IE,e = .returned (.agg #[.bool x.b,.slice x.a x.n x.p])/\IX M w' x z/\Ext w w'
theorem qel.of {M:Nat->Prop} {w:World} {z:Int} {e:Ending} {w':World} (h : ∃ e0 e1,e = .returned (.agg #[e0,e1])/\qbs M w' e0 e1 z/\Ext w w'):qel M w z e w':=by
 obtain ⟨e0,e1,rfl,hc,he⟩:=h;obtain ⟨b,a,n,p,rfl,rfl⟩:=hc.form;exact ⟨⟨b,a,n,p⟩,rfl,hc.toV,he⟩
theorem qwa {M : Nat -> Prop} (x y : IE) (p q : Int) (w : World) (hM : Mb M w) (h : IX M w x p) (k : IX M w y q) (hL : dlen p.natAbs + dlen q.natAbs <= 1099511627776) :
  Calls Tryz.prog 65 #[.agg #[.bool x.b,.slice x.a x.n x.p],.agg #[.bool y.b,.slice y.a y.n y.p]] w (qel M w (p*q)):=(qok _ _ _ _ p q w hM h k hL).mono fun _ _ h=>.of h
theorem qx6 {M : Nat -> Prop} (x y : IE) (p q : Int) (w : World) (hM : Mb M w) (h : IX M w x p) (k : IX M w y q) (hL : dlen p.natAbs + dlen q.natAbs + 1 <= 1099511627776) :
  Calls Tryz.prog 124 #[.agg #[.bool x.b,.slice x.a x.n x.p],.agg #[.bool y.b,.slice y.a y.n y.p]] w (qel M w (p+q)):=
 (qkd _ _ _ _ p q w hM h k (Nat.le_trans (qc3 _ _) (by omega))).mono fun _ _ h=>.of h
theorem qwL {M : Nat -> Prop} (x : IE) (p : Int) (w : World) (hM : Mb M w) (h : IX M w x p) :
  Calls Tryz.prog 101 #[.agg #[.bool x.b,.slice x.a x.n x.p]] w (qel M w p):=(qbT _ _ p w hM h).mono fun _ _ h=>.of h
theorem qxt {M : Nat -> Prop} (x y : IE) (p q : Int) (w : World) (hM : Mb M w) (h : IX M w x p) (k : IX M w y q) (hL : dlen p.natAbs + dlen q.natAbs + 1 <= 1099511627776) :
  Calls Tryz.prog 66 #[.agg #[.bool x.b,.slice x.a x.n x.p],.agg #[.bool y.b,.slice y.a y.n y.p]] w (qel M w (p - q)):=by
 have hE0:Ext w (((w.alloc (.cells #[.bool x.b,.slice x.a x.n x.p] 30)).alloc (.cells #[.bool y.b,.slice y.a y.n y.p] 30)).alloc (.cells zI 30)):=(((Ext.refl w).alloc _).alloc _).alloc _;have hB1:=Blk.of_arr ((w.alloc (.cells #[.bool x.b,.slice x.a x.n x.p] 30)).alloc (.cells #[.bool y.b,.slice y.a y.n y.p] 30)) zI 30 2 rfl;simp only [World.size_alloc] at hB1;have hM0:Mb (Mx M w.heap.size (w.heap.size+3)) (((w.alloc (.cells #[.bool x.b,.slice x.a x.n x.p] 30)).alloc (.cells #[.bool y.b,.slice y.a y.n y.p] 30)).alloc (.cells zI 30)):=Mx.mb hM (by simp;omega) (by simp);have hx:IX (Mx M w.heap.size (w.heap.size+3)) (((w.alloc (.cells #[.bool x.b,.slice x.a x.n x.p] 30)).alloc (.cells #[.bool y.b,.slice y.a y.n y.p] 30)).alloc (.cells zI 30)) x p:=(h.more (M':=Mx M w.heap.size (w.heap.size+3)) (Mx.more (Nat.le_refl _))).ext hE0
 have hy:IX (Mx M w.heap.size (w.heap.size+3)) (((w.alloc (.cells #[.bool x.b,.slice x.a x.n x.p] 30)).alloc (.cells #[.bool y.b,.slice y.a y.n y.p] 30)).alloc (.cells zI 30)) ⟨!y.b,y.a,y.n,y.p⟩ (-q):=by
  obtain ⟨nb,u,hb,hu,rfl⟩:=(k.more (M':=Mx M w.heap.size (w.heap.size+3)) (Mx.more (Nat.le_refl _))).ext hE0;simp only [Value.bool.injEq] at hb;subst hb;exact ⟨!y.b,u,rfl,hu,(qnv _ _).symm⟩
 have CTR:=Lib.hid (qx6 x ⟨!y.b,y.a,y.n,y.p⟩ p (-q) _ hM0 hx hy (by rw [Int.natAbs_neg];exact hL));have HB:=Lib.hid hB1;have HE:=Lib.hid hE0;clear hE0 hB1 hM0 h k hM hx hy
 go_enter Tryz.func66,Tryz.ntmps66
 go_wp2_with (fail);refine CTR.out.mono ?_;rintro e w1 ⟨v,rfl,hc,he1⟩;obtain ⟨⟨q0,q1,f0,f1⟩,⟨r0,r1⟩,hkp,hext⟩:=qf1 (M':=Mx M w.heap.size (w.heap.size+3)) (w:=w) (.bool v.b) (.slice v.a v.n v.p) (HB.out.ext he1) (Mx.at (by omega)) (by omega) (HE.out.trans he1);have HF:Hid (qel M w (p - q) (.returned (.agg #[.bool v.b,.slice v.a v.n v.p])) _):=⟨v,rfl,(by rw [Int.sub_eq_add_neg];exact (hc.kp hkp).more Mx.less),hext⟩;have hlt:=(HB.out.ext he1).lt;simp only [arr] at q0 q1;clear CTR hc he1 hkp hext;go_wp2;exact bodyPost_ret (v:=.agg #[.bool v.b,.slice v.a v.n v.p]) (by simp [results,Tryz.results66,go_sem,r0,r1]) rfl HF.out
section
variable {M M':Nat->Prop} {w w':World} {g N k:Nat} {z z':Nat->Int}
theorem qco.cel {a:Option Addr} {n cap:Nat} {X:Nat->IE} (h:qco M w a n cap X z) {i:Nat} (hi:i<n) : ∃ b off,a=some ⟨b,off,none⟩/\JC w b (off+i*2) (X i)/\b<w.heap.size/\IX M w (X i) (z i):=by
 obtain ⟨b,off,e,hb,_,h0,h1,h2⟩:=h.2.2.2.2 i hi;exact ⟨b,off,e,⟨h0,h1⟩,hb,h2⟩
theorem UK.cel (h:UK M w g N k z) {j:Nat} (hj:j<k) (hN:k<=N) : ∃ x:IE,JC w g (j*2) x/\IX M w x (z j):=by
 obtain ⟨X,f,hB,hf⟩:=h;obtain ⟨h0,h1,h2⟩:=hf j hj;refine ⟨X j,⟨?_,?_⟩,h2⟩
 ·rw [hB.cell (by omega),h0]
 ·rw [hB.cell (by omega),h1]
theorem UK.lt (h:UK M w g N k z):g<w.heap.size:=by
 obtain ⟨X,f,hB,hf⟩:=h;exact hB.lt
theorem UK.frz (h:UK M w g N k z) (o:Nat):w.frozen? ⟨g,o,none⟩=false:=by
 obtain ⟨X,f,hB,hf⟩:=h;exact hB.frozen o
theorem UK.congr (h:UK M w g N k z) (hz : ∀ i,i<k->z i=z' i):UK M w g N k z':=by
 obtain ⟨X,f,hB,hf⟩:=h;exact ⟨X,f,hB,fun i hi=>by rw [<- hz i hi];exact hf i hi⟩
theorem UK.kp (h:UK M w g N k z) (he:w'.heap[g]? = w.heap[g]?) (hk:Kp M w w'):UK M w' g N k z:=by
 obtain ⟨X,f,hB,hf⟩:=h;exact ⟨X,f,hB.of_heap he,fun i hi=>⟨(hf i hi).1,(hf i hi).2.1,(hf i hi).2.2.kp hk⟩⟩
theorem qbJ (w:World) (g o:Nat) (e0 e1:Value) (b:Nat) (hb:b≠g):(set2 w g o e0 e1).heap[b]? = w.heap[b]?:=by
 unfold set2;rw [Below.heap_setCell _ _ _ _ hb,Below.heap_setCell _ _ _ _ hb]
theorem Kp.set2 (hg:M g) (o:Nat) (e0 e1:Value):Kp M w (Go.Proofs.YtmcfpnmoklnhoaaGreat.set2 w g o e0 e1):=(Kp.set M w (p:=⟨g,o,none⟩) hg e0).trans (Kp.set M _ (p:=⟨g,o+1,none⟩) hg e1)
theorem UK.put (h:UK M w g N N z) (hg:M g) {j:Nat} (hj:j<N) {x:IE} {v:Int} (hc:IX M w x v):UK M (set2 w g (j*2) (.bool x.b) (.slice x.a x.n x.p)) g N N fun i=>if i=j then v else z i:=by
 obtain ⟨X,f,hB,hf⟩:=h;have hk:Kp M w (set2 w g (j*2) (.bool x.b) (.slice x.a x.n x.p)):=Kp.set2 hg _ _ _;refine ⟨fun i=>if i=j then x else X i,_,(hB.set (j*2) (.bool x.b)).set (j*2+1) (.slice x.a x.n x.p),fun i hi=>?_⟩;unfold upd
 by_cases hik:i=j
 ·subst hik;simp only [if_true];exact ⟨by rw [if_neg (by omega)],trivial,hc.kp hk⟩
 ·simp only [if_neg hik];rw [if_neg (by omega),if_neg (by omega),if_neg (by omega),if_neg (by omega)];obtain ⟨h1,h2,h3⟩:=hf i (by omega);exact ⟨h1,h2,h3.kp hk⟩
def zc2 (i:Nat):Value:=if i % 2=0 then .bool false else .slice none 0 0
theorem UK.zero {f:Nat->Value} (hB:Blk w g 30 (N*2) f) (hf : ∀ i,i<N*2->f i=zc2 i):UK M w g N N fun _=>0:=by
 refine ⟨fun _=>⟨false,none,0,0⟩,f,hB,fun i hi=>⟨?_,?_,(qbs.zero M w).toV⟩⟩
 ·rw [hf _ (by omega)];unfold zc2;rw [if_pos (by omega)]
 ·rw [hf _ (by omega)];unfold zc2;rw [if_neg (by omega)]
end
theorem qjz (w:World) (N:Nat) (e:TypeId):Blk (w.alloc (.cells (madeCells (Value.agg #[.bool false,.slice none 0 0]).cells (N*2)) e)) w.heap.size e (N*2) zc2:=
 Blk.of_alloc w _ e zc2 (N*2) (by simp [madeCells]) fun i hi=>by
  have hm:i % 2<2:=Nat.mod_lt _ (by decide);unfold zc2;rcases Nat.mod_two_eq_zero_or_one i with h | h <;> simp [madeCells,hi,Array.getD_eq_getD_getElem?,h,Value.cells]
def ldU (z:Nat->Int) (n:Nat):Int:=if tz z n=0 then 0 else z (tz z n - 1)
theorem qna (M : Nat -> Prop) (a : Option Addr) (n cap : Nat) (X : Nat -> IE) (z : Nat -> Int) (w : World) (hM : Mb M w) (h : qco M w a n cap X z) :
  Calls Tryz.prog 64 #[.slice a n cap] w (qel M w (ldU z n)):=by
 have hE0:Ext w (w.alloc (.cells #[.bool false,.slice none 0 0] 30)):=(Ext.refl w).alloc _;have hB0:=Blk.of_arr w #[.bool false,.slice none 0 0] 30 2 rfl;have hM1:Mb (Mx M w.heap.size (w.heap.size+1)) (w.alloc (.cells #[.bool false,.slice none 0 0] 30)):=Mx.mb hM (by simp) (by simp);have hU:=(h.more (M':=Mx M w.heap.size (w.heap.size+1)) (Mx.more (Nat.le_refl _))).ext hE0;have hn:=h.1;have hcn:=h.2.1;have hcm:=h.2.2.1;have hle:=qeL z n;generalize hW:w.alloc (.cells #[.bool false,.slice none 0 0] 30)=W at *;have HW:=Lib.hid hW;have HU:=Lib.hid hU;have HE:=Lib.hid hE0;have HB:=Lib.hid hB0;have HM:=Lib.hid hM1;have CT:=Lib.hid (qjK _ a n cap X z W hU);have HL:Hid (ldU z n=if tz z n=0 then 0 else z (tz z n - 1)):=rfl;unfold maxLen at hcm;clear hW hU hE0 hB0 hM1 h hM
 go_enter Tryz.func64,Tryz.ntmps64
 go_upto_region 1 with (fail)
 rw [HW.out];clear HW;go_wp2_with (fail);refine CT.out.mono ?_;rintro e w1 ⟨rfl,he1⟩;have HE1:=Lib.hid (HE.out.trans he1);have HB1:=Lib.hid (HB.out.ext he1);have HU1:=Lib.hid ((HU.out.ext he1).cut hle);have HM1:=Lib.hid (HM.out.ext he1);clear he1 HE HB HU HM CT;generalize tz z n=m at *
 by_cases h0:m=0
 ·subst h0;obtain ⟨⟨s0,s1,g0,g1⟩,⟨t0,t1⟩,hk2,hf2⟩:=qf1 (M':=Mx M w.heap.size (w.heap.size+1)) (w:=w) (.bool false) (.slice none 0 0) HB1.out (Mx.at (by omega)) (by omega) HE1.out;have HF:Hid (qel M w (ldU z n) (.returned (.agg #[.bool false,.slice none 0 0])) _):=⟨⟨false,none,0,0⟩,rfl,(by rw [HL.out,if_pos rfl];exact (qbs.zero _ _).toV),hf2⟩;have hltw:=HB1.out.lt;simp only [arr] at s0 s1;clear hk2 hf2 HE1 HB1 HU1 HM1 HL;go_wp2;exact bodyPost_ret (v:=.agg #[.bool false,.slice none 0 0]) (by simp [results,Tryz.results64,go_sem,t0,t1]) rfl HF.out
 ·obtain ⟨b,off,rfl,⟨x0,x1⟩,hb,hx⟩:=HU1.out.cel (i:=m - 1) (by omega)
  have hm1 : ¬ (m:Int)=0:=by omega
  have j1:(0:Int)<=(m:Int) - 1:=by omega
  have j2:((m:Int) - 1).toNat=m - 1:=by omega
  have j3:(m:Int) - 1<(m:Int):=by omega
  have HX:=Lib.hid hx;clear hx;go_wp2_with (fail);refine (qwL _ _ _ HM1.out HX.out).mono ?_;rintro e w2 ⟨y,rfl,hy,he2⟩;have HY:=Lib.hid hy;obtain ⟨⟨s0,s1,g0,g1⟩,⟨t0,t1⟩,hk2,hf2⟩:=qf1 (M':=Mx M w.heap.size (w.heap.size+1)) (w:=w) (.bool y.b) (.slice y.a y.n y.p) (HB1.out.ext he2) (Mx.at (by omega)) (by omega) (HE1.out.trans he2);have HF:Hid (qel M w (ldU z n) (.returned (.agg #[.bool y.b,.slice y.a y.n y.p])) _):=⟨y,rfl,(by rw [HL.out,if_neg h0];exact (HY.out.kp hk2).more Mx.less),hf2⟩;have hltw:=(HB1.out.ext he2).lt;simp only [arr] at s0 s1;clear hk2 hf2 HE1 HB1 HU1 HM1 HL HX HY hy he2 x0 x1 hb;go_wp2;exact bodyPost_ret (v:=.agg #[.bool y.b,.slice y.a y.n y.p]) (by simp [results,Tryz.results64,go_sem,t0,t1]) rfl HF.out


theorem qr9 (k:Nat) (c top:Int) (G R:Nat->Int) (i:Nat):zS k c top G R 0 i=R i:=if_neg (by omega)
theorem qwn (k:Nat) (c top:Int) (G R:Nat->Int) (j:Nat):zS k c top G R j j=R j:=if_neg (by omega)
theorem qwl {k j:Nat} (c top:Int) (G R:Nat->Int) (h:k<=j) (i:Nat):zS k c top G R (j+1) i=if i=j then R j*c - top*G (j - k) else zS k c top G R j i:=by
 unfold zS
 by_cases e:i=j
 ·subst e;rw [if_pos (by omega),if_pos h,if_pos rfl]
 ·rw [if_neg e]
  by_cases h2:i<j
  ·rw [if_pos h2,if_pos (by omega)]
  ·rw [if_neg h2,if_neg (by omega)]
theorem qwk {k j:Nat} (c top:Int) (G R:Nat->Int) (h : ¬ k<=j) (i:Nat):zS k c top G R (j+1) i=if i=j then R j*c else zS k c top G R j i:=by
 unfold zS
 by_cases e:i=j
 ·subst e;rw [if_pos (by omega),if_neg h,if_pos rfl]
 ·rw [if_neg e]
  by_cases h2:i<j
  ·rw [if_pos h2,if_pos (by omega)]
  ·rw [if_neg h2,if_neg (by omega)]
theorem qsa {n V k t:Nat} (G R0:Nat->Int) (h:t+(k+1)=V):zR n V G R0 (t+1)=zS k (G n) (zR n V G R0 t (n+k)) G (zR n V G R0 t) (n+k):=by
 show zS (V - 1 - t) (G n) (zR n V G R0 t (n+(V - 1 - t))) G (zR n V G R0 t) (n+(V - 1 - t))=_;rw [show V - 1 - t=k by omega]
theorem qne (z:Nat->Int) (n:Nat):tz z (tz z n)=tz z n:=by
 rcases qhb z n with h | h
 ·rw [h];rfl
 ·by_cases h0:tz z n=0
  ·rw [h0];rfl
  ·exact qnc (by omega) h
theorem qji {c:Int} {D:Nat} (h:dlen c.natAbs<=D) : ∀ k,dlen (c ^ k).natAbs<=k*D+1
 | 0=>by simp;decide
 | k+1=>by
  have:=qji h k;rw [Int.pow_succ,Int.natAbs_mul,Nat.succ_mul];have:=qaY (c ^ k).natAbs c.natAbs;omega
section
variable {n V A D:Nat} {G R0:Nat->Int} (hG : ∀ i,dlen (G i).natAbs<=D) (hR : ∀ i,dlen (R0 i).natAbs<=A)
include hG hR
theorem qrj {t:Nat} (ht:t<=V) (i:Nat):dlen (zR n V G R0 t i).natAbs<=A+V*(D+1):=by
 have:=qsb (n:=n) (V:=V) hG hR t i;have:=Nat.mul_le_mul_right (D+1) ht;omega
theorem qwo (t j:Nat):dlen (zQ n V G R0 t j).natAbs<=A+V*(D+1)+(V*D+1):=by
 unfold zQ
 split
 ·rename_i h;have h1:dlen (qr8 n V G R0 j).natAbs<=A+V*(D+1):=qrj hG hR (by omega) _;have h2:=qji (hG n) (j - (V - t));have h3:=Nat.mul_le_mul_right D (show j - (V - t)<=V by omega);have h4:=qaY (qr8 n V G R0 j).natAbs (G n ^ (j - (V - t))).natAbs;rw [Int.natAbs_mul];omega
 ·exact Nat.le_trans (by decide:dlen (0:Int).natAbs<=0) (Nat.zero_le _)
end
def zJ (k j:Nat) (c:Int) (q:Nat->Int) (i:Nat):Int:=if k<i/\i<j then q i*c else q i
theorem qpN (k:Nat) (c:Int) (q:Nat->Int) (i:Nat):zJ k (k+1) c q i=q i:=if_neg (by omega)
theorem qwq (k j:Nat) (c:Int) (q:Nat->Int):zJ k j c q j=q j:=if_neg (by omega)
theorem qsg {k j:Nat} (c:Int) (q:Nat->Int) (h:k<j) (i:Nat):(if i=j then q j*c else zJ k j c q i)=zJ k (j+1) c q i:=by
 unfold zJ
 by_cases e:i=j
 ·subst e;rw [if_pos rfl,if_pos (by omega)]
 ·rw [if_neg e]
  by_cases h2:k<i/\i<j
  ·rw [if_pos h2,if_pos (by omega)]
  ·rw [if_neg h2,if_neg (by omega)]
theorem qut {n V k t:Nat} (G R0:Nat->Int) (h:t+(k+1)=V) (i:Nat) (hi:i<V):(if i=k then zR n V G R0 t (n+k) else zJ k V (G n) (zQ n V G R0 t) i)=zQ n V G R0 (t+1) i:=by
 rw [qsd G R0 (by omega) hi,show V - 1 - t=k by omega];unfold zJ
 by_cases e:i=k
 ·subst e;rw [if_pos rfl,if_neg (by omega),if_pos rfl]
 ·rw [if_neg e]
  by_cases h2:k<i
  ·rw [if_pos (by omega),if_pos h2]
  ·rw [if_neg (by omega),if_neg h2,if_neg e]
def PsO (M:Nat->Prop) (w':World) (n1:Nat) (z1:Nat->Int) (n2:Nat) (z2:Nat->Int) (au:Option Addr) (nu cu:Nat) (av:Option Addr) (nv cv:Nat) (er:Int):Prop:=
 ∃ Xu zu Xv zv,qco M w' au nu cu Xu zu/\qco M w' av nv cv Xv zv/\((tz z2 n2=0/\er=2/\nu=0/\nv=0) ∨
  ∃ n V,tz z2 n2=n+1/\V=tz z1 n1 - n/\er=0/\nv=tz zv nv/\(∀ i,zx0 nu zu i=zx0 V (zQ n V (zx0 n2 z2) (zx0 n1 z1) V) i) /\ ∀ i,zx0 nv zv i=zx0 n (zR n V (zx0 n2 z2) (zx0 n1 z1) V) i)
def qku (M:Nat->Prop) (w:World) (n1:Nat) (z1:Nat->Int) (n2:Nat) (z2:Nat->Int) (e:Ending) (w':World):Prop:=
 ∃ au nu cu av nv cv er,e = .returned (.tuple #[.slice au nu cu,.slice av nv cv,.int .i64 er])/\PsO M w' n1 z1 n2 z2 au nu cu av nv cv er/\Ext w w'
theorem qco.nil (M:Nat->Prop) (w:World) (X:Nat->IE) (z:Nat->Int):qco M w none 0 0 X z:=⟨Nat.zero_le _,Nat.le_refl _,Nat.zero_le _,fun _=>rfl,fun i hi=>absurd hi (Nat.not_lt_zero _)⟩
theorem qga (n:Nat) (z:Nat->Int) (i:Nat):zx0 (tz z n) z i=zx0 n z i:=by
 unfold zx0;have:=qeL z n
 by_cases h:i<tz z n
 ·rw [if_pos h,if_pos (by omega)]
 ·rw [if_neg h]
  by_cases h2:i<n
  ·rw [if_pos h2,qge z n i (by omega) h2]
  ·rw [if_neg h2]
theorem qkE {n D:Nat} {z:Nat->Int} (h : ∀ i,i<n->dlen (z i).natAbs<=D) (i:Nat):dlen (zx0 n z i).natAbs<=D:=by
 unfold zx0
 split
 ·exact h i (by assumption)
 ·exact Nat.le_trans (by decide:dlen (0:Int).natAbs<=0) (Nat.zero_le _)
def S17 (g o:Nat) (x:IE) (gl:Nat) (c:IE) (w:World):Prop:=JC w g o x/\JC w gl 0 c/\g<w.heap.size/\gl<w.heap.size
theorem S17.ext {g o:Nat} {x:IE} {gl:Nat} {c:IE} {w w':World} (h:S17 g o x gl c w) (he:Ext w w'):S17 g o x gl c w':=⟨h.1.ext h.2.2.1 he,h.2.1.ext h.2.2.2 he,Nat.lt_of_lt_of_le h.2.2.1 he.size,Nat.lt_of_lt_of_le h.2.2.2 he.size⟩
def S25 (g o:Nat) (x:IE) (gp:Nat) (p:IE) (gb o2:Nat) (y:IE) (w:World):Prop:=JC w g o x/\JC w gp 0 p/\JC w gb o2 y/\g<w.heap.size/\gp<w.heap.size/\gb<w.heap.size
theorem S25.ext {g o:Nat} {x:IE} {gp:Nat} {p:IE} {gb o2:Nat} {y:IE} {w w':World} (h:S25 g o x gp p gb o2 y w) (he:Ext w w'):S25 g o x gp p gb o2 y w':=
 ⟨h.1.ext h.2.2.2.1 he,h.2.1.ext h.2.2.2.2.1 he,h.2.2.1.ext h.2.2.2.2.2 he,Nat.lt_of_lt_of_le h.2.2.2.1 he.size,Nat.lt_of_lt_of_le h.2.2.2.2.1 he.size,Nat.lt_of_lt_of_le h.2.2.2.2.2 he.size⟩
abbrev M3 (M:Nat->Prop) (gr gq:Nat):Nat->Prop:=fun b=>(M b∨b=gr)∨b=gq
structure PsS (M:Nat->Prop) (w:World) (gr gq gl N V:Nat) (c:IE) (C:Int) (a2:Option Addr) (n2 c2:Nat) (X2:Nat->IE) (z2 R Q:Nat->Int) (W:World):Prop where
 r:UK (M3 M gr gq) W gr N N R
 q:UK (M3 M gr gq) W gq V V Q
 l:JC W gl 0 c
 c:IX (M3 M gr gq) W c C
 g:qco (M3 M gr gq) W a2 n2 c2 X2 z2
 m:Mb (M3 M gr gq) W
 e:Ext w W
 d:w.heap.size<=gr/\w.heap.size<=gq/\gr≠gq/\gl≠gr/\gl≠gq
section
variable {M:Nat->Prop} {w:World} {gr gq gl N V:Nat} {c:IE} {C:Int} {a2:Option Addr} {n2 c2:Nat} {X2:Nat->IE} {z2 R Q R' Q':Nat->Int} {W W':World}
theorem PsS.ext (h:PsS M w gr gq gl N V c C a2 n2 c2 X2 z2 R Q W) (he:Ext W W'):PsS M w gr gq gl N V c C a2 n2 c2 X2 z2 R Q W':=
 ⟨h.r.ext he,h.q.ext he,h.l.ext h.l.lt he,h.c.ext he,h.g.ext he,h.m.ext he,h.e.trans he,h.d⟩
theorem PsS.congr (h:PsS M w gr gq gl N V c C a2 n2 c2 X2 z2 R Q W) (hr : ∀ i,i<N->R i=R' i) (hq : ∀ i,i<V->Q i=Q' i):PsS M w gr gq gl N V c C a2 n2 c2 X2 z2 R' Q' W:=
 ⟨h.r.congr hr,h.q.congr hq,h.l,h.c,h.g,h.m,h.e,h.d⟩
theorem PsS.putR (h : PsS M w gr gq gl N V c C a2 n2 c2 X2 z2 R Q W) {j : Nat} (hj : j < N) {x : IE} {v : Int} (hx : IX (M3 M gr gq) W x v) :
  PsS M w gr gq gl N V c C a2 n2 c2 X2 z2 (fun i=>if i=j then v else R i) Q (set2 W gr (j*2) (.bool x.b) (.slice x.a x.n x.p)):=by
 have hk:Kp (M3 M gr gq) W (set2 W gr (j*2) (.bool x.b) (.slice x.a x.n x.p)):=Kp.set2 (.inl (.inr rfl)) _ _ _;have hh:=fun b hb=>qbJ W gr (j*2) (.bool x.b) (.slice x.a x.n x.p) b hb;obtain ⟨d1,d2,d3,d4,d5⟩:=h.d;exact ⟨h.r.put (.inl (.inr rfl)) hj hx,h.q.kp (hh _ d3.symm) hk,h.l.of_heap (hh _ d4),h.c.kp hk,h.g.kp hk,h.m.size (by rw [qgr];exact Nat.le_refl _),h.e.set2 d1 _ _ _,h.d⟩
theorem PsS.putQ (h : PsS M w gr gq gl N V c C a2 n2 c2 X2 z2 R Q W) {j : Nat} (hj : j < V) {x : IE} {v : Int} (hx : IX (M3 M gr gq) W x v) :
  PsS M w gr gq gl N V c C a2 n2 c2 X2 z2 R (fun i=>if i=j then v else Q i) (set2 W gq (j*2) (.bool x.b) (.slice x.a x.n x.p)):=by
 have hk:Kp (M3 M gr gq) W (set2 W gq (j*2) (.bool x.b) (.slice x.a x.n x.p)):=Kp.set2 (.inr rfl) _ _ _;have hh:=fun b hb=>qbJ W gq (j*2) (.bool x.b) (.slice x.a x.n x.p) b hb;obtain ⟨d1,d2,d3,d4,d5⟩:=h.d;exact ⟨h.r.kp (hh _ d3) hk,h.q.put (.inr rfl) hj hx,h.l.of_heap (hh _ d5),h.c.kp hk,h.g.kp hk,h.m.size (by rw [qgr];exact Nat.le_refl _),h.e.set2 d2 _ _ _,h.d⟩
end
structure PsN (V A D:Nat):Prop where
 a:A+V*(D+1)+(V*D+1)+D+4<=549755813888


theorem qnb (M : Nat -> Prop) (a1 : Option Addr) (n1 c1 : Nat) (X1 : Nat -> IE) (z1 : Nat -> Int) (a2 : Option Addr) (n2 c2 : Nat) (X2 : Nat -> IE) (z2 : Nat -> Int) (A D : Nat) (w : World) (hM : Mb M w)
  (h1:qco M w a1 n1 c1 X1 z1) (h2:qco M w a2 n2 c2 X2 z2) (hn1:n1<=1000000) (hn2:n2<=1000000) (hA : ∀ i,i<n1->dlen (z1 i).natAbs<=A) (hD : ∀ i,i<n2->dlen (z2 i).natAbs<=D) (hN:PsN n1 A D) :
  Calls Tryz.prog 13 #[.slice a1 n1 c1,.slice a2 n2 c2] w (qku M w n1 z1 n2 z2):=by
 obtain ⟨i0,hi,hz0,hz1,hz2⟩:=info_parts Tryz.info30;have H1:=Lib.hid h1;have H2:=Lib.hid h2;have HM:=Lib.hid hM;have hR0:=qkE hA;have hG0:=qkE hD;have hle1:=qeL z1 n1;have hle2:=qeL z2 n2;have CD:=Lib.hid (qdL M a2 n2 c2 X2 z2 w h2);clear h1 h2 hM hA hD
 go_enter Tryz.func13,Tryz.ntmps13
 go_wp2_with (fail);refine CD.out.mono ?_;rintro e w1 ⟨rfl,he1⟩;have HE1:=Lib.hid he1;clear he1 CD;obtain ⟨m2,hm2⟩ : ∃ m2,m2=tz z2 n2:=⟨_,rfl⟩;rw [<- hm2] at hle2 ⊢
 by_cases h0:m2=0
 ·have HF:Hid (qku M w n1 z1 n2 z2 (.returned (.tuple #[.slice none 0 0,.slice none 0 0,.int .i64 2])) w1):=⟨_,_,_,_,_,_,_,rfl,⟨fun _=>⟨false,none,0,0⟩,fun _=>0,fun _=>⟨false,none,0,0⟩,fun _=>0,qco.nil _ _ _ _,qco.nil _ _ _ _,.inl ⟨hm2.symm.trans h0,rfl,rfl,rfl⟩⟩,HE1.out⟩
  have hneg:((m2:Int) - 1<0):=by omega
  clear hm2;go_wp2;exact bodyPost_ret (v:=.tuple #[.slice none 0 0,.slice none 0 0,.int .i64 2]) (by simp [results,Tryz.results13,go_sem]) rfl HF.out
 obtain ⟨n,rfl⟩ : ∃ n,m2=n+1:=⟨m2 - 1,by omega⟩;have HM2:Hid (tz z2 n2=n+1):=hm2.symm
 have hnn:(((n+1:Nat):Int) - 1)=(n:Int):=by omega
 have hnneg : ¬ ((n:Int)<0):=by omega
 clear hm2 h0;rw [hnn];clear hnn;have CN:=Lib.hid (qfa M a1 n1 c1 X1 z1 w1 (HM.out.ext HE1.out) (H1.out.ext HE1.out));go_wp2_with (fail);refine CN.out.mono ?_;rintro e w2 ⟨gr,rfl,hgr,hk2,he2⟩;have HE2:=Lib.hid (HE1.out.trans he2);have HK2:=Lib.hid hk2;have HGR:Hid (w.heap.size<=gr):=Nat.le_trans HE1.out.size hgr;have hgr2:=hk2.lt;clear CN HE1 he2 hk2 hgr;obtain ⟨m1,hm1⟩ : ∃ m1,m1=tz z1 n1:=⟨_,rfl⟩;have HM1:Hid (tz z1 n1=m1):=hm1.symm;rw [<- hm1] at hle1 HK2 ⊢;clear hm1
 by_cases hlt:m1<=n
 ·have hltI:((m1:Int)<=(n:Int)):=by omega
  have HF:Hid (qku M w n1 z1 n2 z2 (.returned (.tuple #[.slice none 0 0,.slice (some ⟨gr,0,none⟩) m1 m1,.int .i64 0])) w2):=by
   obtain ⟨Xv,hXv⟩:=HK2.out.row (M':=M) (fun g h=>.inl (.inl h)) (HM.out.new HGR.out) (by omega);have h3:=HM1.out;refine ⟨_,_,_,_,_,_,_,rfl,⟨fun _=>⟨false,none,0,0⟩,fun _=>0,Xv,z1,qco.nil _ _ _ _,hXv,.inr ⟨n,0,HM2.out,by omega,rfl,by rw [<- h3];exact (qne z1 n1).symm,fun i=>by unfold zx0;rw [if_neg (by omega),if_neg (by omega)],fun i=>?_⟩⟩,HE2.out⟩;rw [<- h3,qga];show _=zx0 n (zx0 n1 z1) i;rw [<- qga,h3];unfold zx0
   by_cases q1:i<m1
   ·rw [if_pos q1,if_pos (by omega),if_pos (by omega)]
   ·rw [if_neg q1]
    by_cases q2:i<n
    ·rw [if_pos q2]
     by_cases q3:i<n1
     ·rw [if_pos q3,qge z1 n1 i (by omega) q3]
     ·rw [if_neg q3]
    ·rw [if_neg q2]
  clear HK2 HM2 HM1;go_wp2;exact bodyPost_ret (v:=.tuple #[.slice none 0 0,.slice (some ⟨gr,0,none⟩) m1 m1,.int .i64 0]) (by simp [results,Tryz.results13,go_sem]) rfl HF.out
 have hnltI : ¬ ((m1:Int)<=(n:Int)):=by omega
 obtain ⟨V,rfl⟩ : ∃ V,m1=n+V:=⟨m1 - n,by omega⟩
 have hV0:1<=V:=by omega
 have hV1:V<=n1:=by omega
 have hPN:A+V*(D+1)+(V*D+1)+D+4<=549755813888:=by
  have:=hN.a;have e1:=Nat.mul_le_mul_right (D+1) hV1;have e2:=Nat.mul_le_mul_right D hV1;omega
 have hGn:ldU z2 n2=zx0 n2 z2 n:=by
  have:=HM2.out;unfold ldU zx0;rw [if_neg (by omega),if_pos (by omega),this];rfl
 have CL:=Lib.hid (qna (fun b=>M b∨b=gr) a2 n2 c2 X2 z2 w2 (qb1 (HM.out.ext HE2.out) hgr2) ((H2.out.more (M':=fun b=>M b∨b=gr) fun g h=>h.imp id fun e=>by rw [e];exact HGR.out).ext HE2.out));rw [hGn] at CL;clear hlt hGn hN;go_wp2_with (fail);refine CL.out.mono ?_;rintro e w3 ⟨c,rfl,hc,he3⟩;clear CL;obtain ⟨gl,hgl⟩ : ∃ gl,gl=w3.heap.size:=⟨_,rfl⟩;have hEa:=(Ext.refl w3).alloc (.cells #[.bool c.b,.slice c.a c.n c.p] 30);have hBa:=Blk.of_arr w3 #[.bool c.b,.slice c.a c.n c.p] 30 2 rfl;rw [<- hgl] at hBa;obtain ⟨W4,hW4⟩ : ∃ W4,w3.alloc (.cells #[.bool c.b,.slice c.a c.n c.p] 30)=W4:=⟨_,rfl⟩;rw [hW4] at hEa hBa;have HW4:=Lib.hid hW4;have HGL:=Lib.hid hgl;have HE4:=Lib.hid ((HE2.out.trans he3).trans hEa);have HK4:=Lib.hid ((HK2.out.ext he3).ext hEa);have HC4:=Lib.hid (hc.ext hEa);have HJ4:Hid (JC W4 gl 0 c):=⟨hBa.cell (i:=0) (by omega),hBa.cell (i:=1) (by omega)⟩
 have hgrl:gr<gl:=by have:=he3.size;omega
 clear hW4 he3 hEa hBa hc HE2 HK2 hgr2 hgl
 go_upto_region 8 with (fail)
 rw [HW4.out,<- HGL.out];clear HW4
 have hst:(n:Int)+(V:Int) - (n:Int)=(V:Int):=by omega
 have hVI:(1:Int)<=(V:Int):=by omega
 go_wp2_with (first | (at_make;refine qbP _ rfl _ _ _ rfl 30 i0 (.agg #[.bool false,.slice none 0 0]) 2 Tryz.underlying23 hi hz0 hz1 .i64 .i64 _ _ V rfl rfl ?c4 ?c5 ?c2 ?c3 ?_))
 case c2=>rw [hz2];omega
 case c3=>unfold maxLen;omega
 case c4=>go_num
 case c5=>go_num
 have hBk:=qjz W4 V 30;have he1:=(Ext.refl W4).alloc (.cells (madeCells (Value.agg #[.bool false,.slice none 0 0]).cells (V*2)) 30);intro w5 hw5;replace hw5:W4.alloc (.cells (madeCells (Value.agg #[.bool false,.slice none 0 0]).cells (V*2)) 30)=w5:=hw5.out.symm;rw [hw5] at hBk he1;obtain ⟨gq,hgq⟩ : ∃ gq,gq=W4.heap.size:=⟨_,rfl⟩;rw [<- hgq] at hBk ⊢
 have hglq:gl<gq:=by have:=HJ4.out.lt;omega
 have hwq:w.heap.size<=gq:=by have:=HE4.out.size;omega
 have hm : ∀ b,M3 M gr gq b->(M b∨b=gr)∨W4.heap.size<=b:=fun b hb=>hb.imp id fun e=>by rw [e];omega
 have HS:Hid (PsS M w gr gq gl (n+V) V c (zx0 n2 z2 n) a2 n2 c2 X2 z2 (zR n V (zx0 n2 z2) (zx0 n1 z1) 0) (zQ n V (zx0 n2 z2) (zx0 n1 z1) 0) w5):=by
  have h3:=HM1.out;refine ⟨((HK4.out.more hm).ext he1).congr fun i hi=>?_,(UK.zero hBk fun _ _=>rfl).congr fun i _=>(qsc _ _ _ _ i).symm,HJ4.out.ext HJ4.out.lt he1,(HC4.out.more hm).ext he1,(H2.out.more fun b hb=>?_).ext (HE4.out.trans he1),qb1 (qb1 (HM.out.ext (HE4.out.trans he1)) (by have:=he1.size;omega)) hBk.lt,HE4.out.trans he1,HGR.out,hwq,by omega,by omega,by omega⟩
  ·show z1 i=zx0 n1 z1 i;unfold zx0;rw [if_pos (by omega)]
  ·rcases hb with (hb | e) | e
   ·exact .inl hb
   ·rw [e];exact .inr HGR.out
   ·rw [e];exact .inr hwq
 have HPN:=Lib.hid hPN;have HG0:=Lib.hid hG0;have HR0:=Lib.hid hR0;clear hw5 hBk he1 hm HK4 HJ4 HC4 HE4 H1 H2 hgrl hglq hwq hPN hG0 hR0 hst hgq HGL HGR hi hz0 hz1 hz2;generalize hGG:zx0 n2 z2=G at *;generalize hRR:zx0 n1 z1=R0 at *;have HGG:=Lib.hid hGG;have HRR:=Lib.hid hRR;clear hGG hRR;go_wp2
 go_loopw [9,5] (fun iv rs wr=>∃ t k:Nat,t+k=V/\iv = .int .i64 ((n:Int)+(k:Int) - 1)/\rs = .slice (some ⟨gr,0,none⟩) (n+k) (n+V)/\Hid (PsS M w gr gq gl (n+V) V c (G n) a2 n2 c2 X2 z2 (zR n V G R0 t) (zQ n V G R0 t) wr)) (fun iv rs _=>(intOf iv+1).toNat)
 case atStart=>exact ⟨0,V,Nat.zero_add V,rfl,rfl,HS⟩
 case round=>
  clear HS;obtain ⟨t,k1,htk,rfl,rfl,HS⟩:=hrel
  by_cases hk0:k1=0
  ·subst hk0
   obtain rfl:t=V:=by omega
   have hge : ¬ ((n:Int)<=(n:Int)+((0:Nat):Int) - 1):=by omega
   obtain ⟨Xq,hXq⟩:=HS.out.q.row (M':=M) (fun g h=>.inl (.inl (.inl h))) (HM.out.new HS.out.d.2.1) (by omega);obtain ⟨Xr,hXr⟩:=HS.out.r.row (M':=M) (fun g h=>.inl (.inl (.inl h))) (HM.out.new HS.out.d.1) (by omega);have HQ:=Lib.hid hXq;have HR:=Lib.hid (hXr.cut (k:=n) (by omega));have HE:=Lib.hid HS.out.e;clear HS hXq hXr
   go_upto_region 27 with (fail)
   go_wp2_with (fail);refine (qiD M _ t t Xq _ wr (HM.out.ext HE.out) HQ.out).mono ?_;rintro e w6 ⟨au,Xu,rfl,hu,he6⟩;have HU:=Lib.hid hu;have HE6:=Lib.hid (HE.out.trans he6);have HR6:=Lib.hid (HR.out.ext he6);clear hu he6 HE HR HQ;go_wp2_with (fail);refine (qiD M _ n (n+t) Xr _ w6 (HM.out.ext HE6.out) HR6.out).mono ?_;rintro e w7 ⟨av,Xv,rfl,hv,he7⟩
   have HF:Hid (qku M w n1 z1 n2 z2 (.returned (.tuple #[.slice au (tz (zQ n t G R0 t) t) (tz (zQ n t G R0 t) t),.slice av (tz (zR n t G R0 t) n) (tz (zR n t G R0 t) n),.int .i64 0])) w7):=by
    refine ⟨_,_,_,_,_,_,_,rfl,⟨Xu,zQ n t G R0 t,Xv,zR n t G R0 t,HU.out.ext he7,hv,.inr ⟨n,t,HM2.out,by have:=HM1.out;omega,rfl,(qne _ _).symm,?_,?_⟩⟩,HE6.out.trans he7⟩
    ·intro i;rw [qga,HGG.out,HRR.out]
    ·intro i;rw [qga,HGG.out,HRR.out]
   generalize tz (zQ n t G R0 t) t=nu at *;generalize tz (zR n t G R0 t) n=nv at *;clear HU HE6 HR6 hv he7;go_wp2;exact bodyPost_ret (v:=.tuple #[.slice au nu nu,.slice av nv nv,.int .i64 0]) (by simp [results,Tryz.results13,go_sem]) rfl HF.out
  ·obtain ⟨k,rfl⟩ : ∃ k,k1=k+1:=⟨k1 - 1,by omega⟩
   have hkI:(n:Int)+((k:Int)+1) - 1 - (n:Int)=(k:Int):=by omega
   have hk1I:(n:Int)+((k:Int)+1) - 1=(n:Int)+(k:Int):=by omega
   have hgeI:(n:Int)<=(n:Int)+(k:Int):=by omega
   have hk0':(0:Int)<=(k:Int):=Int.natCast_nonneg _
   have hnk0:(0:Int)<=(n:Int)+(k:Int):=by omega
   have hnk1:(n:Int)+(k:Int)<(n:Int)+((k:Int)+1):=by omega
   have hnk2:((n:Int)+(k:Int)).toNat=n+k:=by omega
   have hnkI:(n:Int)+(k:Int) - (n:Int)=(k:Int):=by omega
   have hkB:(k:Int)+1<=1000000:=by omega
   have HTK:Hid (t+(k+1)=V):=htk;obtain ⟨x,hx,hxi⟩:=HS.out.r.cel (j:=n+k) (by omega) (Nat.le_refl _);have hgr:=HS.out.r.lt;obtain ⟨gp,hgp⟩ : ∃ gp,wr.heap.size=gp:=⟨_,rfl⟩;have hEa:=(Ext.refl wr).alloc (.cells #[.bool x.b,.slice x.a x.n x.p] 30);have hBa:=Blk.of_arr wr #[.bool x.b,.slice x.a x.n x.p] 30 2 rfl;rw [hgp] at hBa
   have hgpq:gp≠gq:=by have:=HS.out.q.lt;omega
   have hgpr:gp≠gr:=by omega
   obtain ⟨W2,hW2⟩ : ∃ W2,wr.alloc (.cells #[.bool x.b,.slice x.a x.n x.p] 30)=W2:=⟨_,rfl⟩;rw [hW2] at hEa hBa;have HW2:=Lib.hid hW2;have HGP:=Lib.hid hgp;have HS2:=Lib.hid (HS.out.ext hEa);have HX2:Hid (IX (M3 M gr gq) W2 x (zR n V G R0 t (n+k))):=hxi.ext hEa;have HP2:Hid (JC W2 gp 0 x):=⟨hBa.cell (i:=0) (by omega),hBa.cell (i:=1) (by omega)⟩;obtain ⟨x0,x1⟩:=hx;clear hW2 hgp hEa hBa HS hxi htk hk0;rw [show ((k+1:Nat):Int)=(k:Int)+1 by omega,hk1I]
   go_upto_region 14 with (fail)
   rw [HW2.out,HGP.out];clear x0 x1 HW2 HGP hgr;go_wp2
   go_loopw [12] (fun jv wr=>∃ j:Nat,k+1<=j/\j<=V/\jv = .int .i64 (j:Int)/\Hid (PsS M w gr gq gl (n+V) V c (G n) a2 n2 c2 X2 z2 (zR n V G R0 t) (zJ k j (G n) (zQ n V G R0 t)) wr)/\Hid (IX (M3 M gr gq) wr x (zR n V G R0 t (n+k)))/\Hid (JC wr gp 0 x)) (fun jv _=>V - (intOf jv).toNat)
   case atStart=>exact ⟨k+1,Nat.le_refl _,by have:=HTK.out;omega,by go_num,HS2.out.congr (fun _ _=>rfl) (fun i _=>(qpN k (G n) _ i).symm),HX2,HP2⟩
   case round=>
    clear HS2 HX2 HP2;obtain ⟨j,hkj,hj,rfl,HS,HX,HP⟩:=hrel
    by_cases hlt2:j<V
    ·have HLT2:=Lib.hid hlt2
     have hltI:(j:Int)<(V:Int):=by omega
     have hj0:(0:Int)<=(j:Int):=Int.natCast_nonneg _
     have hjB:(j:Int)+1<=1000001:=by omega
     obtain ⟨y,hyc,hy⟩:=HS.out.q.cel (j:=j) hlt2 (Nat.le_refl _);rw [qwq] at hy;have hd:=(Ext.refl wr).drew;have hS:S17 gq (j*2) y gl c wr.drew:=S17.ext ⟨hyc,HS.out.l,HS.out.q.lt,HS.out.l.lt⟩ hd;have HSD:=Lib.hid (HS.out.ext hd);have HY:=Lib.hid (hy.ext hd);have HXD:=Lib.hid (HX.out.ext hd);have HPD:=Lib.hid (HP.out.ext HP.out.lt hd);have hqwd:gq<wr.drew.heap.size:=hS.2.2.1;have hlwd:gl<wr.drew.heap.size:=hS.2.2.2;clear hd hy hyc HS HX HP hlt2
     go_upto_region 17 with (fail)
     refine qae (S17 gq (j*2) y gl c) 9 (by kernel_rfl) hS (fun hHeld=>?_);clear hS;generalize wr.drew=wd at *
     have C17:Hid (∀ W:World,Ext wd W->Calls Tryz.prog 65 #[.agg #[.bool y.b,.slice y.a y.n y.p],.agg #[.bool c.b,.slice c.a c.n c.p]] W (qel (M3 M gr gq) W (zQ n V G R0 t j*G n))):=fun W he=>
      qwa y c _ _ W (HSD.out.m.ext he) (HY.out.ext he) (HSD.out.c.ext he) (by
       have e1:=qwo (n:=n) (V:=V) HG0.out HR0.out t j;have e2:=HG0.out n;have e3:=HPN.out
       omega)
     (refine tkB [0,1,2,3,4,5,6] ?_;(iterate 7 (refine tk1 (oi:=?_) (v:=?_) (by kernel_rfl) (by first | exact hSn | exact hHeld) ?_ ?_ ?_ ?_ ?_;rotate_left 2;(simp only [xgA,xgB,xgC];rfl);rfl;(intro wS hSw;obtain ⟨⟨S1,S2⟩,⟨S3,S4⟩,S5,S6⟩:=hSw;go_simp;try with_reducible rfl);(exact fun _ _ _ h=>h);(try simp only [Act.put,xgD,xgE,xgF])));refine tkE ?_);((refine qaa 7 (o:=?_) (by kernel_rfl) ?_ ?_;rotate_left 1;(simp only [xgA,xgB,xgC];rfl);intro K hK);go_simp;(refine (C17.out _ (Ext.refl _)).mono ?_);rintro e_ u1 ⟨v,rfl,hv,ed1⟩;go_wp2_with (fail);(try clear hSn);(have hSn:=hHeld.ext ed1);(refine hK.out _ _ (fun _=>hSn) ?_);clear hK K;(try simp only [Act.put,xgD,xgE,xgF]));(refine tkB [8] ?_;(iterate 1 (refine tk1 (oi:=?_) (v:=?_) (by kernel_rfl) (by first | exact hSn | exact hHeld) ?_ ?_ ?_ ?_ ?_;rotate_left 2;(simp only [xgA,xgB,xgC];rfl);rfl;(intro wS hSw;obtain ⟨⟨S1,S2⟩,⟨S3,S4⟩,S5,S6⟩:=hSw;go_simp;try with_reducible rfl);(exact fun _ _ _ h=>h);(try simp only [Act.put,xgD,xgE,xgF])));refine tkE ?_);have HS5:=Lib.hid ((HSD.out.ext ed1).putQ (HLT2.out) hv);obtain ⟨W5,hW5⟩ : ∃ W5,set2 u1 gq (j*2) (.bool v.b) (.slice v.a v.n v.p)=W5:=⟨_,rfl⟩;have hS5:=(HSD.out.ext ed1);obtain ⟨yy,⟨k0,k1⟩,_⟩:=hS5.q.cel HLT2.out (Nat.le_refl _);have hf0:=hS5.q.frz (j*2);have hf1:=hS5.q.frz (j*2+1);have hg5:=hS5.q.lt;have hkp:=Kp.set2 (M:=M3 M gr gq) (w:=u1) (g:=gq) (.inr rfl) (j*2) (.bool v.b) (.slice v.a v.n v.p);have HX5:=Lib.hid ((HXD.out.ext ed1).kp hkp);have HP5:=Lib.hid ((HPD.out.ext HPD.out.lt ed1).of_heap (qbJ u1 gq (j*2) (.bool v.b) (.slice v.a v.n v.p) gp hgpq))
     rw [hW5] at HX5 HP5 HS5;unfold set2 at hW5;have HW5:=Lib.hid hW5;clear hS5 hv ed1 hkp hW5 HSD HY HXD HPD C17 hHeld hSn;((refine qaa 9 (o:=?_) (by kernel_rfl) ?_ ?_;rotate_left 1;(simp only [xgA,xgB,xgC];rfl);intro K hK);go_simp;(refine hK.out _ _ (fun h=>absurd rfl h) ?_);clear hK K;refine qac (by kernel_rfl) ?_ _)
     go_upto_region 16 with (fail)
     rw [HW5.out];clear k0 k1 hf0 hf1 hg5 HW5 hqwd hlwd;go_wp2
     go_roundw
     case rel=>exact ⟨j+1,by omega,HLT2.out,by go_num,HS5.out.congr (fun _ _=>rfl) (fun i _=>qsg (G n) _ (by omega) i),HX5,HP5⟩
     case measure=>have:=HLT2.out;simp [intOf];omega
    ·obtain rfl:j=V:=by omega
     have hge : ¬ ((j:Int)<(j:Int)):=by omega
     have hkV:(k:Int)<(j:Int):=by omega
     obtain ⟨yy,⟨k0,k1⟩,_⟩:=HS.out.q.cel (j:=k) (by omega) (Nat.le_refl _);have hf0:=HS.out.q.frz (k*2);have hf1:=HS.out.q.frz (k*2+1);have hg5:=HS.out.q.lt;obtain ⟨p0,p1⟩:=HP.out;have hpl:=HP.out.lt;have HS5:=Lib.hid (HS.out.putQ (j:=k) (by omega) HX.out);have hkp:=Kp.set2 (M:=M3 M gr gq) (w:=wr) (g:=gq) (.inr rfl) (k*2) (.bool x.b) (.slice x.a x.n x.p);have HX5:=Lib.hid (HX.out.kp hkp);have HP5:=Lib.hid (HP.out.of_heap (qbJ wr gq (k*2) (.bool x.b) (.slice x.a x.n x.p) gp hgpq));obtain ⟨W5,hW5⟩ : ∃ W5,set2 wr gq (k*2) (.bool x.b) (.slice x.a x.n x.p)=W5:=⟨_,rfl⟩;rw [hW5] at HX5 HP5 HS5;have HS6:Hid (PsS M w gr gq gl (n+j) j c (G n) a2 n2 c2 X2 z2 (zS k (G n) (zR n j G R0 t (n+k)) G (zR n j G R0 t) 0) (zQ n j G R0 (t+1)) W5):=HS5.out.congr (fun i _=>(qr9 _ _ _ _ _ i).symm) (fun i hi=>qut G R0 HTK.out i hi);unfold set2 at hW5;have HW5:=Lib.hid hW5;clear hW5 hkp HS HX HP HS5
     go_upto_region 19 with (fail)
     rw [HW5.out];clear k0 k1 hf0 hf1 hg5 p0 p1 hpl HW5
     have hnkc:(n:Int)+(k:Int)<=(n:Int)+(j:Int):=by omega
     go_wp2
     go_loopw [73] (fun iv wr=>∃ q:Nat,q<=n+k/\iv = .int .i64 (q:Int)/\Hid (PsS M w gr gq gl (n+j) j c (G n) a2 n2 c2 X2 z2 (zS k (G n) (zR n j G R0 t (n+k)) G (zR n j G R0 t) q) (zQ n j G R0 (t+1)) wr)/\Hid (IX (M3 M gr gq) wr x (zR n j G R0 t (n+k)))/\Hid (JC wr gp 0 x)) (fun iv _=>n+k - (intOf iv).toNat)
     case atStart=>exact ⟨0,Nat.zero_le _,rfl,HS6,HX5,HP5⟩
     case round=>
      clear HS6 HX5 HP5;obtain ⟨q,hq,rfl,HS,HX,HP⟩:=hrel
      by_cases hlt3:q<n+k
      ·have HLT3:=Lib.hid hlt3
       have hltI:(q:Int)<(n:Int)+(k:Int):=by omega
       have hq0:(0:Int)<=(q:Int):=Int.natCast_nonneg _
       have hqB:(q:Int)+1<=2000001:=by omega
       obtain ⟨y,hyc,hy⟩:=HS.out.r.cel (j:=q) (by omega) (Nat.le_refl _);rw [qwn] at hy;have hd:=(Ext.refl wr).drew;have hS:S17 gr (q*2) y gl c wr.drew:=S17.ext ⟨hyc,HS.out.l,HS.out.r.lt,HS.out.l.lt⟩ hd;have HSD:=Lib.hid (HS.out.ext hd);have HY:=Lib.hid (hy.ext hd);have HXD:=Lib.hid (HX.out.ext hd);have HPD:=Lib.hid (HP.out.ext HP.out.lt hd);have hqwd:gr<wr.drew.heap.size:=hS.2.2.1;have hlwd:gl<wr.drew.heap.size:=hS.2.2.2;clear hd hy hyc HS HX HP hlt3
       go_upto_region 23 with (fail)
       refine qae (S17 gr (q*2) y gl c) 9 (by kernel_rfl) hS (fun hHeld=>?_);clear hS;generalize wr.drew=wd at *;have hzt:Hid (∀ i,dlen (zR n j G R0 t i).natAbs<=A+j*(D+1)):=qrj HG0.out HR0.out (by have:=HTK.out;omega)
       have C17:Hid (∀ W:World,Ext wd W->Calls Tryz.prog 65 #[.agg #[.bool y.b,.slice y.a y.n y.p],.agg #[.bool c.b,.slice c.a c.n c.p]] W (qel (M3 M gr gq) W (zR n j G R0 t q*G n))):=fun W he=>
        qwa y c _ _ W (HSD.out.m.ext he) (HY.out.ext he) (HSD.out.c.ext he) (by
         have e1:=hzt.out q;have e2:=HG0.out n;have e3:=HPN.out
         omega)
       (refine tkB [0,1,2,3,4,5,6] ?_;(iterate 7 (refine tk1 (oi:=?_) (v:=?_) (by kernel_rfl) (by first | exact hSn | exact hHeld) ?_ ?_ ?_ ?_ ?_;rotate_left 2;(simp only [xgA,xgB,xgC];rfl);rfl;(intro wS hSw;obtain ⟨⟨S1,S2⟩,⟨S3,S4⟩,S5,S6⟩:=hSw;go_simp;try with_reducible rfl);(exact fun _ _ _ h=>h);(try simp only [Act.put,xgD,xgE,xgF])));refine tkE ?_);((refine qaa 7 (o:=?_) (by kernel_rfl) ?_ ?_;rotate_left 1;(simp only [xgA,xgB,xgC];rfl);intro K hK);go_simp;(refine (C17.out _ (Ext.refl _)).mono ?_);rintro e_ u1 ⟨v,rfl,hv,ed1⟩;go_wp2_with (fail);(try clear hSn);(have hSn:=hHeld.ext ed1);(refine hK.out _ _ (fun _=>hSn) ?_);clear hK K;(try simp only [Act.put,xgD,xgE,xgF]));(refine tkB [8] ?_;(iterate 1 (refine tk1 (oi:=?_) (v:=?_) (by kernel_rfl) (by first | exact hSn | exact hHeld) ?_ ?_ ?_ ?_ ?_;rotate_left 2;(simp only [xgA,xgB,xgC];rfl);rfl;(intro wS hSw;obtain ⟨⟨S1,S2⟩,⟨S3,S4⟩,S5,S6⟩:=hSw;go_simp;try with_reducible rfl);(exact fun _ _ _ h=>h);(try simp only [Act.put,xgD,xgE,xgF])));refine tkE ?_);have HS5:=Lib.hid ((HSD.out.ext ed1).putR (j:=q) (by have:=HLT3.out;omega) hv);obtain ⟨W5,hW5⟩ : ∃ W5,set2 u1 gr (q*2) (.bool v.b) (.slice v.a v.n v.p)=W5:=⟨_,rfl⟩;have hS5:=(HSD.out.ext ed1);obtain ⟨yy,⟨k0,k1⟩,_⟩:=hS5.r.cel (j:=q) (by have:=HLT3.out;omega) (Nat.le_refl _);have hf0:=hS5.r.frz (q*2);have hf1:=hS5.r.frz (q*2+1);have hg5:=hS5.r.lt;have hkp:=Kp.set2 (M:=M3 M gr gq) (w:=u1) (g:=gr) (.inl (.inr rfl)) (q*2) (.bool v.b) (.slice v.a v.n v.p);have HX5:=Lib.hid ((HXD.out.ext ed1).kp hkp)
       have HP5:=Lib.hid ((HPD.out.ext HPD.out.lt ed1).of_heap (qbJ u1 gr (q*2) (.bool v.b) (.slice v.a v.n v.p) gp hgpr));rw [hW5] at HX5 HP5 HS5;unfold set2 at hW5;have HW5:=Lib.hid hW5;clear hS5 hv ed1 hkp hW5 HSD HY HXD HPD C17 hHeld hSn;((refine qaa 9 (o:=?_) (by kernel_rfl) ?_ ?_;rotate_left 1;(simp only [xgA,xgB,xgC];rfl);intro K hK);go_simp;(refine hK.out _ _ (fun h=>absurd rfl h) ?_);clear hK K;refine qac (by kernel_rfl) ?_ _)
       go_upto_region 24 with (fail)
       rw [HW5.out];clear k0 k1 hf0 hf1 hg5 HW5 hqwd hlwd
       by_cases hjk:k<=q
       ·have hjkI:(k:Int)<=(q:Int):=by omega
        have HJK:=Lib.hid hjk;obtain ⟨d,hdq⟩ : ∃ d,d=q - k:=⟨_,rfl⟩
        have hqI:(q:Int) - (k:Int)=(d:Int):=by omega
        have hd0:(0:Int)<=(d:Int):=Int.natCast_nonneg _
        have hdn2:d<n2:=by have:=HLT3.out;omega
        have hdn:(d:Int)<(n2:Int):=by omega
        have hwq:IntKind.i64.wrap (d:Int)=(d:Int):=by rw [IntKind.wrap_i64];omega
        have HDQ:=Lib.hid hdq;obtain ⟨gb,ob,ha2,hcc,hgbl,hc2⟩:=HS5.out.g.cel (i:=d) hdn2;subst ha2;obtain ⟨y2,hyc,hy⟩:=HS5.out.r.cel (j:=q) (by have:=HLT3.out;omega) (Nat.le_refl _);rw [if_pos rfl] at hy
        have hgd:z2 d=G d:=by rw [<- HGG.out];unfold zx0;rw [if_pos hdn2]
        rw [hgd] at hc2;have hd:=(Ext.refl W5).drew;have hS:S25 gr (q*2) y2 gp x gb (ob+d*2) (X2 d) W5.drew:=S25.ext ⟨hyc,HP5.out,hcc,HS5.out.r.lt,HP5.out.lt,hgbl⟩ hd;have HSD:=Lib.hid (HS5.out.ext hd);have HY:=Lib.hid (hy.ext hd);have HC2:=Lib.hid (hc2.ext hd);have HXD:=Lib.hid (HX5.out.ext hd);have HPD:=Lib.hid (HP5.out.ext HP5.out.lt hd);have hqwd:gr<W5.drew.heap.size:=hS.2.2.2.1;have hpwd:gp<W5.drew.heap.size:=hS.2.2.2.2.1;have hbwd:gb<W5.drew.heap.size:=hS.2.2.2.2.2;clear hdq hd hy hyc hcc hc2 hgd HS5 HX5 HP5 hjk hgbl hdn2
        go_upto_region 25 with (fail)
        refine qae (S25 gr (q*2) y2 gp x gb (ob+d*2) (X2 d)) 16 (by kernel_rfl) hS (fun hHeld=>?_);clear hS;generalize W5.drew=wd2 at *
        have C25:Hid (∀ W:World,Ext wd2 W->Calls Tryz.prog 65 #[.agg #[.bool x.b,.slice x.a x.n x.p],.agg #[.bool (X2 d).b,.slice (X2 d).a (X2 d).n (X2 d).p]] W (qel (M3 M gr gq) W (zR n j G R0 t (n+k)*G d))):=fun W he=>
         qwa x (X2 d) _ _ W (HSD.out.m.ext he) (HXD.out.ext he) (HC2.out.ext he) (by
          have e1:=hzt.out (n+k);have e2:=HG0.out d;have e3:=HPN.out
          omega)
        have C26:Hid (∀ (W:World) (u:IE),Ext wd2 W->IX (M3 M gr gq) W u (zR n j G R0 t (n+k)*G d)->Calls Tryz.prog 66 #[.agg #[.bool y2.b,.slice y2.a y2.n y2.p],.agg #[.bool u.b,.slice u.a u.n u.p]] W (qel (M3 M gr gq) W (zR n j G R0 t q*G n - zR n j G R0 t (n+k)*G d))):=fun W u he hu=>
         qxt y2 u _ _ W (HSD.out.m.ext he) (HY.out.ext he) hu (by
          have e1:=hzt.out (n+k);have e2:=HG0.out d;have e3:=HPN.out;have e4:=hzt.out q;have e5:=HG0.out n;have e6:=qaY (zR n j G R0 t (n+k)).natAbs (G d).natAbs;have e7:=qaY (zR n j G R0 t q).natAbs (G n).natAbs;rw [Int.natAbs_mul,Int.natAbs_mul]
          omega)
        (refine tkB [0,1,2,3,4,5,6,7,8,9,10,11,12] ?_;(iterate 13 (refine tk1 (oi:=?_) (v:=?_) (by kernel_rfl) (by first | exact hSn | exact hHeld) ?_ ?_ ?_ ?_ ?_;rotate_left 2;(simp only [xgA,xgB,xgC];rfl);rfl;(intro wS hSw;obtain ⟨⟨S1,S2⟩,⟨S3,S4⟩,⟨S5,S6⟩,S7,S8,S9⟩:=hSw;go_simp;try with_reducible rfl);(exact fun _ _ _ h=>h);(try simp only [Act.put,xgD,xgE,xgF])));refine tkE ?_);((refine qaa 13 (o:=?_) (by kernel_rfl) ?_ ?_;rotate_left 1;(simp only [xgA,xgB,xgC];rfl);intro K hK);go_simp;(refine (C25.out _ (Ext.refl _)).mono ?_);rintro e_ u2 ⟨u,rfl,hu,ed1⟩;go_wp2_with (fail);(try clear hSn);(have hSn:=hHeld.ext ed1);(refine hK.out _ _ (fun _=>hSn) ?_);clear hK K;(try simp only [Act.put,xgD,xgE,xgF]));((refine qaa 14 (o:=?_) (by kernel_rfl) ?_ ?_;rotate_left 1;(simp only [xgA,xgB,xgC];rfl);intro K hK);go_simp;(refine (C26.out _ u ed1 hu).mono ?_);rintro e_ u3 ⟨v2,rfl,hv2,ed2⟩;go_wp2_with (fail);(try clear hSn);(have hSn:=hHeld.ext (ed1.trans ed2));(refine hK.out _ _ (fun _=>hSn) ?_);clear hK K;(try simp only [Act.put,xgD,xgE,xgF]));(refine tkB [15] ?_;(iterate 1 (refine tk1 (oi:=?_) (v:=?_) (by kernel_rfl) (by first | exact hSn | exact hHeld) ?_ ?_ ?_ ?_ ?_;rotate_left 2;(simp only [xgA,xgB,xgC];rfl);rfl;(intro wS hSw;obtain ⟨⟨S1,S2⟩,⟨S3,S4⟩,⟨S5,S6⟩,S7,S8,S9⟩:=hSw;go_simp;try with_reducible rfl);(exact fun _ _ _ h=>h);(try simp only [Act.put,xgD,xgE,xgF])));refine tkE ?_);have ed3:=ed1.trans ed2;have hS5:=(HSD.out.ext ed3);have HS5:=Lib.hid (hS5.putR (j:=q) (by have:=HLT3.out;omega) hv2)
        obtain ⟨W6,hW6⟩ : ∃ W6,set2 u3 gr (q*2) (.bool v2.b) (.slice v2.a v2.n v2.p)=W6:=⟨_,rfl⟩;obtain ⟨yy,⟨k0,k1⟩,_⟩:=hS5.r.cel (j:=q) (by have:=HLT3.out;omega) (Nat.le_refl _);have hf0:=hS5.r.frz (q*2);have hf1:=hS5.r.frz (q*2+1);have hg5:=hS5.r.lt;have hkp:=Kp.set2 (M:=M3 M gr gq) (w:=u3) (g:=gr) (.inl (.inr rfl)) (q*2) (.bool v2.b) (.slice v2.a v2.n v2.p);have HX5:=Lib.hid ((HXD.out.ext ed3).kp hkp);have HP5:=Lib.hid ((HPD.out.ext HPD.out.lt ed3).of_heap (qbJ u3 gr (q*2) (.bool v2.b) (.slice v2.a v2.n v2.p) gp hgpr));rw [hW6] at HX5 HP5 HS5
        have HS6:Hid (PsS M w gr gq gl (n+j) j c (G n) (some ⟨gb,ob,none⟩) n2 c2 X2 z2 (zS k (G n) (zR n j G R0 t (n+k)) G (zR n j G R0 t) (q+1)) (zQ n j G R0 (t+1)) W6):=HS5.out.congr (fun i _=>by
         rw [qwl _ _ _ _ HJK.out,<- HDQ.out]
         by_cases h1:i=q
         ·rw [if_pos h1,if_pos h1]
         ·rw [if_neg h1,if_neg h1,if_neg h1]) (fun _ _=>rfl)
        unfold set2 at hW6;have HW6:=Lib.hid hW6;clear hS5 hu hv2 ed1 ed2 ed3 hkp hW6 HSD HY HC2 HXD HPD C25 C26 hHeld hSn HS5;((refine qaa 16 (o:=?_) (by kernel_rfl) ?_ ?_;rotate_left 1;(simp only [xgA,xgB,xgC];rfl);intro K hK);go_simp;(refine hK.out _ _ (fun h=>absurd rfl h) ?_);clear hK K;refine qac (by kernel_rfl) ?_ _)
        go_upto_region 26 with (fail)
        rw [HW6.out];clear k0 k1 hf0 hf1 hg5 HW6 hqwd hpwd hbwd;go_wp2
        go_roundw
        case rel=>exact ⟨q+1,HLT3.out,by go_num,HS6,HX5,HP5⟩
        case measure=>have:=HLT3.out;simp [intOf];omega
       ·have hjkI : ¬ (k:Int)<=(q:Int):=by omega
        have HS6:Hid (PsS M w gr gq gl (n+j) j c (G n) a2 n2 c2 X2 z2 (zS k (G n) (zR n j G R0 t (n+k)) G (zR n j G R0 t) (q+1)) (zQ n j G R0 (t+1)) W5):=HS5.out.congr (fun i _=>(qwk _ _ _ _ hjk i).symm) (fun _ _=>rfl);clear HS5;go_wp2
        go_roundw
        case rel=>exact ⟨q+1,HLT3.out,by go_num,HS6,HX5,HP5⟩
        case measure=>have:=HLT3.out;simp [intOf];omega
      ·obtain rfl:q=n+k:=by omega
       have hge2 : ¬ (((n+k:Nat):Int))<(n:Int)+(k:Int):=by omega
       have HS6:Hid (PsS M w gr gq gl (n+j) j c (G n) a2 n2 c2 X2 z2 (zR n j G R0 (t+1)) (zQ n j G R0 (t+1)) wr):=HS.out.congr (fun i _=>by rw [qsa G R0 HTK.out]) (fun _ _=>rfl)
       have HTK2:Hid (t+1+k=j):=by have:=HTK.out;show _=_;omega
       clear HS HX HP;go_wp2
       go_roundw
       case rel=>exact ⟨t+1,k,HTK2.out,by go_num,rfl,HS6⟩
       case measure=>have:=HTK.out;simp [intOf];omega


def qpH (V:Nat) (F G q:Nat->Int):Prop:=∀ i,F i=zC q G V i
structure ExQ (V n t A D:Nat) (F G q:Nat->Int):Prop where
 u : ∀ p,qpH V F G p -> ∀ k,V - t<=k->k<V->q k=p k
 d : ∀ i,dlen (zE V F G q t i).natAbs<=A+t*(D+1)
theorem ExQ.start {V n A D:Nat} {F G q:Nat->Int} (h : ∀ i,dlen (F i).natAbs<=A):ExQ V n 0 A D F G q:=⟨fun _ _ k h1 h2=>by omega,fun i=>by rw [Nat.zero_mul];exact h i⟩
def qAt (q:Nat->Int) (k:Nat) (v:Int) (i:Nat):Int:=if i=k then v else q i
def zL (k j:Nat) (v:Int) (G R:Nat->Int) (i:Nat):Int:=if k<=i/\i<k+j then R i - v*G (i - k) else R i
theorem qpM (k:Nat) (v:Int) (G R:Nat->Int) (i:Nat):zL k 0 v G R i=R i:=if_neg (by omega)
theorem qwp (k j:Nat) (v:Int) (G R:Nat->Int):zL k j v G R (k+j)=R (k+j):=if_neg (by omega)
theorem qse (k j:Nat) (v:Int) (G R:Nat->Int) (i:Nat):(if i=k+j then R (k+j) - v*G j else zL k j v G R i)=zL k (j+1) v G R i:=by
 unfold zL
 by_cases e:i=k+j
 ·subst e;rw [if_pos rfl,if_pos (by omega),Nat.add_sub_cancel_left]
 ·rw [if_neg e]
  by_cases h2:k<=i/\i<k+j
  ·rw [if_pos h2,if_pos (by omega)]
  ·rw [if_neg h2,if_neg (by omega)]
section
variable {V n t k A D:Nat} {F G q:Nat->Int} (hk:t+(k+1)=V)
include hk
theorem qwr {v:Int} (i:Nat):zE V F G (qAt q k v) t i=zE V F G q t i:=qfS t i (fun j h1 h2=>if_neg (by omega)) (by omega)
theorem qrk (hg : ∀ i,n<i->G i=0) (v:Int) (i:Nat):zL k (n+1) v G (zE V F G q t) i=zE V F G (qAt q k v) (t+1) i:=by
 show _=zE V F G (qAt q k v) t i - (if V - 1 - t<=i then qAt q k v (V - 1 - t)*G (i - (V - 1 - t)) else 0);rw [qwr hk,show V - 1 - t=k by omega,show qAt q k v k=v from if_pos rfl];unfold zL
 by_cases h:k<=i
 ·rw [if_pos h]
  by_cases h2:i<k+(n+1)
  ·rw [if_pos ⟨h,h2⟩]
  ·rw [if_neg (by omega),hg _ (by omega),Int.mul_zero,Int.sub_zero]
 ·rw [if_neg (by omega),if_neg h,Int.sub_zero]
theorem ExQ.lead (h:ExQ V n t A D F G q) (hg : ∀ i,n<i->G i=0) {p:Nat->Int} (hp:qpH V F G p):zE V F G q t (n+k)=p k*G n:=by
 have:=qsh hg hp (t:=t) (by omega);rw [show V - 1 - t=k by omega] at this;rw [<- this,Nat.add_comm k n];exact qfS t _ (fun j h1 h2=>h.u p hp j h1 h2) (by omega)
theorem ExQ.no (h:ExQ V n t A D F G q) (hg : ∀ i,n<i->G i=0) (hr:(zE V F G q t (n+k)).tmod (G n)≠0) : ¬ ∃ p,qpH V F G p:=fun ⟨p,hp⟩=>hr (by rw [h.lead hk hg hp];exact Int.mul_tmod_left _ _)
theorem ExQ.next (h:ExQ V n t A D F G q) (hg : ∀ i,n<i->G i=0) (h0:G n≠0) (hD : ∀ i,dlen (G i).natAbs<=D) {v:Int} (hv:v=(zE V F G q t (n+k)).tdiv (G n)):ExQ V n (t+1) A D F G (qAt q k v):=by
 refine ⟨fun p hp j h1 h2=>?_,fun i=>?_⟩
 ·unfold qAt
  by_cases e:j=k
  ·subst e;rw [if_pos rfl,hv,h.lead hk hg hp,Int.mul_tdiv_cancel _ h0]
  ·rw [if_neg e];exact h.u p hp j (by omega) h2
 ·have hvd : dlen v.natAbs <= A + t * (D + 1) := by
   rw [hv,Int.natAbs_tdiv];exact Nat.le_trans (qah (Nat.div_le_self _ _)) (h.d _)
  rw [<- qrk hk hg v i];have e1:=h.d i;unfold zL;rw [Nat.succ_mul]
  split
  ·have h2 : dlen (v * G (i - k)).natAbs <= A + t * (D + 1) + D := by
    rw [Int.natAbs_mul];have:=qaY v.natAbs (G (i - k)).natAbs;have:=hD (i - k);omega
   have h3:=qjk (zE V F G q t i) (-(v*G (i - k)));have h4:=qoU h2;rw [<- Int.sub_eq_add_neg] at h3;omega
  ·omega
end
theorem ExQ.fin {V n A D:Nat} {F G q:Nat->Int} (h:ExQ V n V A D F G q) {i:Nat} (hi:zE V F G q V i≠0) : ¬ ∃ p,qpH V F G p:=fun ⟨p,hp⟩=>hi (by
 rw [qfS V i (fun k h1 h2=>h.u p hp k h1 h2) (Nat.le_refl _),qrl,hp i,Int.sub_self])
theorem qvn {m n:Nat} {z G q:Nat->Int} (hg : ∀ i,n<i->G i=0) (h : ∀ i,i<m->zE (m - n) (zx0 m z) G q (m - n) i=0):qpH (m - n) (zx0 m z) G q:=fun i=>by
 by_cases hi:i<m
 ·have:=h i hi;rw [qrl] at this;omega
 ·rw [qm2 (by omega)]
  by_cases hmn:n<=m
  ·exact (qhH hg _ i (by omega)).symm
  ·rw [show m - n=0 by omega];rfl
def ExO (M:Nat->Prop) (w':World) (n1:Nat) (z1:Nat->Int) (n2:Nat) (z2:Nat->Int) (au:Option Addr) (nu cu:Nat) (er:Int):Prop:=
 ∃ Xu zu,qco M w' au nu cu Xu zu/\((tz z2 n2=0/\er=2/\nu=0) ∨ ∃ n,tz z2 n2=n+1 /\
  ((er=0/\nu=tz z1 n1 - n/\qpH (tz z1 n1 - n) (zx0 (tz z1 n1) z1) (zx0 n2 z2) zu)∨(er=3/\nu=0 /\ ¬ ∃ p,qpH (tz z1 n1 - n) (zx0 (tz z1 n1) z1) (zx0 n2 z2) p)))
def qmR (M:Nat->Prop) (w:World) (n1:Nat) (z1:Nat->Int) (n2:Nat) (z2:Nat->Int) (e:Ending) (w':World):Prop:=
 ∃ au nu cu er,e = .returned (.tuple #[.slice au nu cu,.int .i64 er])/\ExO M w' n1 z1 n2 z2 au nu cu er/\Ext w w'
def qw4 (M:Nat->Prop) (wd:World) (y z:Int) (s11 s12:Value) (wx:World):Prop:=∃ (a:Nat) (v:IE) (er:Int),s11 = .pointer (some ⟨a,0,none⟩)/\s12 = .int .i64 er/\JC wx a 0 v/\wd.heap.size<=a/\(y.tmod z=0->er=0/\IX M wx v (y.tdiv z))/\(y.tmod z≠0->er=3)/\Ext wd wx
theorem qvo {M : Nat -> Prop} (x y : IE) (p q : Int) (w : World) (hM : Mb M w) (h : IX M w x p) (k : IX M w y q) (hz : q ≠ 0) (hL : dlen p.natAbs + 1 <= 1099511627776) :
  Calls Tryz.prog 69 #[.agg #[.bool x.b,.slice x.a x.n x.p],.agg #[.bool y.b,.slice y.a y.n y.p]] w fun e w'=>∃ (v:IE) (er:Int),e = .returned (.tuple #[.agg #[.bool v.b,.slice v.a v.n v.p],.int .i64 er])/\(p.tmod q=0->er=0/\IX M w' v (p.tdiv q))/\(p.tmod q≠0->er=3)/\Ext w w':=by
 refine (qf4 x.b x.a x.n x.p p y.b y.a y.n y.p q w hM h k hz hL).mono ?_;rintro e w' ⟨b,a,n,c,er,rfl,h0,h1,he⟩;exact ⟨⟨b,a,n,c⟩,er,rfl,fun e=>⟨(h0 e).1,(h0 e).2.toV⟩,fun e=>(h1 e).1,he⟩


theorem qpP (M : Nat -> Prop) (a1 : Option Addr) (n1 c1 : Nat) (X1 : Nat -> IE) (z1 : Nat -> Int) (a2 : Option Addr) (n2 c2 : Nat) (X2 : Nat -> IE) (z2 : Nat -> Int) (A D : Nat) (w : World) (hM : Mb M w)
  (h1:qco M w a1 n1 c1 X1 z1) (h2:qco M w a2 n2 c2 X2 z2) (hn1:n1<=1000000) (hn2:n2<=1000000) (hA : ∀ i,i<n1->dlen (z1 i).natAbs<=A) (hD : ∀ i,i<n2->dlen (z2 i).natAbs<=D) (hN:PsN n1 A D) :
  Calls Tryz.prog 15 #[.slice a1 n1 c1,.slice a2 n2 c2] w (qmR M w n1 z1 n2 z2):=by
 obtain ⟨i0,hi,hz0,hz1,hz2⟩:=info_parts Tryz.info30;have H1:=Lib.hid h1;have H2:=Lib.hid h2;have HM:=Lib.hid hM;have hG0:=qkE hD;have hle1:=qeL z1 n1;have hR0:=qkE (n:=tz z1 n1) fun i hi=>hA i (by omega);have hle2:=qeL z2 n2
 have hgh : ∀ i,tz z2 n2<=i->zx0 n2 z2 i=0:=fun i hi=>by rw [<- qga];exact if_neg (by omega)
 have hgt:0<tz z2 n2->zx0 n2 z2 (tz z2 n2 - 1)≠0:=fun h=>by
  unfold zx0;rw [if_pos (by omega)];exact (qhb z2 n2).resolve_left (by omega)
 have CD:=Lib.hid (qdL M a2 n2 c2 X2 z2 w h2);clear h1 h2 hM hA hD
 go_enter Tryz.func15,Tryz.ntmps15
 go_wp2_with (fail);refine CD.out.mono ?_;rintro e w1 ⟨rfl,he1⟩;have HE1:=Lib.hid he1;clear he1 CD;obtain ⟨m2,hm2⟩ : ∃ m2,m2=tz z2 n2:=⟨_,rfl⟩;rw [<- hm2] at hle2 hgh hgt ⊢
 by_cases h0:m2=0
 ·have HF:Hid (qmR M w n1 z1 n2 z2 (.returned (.tuple #[.slice none 0 0,.int .i64 2])) w1):=⟨_,_,_,_,rfl,⟨fun _=>⟨false,none,0,0⟩,fun _=>0,qco.nil _ _ _ _,.inl ⟨hm2.symm.trans h0,rfl,rfl⟩⟩,HE1.out⟩
  have hneg:((m2:Int) - 1<0):=by omega
  clear hm2 hgh hgt;go_wp2;exact bodyPost_ret (v:=.tuple #[.slice none 0 0,.int .i64 2]) (by simp [results,Tryz.results15,go_sem]) rfl HF.out
 obtain ⟨n,rfl⟩ : ∃ n,m2=n+1:=⟨m2 - 1,by omega⟩;have HM2:Hid (tz z2 n2=n+1):=hm2.symm
 have hnn:(((n+1:Nat):Int) - 1)=(n:Int):=by omega
 have hnneg : ¬ ((n:Int)<0):=by omega
 have HGH:Hid (∀ i,n<i->zx0 n2 z2 i=0):=fun i hi=>hgh i (by omega);have HGT:Hid (zx0 n2 z2 n≠0):=hgt (by omega);clear hm2 h0 hgh hgt;rw [hnn];clear hnn
 have hGn:ldU z2 n2=zx0 n2 z2 n:=by
  have:=HM2.out;unfold ldU zx0;rw [if_neg (by omega),if_pos (by omega),this];rfl
 have CL:=Lib.hid (qna M a2 n2 c2 X2 z2 w1 (HM.out.ext HE1.out) (H2.out.ext HE1.out));rw [hGn] at CL;clear hGn;go_wp2_with (fail);refine CL.out.mono ?_;rintro e w2 ⟨c,rfl,hc,he2⟩;clear CL;obtain ⟨gl,hgl⟩ : ∃ gl,gl=w2.heap.size:=⟨_,rfl⟩;have hEa:=(Ext.refl w2).alloc (.cells #[.bool c.b,.slice c.a c.n c.p] 30);have hBa:=Blk.of_arr w2 #[.bool c.b,.slice c.a c.n c.p] 30 2 rfl;rw [<- hgl] at hBa;obtain ⟨W3,hW3⟩ : ∃ W3,w2.alloc (.cells #[.bool c.b,.slice c.a c.n c.p] 30)=W3:=⟨_,rfl⟩;rw [hW3] at hEa hBa;have HW3:=Lib.hid hW3;have HGL:=Lib.hid hgl;have HE3:=Lib.hid ((HE1.out.trans he2).trans hEa);have HC3:=Lib.hid (hc.ext hEa);have HJ3:Hid (JC W3 gl 0 c):=⟨hBa.cell (i:=0) (by omega),hBa.cell (i:=1) (by omega)⟩;clear hW3 he2 hEa hBa hc HE1 hgl
 go_upto_region 5 with (fail)
 rw [HW3.out,<- HGL.out];clear HW3 HGL;have CN:=Lib.hid (qfa M a1 n1 c1 X1 z1 W3 (HM.out.ext HE3.out) (H1.out.ext HE3.out));go_wp2_with (fail);refine CN.out.mono ?_;rintro e w4 ⟨gr,rfl,hgr,hk4,he4⟩;have HE4:=Lib.hid (HE3.out.trans he4);have HK4:=Lib.hid hk4;have HGR:Hid (w.heap.size<=gr):=Nat.le_trans HE3.out.size hgr;have hgr2:=hk4.lt
 have hgrl:gl<gr:=by have:=HJ3.out.lt;omega
 have HC4:=Lib.hid ((HC3.out.more (M':=fun b=>M b∨b=gr) fun g h=>h.imp id fun e=>by rw [e];exact hgr).ext he4);have HJ4:=Lib.hid (HJ3.out.ext HJ3.out.lt he4);clear CN HE3 HC3 HJ3 he4 hk4 hgr;obtain ⟨m1,hm1⟩ : ∃ m1,m1=tz z1 n1:=⟨_,rfl⟩;have HM1:Hid (tz z1 n1=m1):=hm1.symm;rw [<- hm1] at hle1 hR0 HK4 ⊢;clear hm1;obtain ⟨V,hV⟩ : ∃ V,V=m1 - n:=⟨_,rfl⟩
 have hmx:max ((m1:Int) - (n:Int)) 0=(V:Int):=by omega
 have hVm:V<=m1:=by omega
 have hVn:0<V->n+V=m1:=fun h=>by omega
 have HVM:Hid (V=m1 - n):=hV
 have hPN:A+V*(D+1)+(V*D+1)+D+4<=549755813888:=by
  have:=hN.a;have e1:=Nat.mul_le_mul_right (D+1) (show V<=n1 by omega);have e2:=Nat.mul_le_mul_right D (show V<=n1 by omega);omega
 have hV6:V<=1000000:=by omega
 clear hV hN
 go_wp2_with (first | (at_make;refine qbP _ rfl _ _ _ rfl 30 i0 (.agg #[.bool false,.slice none 0 0]) 2 Tryz.underlying23 hi hz0 hz1 .i64 .i64 _ _ V rfl rfl ?c4 ?c5 ?c2 ?c3 ?_))
 case c2=>rw [hz2];omega
 case c3=>unfold maxLen;omega
 case c4=>go_num
 case c5=>go_num
 have hBk:=qjz w4 V 30;have he1:=(Ext.refl w4).alloc (.cells (madeCells (Value.agg #[.bool false,.slice none 0 0]).cells (V*2)) 30);intro w5 hw5;replace hw5:w4.alloc (.cells (madeCells (Value.agg #[.bool false,.slice none 0 0]).cells (V*2)) 30)=w5:=hw5.out.symm;rw [hw5] at hBk he1;obtain ⟨gq,hgq⟩ : ∃ gq,gq=w4.heap.size:=⟨_,rfl⟩;rw [<- hgq] at hBk ⊢
 have hwq:w.heap.size<=gq:=by have:=HE4.out.size;omega
 have hm : ∀ b,M3 M gr gq b->(M b∨b=gr)∨w4.heap.size<=b:=fun b hb=>hb.imp id fun e=>by rw [e];omega
 have HS:Hid (PsS M w gr gq gl m1 V c (zx0 n2 z2 n) a2 n2 c2 X2 z2 (zE V (zx0 m1 z1) (zx0 n2 z2) (fun _=>0) 0) (fun _=>0) w5):=by
  have h3:=HM1.out;refine ⟨((HK4.out.more hm).ext he1).congr fun i hi=>?_,UK.zero hBk fun _ _=>rfl,HJ4.out.ext HJ4.out.lt he1,(HC4.out.more hm).ext he1,(H2.out.more fun b hb=>?_).ext (HE4.out.trans he1),qb1 (qb1 (HM.out.ext (HE4.out.trans he1)) (by have:=he1.size;omega)) hBk.lt,HE4.out.trans he1,HGR.out,hwq,by omega,by omega,by omega⟩
  ·show z1 i=zx0 m1 z1 i;unfold zx0;rw [if_pos (by omega)]
  ·rcases hb with (hb | e) | e
   ·exact .inl hb
   ·rw [e];exact .inr HGR.out
   ·rw [e];exact .inr hwq
 have HPN:=Lib.hid hPN;have HG0:=Lib.hid hG0;clear hw5 hBk he1 hm HK4 HJ4 HC4 HE4 H1 H2 hgrl hwq hPN hG0 hgq HGR hi hz0 hz1 hz2 hmx;have HX0:Hid (ExQ V n 0 A D (zx0 m1 z1) (zx0 n2 z2) (fun _=>0)):=ExQ.start hR0;clear hR0;generalize hGG:zx0 n2 z2=G at *;generalize hFF:zx0 m1 z1=F at *;have HGG:=Lib.hid hGG;have HFF:=Lib.hid hFF;clear hGG hFF;go_wp2
 go_loopw [10] (fun iv wr=>∃ (t k:Nat) (q:Nat->Int),t+k=V/\iv = .int .i64 ((k:Int) - 1)/\Hid (PsS M w gr gq gl m1 V c (G n) a2 n2 c2 X2 z2 (zE V F G q t) (fun i=>if k<=i then q i else 0) wr)/\Hid (ExQ V n t A D F G q)) (fun iv _=>(intOf iv+1).toNat)
 case atStart=>exact ⟨0,V,fun _=>0,Nat.zero_add V,rfl,HS.out.congr (fun _ _=>rfl) (fun i _=>by simp),HX0⟩
 case round=>
  clear HS HX0;obtain ⟨t,k1,q,htk,rfl,HS,HX⟩:=hrel
  by_cases hk0:k1=0
  ·subst hk0
   obtain rfl:t=V:=by omega
   have hge : ¬ ((0:Int)<=((0:Nat):Int) - 1):=by omega
   obtain ⟨Xr,hXr⟩:=HS.out.r.row (M':=M) (fun g h=>.inl (.inl (.inl h))) (HM.out.new HS.out.d.1) (by omega);obtain ⟨Xq,hXq⟩:=HS.out.q.row (M':=M) (fun g h=>.inl (.inl (.inl h))) (HM.out.new HS.out.d.2.1) (by omega);have CD:=Lib.hid (qdL M _ m1 m1 Xr _ wr hXr);have HXQ:=Lib.hid hXq;have HE:=Lib.hid HS.out.e;have hT:=qeL (zE t F G q t) m1
   have HTZ:Hid (tz (zE t F G q t) m1=0->qpH t F G q):=fun h=>by
    have h2:=HVM.out;rw [h2,<- HFF.out];refine qvn HGH.out fun i hi=>?_;rw [HFF.out,<- h2];exact qge _ m1 i (by omega) hi
   have HTP:Hid (tz (zE t F G q t) m1≠0 -> ¬ ∃ p,qpH t F G p):=fun h=>HX.out.fin ((qhb (zE t F G q t) m1).resolve_left h);clear hXr hXq HS HX
   go_upto_region 18 with (fail)
   go_wp2_with (fail);refine CD.out.mono ?_;rintro e w6 ⟨rfl,he6⟩;generalize tz (zE t F G q t) m1=T at *
   by_cases hT0:T=0
   ·have hneg : ¬ ((0:Int)<=(T:Int) - 1):=by omega
    have HF:Hid (qmR M w n1 z1 n2 z2 (.returned (.tuple #[.slice (some ⟨gq,0,none⟩) t t,.int .i64 0])) w6):=by
     refine ⟨_,_,_,_,rfl,⟨Xq,_,HXQ.out.ext he6,.inr ⟨n,HM2.out,.inl ⟨rfl,by rw [HM1.out];exact HVM.out,?_⟩⟩⟩,HE.out.trans he6⟩;rw [HM1.out,HGG.out,HFF.out,<- HVM.out];intro i;rw [HTZ.out hT0 i];exact qkG t fun k _=>(if_pos (Nat.zero_le _)).symm
    clear CD HXQ HE HTZ HTP he6 hT0;go_wp2;exact bodyPost_ret (v:=.tuple #[.slice (some ⟨gq,0,none⟩) t t,.int .i64 0]) (by simp [results,Tryz.results15,go_sem]) rfl HF.out
   ·have hpos:(0:Int)<=(T:Int) - 1:=by omega
    have HF:Hid (qmR M w n1 z1 n2 z2 (.returned (.tuple #[.slice none 0 0,.int .i64 3])) w6):=⟨_,_,_,_,rfl,⟨fun _=>⟨false,none,0,0⟩,fun _=>0,qco.nil _ _ _ _,.inr ⟨n,HM2.out,.inr ⟨rfl,rfl,by rw [HM1.out,HGG.out,HFF.out,<- HVM.out];exact HTP.out hT0⟩⟩⟩,HE.out.trans he6⟩;clear CD HXQ HE HTZ HTP he6 hT0;go_wp2;exact bodyPost_ret (v:=.tuple #[.slice none 0 0,.int .i64 3]) (by simp [results,Tryz.results15,go_sem]) rfl HF.out
  ·obtain ⟨k,rfl⟩ : ∃ k,k1=k+1:=⟨k1 - 1,by omega⟩;have hVN:n+V=m1:=hVn (by omega);have hkI:(0:Int)<=(k:Int):=Int.natCast_nonneg _
   have hkn0:(0:Int)<=(k:Int)+(n:Int):=by omega
   have hkn1:(k:Int)+(n:Int)<(m1:Int):=by omega
   have hkn2:((k:Int)+(n:Int)).toNat=n+k:=by omega
   have hkB:(k:Int)+(n:Int)<=2000000:=by omega
   have hkw:IntKind.i64.wrap ((k:Int)+(n:Int))=(k:Int)+(n:Int):=IntWalk.i64_in _ (by omega);have HTK:Hid (t+(k+1)=V):=htk;obtain ⟨x,hx,hxi⟩:=HS.out.r.cel (j:=n+k) (by omega) (Nat.le_refl _);have hEd:Ext wr wr.drew:=(Ext.refl wr).drew;have HS17:Hid (S17 gr ((n+k)*2) x gl c wr.drew):=S17.ext ⟨hx,HS.out.l,HS.out.r.lt,HS.out.l.lt⟩ hEd;have HSD:=Lib.hid (HS.out.ext hEd);have HXD:=Lib.hid (hxi.ext hEd)
   have C10:Hid (∀ (M':Nat->Prop) (W:World),Mb M' W->(∀ g,M' g->M3 M gr gq g∨wr.drew.heap.size<=g)->Ext wr.drew W->Calls Tryz.prog 69 #[.agg #[.bool x.b,.slice x.a x.n x.p],.agg #[.bool c.b,.slice c.a c.n c.p]] W fun e w'=>∃ (v:IE) (er:Int),e = .returned (.tuple #[.agg #[.bool v.b,.slice v.a v.n v.p],.int .i64 er])/\((zE V F G q t (n+k)).tmod (G n)=0->er=0/\IX M' w' v ((zE V F G q t (n+k)).tdiv (G n)))/\((zE V F G q t (n+k)).tmod (G n)≠0->er=3)/\Ext W w'):=fun M' W hM' hm he=>
    qvo x c _ _ W hM' ((HXD.out.more hm).ext he) ((HSD.out.c.more hm).ext he) HGT.out (by
     have e1:=HX.out.d (n+k);have e2:=HPN.out;have e3:=Nat.mul_le_mul_right (D+1) (show t<=V by omega)
     omega)
   clear hx hxi HS htk hk0;rw [show ((k+1:Nat):Int)=(k:Int)+1 by omega,show (k:Int)+1 - 1=(k:Int) by omega]
   go_upto_region 10 with (fail)
   go_cut [11,12] from 35 to 46 (qw4 (M3 M gr gq) wr.drew (zE V F G q t (n+k)) (G n))
   case first=>
    refine qae (S17 gr ((n+k)*2) x gl c) 13 (by kernel_rfl) HS17.out (fun hHeld=>?_);have hMd:=HSD.out.m;have hz1:gr<wr.drew.heap.size:=HSD.out.r.lt;have hz2:gl<wr.drew.heap.size:=HSD.out.l.lt;generalize wr.drew=wd at *;(refine tkB [0,1,2,3,4,5,6] ?_;(iterate 7 (refine tk1 (oi:=?_) (v:=?_) (by kernel_rfl) (by first | exact hSn | exact hHeld) ?_ ?_ ?_ ?_ ?_;rotate_left 2;(simp only [xgA,xgB,xgC];rfl);rfl;(intro wS hSw;obtain ⟨⟨S1,S2⟩,⟨S3,S4⟩,S5,S6⟩:=hSw;go_simp;try with_reducible rfl);(exact fun _ _ _ h=>h);(try simp only [Act.put,xgD,xgE,xgF])));refine tkE ?_);(refine qaC 7 11 (oi:=?_) (oj:=?_) (by kernel_rfl) ?_ ?_ ?_ ?_;rotate_left 2;(simp only [xgA,xgB,xgC];rfl);(simp only [xgA,xgB,xgC];rfl);all_goals intro K hK)
    ·go_simp;refine (C10.out (M3 M gr gq) wd hMd (fun g hg=>.inl hg) (Ext.refl _)).mono ?_;rintro e wz ⟨v,er,rfl,hv1,hv2,he1⟩;go_wp2_with (fail);have hSn:=hHeld.ext he1;refine hK.out _ _ (fun _=>hSn) ?_;clear hK K;(try simp only [Act.put,xgD,xgE,xgF]);(refine tkB [8,9,10] ?_;(iterate 3 (refine tk1 (oi:=?_) (v:=?_) (by kernel_rfl) (by first | exact hSn | exact hHeld) ?_ ?_ ?_ ?_ ?_;rotate_left 2;(simp only [xgA,xgB,xgC];rfl);rfl;(intro wS hSw;obtain ⟨⟨S1,S2⟩,⟨S3,S4⟩,S5,S6⟩:=hSw;go_simp;try with_reducible rfl);(exact fun _ _ _ h=>h);(try simp only [Act.put,xgD,xgE,xgF])));refine tkE ?_);(refine qaa 11 (o:=?_) (by kernel_rfl) ?_ ?_;rotate_left 1;(simp only [xgA,xgB,xgC];rfl);intro K hK);go_simp;have hSn2:=hSn.ext ((Ext.refl wz).alloc (.cells zI 30));have hSn3:=hSn.ext ((Ext.refl wz).alloc (.cells #[.bool v.b,.slice v.a v.n v.p] 30));clear hSn;refine hK.out _ _ (fun _=>hSn2) ?_;clear hK K;(try simp only [Act.put,xgD,xgE,xgF]);(refine qaa 12 (o:=?_) (by kernel_rfl) ?_ ?_;rotate_left 1;(simp only [xgA,xgB,xgC];rfl);intro K hK);go_simp;refine hK.out _ _ (fun _=>hSn3) ?_;clear hK K;(try simp only [Act.put,xgD,xgE,xgF]);((refine qaa 13 (o:=?_) (by kernel_rfl) ?_ ?_;rotate_left 1;(simp only [xgA,xgB,xgC];rfl);intro K hK);go_simp;(refine hK.out _ _ (fun h=>absurd rfl h) ?_);clear hK K;refine qac (by kernel_rfl) ?_ _);go_wp2_with (fail)
     go_meet
     have hBa:=Blk.of_arr wz #[.bool v.b,.slice v.a v.n v.p] 30 2 rfl;exact ⟨wz.heap.size,v,er,rfl,rfl,⟨hBa.cell (i:=0) (by omega),hBa.cell (i:=1) (by omega)⟩,he1.size,fun e=>⟨(hv1 e).1,(hv1 e).2.ext ((Ext.refl wz).alloc _)⟩,hv2,he1.alloc _⟩
    ·go_simp;have hE9:Ext wd (wd.alloc (.cells zI 30)):=(Ext.refl _).alloc _;have hB9:=Blk.of_arr wd zI 30 2 rfl;have hSn:=hHeld.ext hE9;refine hK.out _ _ (fun _=>hSn) ?_;clear hK K;(try simp only [Act.put,xgD,xgE,xgF]);(refine qaa 7 (o:=?_) (by kernel_rfl) ?_ ?_;rotate_left 1;(simp only [xgA,xgB,xgC];rfl);intro K hK);go_simp;refine (C10.out (fun g=>M3 M gr gq g∨g=wd.heap.size) _ (fun g hg=>hg.elim (fun h=>Nat.lt_of_lt_of_le (hMd g h) hE9.size) (fun h=>by rw [h];exact hB9.lt)) (fun g hg=>hg.imp id (fun h=>by rw [h];exact Nat.le_refl _)) hE9).mono ?_;rintro e wz ⟨v,er,rfl,hv1,hv2,he1⟩;go_wp2_with (fail);clear hSn;have hSn:=hHeld.ext (hE9.trans he1);refine hK.out _ _ (fun _=>hSn) ?_;clear hK K;(try simp only [Act.put,xgD,xgE,xgF]);(refine tkB [8,9,10] ?_;(iterate 3 (refine tk1 (oi:=?_) (v:=?_) (by kernel_rfl) (by first | exact hSn | exact hHeld) ?_ ?_ ?_ ?_ ?_;rotate_left 2;(simp only [xgA,xgB,xgC];rfl);rfl;(intro wS hSw;obtain ⟨⟨S1,S2⟩,⟨S3,S4⟩,S5,S6⟩:=hSw;go_simp;try with_reducible rfl);(exact fun _ _ _ h=>h);(try simp only [Act.put,xgD,xgE,xgF])));refine tkE ?_);obtain ⟨⟨q0,q1,f0,f1⟩,⟨r0,r1⟩,hkp,hext⟩:=qf1 (M':=fun g=>M3 M gr gq g∨g=wd.heap.size) (w:=wd) (.bool v.b) (.slice v.a v.n v.p) (hB9.ext he1) (.inr rfl) (Nat.le_refl _) (hE9.trans he1);simp only [arr] at q0 q1;(refine qaa 12 (o:=?_) (by kernel_rfl) ?_ ?_;rotate_left 1;(simp only [xgA,xgB,xgC];rfl);intro K hK);go_simp;have hSn3:=hHeld.ext hext;clear hSn;refine hK.out _ _ (fun _=>hSn3) ?_;clear hK K;(try simp only [Act.put,xgD,xgE,xgF])
     ((refine qaa 13 (o:=?_) (by kernel_rfl) ?_ ?_;rotate_left 1;(simp only [xgA,xgB,xgC];rfl);intro K hK);go_simp;(refine hK.out _ _ (fun h=>absurd rfl h) ?_);clear hK K;refine qac (by kernel_rfl) ?_ _);go_wp2_with (fail)
     go_meet
     exact ⟨wd.heap.size,v,er,rfl,rfl,⟨r0,r1⟩,Nat.le_refl _,fun e=>⟨(hv1 e).1,((hv1 e).2.kp hkp).more (fun g hg=>.inl (.inl hg))⟩,hv2,hext⟩
   case rest=>
    obtain ⟨ga,v,er,rfl,rfl,hv,hga,hok,hno,heC⟩:=hcut
    have hgar:ga≠gr:=by have:=HSD.out.r.lt;omega
    have hgaq:ga≠gq:=by have:=HSD.out.q.lt;omega
    have HSC:=Lib.hid (HSD.out.ext heC);have HV:=Lib.hid hv;have HOK:=Lib.hid hok;have HNO:=Lib.hid hno;clear hv hok hno heC hga HS17 HSD HXD C10
    by_cases hdv:(zE V F G q t (n+k)).tmod (G n)=0
    ·obtain ⟨rfl,hvi⟩:=HOK.out hdv;obtain ⟨fz,hfz⟩ : ∃ fz,fz=(zE V F G q t (n+k)).tdiv (G n):=⟨_,rfl⟩;rw [<- hfz] at hvi;have HFZ:=Lib.hid hfz;have HVI:=Lib.hid hvi;have hG0:=HG0.out;have HX2:Hid (ExQ V n (t+1) A D F G (qAt q k fz)):=HX.out.next HTK.out HGH.out HGT.out hG0 hfz
     have hfd:dlen fz.natAbs<=A+t*(D+1):=by
      rw [hfz,Int.natAbs_tdiv];exact Nat.le_trans (qah (Nat.div_le_self _ _)) (HX.out.d _)
     have HFD:=Lib.hid hfd;have HZD:Hid (∀ i,dlen (zE V F G q t i).natAbs<=A+t*(D+1)):=HX.out.d;obtain ⟨yy,⟨k0,k1⟩,_⟩:=HSC.out.q.cel (j:=k) (by omega) (Nat.le_refl _);have hf0:=HSC.out.q.frz (k*2);have hf1:=HSC.out.q.frz (k*2+1);have hg5:=HSC.out.q.lt;obtain ⟨p0,p1⟩:=HV.out;have hpl:=HV.out.lt
     have hkV:(k:Int)<(V:Int):=by omega
     have HS5:=Lib.hid (HSC.out.putQ (j:=k) (by omega) hvi);have hkp:=Kp.set2 (M:=M3 M gr gq) (w:=wc) (g:=gq) (.inr rfl) (k*2) (.bool v.b) (.slice v.a v.n v.p);have HX5:=Lib.hid (hvi.kp hkp);have HP5:=Lib.hid (HV.out.of_heap (qbJ wc gq (k*2) (.bool v.b) (.slice v.a v.n v.p) ga hgaq));obtain ⟨W5,hW5⟩ : ∃ W5,set2 wc gq (k*2) (.bool v.b) (.slice v.a v.n v.p)=W5:=⟨_,rfl⟩;rw [hW5] at HX5 HP5 HS5
     have HS6:Hid (PsS M w gr gq gl m1 V c (G n) a2 n2 c2 X2 z2 (zL k 0 fz G (zE V F G q t)) (fun i=>if k<=i then qAt q k fz i else 0) W5):=HS5.out.congr (fun i _=>(qpM _ _ _ _ i).symm) (fun i hi=>by
      unfold qAt
      by_cases e:i=k
      ·subst e;rw [if_pos rfl,if_pos (Nat.le_refl _),if_pos rfl]
      ·rw [if_neg e,if_neg e]
       by_cases h2:k+1<=i
       ·rw [if_pos h2,if_pos (by omega)]
       ·rw [if_neg h2,if_neg (by omega)])
     unfold set2 at hW5;have HW5:=Lib.hid hW5;clear hW5 hkp HSC HV HS5 HOK HNO hvi hfz hfd hdv HX hG0
     go_upto_region 14 with (fail)
     rw [HW5.out];clear k0 k1 hf0 hf1 hg5 p0 p1 hpl HW5 HVI;go_wp2
     go_loopw [13] (fun iv wr=>∃ j:Nat,j<=n+1/\iv = .int .i64 (j:Int)/\Hid (PsS M w gr gq gl m1 V c (G n) a2 n2 c2 X2 z2 (zL k j fz G (zE V F G q t)) (fun i=>if k<=i then qAt q k fz i else 0) wr)/\Hid (IX (M3 M gr gq) wr v fz)/\Hid (JC wr ga 0 v)) (fun iv _=>n+1 - (intOf iv).toNat)
     case atStart=>exact ⟨0,Nat.zero_le _,rfl,HS6,HX5,HP5⟩
     case round=>
      clear HS6 HX5 HP5;obtain ⟨j,hj,rfl,HS,HXI,HP⟩:=hrel
      by_cases hlt3:j<n+1
      ·have HLT3:=Lib.hid hlt3
       have hltI:(j:Int)<=(n:Int):=by omega
       have hj0:(0:Int)<=(j:Int):=Int.natCast_nonneg _
       have hjB:(j:Int)+1<=2000001:=by omega
       have hjn2:j<n2:=by omega
       have hjn:(j:Int)<(n2:Int):=by omega
       have hkj0:(0:Int)<=(k:Int)+(j:Int):=by omega
       have hkj1:(k:Int)+(j:Int)<(m1:Int):=by omega
       have hkj2:((k:Int)+(j:Int)).toNat=k+j:=by omega
       have hkjw:IntKind.i64.wrap ((k:Int)+(j:Int))=(k:Int)+(j:Int):=IntWalk.i64_in _ (by omega);have hjw:IntKind.i64.wrap (j:Int)=(j:Int):=IntWalk.i64_in _ (by omega);obtain ⟨gb,ob,ha2,hcc,hgbl,hc2⟩:=HS.out.g.cel (i:=j) hjn2;subst ha2;obtain ⟨y2,hyc,hy⟩:=HS.out.r.cel (j:=k+j) (by omega) (Nat.le_refl _);rw [qwp] at hy
       have hgd:z2 j=G j:=by rw [<- HGG.out];unfold zx0;rw [if_pos hjn2]
       rw [hgd] at hc2;have hd:=(Ext.refl wr).drew;have hS:S25 gr ((k+j)*2) y2 ga v gb (ob+j*2) (X2 j) wr.drew:=S25.ext ⟨hyc,HP.out,hcc,HS.out.r.lt,HP.out.lt,hgbl⟩ hd;have HSD:=Lib.hid (HS.out.ext hd);have HY:=Lib.hid (hy.ext hd);have HC2:=Lib.hid (hc2.ext hd);have HXD:=Lib.hid (HXI.out.ext hd);have HPD:=Lib.hid (HP.out.ext HP.out.lt hd);have hqwd:gr<wr.drew.heap.size:=hS.2.2.2.1;have hpwd:ga<wr.drew.heap.size:=hS.2.2.2.2.1;have hbwd:gb<wr.drew.heap.size:=hS.2.2.2.2.2;clear hd hy hyc hcc hc2 hgd HS HXI HP hgbl hlt3
       go_upto_region 17 with (fail)
       refine qae (S25 gr ((k+j)*2) y2 ga v gb (ob+j*2) (X2 j)) 18 (by kernel_rfl) hS (fun hHeld=>?_);clear hS;generalize wr.drew=wd2 at *;have hTV:Hid (t*(D+1)<=V*(D+1)):=Nat.mul_le_mul_right (D+1) (by have:=HTK.out;omega)
       have C25:Hid (∀ W:World,Ext wd2 W->Calls Tryz.prog 65 #[.agg #[.bool v.b,.slice v.a v.n v.p],.agg #[.bool (X2 j).b,.slice (X2 j).a (X2 j).n (X2 j).p]] W (qel (M3 M gr gq) W (fz*G j))):=fun W he=>
        qwa v (X2 j) _ _ W (HSD.out.m.ext he) (HXD.out.ext he) (HC2.out.ext he) (by
         have e1:=HFD.out;have e2:=HG0.out j;have e3:=HPN.out;have e4:=hTV.out
         omega)
       have C26:Hid (∀ (W:World) (u:IE),Ext wd2 W->IX (M3 M gr gq) W u (fz*G j)->Calls Tryz.prog 66 #[.agg #[.bool y2.b,.slice y2.a y2.n y2.p],.agg #[.bool u.b,.slice u.a u.n u.p]] W (qel (M3 M gr gq) W (zE V F G q t (k+j) - fz*G j))):=fun W u he hu=>
        qxt y2 u _ _ W (HSD.out.m.ext he) (HY.out.ext he) hu (by
         have e1:=HFD.out;have e2:=HG0.out j;have e3:=HPN.out;have e4:=HZD.out (k+j);have e5:=hTV.out;have e6:=qaY fz.natAbs (G j).natAbs;rw [Int.natAbs_mul]
         omega)
       (refine tkB [0,1,2,3,4,5,6,7,8,9,10,11,12,13,14] ?_;(iterate 15 (refine tk1 (oi:=?_) (v:=?_) (by kernel_rfl) (by first | exact hSn | exact hHeld) ?_ ?_ ?_ ?_ ?_;rotate_left 2;(simp only [xgA,xgB,xgC];rfl);rfl;(intro wS hSw;obtain ⟨⟨S1,S2⟩,⟨S3,S4⟩,⟨S5,S6⟩,S7,S8,S9⟩:=hSw;go_simp;try with_reducible rfl);(exact fun _ _ _ h=>h);(try simp only [Act.put,xgD,xgE,xgF])));refine tkE ?_);((refine qaa 15 (o:=?_) (by kernel_rfl) ?_ ?_;rotate_left 1;(simp only [xgA,xgB,xgC];rfl);intro K hK);go_simp;(refine (C25.out _ (Ext.refl _)).mono ?_);rintro e_ u2 ⟨u,rfl,hu,ed1⟩;go_wp2_with (fail);(try clear hSn);(have hSn:=hHeld.ext ed1);(refine hK.out _ _ (fun _=>hSn) ?_);clear hK K;(try simp only [Act.put,xgD,xgE,xgF]));((refine qaa 16 (o:=?_) (by kernel_rfl) ?_ ?_;rotate_left 1;(simp only [xgA,xgB,xgC];rfl);intro K hK);go_simp;(refine (C26.out _ u ed1 hu).mono ?_);rintro e_ u3 ⟨v2,rfl,hv2,ed2⟩;go_wp2_with (fail);(try clear hSn);(have hSn:=hHeld.ext (ed1.trans ed2));(refine hK.out _ _ (fun _=>hSn) ?_);clear hK K;(try simp only [Act.put,xgD,xgE,xgF]));(refine tkB [17] ?_;(iterate 1 (refine tk1 (oi:=?_) (v:=?_) (by kernel_rfl) (by first | exact hSn | exact hHeld) ?_ ?_ ?_ ?_ ?_;rotate_left 2;(simp only [xgA,xgB,xgC];rfl);rfl;(intro wS hSw;obtain ⟨⟨S1,S2⟩,⟨S3,S4⟩,⟨S5,S6⟩,S7,S8,S9⟩:=hSw;go_simp;try with_reducible rfl);(exact fun _ _ _ h=>h);(try simp only [Act.put,xgD,xgE,xgF])));refine tkE ?_);have ed3:=ed1.trans ed2;have hS5:=(HSD.out.ext ed3);have HS5:=Lib.hid (hS5.putR (j:=k+j) (by have:=HLT3.out;omega) hv2)
       obtain ⟨W6,hW6⟩ : ∃ W6,set2 u3 gr ((k+j)*2) (.bool v2.b) (.slice v2.a v2.n v2.p)=W6:=⟨_,rfl⟩;obtain ⟨yy,⟨k0,k1⟩,_⟩:=hS5.r.cel (j:=k+j) (by have:=HLT3.out;omega) (Nat.le_refl _);have hf0:=hS5.r.frz ((k+j)*2);have hf1:=hS5.r.frz ((k+j)*2+1);have hg5:=hS5.r.lt;have hkp:=Kp.set2 (M:=M3 M gr gq) (w:=u3) (g:=gr) (.inl (.inr rfl)) ((k+j)*2) (.bool v2.b) (.slice v2.a v2.n v2.p);have HX5:=Lib.hid ((HXD.out.ext ed3).kp hkp);have HP5:=Lib.hid ((HPD.out.ext HPD.out.lt ed3).of_heap (qbJ u3 gr ((k+j)*2) (.bool v2.b) (.slice v2.a v2.n v2.p) ga hgar));rw [hW6] at HX5 HP5 HS5;have HS6:Hid (PsS M w gr gq gl m1 V c (G n) (some ⟨gb,ob,none⟩) n2 c2 X2 z2 (zL k (j+1) fz G (zE V F G q t)) (fun i=>if k<=i then qAt q k fz i else 0) W6):=HS5.out.congr (fun i _=>qse k j fz G _ i) (fun _ _=>rfl);unfold set2 at hW6;have HW6:=Lib.hid hW6;clear hS5 hu hv2 ed1 ed2 ed3 hkp hW6 HSD HY HC2 HXD HPD C25 C26 hHeld hSn HS5;((refine qaa 18 (o:=?_) (by kernel_rfl) ?_ ?_;rotate_left 1;(simp only [xgA,xgB,xgC];rfl);intro K hK);go_simp;(refine hK.out _ _ (fun h=>absurd rfl h) ?_);clear hK K;refine qac (by kernel_rfl) ?_ _)
       go_upto_region 16 with (fail)
       rw [HW6.out];clear k0 k1 hf0 hf1 hg5 HW6 hqwd hpwd hbwd;go_wp2
       go_roundw
       case rel=>exact ⟨j+1,by have:=HLT3.out;omega,by go_num,HS6,HX5,HP5⟩
       case measure=>have:=HLT3.out;simp [intOf];omega
      ·obtain rfl:j=n+1:=by omega
       have hge2 : ¬ (((n+1:Nat):Int))<=(n:Int):=by omega
       have HS6:Hid (PsS M w gr gq gl m1 V c (G n) a2 n2 c2 X2 z2 (zE V F G (qAt q k fz) (t+1)) (fun i=>if k<=i then qAt q k fz i else 0) wr):=HS.out.congr (fun i _=>qrk HTK.out HGH.out fz i) (fun _ _=>rfl)
       have HTK2:Hid (t+1+k=V):=by have:=HTK.out;show _=_;omega
       clear HS HXI HP;go_wp2
       go_roundw
       case rel=>exact ⟨t+1,k,qAt q k fz,HTK2.out,by go_num,HS6,HX2⟩
       case measure=>simp [intOf]
    ·obtain rfl:=HNO.out hdv;have HNQ:Hid (¬ ∃ p,qpH V F G p):=HX.out.no HTK.out HGH.out hdv;have HF:Hid (qmR M w n1 z1 n2 z2 (.returned (.tuple #[.slice none 0 0,.int .i64 3])) wc):=⟨_,_,_,_,rfl,⟨fun _=>⟨false,none,0,0⟩,fun _=>0,qco.nil _ _ _ _,.inr ⟨n,HM2.out,.inr ⟨rfl,rfl,by rw [HM1.out,HGG.out,HFF.out,<- HVM.out];exact HNQ.out⟩⟩⟩,HSC.out.e⟩;clear HSC HV HOK HNO hdv HX HNQ;go_wp2;exact bodyPost_ret (v:=.tuple #[.slice none 0 0,.int .i64 3]) (by simp [results,Tryz.results15,go_sem]) rfl HF.out


def DvZ (n1:Nat) (z1:Nat->Int) (n2:Nat) (z2:Nat->Int):Prop:=
 (tz z2 n2=0/\tz z1 n1=0) ∨ ∃ n,tz z2 n2=n+1 /\ ∀ i,zx0 n (zR n (tz z1 n1 - n) (zx0 n2 z2) (zx0 n1 z1) (tz z1 n1 - n)) i=0
theorem qnd {z:Nat->Int} {n:Nat} : tz z n=0 ↔ ∀ i,zx0 n z i=0:=by
 refine ⟨fun h i=>by rw [<- qga,h];exact if_neg (by omega),fun h=>?_⟩;rcases qhb z n with h0 | h0
 ·exact h0
 ·refine Classical.byContradiction fun hc=>h0 ?_;have h1:=h (tz z n - 1);unfold zx0 at h1
  rwa [if_pos (by have:=qeL z n;omega)] at h1
theorem ql7 (M : Nat -> Prop) (a2 : Option Addr) (n2 c2 : Nat) (X2 : Nat -> IE) (z2 : Nat -> Int) (a1 : Option Addr) (n1 c1 : Nat) (X1 : Nat -> IE) (z1 : Nat -> Int) (w : World) (h1 : qco M w a1 n1 c1 X1 z1) (h2 : qco M w a2 n2 c2 X2 z2)
  (hP : ∀ W,Ext w W->Calls Tryz.prog 13 #[.slice a1 n1 c1,.slice a2 n2 c2] W (qku M W n1 z1 n2 z2)) :
  Calls Tryz.prog 18 #[.slice a2 n2 c2,.slice a1 n1 c1] w (qdC (DvZ n1 z1 n2 z2) w):=by
 have CD2:=Lib.hid (qdL M a2 n2 c2 X2 z2 w h2);have CD1:=Lib.hid (fun W (he:Ext w W)=>qdL M a1 n1 c1 X1 z1 W (h1.ext he));have HP:=Lib.hid hP;clear h1 h2 hP
 go_enter Tryz.func18,Tryz.ntmps18
 go_wp2_with (fail);refine CD2.out.mono ?_;rintro e w1 ⟨rfl,he1⟩;have HE1:=Lib.hid he1;clear he1;obtain ⟨m2,hm2⟩ : ∃ m2,m2=tz z2 n2:=⟨_,rfl⟩;rw [<- hm2];have HM2:Hid (tz z2 n2=m2):=hm2.symm;clear hm2
 by_cases h0:m2=0
 ·have hneg:(m2:Int) - 1<0:=by omega
  have HZ:Hid (tz z2 n2=0):=HM2.out.trans h0;clear h0;go_wp2_with (fail);refine (CD1.out _ HE1.out).mono ?_;rintro e w2 ⟨rfl,he2⟩;obtain ⟨m1,hm1⟩ : ∃ m1,m1=tz z1 n1:=⟨_,rfl⟩;rw [<- hm1]
  by_cases h1:m1=0
  ·have HF:Hid (qdC (DvZ n1 z1 n2 z2) w (.returned (.bool true)) w2):=qdC.t (.inl ⟨HZ.out,by rw [<- hm1,h1]⟩) (HE1.out.trans he2)
   have hneg1:(m1:Int) - 1<0:=by omega
   clear hm1 h1 he2 HE1 HZ HM2;go_wp2;go_ret;exact HF.out
  ·have HF : Hid (qdC (DvZ n1 z1 n2 z2) w (.returned (.bool false)) w2) := qdC.f (fun h => by
    rcases h with ⟨_,h⟩ | ⟨n,h,_⟩
    ·omega
    ·rw [HZ.out] at h;cases h) (HE1.out.trans he2)
   have hneg1:decide ((m1:Int) - 1<0)=false:=by simp;omega
   clear hm1 h1 he2 HE1 HZ HM2;go_wp2;go_ret;exact HF.out
 ·have hneg : ¬ (m2:Int) - 1<0:=by omega
  have HZ:Hid (m2≠0):=h0;clear h0;go_wp2_with (fail);refine (HP.out _ HE1.out).mono ?_;rintro e w2 ⟨au,nu,cu,av,nv,cv,er,rfl,⟨Xu,zu,Xv,zv,hu,hv,hc⟩,he2⟩
  have HQ:Hid (nv=0↔DvZ n1 z1 n2 z2):=by
   rcases hc with ⟨h,_⟩ | ⟨n,V,h,rfl,_,h3,_,h4⟩
   ·exact absurd (HM2.out.symm.trans h) HZ.out
   ·refine ⟨fun h5=>.inr ⟨n,h,fun i=>by rw [<- h4 i,h5];exact if_neg (by omega)⟩,fun h5=>?_⟩;rcases h5 with ⟨h6,_⟩ | ⟨n',h6,h7⟩
    ·rw [h6] at h;cases h
    ·obtain rfl:n=n':=by omega
     rw [h3];exact qnd.2 fun i=>(h4 i).trans (h7 i)
  have hvl:=hv.1;have HE2:=Lib.hid (HE1.out.trans he2);clear hu hv hc he2 HE1 HZ HM2
  by_cases hn:nv=0
  ·have HF:Hid (qdC (DvZ n1 z1 n2 z2) w (.returned (.bool true)) w2):=qdC.t (HQ.out.1 hn) HE2.out;clear HQ HE2;go_wp2;go_ret;exact HF.out
  ·have HF:Hid (qdC (DvZ n1 z1 n2 z2) w (.returned (.bool false)) w2):=qdC.f (fun h=>hn (HQ.out.2 h)) HE2.out
   have hn2:((nv:Int) == 0)=false:=by simp;omega
   clear HQ HE2 hn;go_wp2;go_ret;exact HF.out
theorem qfH (a : Option Addr) (n cap : Nat) (X : Nat -> IE) (w0 w : World) (h : qrX w0 a n cap X) (he0 : Ext w0 w) (hn : n <= 8) :
  Calls Tryz.prog 10 #[.slice a n cap] w (qdC (∀ i,i<n->(X i).n<=5) w):=by
 have HE0:=Lib.hid he0;have HU:=Lib.hid h.2.2.2;clear he0;have hnc:=h.1;have hcm:=h.2.1;unfold maxLen at hcm;clear h
 go_enter Tryz.func10,Tryz.ntmps10
 go_wp2
 go_loopw [7] (fun iv wr=>∃ k:Nat,k<=n/\iv = .int .i64 (k:Int)/\Hid (∀ i,i<k->(X i).n<=5)/\Hid (Ext w wr)) (fun iv _=>n - (intOf iv).toNat)
 case atStart=>exact ⟨0,Nat.zero_le _,rfl,fun i hi=>absurd hi (Nat.not_lt_zero _),Ext.refl _⟩
 case round=>
  obtain ⟨k,hk,rfl,HK,HE⟩:=hrel
  by_cases hlt:k<n
  ·obtain ⟨b,off,hva,hb,x0,x1,_⟩:=HU.out k hlt;subst hva;have he2:=HE0.out.trans HE.out;rw [<- he2.cell hb] at x0 x1;have hbw:b<wr.heap.size:=Nat.lt_of_lt_of_le hb he2.size;clear he2;have HE2:Hid (Ext w (wr.alloc (.cells #[.bool (X k).b,.slice (X k).a (X k).n (X k).p] 30))):=HE.out.alloc _
   by_cases h5:(X k).n<=5
   ·have h5i : ¬ (5:Int)<((X k).n:Int):=by omega
    have HK2:Hid (∀ i,i<k+1->(X i).n<=5):=fun i hi=>by
     by_cases e:i=k
     ·rw [e];exact h5
     ·exact HK.out i (by omega)
    clear h5 HK HE;go_wp2
    go_roundw
    case rel=>exact ⟨k+1,by omega,by go_num,HK2,HE2⟩
    case measure=>simp [intOf];omega
   ·have h5i:(5:Int)<((X k).n:Int):=by omega
    have HF:Hid (qdC (∀ i,i<n->(X i).n<=5) w (.returned (.bool false)) (wr.alloc (.cells #[.bool (X k).b,.slice (X k).a (X k).n (X k).p] 30))):=qdC.f (fun h=>h5 (h k hlt)) HE2.out;clear h5 HK HE HE2;go_wp2;go_ret;exact HF.out
  ·obtain rfl:k=n:=by omega
   have HF:Hid (qdC (∀ i,i<k->(X i).n<=5) w (.returned (.bool true)) wr):=qdC.t HK.out HE.out;clear HK HE;go_wp2;go_ret;exact HF.out


section
variable {L:Nat} (h1:1<=L) (h4:L<=4)
include h1 h4
theorem qbW {n:Nat} {z:Nat->Int} : Sim (upl L n z) []↔tz z n=0:=by
 refine ⟨fun h=>qnd.2 fun i=>?_,fun h=>?_⟩
 ·rw [<- qei h1 h4 n z i,h];rfl
 ·refine qro.symm.trans ?_;rw [h];exact Sim.refl _
omit h1 h4 in
theorem qgf {n k:Nat} {z:Nat->Int} (h:tz z n=k+1):zx0 n z k≠0 /\ ∀ i,k<i->zx0 n z i=0:=by
 have h0:=(qhb z n).resolve_left (by omega);have h2:=qeL z n;refine ⟨?_,fun i hi=>by rw [<- qga,h];exact if_neg (by omega)⟩;unfold zx0;rw [if_pos (by omega)];rw [h] at h0;exact h0
theorem qoZ {n k:Nat} {z:Nat->Int} (h:tz z n=k+1):DgR L (upl L n z) k:=qtJ h1 h4 (qgf h).1 (qgf h).2
theorem qnm {m n:Nat} {f:Nat->Int} : StR L (upl L m f) n (tz f m - n):=by
 by_cases h:tz f m=0
 ·exact .inl ⟨(qbW h1 h4).2 h,by omega⟩
 ·obtain ⟨k,hk⟩ : ∃ k,tz f m=k+1:=⟨tz f m - 1,by omega⟩;exact .inr ⟨fun hz=>h ((qbW h1 h4).1 hz),k,qoZ h1 h4 hk,by omega⟩
theorem qsu {M : Nat -> Prop} {w' W : World} {m k : Nat} {f g : Nat -> Int} {x y : PE} {er er' : Int} {au av : Option Addr} {nu cu nv cv : Nat} (h : DvO M w' (upl L m f) (upl L k g) (L : Int) x y er)
  (hp:PsO M W m f k g au nu cu av nv cv er'):er=er' /\ ∃ Xu zu Xv zv,qco M W au nu cu Xu zu/\qco M W av nv cv Xv zv /\ ∃ ql rl,CRx M w' 4 x ql/\CRx M w' 4 y rl/\Sim ql (upl L nu zu)/\Sim rl (upl L nv zv):=by
 obtain ⟨Xu,zu,Xv,zv,hu,hv,hc⟩:=hp;rcases h with ⟨hl,_⟩ | ⟨_,hz,rfl,rfl,rfl⟩ | ⟨J,n',V',hJ,_,_,hnz,hd,hs,rfl,hx,hy⟩
 ·exact absurd ⟨by omega,by omega⟩ hl
 ·have h0:=(qbW h1 h4).1 hz;rcases hc with ⟨_,rfl,rfl,rfl⟩ | ⟨n,V,ht,_⟩
  ·exact ⟨rfl,Xu,zu,Xv,zv,hu,hv,[],[],CR.zero _ _ 4,CR.zero _ _ 4,Sim.refl _,Sim.refl _⟩
  ·omega
 ·obtain rfl:L=J:=by omega
  rcases hc with ⟨ht,_⟩ | ⟨n,V,ht,rfl,rfl,_,hq,hr⟩
  ·exact absurd ((qbW h1 h4).2 ht) hnz
  ·obtain rfl:n'=n:=qcx (qbS _ _ _) hnz hd (qoZ h1 h4 ht);obtain rfl:V'=tz f m - n':=hs.uniq (qbS _ _ _) (qnm h1 h4);obtain ⟨D,rfl⟩ : ∃ D,L=D+1:=⟨L - 1,by omega⟩;refine ⟨rfl,Xu,zu,Xv,zv,hu,hv,_,_,hx,hy,(qsQ h4 _ _ _ _ _ _).trans (qjI h1 h4 fun i=>?_),(qnH h4 _ _ _ _ _ _).trans (qjI h1 h4 fun i=>(hr i).symm)⟩;rw [hq i];unfold zx0
   split
   ·rename_i hi;rw [qus _ _ _ _ hi]
   ·rfl
theorem qm9 {M : Nat -> Prop} {w' W : World} {m k A : Nat} {f g : Nat -> Int} {v : PE} {er er' : Int} {au : Option Addr} {nu cu : Nat}
  (h:(er=2/\Sim (upl L k g) []/\v=PE.z)∨(er=0 /\ ¬ Sim (upl L k g) [] /\ ∃ q,CRx M w' 4 v q/\Sim (pmul q (upl L k g)) (upl L m f)/\dlen (nrm q)<=A)∨(er=3/\v=PE.z /\ ¬ Sim (upl L k g) [] /\ ¬ Dv (upl L k g) (upl L m f)))
  (hp:ExO M W m f k g au nu cu er'):er=er' /\ ∃ Xu zu,qco M W au nu cu Xu zu /\ ∃ ql,CRx M w' 4 v ql/\Sim ql (upl L nu zu):=by
 obtain ⟨Xu,zu,hu,hc⟩:=hp;have hm:Sim (upl L (tz f m) f) (upl L m f):=qro;rcases h with ⟨rfl,hz,rfl⟩ | ⟨rfl,hz,q,hq,hs,_⟩ | ⟨rfl,rfl,hz,hn⟩
 ·have h0:=(qbW h1 h4).1 hz;rcases hc with ⟨_,rfl,rfl⟩ | ⟨n,ht,_⟩
  ·exact ⟨rfl,Xu,zu,hu,[],CR.zero _ _ 4,Sim.refl _⟩
  ·omega
 ·rcases hc with ⟨ht,_⟩ | ⟨n,ht,⟨rfl,rfl,hqz⟩ | ⟨rfl,rfl,hno⟩⟩
  ·exact absurd ((qbW h1 h4).2 ht) hz
  ·have h2:=(qoN h1 h4 (n:=n) hqz).trans hm;exact ⟨rfl,Xu,zu,hu,q,hq,qbK hq.nn (qbS _ _ _) (qbS _ _ _) hz (hs.trans h2.symm)⟩
  ·obtain ⟨t0,t1⟩:=qgf ht;exact absurd ((qrQ h1 h4 t0 t1).1 ⟨q,hq.nn,hs.trans hm.symm⟩) hno
 ·rcases hc with ⟨ht,_⟩ | ⟨n,ht,⟨rfl,rfl,hqz⟩ | ⟨rfl,rfl,hno⟩⟩
  ·exact absurd ((qbW h1 h4).2 ht) hz
  ·obtain ⟨t0,t1⟩:=qgf ht;obtain ⟨r,nr,hr⟩:=(qrQ h1 h4 t0 t1).2 ⟨_,hqz⟩;exact absurd ⟨r,nr,hr.trans hm⟩ hn
  ·exact ⟨rfl,Xu,zu,hu,[],CR.zero _ _ 4,Sim.refl _⟩
theorem qst {B C A D : Nat} {m k : Nat} {f g : Nat -> Int} {b b' : Bool} (hB : Deg B (upl L m f)) (hC : Deg C (upl L k g)) (hA : dlen (nrm (upl L m f)) <= A) (hD : dlen (nrm (upl L k g)) <= D)
  (h0:Sim (upl L k g) []->(b=true↔Sim (upl L m f) [])) (hn : ¬ Sim (upl L k g) []->(b=true↔Dv (snorm (upl L k g)) (upl L m f))) (hb:b'=true↔DvZ m f k g):b=b':=by
 have key:b=true↔b'=true:=by
  rw [hb]
  by_cases hz:Sim (upl L k g) []
  ·rw [h0 hz,qbW h1 h4];have ht:=(qbW h1 h4).1 hz;refine ⟨fun h=>.inl ⟨ht,h⟩,fun h=>?_⟩;rcases h with ⟨_,h⟩ | ⟨n,h,_⟩
   ·exact h
   ·omega
  ·rw [hn hz];have ht:tz g k≠0:=fun h=>hz ((qbW h1 h4).2 h);obtain ⟨n,hk⟩ : ∃ n,tz g k=n+1:=⟨tz g k - 1,by omega⟩;obtain ⟨t0,t1⟩:=qgf hk;have H:PdH L n (tz f m - n) B C A D (upl L m f) (upl L k g):=⟨h1,h4,qbS _ _ _,qbS _ _ _,hB,hC,hA,hD,qoZ h1 h4 hk,qnm h1 h4⟩;obtain ⟨D',rfl⟩ : ∃ D',L=D'+1:=⟨L - 1,by omega⟩;rw [<- quU H (c:=zx0 k g n) (qhB h4 k g n) t0 hz];have hr:=qnH h4 n (tz f m - n) m k f g;refine ⟨fun h=>.inr ⟨n,hk,fun i=>?_⟩,fun h=>?_⟩
   ·rw [<- qei h1 h4,hr.symm.trans h];rfl
   ·rcases h with ⟨h,_⟩ | ⟨n',h,h5⟩
    ·omega
    ·obtain rfl:n=n':=by omega
     exact hr.trans ((qbW h1 h4).2 (qnd.2 h5))
 cases b <;> cases b' <;> simp_all
end
end Go.Proofs.YtmcfpnmoklnhoaaGreat
