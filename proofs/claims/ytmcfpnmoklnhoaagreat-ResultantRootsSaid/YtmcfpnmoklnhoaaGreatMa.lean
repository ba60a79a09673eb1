/- Plain facts on digits in base 2^32: the value of a row of digits, its trimmed length, the number of digits of a number. Worlds that only grow, blocks known by a function, numbers in memory. natural: trim, IsZero, Normal, Cmp; math/bits: Add32, Sub32, Mul32. natural: Add, Sub, Of. natural: schoolbook, addInto, product, Mul. natural: product at small numbers. Regions that draw their order and whose last operation writes a cell that the region loads. natural: product at great numbers (Karatsuba). natural: Mul. -/
import Derived.Test.YtmcfpnmoklnhoaaGreatRows
import Derived.WalkKit
import Derived.WalkSpells
import Derived.WalkLawsBesides
import Derived.Lib.Hide
import Derived.Laws.CopyOwn
import Derived.Deep.QuietTactic
import Derived.BigQuiet
import Derived.Deep.DeepCutAuto
import Derived.Deep.RegionHeld3
set_option linter.unusedVariables false
set_option maxRecDepth 100000
set_option maxHeartbeats 400000000
set_option linter.unusedSimpArgs false

namespace Go.Proofs.YtmcfpnmoklnhoaaGreat

def nv (d:Nat->Nat):Nat->Nat
 | 0=>0
 | n+1=>nv d n+d n*4294967296 ^ n
def tl (d:Nat->Nat):Nat->Nat
 | 0=>0
 | n+1=>if d n=0 then tl d n else n+1
def qed:Nat->Nat->Nat
 | 0,_=>0
 | f+1,x=>if x=0 then 0 else qed f (x / 4294967296)+1
def dlen (x:Nat):Nat:=qed x x

theorem qeH (n:Nat):0<4294967296 ^ n:=Nat.pow_pos (by decide)
theorem qim (d:Nat->Nat) (n:Nat):tl d n<=n:=by
 induction n with
 | zero=>exact Nat.le_refl _
 | succ n ih=>simp only [tl];split <;> omega
theorem qdk (d:Nat->Nat) (n:Nat):nv d (tl d n)=nv d n:=by
 induction n with
 | zero=>rfl
 | succ n ih=>
  simp only [tl];split
  ·rename_i h;rw [ih];simp [nv,h]
  ·rfl
theorem qcg (d:Nat->Nat) (n:Nat):tl d n=0∨d (tl d n - 1)≠0:=by
 induction n with
 | zero=>exact .inl rfl
 | succ n ih=>
  simp only [tl];split
  ·exact ih
  ·rename_i h;exact .inr (by simpa using h)
theorem qlr (d:Nat->Nat) (n:Nat):tl d (n+1)=if d n=0 then tl d n else n+1:=rfl
theorem qaI (d e:Nat->Nat) (n:Nat) (h : ∀ i,i<n->d i=e i):nv d n=nv e n:=by
 induction n with
 | zero=>rfl
 | succ n ih=>simp only [nv];rw [ih fun i hi=>h i (by omega),h n (by omega)]
theorem qcH (d:Nat->Nat) (n:Nat) (h : ∀ i,i<n->d i<4294967296):nv d n<4294967296 ^ n:=by
 induction n with
 | zero=>simp [nv]
 | succ n ih=>
  have h1:=ih fun i hi=>h i (by omega);have h2:=h n (by omega);simp only [nv,Nat.pow_succ];have h3:d n*4294967296 ^ n<=4294967295*4294967296 ^ n:=Nat.mul_le_mul_right _ (by omega);omega
theorem ql7 (d:Nat->Nat) (n:Nat) (h:d n≠0):4294967296 ^ n<=nv d (n+1):=by
 simp only [nv];have:1*4294967296 ^ n<=d n*4294967296 ^ n:=Nat.mul_le_mul_right _ (by omega);omega
theorem qiz (d:Nat->Nat) (n:Nat):nv d n=0↔tl d n=0:=by
 constructor
 ·intro h;rcases qcg d n with h0 | h0
  ·exact h0
  ·by_cases hz:tl d n=0
   ·exact hz
   ·exfalso;obtain ⟨m,hm⟩ : ∃ m,tl d n=m+1:=⟨tl d n - 1,by omega⟩;rw [hm] at h0;have h1:=ql7 d m (by simpa using h0);rw [<- hm,qdk] at h1;have:=qeH m;omega
 ·intro h;rw [<- qdk,h];rfl
theorem qdO (d:Nat->Nat) (n:Nat):nv d (n+1)=d 0+4294967296*nv (fun i=>d (i+1)) n:=by
 induction n with
 | zero=>simp [nv]
 | succ n ih=>
  rw [nv,ih];show _=d 0+4294967296*(nv (fun i=>d (i+1)) n+d (n+1)*4294967296 ^ n);rw [Nat.mul_add,Nat.pow_succ]
  have:d (n+1)*(4294967296 ^ n*4294967296)=4294967296*(d (n+1)*4294967296 ^ n):=by
   rw [<- Nat.mul_assoc,Nat.mul_comm]
  omega
theorem qaY (d:Nat->Nat) (m n:Nat):nv d (m+n)=nv d m+4294967296 ^ m*nv (fun i=>d (m+i)) n:=by
 induction n with
 | zero=>simp [nv]
 | succ n ih=>
  show nv d (m+n)+d (m+n)*4294967296 ^ (m+n)=nv d m+4294967296 ^ m*(nv (fun i=>d (m+i)) n+d (m+n)*4294967296 ^ n);rw [ih,Nat.mul_add,Nat.pow_add]
  have:d (m+n)*(4294967296 ^ m*4294967296 ^ n)=4294967296 ^ m*(d (m+n)*4294967296 ^ n):=by
   rw [<- Nat.mul_assoc,Nat.mul_comm (d (m+n)),Nat.mul_assoc]
  omega

theorem qoC (f x:Nat) (h:x<=f):x<4294967296 ^ (qed f x):=by
 induction f generalizing x with
 | zero => have : x = 0 := by omega
           subst this;simp [qed]
 | succ f ih=>
  simp only [qed];split
  ·rename_i h0;subst h0;simp
  ·rw [Nat.pow_succ];have h1:=ih (x / 4294967296) (by omega);omega
theorem qoD (f x:Nat) (h:x<=f) (h0:x≠0):4294967296 ^ (qed f x - 1)<=x:=by
 induction f generalizing x with
 | zero=>omega
 | succ f ih=>
  simp only [qed];rw [if_neg h0]
  by_cases h1:x / 4294967296=0
  ·have:qed f (x / 4294967296)=0:=by rw [h1];cases f <;> simp [qed]
   rw [this];simp;omega
  ·have h2:=ih (x / 4294967296) (by omega) h1
   have h3:qed f (x / 4294967296)≠0:=by
    cases f with
    | zero=>omega
    | succ f=>simp [qed,h1]
   obtain ⟨k,hk⟩ : ∃ k,qed f (x / 4294967296)=k+1:=⟨_,(Nat.succ_pred h3).symm⟩;rw [hk] at h2 ⊢;simp only [Nat.add_sub_cancel] at h2 ⊢;rw [Nat.pow_succ];omega
theorem qca (x:Nat):x<4294967296 ^ dlen x:=qoC x x (Nat.le_refl _)
theorem qmY (x:Nat) (h:x≠0):4294967296 ^ (dlen x - 1)<=x:=qoD x x (Nat.le_refl _) h
theorem qan (x k:Nat):dlen x<=k↔x<4294967296 ^ k:=by
 constructor
 ·intro h;exact Nat.lt_of_lt_of_le (qca x) (Nat.pow_le_pow_right (by decide) h)
 ·intro h
  by_cases h0:x=0
  ·subst h0;simp [dlen,qed]
  ·have h1:=qmY x h0;have h2:=(Nat.pow_lt_pow_iff_right (by decide:1<4294967296)).1 (Nat.lt_of_le_of_lt h1 h);omega
theorem qh0:dlen 0=0:=rfl
theorem qal {x y:Nat} (h:x<=y):dlen x<=dlen y:=(qan _ _).2 (Nat.lt_of_le_of_lt h (qca y))
theorem qgT (d:Nat->Nat) (n:Nat) (hd : ∀ i,i<n->d i<4294967296) (h:n=0∨d (n - 1)≠0):dlen (nv d n)=n:=by
 cases n with
 | zero=>rfl
 | succ n=>
  have h1:=qcH d (n+1) hd;have h2:=ql7 d n (by simpa using h);have h3:=(qan _ _).2 h1
  by_cases h4:dlen (nv d (n+1))<=n
  ·have:=(qan _ _).1 h4;omega
  ·omega
theorem qaR (d:Nat->Nat) (n:Nat) (hd : ∀ i,i<n->d i<4294967296):dlen (nv d n)<=n:=(qan _ _).2 (qcH d n hd)
theorem qin (d:Nat->Nat) (n:Nat) (hd : ∀ i,i<n->d i<4294967296):tl d n=dlen (nv d n):=by
 have h1:=qim d n;rw [<- qdk d n,qgT d (tl d n) (fun i hi=>hd i (by omega)) (qcg d n)]
theorem qco (x y:Nat):dlen (x+y)<=max (dlen x) (dlen y)+1:=by
 rw [qan,Nat.pow_succ];have h1:=qca x;have h2:=qca y;have h3:4294967296 ^ dlen x<=4294967296 ^ max (dlen x) (dlen y):=Nat.pow_le_pow_right (by decide) (Nat.le_max_left ..);have h4:4294967296 ^ dlen y<=4294967296 ^ max (dlen x) (dlen y):=Nat.pow_le_pow_right (by decide) (Nat.le_max_right ..);omega
theorem qaD (x y:Nat):dlen (x*y)<=dlen x+dlen y:=by
 rw [qan,Nat.pow_add];exact Nat.mul_lt_mul'' (qca x) (qca y)
theorem qeP {x:Nat} (h:x≠0):0<dlen x:=by
 rcases Nat.eq_zero_or_pos (dlen x) with h0 | h0
 ·have:=qca x;rw [h0] at this;omega
 ·exact h0
theorem qh1 {x:Nat} : dlen x=0↔x=0:=by
 constructor
 ·intro h;rcases Nat.eq_zero_or_pos x with h0 | h0
  ·exact h0
  ·have:=qeP (x:=x) (by omega);omega
 ·intro h;subst h;rfl
def qev (x y:Nat):Int:=if x<y then -1 else if y<x then 1 else 0
theorem qg4 {x y:Nat} (h:x<y):qev x y = -1:=by unfold qev;rw [if_pos h]
theorem qni {x y:Nat} (h:y<x):qev x y=1:=by unfold qev;rw [if_neg (by omega),if_pos h]
theorem qre {x y:Nat} (h:x=y):qev x y=0:=by unfold qev;rw [if_neg (by omega),if_neg (by omega)]
theorem qfh (d e:Nat->Nat) (n m:Nat) (hd : ∀ i,i<n->d i<4294967296) (h:n<m) (hm:m=0∨e (m - 1)≠0):nv d n<nv e m:=by
 obtain ⟨k,rfl⟩ : ∃ k,m=k+1:=⟨m - 1,by omega⟩;have h1:=qcH d n hd;have h2:=ql7 e k (by simpa using hm);have h3:4294967296 ^ n<=4294967296 ^ k:=Nat.pow_le_pow_right (by decide) (by omega);omega
theorem qfi (d e:Nat->Nat) (n i:Nat) (hd : ∀ j,j<n->d j<4294967296) (hi:i<n) (hs : ∀ j,i<j->j<n->d j=e j) (hl:d i<e i):nv d n<nv e n:=by
 induction n with
 | zero=>omega
 | succ n ih=>
  simp only [nv]
  by_cases hn:i=n
  ·subst hn;have h1:=qcH d i fun j hj=>hd j (by omega);have h2:(d i+1)*4294967296 ^ i<=e i*4294967296 ^ i:=Nat.mul_le_mul_right _ (by omega);rw [Nat.add_mul] at h2;omega
  ·have h1:=ih (fun j hj=>hd j (by omega)) (by omega) fun j h1 h2=>hs j h1 (by omega);rw [hs n (by omega) (by omega)];omega
def alo (x y c:Nat):Nat:=(x+y+c) % 4294967296
def ahi (x y c:Nat):Nat:=(x+y+c) / 4294967296
def slo (x y c:Nat):Nat:=(x+4294967296 - y - c) % 4294967296
def mlo (x y:Nat):Nat:=(x*y) % 4294967296
def mhi (x y:Nat):Nat:=(x*y) / 4294967296
def qcD (x y c:Nat):Nat:=if x<y+c then 1 else 0
def cy (d e:Nat->Nat):Nat->Nat
 | 0=>0
 | k+1=>(d k+e k+cy d e k) / 4294967296
def sd (d e:Nat->Nat) (k:Nat):Nat:=(d k+e k+cy d e k) % 4294967296
theorem qsR (d e:Nat->Nat) (n:Nat) (hd : ∀ i,i<n->d i<4294967296) (he : ∀ i,i<n->e i<4294967296):cy d e n<=1:=by
 induction n with
 | zero=>simp [cy]
 | succ n ih=>
  have h1:=ih (fun i hi=>hd i (by omega)) fun i hi=>he i (by omega);have h2:=hd n (by omega);have h3:=he n (by omega);simp only [cy];omega
theorem qnY (d e:Nat->Nat) (k:Nat):sd d e k<4294967296:=Nat.mod_lt _ (by decide)
theorem qpp (d e:Nat->Nat) (n:Nat):nv (sd d e) n+cy d e n*4294967296 ^ n=nv d n+nv e n:=by
 induction n with
 | zero=>simp [nv,cy]
 | succ n ih=>
  simp only [nv,cy,sd];have h:=Nat.div_add_mod (d n+e n+cy d e n) 4294967296
  have h2:(d n+e n+cy d e n) % 4294967296*4294967296 ^ n+(d n+e n+cy d e n) / 4294967296*4294967296 ^ (n+1)=(d n+e n+cy d e n)*4294967296 ^ n:=by
   rw [Nat.pow_succ]
   conv=>rhs;rw [<- h]
   rw [Nat.add_mul,Nat.mul_comm 4294967296,Nat.mul_assoc,Nat.mul_comm 4294967296 (4294967296 ^ n)];omega
  rw [Nat.add_mul,Nat.add_mul] at h2;omega
def cut (e:Nat->Nat) (m:Nat) (i:Nat):Nat:=if i<m then e i else 0
theorem qsk (e:Nat->Nat) (m k:Nat):nv (cut e m) (m+k)=nv e m:=by
 induction k with
 | zero=>exact qaI _ _ _ fun i hi=>by unfold cut;rw [if_pos (by simpa using hi)]
 | succ k ih=>rw [<- Nat.add_assoc];simp only [nv];rw [ih];unfold cut;rw [if_neg (by omega)];simp
theorem qgA (e:Nat->Nat) (m n:Nat) (h:m<=n):nv (cut e m) n=nv e m:=by
 obtain ⟨k,rfl⟩ : ∃ k,n=m+k:=⟨n - m,by omega⟩;exact qsk e m k
theorem qna (e:Nat->Nat) (m:Nat) (he : ∀ i,i<m->e i<4294967296) (i:Nat):cut e m i<4294967296:=by
 unfold cut;split
 ·exact he i (by assumption)
 ·decide
def qnS (d e:Nat->Nat) (n:Nat) (i:Nat):Nat:=if i<n then sd d e i else cy d e n
theorem qqm (d e:Nat->Nat) (n:Nat):nv (qnS d e n) (n+1)=nv d n+nv e n:=by
 simp only [nv];rw [qaI (qnS d e n) (sd d e) n fun i hi=>by unfold qnS;rw [if_pos hi],<- qpp];unfold qnS;rw [if_neg (by omega)]
def bw (d e:Nat->Nat):Nat->Nat
 | 0=>0
 | k+1=>if d k<e k+bw d e k then 1 else 0
def dd (d e:Nat->Nat) (k:Nat):Nat:=(d k+4294967296 - e k - bw d e k) % 4294967296
theorem qrn (d e:Nat->Nat) (k:Nat):bw d e k<=1:=by
 cases k with
 | zero=>simp [bw]
 | succ k=>simp only [bw];split <;> omega
theorem qrb (d e:Nat->Nat) (k:Nat):dd d e k<4294967296:=Nat.mod_lt _ (by decide)
theorem qqo (d e:Nat->Nat) (n:Nat) (hd : ∀ i,i<n->d i<4294967296) (he : ∀ i,i<n->e i<4294967296):nv (dd d e) n+nv e n=nv d n+bw d e n*4294967296 ^ n:=by
 induction n with
 | zero=>simp [nv,bw]
 | succ n ih=>
  have h1:=ih (fun i hi=>hd i (by omega)) fun i hi=>he i (by omega);have h2:=hd n (by omega);have h3:=he n (by omega);have h4:=qrn d e n
  have h5:dd d e n+e n+bw d e n=d n+bw d e (n+1)*4294967296:=by
   simp only [dd,bw];split <;> omega
  simp only [nv]
  have h6:(dd d e n+e n+bw d e n)*4294967296 ^ n=(d n+bw d e (n+1)*4294967296)*4294967296 ^ n:=by rw [h5]
  have h7:bw d e (n+1)*4294967296*4294967296 ^ n=bw d e (n+1)*4294967296 ^ (n+1):=by
   rw [Nat.mul_assoc,Nat.mul_comm 4294967296 (4294967296 ^ n),<- Nat.pow_succ]
  simp only [Nat.add_mul] at h6;omega
theorem qof (d e:Nat->Nat) (n:Nat) (hd : ∀ i,i<n->d i<4294967296) (he : ∀ i,i<n->e i<4294967296) (h:nv e n<=nv d n):nv (dd d e) n=nv d n - nv e n:=by
 have h1:=qqo d e n hd he;have h2:=qcH (dd d e) n fun i _=>qrb d e i;have h3:=qrn d e n
 have h4:bw d e n=0:=by
  rcases Nat.eq_zero_or_pos (bw d e n) with h5 | h5
  ·exact h5
  ·have h6:bw d e n=1:=by omega
   rw [h6] at h1;omega
 rw [h4] at h1;omega
def qa2 (s:Nat->Nat) (k u:Nat):Nat->Nat:=fun i=>if i=k then u else s i
theorem ql5 (s:Nat->Nat) (k u N:Nat) (h:k<N):nv (qa2 s k u) N+s k*4294967296 ^ k=nv s N+u*4294967296 ^ k:=by
 induction N with
 | zero=>omega
 | succ N ih=>
  simp only [nv]
  by_cases hk:k=N
  ·subst hk;rw [qaI (qa2 s k u) s k fun i hi=>by unfold qa2;rw [if_neg (by omega)]];unfold qa2;rw [if_pos rfl];omega
  ·have:=ih (by omega)
   have h2:qa2 s k u N=s N:=by unfold qa2;rw [if_neg (by omega)]
   rw [h2];omega
theorem qom (x y r c : Nat) (hx : x < 4294967296) (hy : y < 4294967296) (hr : r < 4294967296) (hc : c < 4294967296) :
  mhi x y+ahi (mlo x y) r 0+ahi (alo (mlo x y) r 0) c 0<4294967296 /\
  alo (alo (mlo x y) r 0) c 0+4294967296*(mhi x y+ahi (mlo x y) r 0+ahi (alo (mlo x y) r 0) c 0)=x*y+r+c:=by
 have h1:x*y<=4294967295*4294967295:=Nat.mul_le_mul (by omega) (by omega);unfold mhi mlo ahi alo;generalize x*y=p at *;omega
theorem qpw (x y:Nat) (hx:x<4294967296) (hy:y<4294967296):mhi x y<4294967296:=by
 have h1:x*y<=4294967295*4294967295:=Nat.mul_le_mul (by omega) (by omega);unfold mhi;omega
theorem qhH (x y:Nat):mlo x y<4294967296:=Nat.mod_lt _ (by decide)
theorem qfD (x y c:Nat):alo x y c<4294967296:=Nat.mod_lt _ (by decide)
theorem qn1 (s : Nat -> Nat) (N i j x y c c' u V W : Nat) (hk : i + j < N) (h : nv s N + c * 4294967296 ^ (i + j) = V + x * W * 4294967296 ^ i)
  (hu:u+4294967296*c'=x*y+s (i+j)+c):nv (qa2 s (i+j) u) N+c'*4294967296 ^ (i+(j+1))=V+x*(W+y*4294967296 ^ j)*4294967296 ^ i:=by
 have h1:=ql5 s (i+j) u N hk
 have h2:(u+4294967296*c')*4294967296 ^ (i+j)=(x*y+s (i+j)+c)*4294967296 ^ (i+j):=by rw [hu]
 have h3:c'*4294967296 ^ (i+(j+1))=4294967296*c'*4294967296 ^ (i+j):=by
  rw [<- Nat.add_assoc,Nat.pow_succ,<- Nat.mul_assoc,Nat.mul_comm,<- Nat.mul_assoc]
 have h4:x*(W+y*4294967296 ^ j)*4294967296 ^ i=x*W*4294967296 ^ i+x*y*4294967296 ^ (i+j):=by
  rw [Nat.mul_add,Nat.add_mul,Nat.pow_add,<- Nat.mul_assoc x y,Nat.mul_assoc (x*y),Nat.mul_comm (4294967296 ^ j)]
 rw [h3,h4];simp only [Nat.add_mul] at h2;omega
def inf (s X:Nat->Nat) (off j:Nat):Nat->Nat:=fun q=>if off<=q/\q<off+j then sd (fun i=>s (off+i)) X (q - off) else s q
theorem qmw (s X:Nat->Nat) (off j:Nat):qa2 (inf s X off j) (off+j) (sd (fun i=>s (off+i)) X j)=inf s X off (j+1):=by
 funext q;unfold qa2 inf
 by_cases h:q=off+j
 ·subst h;rw [if_pos rfl,if_pos ⟨by omega,by omega⟩,show off+j - off=j from by omega]
 ·rw [if_neg h]
  by_cases h2:off<=q/\q<off+j
  ·rw [if_pos h2,if_pos ⟨h2.1,by omega⟩]
  ·rw [if_neg h2,if_neg (by omega)]
theorem qpB (s X:Nat->Nat) (off j:Nat):inf s X off j (off+j)=s (off+j):=by unfold inf;rw [if_neg (by omega)]
theorem qp8 (D X:Nat->Nat) (N:Nat) (hD : ∀ i,i<N->D i<4294967296) (j:Nat) (hc:cy D X j=0) (hX : ∀ i,j<=i->X i=0) (i:Nat) (hi:j+i<=N):cy D X (j+i)=0/\(j+i<N->sd D X (j+i)=D (j+i)):=by
 induction i with
 | zero=>
  refine ⟨hc,fun h=>?_⟩;unfold sd;rw [Nat.add_zero,hc,hX j (Nat.le_refl _)];exact Nat.mod_eq_of_lt (by have:=hD j (by omega);omega)
 | succ i ih=>
  obtain ⟨h1,h2⟩:=ih (by omega)
  have h3:cy D X (j+i+1)=0:=by
   simp only [cy];rw [h1,hX (j+i) (by omega)];have:=hD (j+i) (by omega);omega
  refine ⟨h3,fun h=>?_⟩;unfold sd;rw [<- Nat.add_assoc,h3,hX (j+i+1) (by omega)];exact Nat.mod_eq_of_lt (by have:=hD (j+i+1) (by omega);omega)
theorem qmv (s X : Nat -> Nat) (off N j : Nat) (hD : ∀ i, i < N -> s (off + i) < 4294967296) (hX : ∀ i, i < N -> X i < 4294967296) (hfit : nv (fun i => s (off + i)) N + nv X N < 4294967296 ^ N) (hj : j <= N)
  (h:j=N∨(cy (fun i=>s (off+i)) X j=0 /\ ∀ i,j<=i->X i=0)):nv (fun i=>inf s X off j (off+i)) N=nv (fun i=>s (off+i)) N+nv X N:=by
 have h1:=qpp (fun i=>s (off+i)) X N
 have h2:cy (fun i=>s (off+i)) X N=0:=by
  rcases Nat.eq_zero_or_pos (cy (fun i=>s (off+i)) X N) with h5 | h5
  ·exact h5
  ·have:1*4294967296 ^ N<=cy (fun i=>s (off+i)) X N*4294967296 ^ N:=Nat.mul_le_mul_right _ h5;omega
 rw [h2] at h1;rw [<- h1,Nat.zero_mul,Nat.add_zero];refine qaI _ _ _ fun i hi=>?_;unfold inf
 by_cases hij:i<j
 ·rw [if_pos ⟨by omega,by omega⟩,show off+i - off=i from by omega]
 ·rw [if_neg (by omega)];rcases h with h | ⟨h,hx⟩
  ·omega
  ·have:=(qp8 (fun i=>s (off+i)) X N hD j h hx (i - j) (by omega)).2 (by omega);rw [show j+(i - j)=i from by omega] at this;exact this.symm
theorem qsw (s X:Nat->Nat) (off j T:Nat) (hs : ∀ i,i<T->s i<4294967296) (i:Nat) (hi:i<T):inf s X off j i<4294967296:=by
 unfold inf;split
 ·exact qnY _ _ _
 ·exact hs i hi
end Go.Proofs.YtmcfpnmoklnhoaaGreat

namespace Go.Proofs.YtmcfpnmoklnhoaaGreat
open Go.RowKit

def Ext (w w':World):Prop:=Below w.heap.size w w'
theorem Ext.refl (w:World):Ext w w:=Below.refl _ _
theorem Ext.size {w w':World} (h:Ext w w'):w.heap.size<=w'.heap.size:=Below.size h
theorem Ext.trans {a b c:World} (h:Ext a b) (k:Ext b c):Ext a c:=Below.trans h (Below.mono k (Ext.size h))
theorem Ext.alloc {a w:World} (h:Ext a w) (o:Obj):Ext a (w.alloc o):=Below.alloc h (Ext.size h) o
theorem Ext.drew {a w:World} (h:Ext a w):Ext a w.drew:=Below.drew h
theorem Ext.drewN {a w:World} (h:Ext a w) (n:Nat):Ext a (w.drewN n):=by
 obtain ⟨h1,h2,h3,h4,h5⟩:=h;exact ⟨h1,h2,h3,h4,h5⟩
theorem Ext.set {a w:World} (h:Ext a w) {p:Addr} (hp:a.heap.size<=p.block) (u:Value):Ext a (w.setCell p u):=Below.setCell h hp u
theorem Ext.grown {a w w':World} {row:Option Nat} (h:Ext a w) (hg:w.grownBy w' row) (hr : ∀ k,row=some k->a.heap.size<=k):Ext a w':=
 Below.grown h hg (Ext.size h) hr
theorem Ext.cell {w w':World} (h:Ext w w') {b o:Nat} (hb:b<w.heap.size):w'.cell? ⟨b,o,none⟩=w.cell? ⟨b,o,none⟩:=Below.cell h (p:=⟨b,o,none⟩) hb
theorem Ext.frozen {w w':World} (h:Ext w w') {b o:Nat} (hb:b<w.heap.size):w'.frozen? ⟨b,o,none⟩=w.frozen? ⟨b,o,none⟩:=Below.frozen h (p:=⟨b,o,none⟩) hb
theorem Ext.heap {w w':World} (h:Ext w w') {b:Nat} (hb:b<w.heap.size):w'.heap[b]? = w.heap[b]?:=Below.block h b hb
theorem Ext.below {w w':World} (h:Ext w w'):Below w.heap.size w w':=h
theorem qhc {W w1:World} (hb:Ext W w1):(∀ b o,b<W.heap.size->w1.cell? ⟨b,o,none⟩=W.cell? ⟨b,o,none⟩)/\(∀ b o,b<W.heap.size->w1.frozen? ⟨b,o,none⟩=W.frozen? ⟨b,o,none⟩):=
 ⟨fun _ _ h=>hb.cell h,fun _ _ h=>hb.frozen h⟩

def Blk (w:World) (g:Nat) (t:TypeId) (n:Nat) (f:Nat->Value):Prop:=
 ∃ cur:Array Value,w.heap[g]? = some (.cells cur t (0,0))/\cur.size=n /\ ∀ i,i<n->cur[i]? = some (f i)
theorem Blk.lt {w:World} {g:Nat} {t:TypeId} {n:Nat} {f:Nat->Value} (h:Blk w g t n f):g<w.heap.size:=by
 obtain ⟨cur,hg,_⟩:=h;exact (Array.getElem?_eq_some_iff.1 hg).1
theorem Blk.cell {w:World} {g:Nat} {t:TypeId} {n:Nat} {f:Nat->Value} (h:Blk w g t n f) {i:Nat} (hi:i<n):w.cell? ⟨g,i,none⟩=some (f i):=by
 obtain ⟨cur,hg,_,hc⟩:=h;simp [World.cell?,hg,hc i hi]
theorem Blk.frozen {w:World} {g:Nat} {t:TypeId} {n:Nat} {f:Nat->Value} (h:Blk w g t n f) (i:Nat):w.frozen? ⟨g,i,none⟩=false:=by
 obtain ⟨cur,hg,_,hc⟩:=h;simp [World.frozen?,hg]
theorem Blk.of_heap {w w':World} {g:Nat} {t:TypeId} {n:Nat} {f:Nat->Value} (h:Blk w g t n f) (he:w'.heap[g]? = w.heap[g]?):Blk w' g t n f:=by
 obtain ⟨cur,hg,r⟩:=h;exact ⟨cur,he.trans hg,r⟩
theorem Blk.ext {w w':World} {g:Nat} {t:TypeId} {n:Nat} {f:Nat->Value} (h:Blk w g t n f) (he:Ext w w'):Blk w' g t n f:=h.of_heap (he.heap h.lt)
theorem Blk.alloc {w:World} {g:Nat} {t:TypeId} {n:Nat} {f:Nat->Value} (h:Blk w g t n f) (o:Obj):Blk (w.alloc o) g t n f:=h.of_heap (Below.heap_alloc w o g h.lt)
theorem Blk.set_other {w:World} {g:Nat} {t:TypeId} {n:Nat} {f:Nat->Value} (h:Blk w g t n f) {p:Addr} (hp:g≠p.block) (u:Value):Blk (w.setCell p u) g t n f:=
 h.of_heap (Below.heap_setCell w p u g hp)
def upd (f:Nat->Value) (j:Nat) (u:Value):Nat->Value:=fun i=>if i=j then u else f i
theorem Blk.set {w:World} {g:Nat} {t:TypeId} {n:Nat} {f:Nat->Value} (h:Blk w g t n f) (j:Nat) (u:Value):Blk (w.setCell ⟨g,j,none⟩ u) g t n (upd f j u):=by
 obtain ⟨cur,hg,hs,hc⟩:=h;refine ⟨cur.setIfInBounds j u,heap_setCell_same w g j cur t u hg,by simpa using hs,fun i hi=>?_⟩;rw [Array.getElem?_setIfInBounds];unfold upd
 by_cases hij:i=j
 ·subst hij;simp [hs,hi]
 ·rw [if_neg (by omega),if_neg hij];exact hc i hi
theorem Blk.congr {w:World} {g:Nat} {t:TypeId} {n:Nat} {f f':Nat->Value} (h:Blk w g t n f) (hf : ∀ i,i<n->f i=f' i):Blk w g t n f':=by
 obtain ⟨cur,hg,hs,hc⟩:=h;exact ⟨cur,hg,hs,fun i hi=>by rw [hc i hi,hf i hi]⟩
theorem Blk.of_own {w:World} {base g n:Nat} {e:TypeId} {size:Nat} {xs:List Value} (h:w.ownsRow base e size (.slice (some ⟨g,0,none⟩) n n) n xs) (f:Nat->Value) (hf : ∀ i,i<n*size->xs[i]? = some (f i)):Blk w g e (n*size) f:=by
 rcases h.2 with ⟨h',_⟩ | ⟨g',cap',cur,h',_,hg,_,_,hsz,htake⟩
 ·simp at h'
 ·simp only [Value.slice.injEq,Option.some.injEq,Addr.mk.injEq,and_true,true_and] at h';obtain ⟨rfl,rfl⟩:=h';refine ⟨cur,hg,hsz,fun i hi=>?_⟩;have h1:=hf i hi;rw [<- htake,List.getElem?_take,if_pos hi] at h1;simpa using h1
theorem Blk.of_alloc (w:World) (cs:Array Value) (t:TypeId) (f:Nat->Value) (n:Nat) (hn:cs.size=n) (hf : ∀ i,i<n->cs[i]? = some (f i)):Blk (w.alloc (.cells cs t)) w.heap.size t n f:=
 ⟨cs,heap_alloc_new w _,hn,hf⟩
def arr (cs:Array Value):Nat->Value:=fun i=>cs.getD i undef
theorem Blk.of_arr (w:World) (cs:Array Value) (t:TypeId) (n:Nat) (hn:cs.size=n):Blk (w.alloc (.cells cs t)) w.heap.size t n (arr cs):=
 ⟨cs,heap_alloc_new w _,hn,fun i hi=>by unfold arr;rw [Array.getD_eq_getD_getElem?];simp [hn,hi]⟩
theorem Blk.of_alloc1 (w:World) (u:Value) (t:TypeId):Blk (w.alloc (.cells #[u] t)) w.heap.size t 1 (fun _=>u):=
 Blk.of_alloc w #[u] t _ 1 rfl (by
  intro i hi
  have h0:i=0:=by omega
  subst h0;rfl)

def qhg (f:Nat->Value) (off k:Nat) (src:Nat->Value):Nat->Value:=fun i=>if off<=i/\i<off+k then src (i - off) else f i
theorem ql2 (f:Nat->Value) (off:Nat) (src:Nat->Value):qhg f off 0 src=f:=by
 funext i;unfold qhg;rw [if_neg (by omega)]
theorem qb4 (b o j:Nat):(⟨b,o,none⟩:Addr).add j=⟨b,o+j,none⟩:=by
 unfold Addr.add;split <;> simp_all
theorem qcm (w:World) (r:Option Nat):w.grownBy w r:=⟨rfl,rfl,rfl,Nat.le_refl _,fun _ _ _=>rfl⟩
theorem qbF {a b c:World} {r:Option Nat} (h:a.grownBy b r) (k:b.grownBy c r):a.grownBy c r:=
 ⟨k.os.trans h.os,k.tape.trans h.tape,k.output.trans h.output,Nat.le_trans h.size k.size,fun i hi hr=>(k.block i (Nat.lt_of_lt_of_le hi h.size) hr).trans (h.block i hi hr)⟩
theorem Ext.grownBy {a w:World} (h:Ext a w) (r:Option Nat):a.grownBy w r:=⟨Below.os h,Below.tape h,Below.output h,h.size,fun k hk _=>h.heap hk⟩
theorem Blk.grown {w w':World} {g:Nat} {t:TypeId} {n:Nat} {f:Nat->Value} {r:Option Nat} (h:Blk w g t n f) (hg:w.grownBy w' r) (hr:some g≠r):Blk w' g t n f:=h.of_heap (hg.block g h.lt hr)
theorem Blk.splice {w : World} {g : Nat} {t : TypeId} {n : Nat} {f : Nat -> Value} (h : Blk w g t n f) (off k : Nat) (src : Nat -> Value) (hfit : off + k <= n) :
  ∃ cur:Array Value,w.heap[g]? = some (.cells cur t (0,0))/\cur.size=n /\
   Blk (w.setRow g (cur.toList.take off ++ ((List.range k).map src ++ cur.toList.drop (off+((List.range k).map src).length))).toArray) g t n (qhg f off k src):=by
 obtain ⟨cur,hg,hs,hc⟩:=h;refine ⟨cur,hg,hs,_,setRow_heap w g _ _ t _ hg,by simp;omega,fun i hi=>?_⟩;have hci:=hc i hi;rw [<- Array.getElem?_toList] at hci;simp only [List.length_map,List.length_range,List.getElem?_toArray];unfold qhg
 by_cases h1:i<off
 ·rw [List.getElem?_append_left (by simp;omega),List.getElem?_take,if_pos h1,if_neg (by omega)];exact hci
 ·rw [List.getElem?_append_right (by simp;omega)]
  have hl:(cur.toList.take off).length=off:=by simp;omega
  rw [hl]
  by_cases h2:i<off+k
  ·rw [List.getElem?_append_left (by simp;omega),if_pos ⟨by omega,h2⟩];simp only [List.getElem?_map];rw [List.getElem?_range (by omega)];rfl
  ·rw [List.getElem?_append_right (by simp;omega),if_neg (by omega),List.getElem?_drop,<- hci]
   congr 1
   simp;omega
theorem qcr (w:World) (g:Nat) (cs:Array Value):w.grownBy (w.setRow g cs) (some g):=
 ⟨rfl,rfl,rfl,by simp [World.setRow],fun k _ hk=>setRow_other w g k cs (fun e=>hk (by rw [e]))⟩
theorem qbf {P : Program} {w : World} {ops : Array Oper} {rest : List Oper} {o : Oper} {a : Act} {Q : Exit -> Act -> World -> Prop} (hgd : o.guard = none) (d s : Operand) (dT sT : TypeId)
  (ho:o.op = .call { callee:=.builtin .copy,args:=#[d,s],argTypes:=#[dT,sT] }) (elem:TypeId) (hu:P.underlying dT=some (.slice elem)) (hsz:(P.info? elem).map (·.size)=some 1)
  (dp sp:Option Addr) (dLen dCap sLen sCap:Nat) (hd:a.eval d = .slice dp dLen dCap) (hs:a.eval s = .slice sp sLen sCap)
  (g off:Nat) (t:TypeId) (N:Nat) (f:Nat->Value) (hB:Blk w g t N f) (k:Nat) (hk:k=Nat.min sLen dLen) (src:Nat->Value)
  (hpos:0<k->dp=some ⟨g,off,none⟩ /\ ∃ b q,sp=some ⟨b,q,none⟩ /\ ∀ j,j<k->w.cell? ⟨b,q+j,none⟩=some (src j))
  (hfit:off+k<=N) (h1 : ∀ j,j<k->(src j).oneCell'=true)
  (h : ∀ w',Blk w' g t N (qhg f off k src)->w.grownBy w' (some g)->wpList P ops Q rest (a.put o.dst (goInt k)) w') :
  wpList P ops Q (o :: rest) a w:=by
 by_cases h0:k=0
 ·subst h0;refine wpList_copy_nothing hgd d s dT sT ho elem hu hsz dp sp dLen dCap sLen sCap hd hs hk.symm ?_;exact h w (by rw [ql2];exact hB) (qcm _ _)
 ·obtain ⟨rfl,b,q,rfl,hsrc⟩:=hpos (by omega);obtain ⟨cur,hg,hcs,hb⟩:=hB.splice off k src hfit;refine wpList_copy_own hgd d s dT sT ho elem hu hsz g off dLen dCap ⟨b,q,none⟩ sLen sCap hd hs cur t hg ((List.range k).map src) (by simpa using hk) ?_ (by simp;omega) ?_ ?_
  ·intro j v hv;simp only [List.getElem?_map,Option.map_eq_some_iff] at hv;obtain ⟨x,hx,rfl⟩:=hv;have hlt:=(List.getElem?_eq_some_iff.1 hx).1;simp only [List.length_range] at hlt;rw [List.getElem?_range hlt] at hx;cases hx;rw [qb4];exact hsrc j hlt
  ·intro v hv;simp only [List.mem_map,List.mem_range] at hv;obtain ⟨j,hj,rfl⟩:=hv;exact h1 j hj
  ·simp only [List.length_map,List.length_range] at hb ⊢;exact h _ hb (qcr _ _ _)
theorem qgG (u:Value) (n i:Nat) (hi:i<n):(madeCells #[u] n).toList[i]? = some u:=by
 have:i % 1=0:=Nat.mod_one i;simp [madeCells,hi,this]
theorem Blk.made1 {w:World} {base g n:Nat} {e:TypeId} {u:Value} (h:w.ownsRow base e 1 (.slice (some ⟨g,0,none⟩) n n) n (madeCells #[u] n).toList):Blk w g e n (fun _=>u):=by
 have:=Blk.of_own h (fun _=>u) (fun i hi=>qgG u _ i (by omega));simpa using this
theorem qaw {w w':World} (h:w.grownBy w' none):Ext w w':=(Ext.refl w).grown h (by intro k hk;cases hk)

def Mb (M:Nat->Prop) (w:World):Prop:=∀ g,M g->g<w.heap.size
theorem Mb.ext {M:Nat->Prop} {w w':World} (h:Mb M w) (he:Ext w w'):Mb M w':=fun g hg=>Nat.lt_of_lt_of_le (h g hg) he.size
theorem Mb.size {M:Nat->Prop} {w w':World} (h:Mb M w) (he:w.heap.size<=w'.heap.size):Mb M w':=fun g hg=>Nat.lt_of_lt_of_le (h g hg) he
theorem Mb.new {M:Nat->Prop} {w:World} (h:Mb M w) {g:Nat} (hg:w.heap.size<=g) : ¬ M g:=fun hm=>by have:=h g hm;omega
def Kp (M:Nat->Prop) (w w':World):Prop:=w.heap.size<=w'.heap.size /\ ∀ b,b<w.heap.size -> ¬ M b->w'.heap[b]? = w.heap[b]?
theorem Kp.of_ext {M:Nat->Prop} {w w':World} (h:Ext w w'):Kp M w w':=⟨h.size,fun _ hb _=>h.heap hb⟩
theorem Kp.trans {M:Nat->Prop} {a b c:World} (h:Kp M a b) (k:Kp M b c):Kp M a c:=⟨Nat.le_trans h.1 k.1,fun q hq hm=>(k.2 q (Nat.lt_of_lt_of_le hq h.1) hm).trans (h.2 q hq hm)⟩
theorem Kp.refl (M:Nat->Prop) (w:World):Kp M w w:=⟨Nat.le_refl _,fun _ _ _=>rfl⟩
theorem Kp.set (M:Nat->Prop) (w:World) {p:Addr} (hp:M p.block) (u:Value):Kp M w (w.setCell p u):=
 ⟨by simp [World.setCell],fun b _ hb=>Below.heap_setCell _ _ _ _ (fun e=>hb (e ▸ hp))⟩
theorem Kp.grown {M:Nat->Prop} {w w':World} {r:Option Nat} (hg:w.grownBy w' r) (hr : ∀ k,r=some k->M k):Kp M w w':=
 ⟨hg.size,fun b hb hm=>hg.block b hb (fun e=>hm (hr b e.symm))⟩
theorem Kp.cell {M:Nat->Prop} {w w':World} (h:Kp M w w') {b o:Nat} (hb:b<w.heap.size) (hm : ¬ M b):w'.cell? ⟨b,o,none⟩=w.cell? ⟨b,o,none⟩:=World.cell?_of_block (w:=w) (h.2 b hb hm)
theorem Kp.mono {M M':Nat->Prop} {w w':World} (h:Kp M w w') (hm : ∀ b,M b->M' b):Kp M' w w':=⟨h.1,fun b hb hn=>h.2 b hb (fun k=>hn (hm b k))⟩

def qbr (M:Nat->Prop) (w:World) (v:Value) (n:Nat) (d:Nat->Nat):Prop:=
 n<=1099511627776/\(∀ i,i<n->d i<4294967296) /\
 ((n=0 /\ ∃ a cap,v = .slice a 0 cap/\cap<=maxLen/\(a=none->cap=0)) ∨ ∃ b off cap,v = .slice (some ⟨b,off,none⟩) n cap/\n<=cap/\cap<=maxLen/\(b<w.heap.size /\ ¬ M b) /\ ∀ i,i<n->w.cell? ⟨b,off+i,none⟩=some (.int .u32 (d i)))
theorem qbr.kp {M:Nat->Prop} {w w':World} {v:Value} {n:Nat} {d:Nat->Nat} (h:qbr M w v n d) (he:Kp M w w'):qbr M w' v n d:=by
 obtain ⟨h1,h2,h3⟩:=h;refine ⟨h1,h2,?_⟩;rcases h3 with h3 | ⟨b,off,cap,hv,hn,hc,hb,hcell⟩
 ·exact .inl h3
 ·exact .inr ⟨b,off,cap,hv,hn,hc,⟨Nat.lt_of_lt_of_le hb.1 he.1,hb.2⟩,fun i hi=>by rw [he.cell hb.1 hb.2];exact hcell i hi⟩
theorem qbr.more {M M':Nat->Prop} {w:World} {v:Value} {n:Nat} {d:Nat->Nat} (h:qbr M w v n d) (hm : ∀ g,M' g->M g∨w.heap.size<=g):qbr M' w v n d:=by
 obtain ⟨h1,h2,h3⟩:=h;refine ⟨h1,h2,?_⟩;rcases h3 with h3 | ⟨b,off,cap,hv,hn,hc,hb,hcell⟩
 ·exact .inl h3
 ·exact .inr ⟨b,off,cap,hv,hn,hc,⟨hb.1,fun k=>(hm b k).elim hb.2 (by omega)⟩,hcell⟩
theorem qbr.ext {M:Nat->Prop} {w w':World} {v:Value} {n:Nat} {d:Nat->Nat} (h:qbr M w v n d) (he:Ext w w'):qbr M w' v n d:=h.kp (Kp.of_ext he)
def qcc (M:Nat->Prop) (w:World) (v:Value) (x:Nat):Prop:=∃ n d,qbr M w v n d/\nv d n=x
def qcY (M:Nat->Prop) (w:World) (v:Value) (x:Nat):Prop:=∃ n d,qbr M w v n d/\nv d n=x/\(n=0∨d (n - 1)≠0)
section
variable {M M':Nat->Prop} {w w':World} {v:Value} {x:Nat}
theorem qcc.kp (h:qcc M w v x) (he:Kp M w w'):qcc M w' v x:=by
 obtain ⟨n,d,h1,h2⟩:=h;exact ⟨n,d,h1.kp he,h2⟩
theorem qcY.kp (h:qcY M w v x) (he:Kp M w w'):qcY M w' v x:=by
 obtain ⟨n,d,h1,h2⟩:=h;exact ⟨n,d,h1.kp he,h2⟩
theorem qcc.more (h:qcc M w v x) (hm : ∀ g,M' g->M g∨w.heap.size<=g):qcc M' w v x:=by
 obtain ⟨n,d,h1,h2⟩:=h;exact ⟨n,d,h1.more hm,h2⟩
theorem qcY.more (h:qcY M w v x) (hm : ∀ g,M' g->M g∨w.heap.size<=g):qcY M' w v x:=by
 obtain ⟨n,d,h1,h2⟩:=h;exact ⟨n,d,h1.more hm,h2⟩
theorem qcc.ext (h:qcc M w v x) (he:Ext w w'):qcc M w' v x:=h.kp (Kp.of_ext he)
theorem qcY.ext (h:qcY M w v x) (he:Ext w w'):qcY M w' v x:=h.kp (Kp.of_ext he)
theorem qcY.toV (h:qcY M w v x):qcc M w v x:=by
 obtain ⟨n,d,h1,h2,_⟩:=h;exact ⟨n,d,h1,h2⟩
theorem qcc.dlen (h:qcc M w v x):dlen x<=1099511627776:=by
 obtain ⟨n,d,h1,rfl⟩:=h;exact Nat.le_trans (qaR d n h1.2.1) h1.1
theorem qcY.len (h:qcY M w v x) : ∃ d,qbr M w v (dlen x) d/\nv d (dlen x)=x/\(dlen x=0∨d (dlen x - 1)≠0):=by
 obtain ⟨n,d,h1,rfl,h3⟩:=h;rw [qgT d n h1.2.1 h3];exact ⟨d,h1,rfl,h3⟩
end
theorem qbr.nil (M:Nat->Prop) (w:World):qbr M w (.slice none 0 0) 0 (fun _=>0):=⟨by decide,by intro i hi;omega,.inl ⟨rfl,none,0,rfl,Nat.zero_le _,fun _=>rfl⟩⟩
theorem qcY.nil (M:Nat->Prop) (w:World):qcY M w (.slice none 0 0) 0:=⟨0,fun _=>0,qbr.nil M w,rfl,.inl rfl⟩
theorem qbr.of_blk {M : Nat -> Prop} {w : World} {g : Nat} {t : TypeId} {N n : Nat} {d : Nat -> Nat} {f : Nat -> Value} (h : Blk w g t N f) (hM : ¬ M g) (cap : Nat) (hn : n <= N) (hL : n <= 1099511627776) (hcap : n <= cap) (hc : cap <= maxLen)
  (hf : ∀ i,i<n->f i = .int .u32 (d i)) (hd : ∀ i,i<n->d i<4294967296):qbr M w (.slice (some ⟨g,0,none⟩) n cap) n d:=
 ⟨hL,hd,.inr ⟨g,0,cap,rfl,hcap,hc,⟨h.lt,hM⟩,fun i hi=>by rw [Nat.zero_add,h.cell (by omega),hf i hi]⟩⟩
def Mx (M:Nat->Prop) (n k:Nat):Nat->Prop:=fun g=>M g∨(n<=g/\g<k)
theorem Mx.more {M:Nat->Prop} {n k:Nat} {w:World} (hn:w.heap.size<=n) : ∀ g,Mx M n k g->M g∨w.heap.size<=g:=fun g hg=>hg.imp id (fun h=>by omega)
theorem Mx.less {M:Nat->Prop} {n k:Nat} {w:World} : ∀ g,M g->Mx M n k g∨w.heap.size<=g:=fun g hg=>.inl (.inl hg)
theorem Mx.mb {M:Nat->Prop} {n k:Nat} {w w':World} (h:Mb M w) (hs:w.heap.size<=w'.heap.size) (hk:k<=w'.heap.size):Mb (Mx M n k) w':=fun g hg=>hg.elim (fun h1=>Nat.lt_of_lt_of_le (h g h1) hs) (fun h1=>by omega)
theorem Mx.at {M:Nat->Prop} {n k g:Nat} (h:n<=g/\g<k):Mx M n k g:=.inr h


theorem qhm (b off n cap : Nat) (d : Nat -> Nat) (w : World) (hcap : n <= cap) (hm : cap <= maxLen)
  (hc : ∀ i,i<n->w.cell? ⟨b,off+i,none⟩=some (.int .u32 (d i))) :
  Calls Tryz.prog 134 #[.slice (some ⟨b,off,none⟩) n cap] w fun e w'=>e = .returned (.slice (some ⟨b,off,none⟩) (tl d n) cap)/\w=w':=by
 unfold maxLen at hm
 go_enter Tryz.func134,Tryz.ntmps134
 go_wp2
 go_loop [3] (fun i=>∃ k:Nat,k<=n/\i = .int .i64 k/\tl d k=tl d n) (fun i=>(intOf i).toNat)
 case atStart=>exact ⟨n,Nat.le_refl _,rfl,rfl⟩
 case round=>
  obtain ⟨k,hk,rfl,ht⟩:=hrel;have HT:=Lib.hid ht;clear ht
  by_cases h0:k=0
  ·subst h0;go_wp2;go_ret;exact ⟨by rw [<- HT.out];rfl,rfl⟩
  ·obtain ⟨j,rfl⟩ : ∃ j,k=j+1:=⟨k - 1,by omega⟩;have hcell:=hc j (by omega)
   by_cases hz:d j=0
   ·have hz':(((d j:Nat):Int) == 0)=true:=by simp [hz]
    have HZ:=Lib.hid hz;clear hz;go_wp2
    go_round
    case rel=>exact ⟨j,by omega,rfl,by rw [<- HT.out,qlr,if_pos HZ.out]⟩
    case measure=>simp [intOf]
   ·have hz':(((d j:Nat):Int) == 0)=false:=by simp [hz]
    have HZ:=Lib.hid hz;clear hz;go_wp2;go_ret;exact ⟨by rw [<- HT.out,qlr,if_neg HZ.out];rfl,rfl⟩
theorem qnO (a : Option Addr) (cap : Nat) (hc : cap <= maxLen) (hn : a = none -> cap = 0) (w : World) :
  Calls Tryz.prog 134 #[.slice a 0 cap] w fun e w'=>e = .returned (.slice a 0 cap)/\w=w':=by
 unfold maxLen at hc
 cases a with
 | none=>
  obtain rfl:=hn rfl;clear hn
  go_enter Tryz.func134,Tryz.ntmps134
  go_wp2;refine wp_loop_rounds 1 ?_;rw [rounds_succ];go_wp2;go_ret;exact ⟨rfl,rfl⟩
 | some a=>
  clear hn
  go_enter Tryz.func134,Tryz.ntmps134
  go_wp2;refine wp_loop_rounds 1 ?_;rw [rounds_succ];go_wp2;go_ret;exact ⟨rfl,rfl⟩
theorem qbn {M : Nat -> Prop} (v : Value) (n : Nat) (d : Nat -> Nat) (w : World) (h : qbr M w v n d) :
  Calls Tryz.prog 134 #[v] w fun e w'=>∃ v',e = .returned v'/\qbr M w v' (tl d n) d/\w=w':=by
 obtain ⟨h1,h2,h3⟩:=h;have hl:=qim d n;rcases h3 with ⟨rfl,a,cap,rfl,hc,hn0⟩ | ⟨b,off,cap,rfl,hn,hc,hb,hcell⟩
 ·refine (qnO a cap hc hn0 w).mono ?_;rintro e w' ⟨rfl,rfl⟩;exact ⟨_,rfl,⟨Nat.zero_le _,by intro i hi;simp [tl] at hi,.inl ⟨rfl,a,cap,rfl,hc,hn0⟩⟩,rfl⟩
 ·refine (qhm b off n cap d w hn hc hcell).mono ?_;rintro e w' ⟨rfl,rfl⟩;exact ⟨_,rfl,⟨by omega,fun i hi=>h2 i (by omega),.inr ⟨b,off,cap,rfl,by omega,hc,hb,fun i hi=>hcell i (by omega)⟩⟩,rfl⟩

theorem qbj {M : Nat -> Prop} {w : World} {g : Nat} {t : TypeId} {N : Nat} {s : Nat -> Nat} (h : Blk w g t N (fun i => .int .u32 (s i))) (hMg : ¬ M g) (hN : N <= maxLen) (hs : ∀ i, i < N -> s i < 4294967296) (hL : dlen (nv s N) <= 1099511627776) :
  Calls Tryz.prog 134 #[.slice (some ⟨g,0,none⟩) N N] w fun e w'=>∃ u,e = .returned u/\qcY M w u (nv s N)/\w=w':=by
 refine (qhm g 0 N N s w (Nat.le_refl _) hN (fun i hi=>by rw [Nat.zero_add];exact h.cell hi)).mono ?_;rintro e w' ⟨rfl,rfl⟩;have hl:=qim s N;have hd:=qin s N hs;exact ⟨_,rfl,⟨_,s,qbr.of_blk h hMg N hl (by omega) hl hN (fun i _=>rfl) (fun i hi=>hs i (by omega)),qdk s N,qcg s N⟩,rfl⟩
theorem qap {M:Nat->Prop} {w:World} {v:Value} {n:Nat} {d:Nat->Nat} (h:qbr M w v n d) : ∃ a cap,v = .slice a n cap:=by
 obtain ⟨_,_,h3⟩:=h;rcases h3 with ⟨rfl,a,cap,rfl,_⟩ | ⟨b,off,cap,rfl,_⟩
 ·exact ⟨_,_,rfl⟩
 ·exact ⟨_,_,rfl⟩

theorem qbN {M : Nat -> Prop} (v : Value) (x : Nat) (w : World) (h : qcc M w v x) :
  Calls Tryz.prog 84 #[v] w fun e w'=>e = .returned (.bool (decide (x=0)))/\w=w':=by
 obtain ⟨n,d,hr,rfl⟩:=h;have hz:=qiz d n;have HZ:=Lib.hid hz;clear hz
 go_enter Tryz.func84,Tryz.ntmps84
 go_wp2_with (fail);refine (qbn v n d w hr).mono ?_;rintro e w' ⟨v',rfl,hv',rfl⟩;obtain ⟨a,cap,rfl⟩:=qap hv';go_wp2;go_ret;refine ⟨?_,rfl⟩
 by_cases h0:tl d n=0
 ·simp [h0,HZ.out]
 ·simp [h0,HZ.out];try omega

theorem qa5 (x y c : Nat) (w : World) (hx : x < 4294967296) (hy : y < 4294967296) (hc : c < 4294967296) :
  Calls Tryz.prog 185 #[.int .u32 x,.int .u32 y,.int .u32 c] w fun e w'=>
   e = .returned (.tuple #[.int .u32 (alo x y c),.int .u32 (ahi x y c)])/\w=w':=by
 go_enter Tryz.func185,Tryz.ntmps185
 go_wp2
 go_ret2
 exact ⟨by simp [alo,ahi],rfl⟩
theorem wrap_u32 (n:Nat) (h:n<4294967296):IntKind.u32.wrap (n:Int)=n:=by
 exact IntWalk.u32_in _ (by omega)
theorem qf4 (n:Nat) (h:n<4294967296):(BitVec.ofInt IntKind.u32.bits (n:Int)).toNat=n:=by
 simp [IntKind.bits];omega
theorem qkd (a b:Nat) (ha:a<4294967296) (hb:b<4294967296):bits BinOp.and .u32 a b=((a &&& b:Nat):Int):=by
 unfold bits;have h1:=qf4 a ha;have h2:=qf4 b hb;simp only [BitVec.toNat_and,h1,h2];rw [wrap_u32];exact Nat.lt_of_le_of_lt Nat.and_le_left ha
theorem qns (a b:Nat) (ha:a<4294967296) (hb:b<4294967296):bits BinOp.or .u32 a b=((a ||| b:Nat):Int):=by
 unfold bits;have h1:=qf4 a ha;have h2:=qf4 b hb;simp only [BitVec.toNat_or,h1,h2];rw [wrap_u32];exact Nat.or_lt_two_pow (n:=32) ha hb
theorem qhb (a b:Nat) (ha:a<4294967296) (hb:b<4294967296):bits BinOp.xor .u32 a b=((a ^^^ b:Nat):Int):=by
 unfold bits;have h1:=qf4 a ha;have h2:=qf4 b hb;simp only [BitVec.toNat_xor,h1,h2];rw [wrap_u32];exact Nat.xor_lt_two_pow (n:=32) ha hb
theorem qe1 (a:Nat) (h:a<4294967296):a.testBit 31=decide (2147483648<=a):=by
 rw [Nat.testBit_eq_decide_div_mod_eq];simp only [decide_eq_decide];omega
theorem qpZ (a:Nat) (h:a<4294967296):a / 2147483648=(a.testBit 31).toNat:=by
 rw [qe1 a h]
 by_cases h1:2147483648<=a
 ·simp [h1];omega
 ·simp [h1];omega
theorem qkn (x y c : Nat) (hx : x < 4294967296) (hy : y < 4294967296) (hc : c < 2) :
  (((4294967295 ^^^ x) &&& y) ||| ((4294967295 ^^^ (x ^^^ y)) &&& ((x+4294967296 - y - c) % 4294967296))) / 2147483648=qcD x y c:=by
 have hm:(x+4294967296 - y - c) % 4294967296<4294967296:=Nat.mod_lt _ (by decide);have hxy:x ^^^ y<4294967296:=Nat.xor_lt_two_pow (n:=32) hx hy;have l1:((4294967295 ^^^ x) &&& y)<2 ^ 32:=Nat.lt_of_le_of_lt Nat.and_le_right hy;have l2:((4294967295 ^^^ (x ^^^ y)) &&& ((x+4294967296 - y - c) % 4294967296))<2 ^ 32:=Nat.lt_of_le_of_lt Nat.and_le_right hm;rw [qpZ _ (Nat.or_lt_two_pow (n:=32) l1 l2)];simp only [Nat.testBit_or,Nat.testBit_and,Nat.testBit_xor];rw [qe1 x hx,qe1 y hy,qe1 _ hm,qe1 4294967295 (by decide)];unfold qcD
 by_cases h1:2147483648<=x <;> by_cases h2:2147483648<=y <;> by_cases h3:2147483648<=(x+4294967296 - y - c) % 4294967296 <;> by_cases h4:x<y+c <;> simp [h1,h2,h3,h4] <;> omega

theorem qdh (x y : Nat) (w : World) (hx : x < 4294967296) (hy : y < 4294967296) :
  Calls Tryz.prog 204 #[.int .u32 x,.int .u32 y] w fun e w'=>
   e = .returned (.tuple #[.int .u32 (mhi x y),.int .u32 (mlo x y)])/\w=w':=by
 have hxy:x*y<=4294967295*4294967295:=Nat.mul_le_mul (by omega) (by omega)
 have hxy':((x*y:Nat):Int)<=18446744065119617025:=by omega
 rw [Int.natCast_mul] at hxy'
 have hxy0:(0:Int)<=(x:Int)*(y:Int):=by rw [<- Int.natCast_mul];exact Int.natCast_nonneg _
 have hsg:IntKind.u64.signed=false:=rfl
 go_enter Tryz.func204,Tryz.ntmps204
 go_wp2
 go_ret2
 exact ⟨by simp [mlo,mhi],rfl⟩
theorem qeg (x y c : Nat) (w : World) (hx : x < 4294967296) (hy : y < 4294967296) (hc : c < 2) :
  Calls Tryz.prog 187 #[.int .u32 x,.int .u32 y,.int .u32 c] w fun e w'=>
   e = .returned (.tuple #[.int .u32 (slo x y c),.int .u32 (qcD x y c)])/\w=w':=by
 have hsg:IntKind.u32.signed=false:=rfl
 go_enter Tryz.func187,Tryz.ntmps187
 go_wp2
 go_ret2
 have hd:((x:Int) - y - c) % 4294967296=((x+4294967296 - y - c) % 4294967296:Nat):=by omega
 have hmax:IntKind.u32.max=((4294967295:Nat):Int):=rfl;have hm:(x+4294967296 - y - c) % 4294967296<4294967296:=Nat.mod_lt _ (by decide);have hxy:x ^^^ y<4294967296:=Nat.xor_lt_two_pow (n:=32) hx hy;have hnx:4294967295 ^^^ x<4294967296:=Nat.xor_lt_two_pow (n:=32) (by decide) hx;have hnxy:4294967295 ^^^ (x ^^^ y)<4294967296:=Nat.xor_lt_two_pow (n:=32) (by decide) hxy;have l1:((4294967295 ^^^ x) &&& y)<4294967296:=Nat.lt_of_le_of_lt Nat.and_le_right hy;have l2:((4294967295 ^^^ (x ^^^ y)) &&& ((x+4294967296 - y - c) % 4294967296))<4294967296:=Nat.lt_of_le_of_lt Nat.and_le_right hm;have hb:=qkn x y c hx hy hc
 have key:(bits BinOp.or IntKind.u32 (bits BinOp.and IntKind.u32 (bits BinOp.xor IntKind.u32 IntKind.u32.max ↑x) ↑y) (bits BinOp.and IntKind.u32 (bits BinOp.xor IntKind.u32 IntKind.u32.max (bits BinOp.xor IntKind.u32 ↑x ↑y)) (((x:Int) - y - c) % 4294967296)) / 2147483648:Int)=(qcD x y c:Nat):=by
  rw [hd,hmax,qhb x y hx hy,qhb _ _ (by decide) hx,qhb _ _ (by decide) hxy,qkd _ _ hnx hy,qkd _ _ hnxy hm,qns _ _ l1 l2,<- hb];simp
 refine ⟨?_,rfl⟩;show Ending.returned (.tuple #[.int .u32 ((((x:Int) - y) % 4294967296 - c) % 4294967296),.int .u32 (bits BinOp.or IntKind.u32 (bits BinOp.and IntKind.u32 (bits BinOp.xor IntKind.u32 IntKind.u32.max ↑x) ↑y) (bits BinOp.and IntKind.u32 (bits BinOp.xor IntKind.u32 IntKind.u32.max (bits BinOp.xor IntKind.u32 ↑x ↑y)) (((x:Int) - y - c) % 4294967296)) / 2147483648)])=_;rw [key,show ((((x:Int) - y) % 4294967296 - c) % 4294967296)=(slo x y c:Nat) from by unfold slo;omega]

theorem Tryz.info155:(Tryz.prog.info? 155).map (fun i=>(i.zero,i.size,i.bytes))=some (some (.int .u32 0),1,4):=by kernel_rfl
theorem qfY {M : Nat -> Prop} (v : Value) (n : Nat) (d : Nat -> Nat) (w : World) (hM : Mb M w) (h : qbr M w v n d) :
  Calls Tryz.prog 131 #[v] w fun e w'=>∃ v',e = .returned v'/\qcY M w' v' (nv d n)/\Ext w w':=by
 obtain ⟨i0,hi,hz0,hz1,hz2⟩:=info_parts Tryz.info155
 go_enter Tryz.func131,Tryz.ntmps131
 go_wp2_with (fail);refine (qbn v n d w h).mono ?_;rintro e w' ⟨v',rfl,hv',rfl⟩;have htl:=qim d n;have hn:=h.1;generalize hm:tl d n=m at *;have Hm:=Lib.hid hm;clear hm;obtain ⟨a,cap,rfl⟩:=qap hv'
 go_wp2_with (first | (refine wpList_make_full _ rfl _ _ _ rfl w.heap.size 155 i0 (.int .u32 0) 1 Tryz.underlying28 hi hz0 hz1 .i64 .i64 _ _ m rfl rfl rfl rfl ?c2 ?c3 (Nat.le_refl _) ?_))
 case c2=>rw [hz2];omega
 case c3=>unfold maxLen;omega
 intro w1 hown hgrow;have hB:=Blk.made1 hown;have he:=qaw hgrow;clear hown hgrow;obtain ⟨hL,hd,h3⟩:=hv'
 go_wp2_with (refine qbf rfl (.tmp 9) (.tmp 10) _ _ rfl 155 Tryz.underlying28 (by rw [hi];simp [hz1]) _ _ _ _ _ _ rfl rfl w.heap.size 0 155 m _ hB m ?k1 (fun i=>.int .u32 (d i)) ?k2 ?k3 ?k4 ?_)
 case k1=>exact (Nat.min_self m).symm
 case k2=>
  intro h0;rcases h3 with ⟨hv,hm0⟩ | ⟨b,off,cap',hv,hn1,hc1,hb1,hcell⟩
  ·omega
  ·simp only [Value.slice.injEq] at hv;exact ⟨b,off,hv.1,fun j hj=>by rw [he.cell hb1.1];exact hcell j hj⟩
 case k3=>omega
 case k4=>intro j hj;rfl
 intro w2 hB2 hg2;have he2:Ext w w2:=he.grown hg2 (by intro k hk;cases hk;exact Nat.le_refl _);go_wp2;go_ret;refine ⟨_,rfl,⟨m,d,qbr.of_blk hB2 (hM.new (Nat.le_refl _)) m (Nat.le_refl _) hL (Nat.le_refl _) (by unfold maxLen;omega) ?_ hd,?_,?_⟩,he2⟩
 ·intro i hi';unfold qhg;rw [if_pos (by omega)];rfl
 ·rw [<- Hm.out];exact qdk d n
 ·rw [<- Hm.out];exact qcg d n
theorem qbu {M : Nat -> Prop} (v : Value) (x : Nat) (w : World) (hM : Mb M w) (h : qcc M w v x) :
  Calls Tryz.prog 131 #[v] w fun e w'=>∃ v',e = .returned v'/\qcY M w' v' x/\Ext w w':=by
 obtain ⟨n,d,hr,rfl⟩:=h;exact qfY v n d w hM hr

theorem qmf {M : Nat -> Prop} (v v' : Value) (n0 m0 : Nat) (d d' : Nat -> Nat) (w : World) (h : qbr M w v n0 d) (h' : qbr M w v' m0 d') :
  Calls Tryz.prog 132 #[v,v'] w fun e w'=>e = .returned (.int .i64 (qev (nv d n0) (nv d' m0)))/\Ext w w':=by
 have e1:=qdk d n0;have e2:=qdk d' m0;have k1:=qcg d n0;have k2:=qcg d' m0;have hm0:Hid (nv d (tl d n0)=nv d n0):=e1;have hm1:Hid (nv d' (tl d' m0)=nv d' m0):=e2;clear e1 e2;have hk1:Hid (tl d n0=0∨d (tl d n0 - 1)≠0):=k1;have hk2:Hid (tl d' m0=0∨d' (tl d' m0 - 1)≠0):=k2;clear k1 k2
 go_enter Tryz.func132,Tryz.ntmps132
 go_wp2_with (fail);refine (qbn v n0 d w h).mono ?_;rintro e w' ⟨v1,rfl,hv1,rfl⟩;go_wp2_with (fail);refine (qbn v' m0 d' w h').mono ?_;rintro e w' ⟨v2,rfl,hv2,rfl⟩;generalize tl d n0=n at *;generalize tl d' m0=m at *;have E1:Hid (nv d n=nv d n0):=hm0;have E2:Hid (nv d' m=nv d' m0):=hm1;have HK:Hid (n=0∨d (n - 1)≠0):=hk1;have HK':Hid (m=0∨d' (m - 1)≠0):=hk2;clear hm0 hm1 hk1 hk2;obtain ⟨a1,cap1,rfl⟩:=qap hv1;obtain ⟨a2,cap2,rfl⟩:=qap hv2;obtain ⟨hL,hd,h3⟩:=hv1;obtain ⟨hL',hd',h3'⟩:=hv2;have HD:=Lib.hid hd;have HD':=Lib.hid hd';have H3:=Lib.hid h3;have H3':=Lib.hid h3';clear hd hd' h3 h3' h h';rcases Nat.lt_trichotomy n m with hlt | heq | hgt
 ·go_wp2;go_ret;exact ⟨by rw [<- E1.out,<- E2.out,qg4 (qfh d d' n m HD.out hlt HK'.out)];rfl,Ext.refl _⟩
 ·subst heq
  by_cases hn0:n=0
  ·subst hn0;go_wp2;refine wp_loop_rounds 1 ?_;rw [rounds_succ];go_wp2;go_ret;exact ⟨by rw [<- E1.out,<- E2.out];rfl,Ext.refl _⟩
  ·have hd:=HD.out;have hd':=HD'.out;rcases H3.out with ⟨h0,_⟩ | ⟨b,off,cap,hv,hcap,hm,hb,hc⟩
   ·exact absurd h0 hn0
   rcases H3'.out with ⟨h0,_⟩ | ⟨b',off',cap',hv',hcap',hm',hb',hc'⟩
   ·exact absurd h0 hn0
   simp only [Value.slice.injEq,true_and] at hv hv';obtain ⟨rfl,rfl⟩:=hv;obtain ⟨rfl,rfl⟩:=hv';clear H3 H3' HD HD';unfold maxLen at hm hm';go_wp2
   go_loopw [5] (fun i wr=>∃ k:Nat,k<=n/\i = .int .i64 ((k:Int) - 1)/\(∀ j,k<=j->j<n->d j=d' j)/\Ext w wr) (fun i _=>((intOf i)+1).toNat)
   case atStart=>exact ⟨n,Nat.le_refl _,by rfl,by intro j h1 h2;omega,Ext.refl _⟩
   case round=>
    obtain ⟨k,hkn,rfl,hs,he⟩:=hrel;have HS:=Lib.hid hs;clear hs
    by_cases h0:k=0
    ·subst h0;go_wp2;go_ret;exact ⟨by rw [<- E1.out,<- E2.out,qre (qaI d d' n fun i hi=>HS.out i (by omega) hi)];rfl,he⟩
    ·obtain ⟨j,rfl⟩ : ∃ j,k=j+1:=⟨k - 1,by omega⟩
     have hcell:wr.cell? ⟨b,off+j,none⟩=some (.int .u32 (d j)):=by rw [he.cell hb.1];exact hc j (by omega)
     have hcell':wr.cell? ⟨b',off'+j,none⟩=some (.int .u32 (d' j)):=by rw [he.cell hb'.1];exact hc' j (by omega)
     have hx:=hd j (by omega);have hx':=hd' j (by omega);have HC:=Lib.hid hc;have HC':=Lib.hid hc';clear hc hc';rcases Nat.lt_trichotomy (d j) (d' j) with hlt | heq | hgt
     ·have hl:=qfi d d' n j hd (by omega) (fun i h1 h2=>HS.out i (by omega) h2) hlt;have HL:=Lib.hid hl;clear hl;go_wp2
      go_quiet (fail)
      go_wp2;go_ret;exact ⟨by rw [<- E1.out,<- E2.out,qg4 HL.out];rfl,by exact he.drewN _⟩
     ·have q1:d j<=d' j:=by omega
      have q2:d' j<=d j:=by omega
      have HE:=Lib.hid heq;clear heq;go_wp2
      go_quiet (fail)
      go_wp2
      go_quiet (fail)
      go_wp2
      go_roundw
      case rel=>exact ⟨j,by omega,by go_num,fun i h1 h2=>if hij:i=j then (by rw [hij];exact HE.out) else HS.out i (by omega) h2,he.drewN _⟩
      case measure=>simp [intOf]
     ·have hl:=qfi d' d n j hd' (by omega) (fun i h1 h2=>(HS.out i (by omega) h2).symm) hgt;have HL:=Lib.hid hl;clear hl;go_wp2
      go_quiet (fail)
      go_wp2
      go_quiet (fail)
      go_wp2;go_ret;exact ⟨by rw [<- E1.out,<- E2.out,qni HL.out];rfl,by exact (he.drewN _).drewN _⟩
 ·go_wp2;go_ret;exact ⟨by rw [<- E1.out,<- E2.out,qni (qfh d' d m n HD'.out hgt HK.out)];rfl,Ext.refl _⟩
theorem qcK {M : Nat -> Prop} (v v' : Value) (x y : Nat) (w : World) (h : qcc M w v x) (h' : qcc M w v' y) :
  Calls Tryz.prog 132 #[v,v'] w fun e w'=>e = .returned (.int .i64 (qev x y))/\Ext w w':=by
 obtain ⟨n,d,hr,rfl⟩:=h;obtain ⟨m,d',hr',rfl⟩:=h';exact qmf v v' n m d d' w hr hr'


theorem qjy (x y c g : Nat) (t : TypeId) (w : World) (hx : x < 4294967296) (hy : y < 4294967296) (hc : c < 4294967296) (hB : Blk w g t 1 (fun _ => .int .u32 c)) :
  Calls Tryz.prog 184 #[.int .u32 x,.int .u32 y,.pointer (some ⟨g,0,none⟩)] w fun e w'=>
   e = .returned (.int .u32 (alo x y c))/\Blk w' g t 1 (fun _=>.int .u32 (ahi x y c))/\w.grownBy w' (some g):=by
 have h1:=hB.cell (i:=0) (by omega);have h2:=hB.frozen 0
 go_enter Tryz.func184,Tryz.ntmps184
 go_wp2_with (go_at_call 185;refine (qa5 x y c _ hx hy hc).mono ?_;rintro e w' ⟨rfl,rfl⟩)
 go_ret;refine ⟨rfl,(hB.set 0 _).congr ?_,?_⟩
 ·intro i hi;unfold upd;rw [if_pos (by omega)]
 ·exact ⟨rfl,rfl,rfl,by simp [World.setCell],fun k _ hk=>Below.heap_setCell _ _ _ _ (fun e=>hk (by simp [e]))⟩
theorem qjx (x y c g : Nat) (t : TypeId) (w : World) (hx : x < 4294967296) (hy : y < 4294967296) (hc : c < 2) (hB : Blk w g t 1 (fun _ => .int .u32 c)) :
  Calls Tryz.prog 186 #[.int .u32 x,.int .u32 y,.pointer (some ⟨g,0,none⟩)] w fun e w'=>
   e = .returned (.int .u32 (slo x y c))/\Blk w' g t 1 (fun _=>.int .u32 (qcD x y c))/\w.grownBy w' (some g):=by
 have h1:=hB.cell (i:=0) (by omega);have h2:=hB.frozen 0
 go_enter Tryz.func186,Tryz.ntmps186
 go_wp2_with (go_at_call 187;refine (qeg x y c _ hx hy hc).mono ?_;rintro e w' ⟨rfl,rfl⟩)
 go_ret;refine ⟨rfl,(hB.set 0 _).congr ?_,?_⟩
 ·intro i hi;unfold upd;rw [if_pos (by omega)]
 ·exact ⟨rfl,rfl,rfl,by simp [World.setCell],fun k _ hk=>Below.heap_setCell _ _ _ _ (fun e=>hk (by simp [e]))⟩

theorem qaz {M : Nat -> Prop} {w : World} {a : Option Addr} {n cap : Nat} {d : Nat -> Nat} (h : qbr M w (.slice a n cap) n d) (h0 : 0 < n) :
  ∃ b off,a=some ⟨b,off,none⟩/\b<w.heap.size /\ ∀ i,i<n->w.cell? ⟨b,off+i,none⟩=some (.int .u32 (d i)):=by
 obtain ⟨_,_,h3⟩:=h;rcases h3 with ⟨_,h4⟩ | ⟨b,off,cap',hv,_,_,hb,hc⟩
 ·omega
 ·simp only [Value.slice.injEq] at hv;exact ⟨b,off,hv.1,hb.1,hc⟩

def qrq (d e:Nat->Nat) (k:Nat):Nat->Value:=fun i=>.int .u32 ((if i<k then sd d e i else 0:Nat):Int)
theorem qkf (d e:Nat->Nat) (k:Nat):upd (qrq d e k) k (.int .u32 (sd d e k:Nat))=qrq d e (k+1):=by
 funext i;unfold upd qrq
 by_cases h:i=k
 ·subst h;rw [if_pos rfl,if_pos (by omega)]
 ·rw [if_neg h]
  by_cases h2:i<k
  ·rw [if_pos h2,if_pos (by omega)]
  ·rw [if_neg h2,if_neg (by omega)]
theorem qqv {M : Nat -> Prop} (v v' : Value) (n0 m0 : Nat) (d0 e0 : Nat -> Nat) (w : World) (hM : Mb M w) (h : qbr M w v n0 d0) (h' : qbr M w v' m0 e0) (hL : dlen (nv d0 n0 + nv e0 m0) <= 1099511627776) :
  Calls Tryz.prog 160 #[v,v'] w fun e w'=>∃ u,e = .returned u/\qcY M w' u (nv d0 n0+nv e0 m0)/\Ext w w':=by
 obtain ⟨i0,hi,hz0,hz1,hz2⟩:=info_parts Tryz.info155;have hmf : ∀ (fn:Fn) (first cap:Array Value) (w:World),(Instr.makeFunc fn first cap).run Tryz.prog w = .ok (.func fn first cap) w:=fun _ _ _ _=>rfl
 -- the sorted case
 have key : ∀ (a1 a2:Option Addr) (cap1 cap2 n m:Nat) (d e:Nat->Nat),qbr M w (.slice a1 n cap1) n d->qbr M w (.slice a2 m cap2) m e->m<=n->nv d n+nv e m=nv d0 n0+nv e0 m0->True:=fun _ _ _ _ _ _ _ _ _ _ _ _=>trivial
 go_enter Tryz.func160,Tryz.ntmps160
 go_wp2_with (fail);refine (qbn v n0 d0 w h).mono ?_;rintro e w' ⟨v1,rfl,hv1,rfl⟩;go_wp2_with (fail);refine (qbn v' m0 e0 w h').mono ?_;rintro e w' ⟨v2,rfl,hv2,rfl⟩;have E1:Hid (nv d0 (tl d0 n0)=nv d0 n0):=qdk d0 n0;have E2:Hid (nv e0 (tl e0 m0)=nv e0 m0):=qdk e0 m0;generalize tl d0 n0=n1 at *;generalize tl e0 m0=m1 at *;obtain ⟨a1,cap1,rfl⟩:=qap hv1;obtain ⟨a2,cap2,rfl⟩:=qap hv2;clear h h' key
 go_upto_if 19 with (fail)
 go_cut [0,1] (fun s0 s1 wx=>w=wx /\ ∃ (a b:Option Addr) (c1 c2 n m:Nat) (d e:Nat->Nat),s0 = .slice a n c1/\s1 = .slice b m c2/\m<=n/\Hid (qbr M w s0 n d/\qbr M w s1 m e/\nv d n+nv e m=nv d0 n0+nv e0 m0))
 case first=>
  rcases Nat.lt_or_ge n1 m1 with hlt | hge
  ·go_wp2
   go_meet
   exact ⟨rfl,a2,a1,cap2,cap1,m1,n1,e0,d0,rfl,rfl,by omega,hv2,hv1,by rw [E1.out,E2.out];omega⟩
  ·go_wp2
   go_meet
   exact ⟨rfl,a1,a2,cap1,cap2,n1,m1,d0,e0,rfl,rfl,by omega,hv1,hv2,by rw [E1.out,E2.out]⟩
 case rest=>
  obtain ⟨rfl,a,b,c1,c2,n,m,d,e,rfl,rfl,hmn,hR⟩:=hcut;have hR1:=hR.out.1;have hnL:=hR1.1;clear hR1
  go_wp2_with (first | (refine wpList_make_full _ rfl _ _ _ rfl (w.heap.size+1) 155 i0 (.int .u32 0) 1 Tryz.underlying28 hi hz0 hz1 .i64 .i64 _ _ (n+1) rfl rfl ?c4 ?c5 ?c2 ?c3 ?c6 ?_))
  case c4=>go_num
  case c5=>go_num
  case c6=>simp
  case c2=>rw [hz2];omega
  case c3=>unfold maxLen;omega
  intro w1 hown hgrow;have hB:=Blk.made1 hown;have he:=qaw hgrow;clear hown hgrow;have hC:Blk w1 w.heap.size 155 1 (fun _=>.int .u32 (cy d (cut e m) 0:Nat)):=(Blk.of_alloc1 w _ _).ext he;have he1:Ext w w1:=((Ext.refl w).alloc _).trans he;obtain ⟨hRd,hRe,hRv⟩:=hR.out;have hdl:=hRd.2.1;have hel:=hRe.2.1;have hcl:=qna e m hel;have HD:=Lib.hid hdl;have HC:=Lib.hid hcl;have HCY:Hid (∀ k,k<=n->cy d (cut e m) k<=1):=fun k hk=>qsR d (cut e m) k (fun i hi=>hdl i (by omega)) fun i _=>hcl i;have HV:=Lib.hid hRv;have HRd:=Lib.hid hRd;have HRe:=Lib.hid hRe;clear hRd hRe hRv hdl hel hcl hR he;go_wp2
  go_loopw [29] (fun i wr=>∃ k:Nat,k<=m/\i = .int .i64 k/\Blk wr (w.heap.size+1) 155 (n+1) (qrq d (cut e m) k)/\Blk wr w.heap.size 155 1 (fun _=>.int .u32 (cy d (cut e m) k))/\Ext w wr) (fun i _=>m - (intOf i).toNat)
  case atStart=>exact ⟨0,Nat.zero_le _,rfl,hB.congr (by intro i _;simp [qrq]),hC,he1⟩
  case round=>
   obtain ⟨k,hk,rfl,hBr,hCr,her⟩:=hrel
   by_cases hlt:k<m
   ·obtain ⟨b1,o1,rfl,hb1,hc1⟩:=qaz HRd.out (by omega);obtain ⟨b2,o2,rfl,hb2,hc2⟩:=qaz HRe.out (by omega)
    have g1:wr.cell? ⟨b1,o1+k,none⟩=some (.int .u32 (d k)):=by rw [her.cell hb1];exact hc1 k (by omega)
    have g2:wr.cell? ⟨b2,o2+k,none⟩=some (.int .u32 (e k)):=by rw [her.cell hb2];exact hc2 k (by omega)
    have hek:e k=cut e m k:=by unfold cut;rw [if_pos hlt]
    rw [hek] at g2;clear hc1 hc2 hek;go_wp2_with (fail);refine (qjy (d k) (cut e m k) (cy d (cut e m) k) w.heap.size 155 _ (HD.out k (by omega)) (HC.out k) (by have:=HCY.out k (by omega);omega) hCr).mono ?_;rintro e' w2 ⟨rfl,hC2,hg2⟩;have hB2:=hBr.grown hg2 (by simp);have he2:=her.grown hg2 (by intro q hq;cases hq;exact Nat.le_refl _);have q1:=hB2.cell (i:=k) (by omega);have q2:=hB2.frozen k;go_wp2
    go_roundw
    case rel=>exact ⟨k+1,by omega,by go_num,qkf d (cut e m) k ▸ hB2.set k _,hC2.set_other (by simp) _,he2.set (by simp) _⟩
    case measure=>simp [intOf];omega
   ·have:k=m:=by omega
    subst this;clear hlt hk;go_wp2;obtain ⟨wo,rfl⟩ : ∃ wo:World,wo=wr:=⟨_,rfl⟩
    go_loopw [10] (fun i wr=>∃ j:Nat,k<=j/\j<=n/\i = .int .i64 j/\Blk wr (w.heap.size+1) 155 (n+1) (qrq d (cut e k) j)/\Blk wr w.heap.size 155 1 (fun _=>.int .u32 (cy d (cut e k) j))/\Ext w wr) (fun i _=>n - (intOf i).toNat)
    case atStart=>exact ⟨k,Nat.le_refl _,hmn,rfl,hBr,hCr,her⟩
    case round=>
     clear hBr hCr her;obtain ⟨j,hkj,hj,rfl,hBr,hCr,her⟩:=hrel
     by_cases hlt:j<n
     ·obtain ⟨b1,o1,rfl,hb1,hc1⟩:=qaz HRd.out (by omega)
      have g1:wr.cell? ⟨b1,o1+j,none⟩=some (.int .u32 (d j)):=by rw [her.cell hb1];exact hc1 j (by omega)
      have hek:cut e k j=0:=by unfold cut;rw [if_neg (by omega)]
      have ctr:=qjy (d j) (cut e k j) (cy d (cut e k) j) w.heap.size 155 wr (HD.out j (by omega)) (HC.out j) (by have:=HCY.out j (by omega);omega) hCr;have hal:alo (d j) (cut e k j) (cy d (cut e k) j)=sd d (cut e k) j:=rfl;have hah:ahi (d j) (cut e k j) (cy d (cut e k) j)=cy d (cut e k) (j+1):=rfl;rw [hal,hah,hek] at ctr;have CTR:=Lib.hid ctr;clear hc1 hek ctr hal hah;go_wp2_with (fail);refine CTR.out.mono ?_;rintro e' w2 ⟨rfl,hC2,hg2⟩;have hB2:=hBr.grown hg2 (by simp);have he2:=her.grown hg2 (by intro q hq;cases hq;exact Nat.le_refl _);have q1:=hB2.cell (i:=j) (by omega);have q2:=hB2.frozen j;go_wp2
      go_roundw
      case rel=>exact ⟨j+1,by omega,by omega,by go_num,qkf d (cut e k) j ▸ hB2.set j _,hC2.set_other (by simp) _,he2.set (by simp) _⟩
      case measure=>simp [intOf];omega
     ·have:j=n:=by omega
      subst this;clear hlt;have q1:=hBr.cell (i:=j) (by omega);have q2:=hBr.frozen j;have q3:=hCr.cell (i:=0) (by omega);have hB3:=hBr.set j (.int .u32 (cy d (cut e k) j))
      have hB4:Blk (wr.setCell ⟨w.heap.size+1,j,none⟩ (.int .u32 (cy d (cut e k) j))) (w.heap.size+1) 155 (j+1) (fun i=>.int .u32 (qnS d (cut e k) j i)):=by
       refine hB3.congr fun i hi=>?_;unfold upd qrq qnS
       by_cases h1:i=j
       ·subst h1;rw [if_pos rfl,if_neg (by omega)]
       ·rw [if_neg h1,if_pos (by omega),if_pos (by omega)]
      have he4:Ext w (wr.setCell ⟨w.heap.size+1,j,none⟩ (.int .u32 (cy d (cut e k) j))):=her.set (by simp) _
      have hsl : ∀ i,i<j+1->qnS d (cut e k) j i<4294967296:=fun i _=>by
       unfold qnS;split
       ·exact qnY _ _ _
       ·have:=HCY.out j (by omega);omega
      have hval:nv (qnS d (cut e k) j) (j+1)=nv d0 n0+nv e0 m0:=by rw [qqm,qgA e k j hkj];exact HV.out
      have ctr:=qbj (M:=M) hB4 (hM.new (by omega)) (by unfold maxLen;omega) hsl (by rw [hval];exact hL);rw [hval] at ctr;have CTR:=Lib.hid ctr;clear ctr hB3 hB4 hsl hval;go_wp2_with (fail);refine CTR.out.mono ?_;rintro e' w2 ⟨u,rfl,hu,rfl⟩;go_wp2;go_ret;exact ⟨u,rfl,hu,he4⟩
theorem qeJ {M : Nat -> Prop} (v v' : Value) (x y : Nat) (w : World) (hM : Mb M w) (h : qcc M w v x) (h' : qcc M w v' y) (hL : dlen (x + y) <= 1099511627776) :
  Calls Tryz.prog 160 #[v,v'] w fun e w'=>∃ u,e = .returned u/\qcY M w' u (x+y)/\Ext w w':=by
 obtain ⟨n,d,hr,rfl⟩:=h;obtain ⟨m,d',hr',rfl⟩:=h';exact qqv v v' n m d d' w hM hr hr' hL

def qp2 (d e:Nat->Nat) (k:Nat):Nat->Value:=fun i=>.int .u32 ((if i<k then dd d e i else 0:Nat):Int)
theorem qi9 (d e:Nat->Nat) (k:Nat):upd (qp2 d e k) k (.int .u32 (dd d e k:Nat))=qp2 d e (k+1):=by
 funext i;unfold upd qp2
 by_cases h:i=k
 ·subst h;rw [if_pos rfl,if_pos (by omega)]
 ·rw [if_neg h]
  by_cases h2:i<k
  ·rw [if_pos h2,if_pos (by omega)]
  ·rw [if_neg h2,if_neg (by omega)]
theorem qkB {M : Nat -> Prop} (v v' : Value) (n0 m0 : Nat) (d0 e0 : Nat -> Nat) (w : World) (hM : Mb M w) (h : qbr M w v n0 d0) (h' : qbr M w v' m0 e0) (hge : nv e0 m0 <= nv d0 n0) :
  Calls Tryz.prog 161 #[v,v'] w fun e w'=>∃ u,e = .returned (.tuple #[u,.bool true])/\qcY M w' u (nv d0 n0 - nv e0 m0)/\Ext w w':=by
 obtain ⟨i0,hi,hz0,hz1,hz2⟩:=info_parts Tryz.info155;have hmf : ∀ (fn:Fn) (first cap:Array Value) (w:World),(Instr.makeFunc fn first cap).run Tryz.prog w = .ok (.func fn first cap) w:=fun _ _ _ _=>rfl;have E1:Hid (nv d0 (tl d0 n0)=nv d0 n0):=qdk d0 n0;have E2:Hid (nv e0 (tl e0 m0)=nv e0 m0):=qdk e0 m0;have E3:Hid (tl d0 n0=0∨d0 (tl d0 n0 - 1)≠0):=qcg d0 n0;have E4:Hid (tl e0 m0=0∨e0 (tl e0 m0 - 1)≠0):=qcg e0 m0;have HGE:=Lib.hid hge;clear hge
 go_enter Tryz.func161,Tryz.ntmps161
 go_wp2_with (fail);refine (qbn v n0 d0 w h).mono ?_;rintro e w' ⟨v1,rfl,hv1,rfl⟩;go_wp2_with (fail);refine (qbn v' m0 e0 w h').mono ?_;rintro e w' ⟨v2,rfl,hv2,rfl⟩;generalize tl d0 n0=n at *;generalize tl e0 m0=m at *;go_wp2_with (fail);refine (qmf v1 v2 n m d0 e0 w hv1 hv2).mono ?_;rintro e w1 ⟨rfl,hx1⟩
 have hc : ¬ (qev (nv d0 n) (nv e0 m)<0):=by
  have:=HGE.out;rw [E1.out,E2.out];unfold qev;rw [if_neg (by omega)];split <;> omega
 have hmn:m<=n:=by
  rcases Nat.lt_or_ge n m with h1 | h1
  ·have:=qfh d0 e0 n m hv1.2.1 h1 E4.out;have:=HGE.out;rw [<- E1.out,<- E2.out] at this;omega
  ·exact h1
 have hR1:=hv1.ext hx1;have hR2:=hv2.ext hx1;have HX:=Lib.hid hx1;clear h h' hv1 hv2 hx1;obtain ⟨a,c1,rfl⟩:=qap hR1;obtain ⟨b,c2,rfl⟩:=qap hR2;have hnL:=hR1.1;have hdl:=hR1.2.1;have hcl:=qna e0 m hR2.2.1;have HD:=Lib.hid hdl;have HC:=Lib.hid hcl;have HRd:=Lib.hid hR1;have HRe:=Lib.hid hR2;clear hR1 hR2 hdl hcl
 go_wp2_with (first | (refine wpList_make_full _ rfl _ _ _ rfl (w1.heap.size+1) 155 i0 (.int .u32 0) 1 Tryz.underlying28 hi hz0 hz1 .i64 .i64 _ _ n rfl rfl ?c4 ?c5 ?c2 ?c3 ?c6 ?_))
 case c4=>rfl
 case c5=>rfl
 case c6=>simp
 case c2=>rw [hz2];omega
 case c3=>unfold maxLen;omega
 intro w2 hown hgrow;have hB:=Blk.made1 hown;have he:=qaw hgrow;clear hown hgrow;have hC:Blk w2 w1.heap.size 155 1 (fun _=>.int .u32 (bw d0 (cut e0 m) 0:Nat)):=(Blk.of_alloc1 w1 _ _).ext he;have he1:Ext w1 w2:=((Ext.refl w1).alloc _).trans he
 have HBW:Hid (∀ k,bw d0 (cut e0 m) k<2):=fun k=>by have:=qrn d0 (cut e0 m) k;omega
 clear he;go_wp2
 go_loopw [26] (fun i wr=>∃ k:Nat,k<=m/\i = .int .i64 k/\Blk wr (w1.heap.size+1) 155 n (qp2 d0 (cut e0 m) k)/\Blk wr w1.heap.size 155 1 (fun _=>.int .u32 (bw d0 (cut e0 m) k))/\Ext w1 wr) (fun i _=>m - (intOf i).toNat)
 case atStart=>exact ⟨0,Nat.zero_le _,rfl,hB.congr (by intro i _;simp [qp2]),hC,he1⟩
 case round=>
  obtain ⟨k,hk,rfl,hBr,hCr,her⟩:=hrel
  by_cases hlt:k<m
  ·obtain ⟨b1,o1,rfl,hb1,hc1⟩:=qaz HRd.out (by omega);obtain ⟨b2,o2,rfl,hb2,hc2⟩:=qaz HRe.out (by omega)
   have g1:wr.cell? ⟨b1,o1+k,none⟩=some (.int .u32 (d0 k)):=by rw [her.cell hb1];exact hc1 k (by omega)
   have g2:wr.cell? ⟨b2,o2+k,none⟩=some (.int .u32 (e0 k)):=by rw [her.cell hb2];exact hc2 k (by omega)
   have hek:e0 k=cut e0 m k:=by unfold cut;rw [if_pos hlt]
   rw [hek] at g2;clear hc1 hc2 hek;go_wp2_with (fail);refine (qjx (d0 k) (cut e0 m k) (bw d0 (cut e0 m) k) w1.heap.size 155 _ (HD.out k (by omega)) (HC.out k) (HBW.out k) hCr).mono ?_;rintro e' w3 ⟨rfl,hC2,hg2⟩;have hB2:=hBr.grown hg2 (by simp);have he2:=her.grown hg2 (by intro q hq;cases hq;exact Nat.le_refl _);have q1:=hB2.cell (i:=k) (by omega);have q2:=hB2.frozen k;go_wp2
   go_roundw
   case rel=>exact ⟨k+1,by omega,by go_num,qi9 d0 (cut e0 m) k ▸ hB2.set k _,hC2.set_other (by simp) _,he2.set (by simp) _⟩
   case measure=>simp [intOf];omega
  ·have:k=m:=by omega
   subst this;clear hlt hk;go_wp2;obtain ⟨wo,rfl⟩ : ∃ wo:World,wo=wr:=⟨_,rfl⟩
   go_loopw [11] (fun i wr=>∃ j:Nat,k<=j/\j<=n/\i = .int .i64 j/\Blk wr (w1.heap.size+1) 155 n (qp2 d0 (cut e0 k) j)/\Blk wr w1.heap.size 155 1 (fun _=>.int .u32 (bw d0 (cut e0 k) j))/\Ext w1 wr) (fun i _=>n - (intOf i).toNat)
   case atStart=>exact ⟨k,Nat.le_refl _,hmn,rfl,hBr,hCr,her⟩
   case round=>
    clear hBr hCr her;obtain ⟨j,hkj,hj,rfl,hBr,hCr,her⟩:=hrel
    by_cases hlt:j<n
    ·obtain ⟨b1,o1,rfl,hb1,hc1⟩:=qaz HRd.out (by omega)
     have g1:wr.cell? ⟨b1,o1+j,none⟩=some (.int .u32 (d0 j)):=by rw [her.cell hb1];exact hc1 j (by omega)
     have hek:cut e0 k j=0:=by unfold cut;rw [if_neg (by omega)]
     have ctr:=qjx (d0 j) (cut e0 k j) (bw d0 (cut e0 k) j) w1.heap.size 155 wr (HD.out j (by omega)) (HC.out j) (HBW.out j) hCr;have hal:slo (d0 j) (cut e0 k j) (bw d0 (cut e0 k) j)=dd d0 (cut e0 k) j:=rfl;have hah:qcD (d0 j) (cut e0 k j) (bw d0 (cut e0 k) j)=bw d0 (cut e0 k) (j+1):=rfl;rw [hal,hah,hek] at ctr;have CTR:=Lib.hid ctr;clear hc1 hek ctr hal hah;go_wp2_with (fail);refine CTR.out.mono ?_;rintro e' w3 ⟨rfl,hC2,hg2⟩;have hB2:=hBr.grown hg2 (by simp);have he2:=her.grown hg2 (by intro q hq;cases hq;exact Nat.le_refl _);have q1:=hB2.cell (i:=j) (by omega);have q2:=hB2.frozen j;go_wp2
     go_roundw
     case rel=>exact ⟨j+1,by omega,by omega,by go_num,qi9 d0 (cut e0 k) j ▸ hB2.set j _,hC2.set_other (by simp) _,he2.set (by simp) _⟩
     case measure=>simp [intOf];omega
    ·have:j=n:=by omega
     subst this;clear hlt
     have hB4:Blk wr (w1.heap.size+1) 155 j (fun i=>.int .u32 (dd d0 (cut e0 k) i)):=by
      refine hBr.congr fun i hi=>?_;unfold qp2;rw [if_pos hi]
     have hval:nv (dd d0 (cut e0 k)) j=nv d0 n0 - nv e0 m0:=by
      have hc2:=qgA e0 k j hkj;have hge:=HGE.out;rw [qof d0 (cut e0 k) j HD.out (fun i _=>HC.out i) (by rw [hc2,E1.out,E2.out];exact hge),hc2,E1.out,E2.out]
     have ctr:=qbj (M:=M) hB4 (hM.new (by have:=HX.out.size;omega)) (by unfold maxLen;omega) (fun i _=>qrb _ _ _) (Nat.le_trans (qaR _ _ fun i _=>qrb _ _ _) hnL);rw [hval] at ctr;have CTR:=Lib.hid ctr;clear ctr hB4 hval;go_wp2_with (fail);refine CTR.out.mono ?_;rintro e' w2 ⟨u,rfl,hu,rfl⟩;go_wp2
     go_ret2
     exact ⟨u,rfl,hu,HX.out.trans her⟩
theorem qgE {M : Nat -> Prop} (v v' : Value) (x y : Nat) (w : World) (hM : Mb M w) (h : qcc M w v x) (h' : qcc M w v' y) (hge : y <= x) :
  Calls Tryz.prog 161 #[v,v'] w fun e w'=>∃ u,e = .returned (.tuple #[u,.bool true])/\qcY M w' u (x - y)/\Ext w w':=by
 obtain ⟨n,d,hr,rfl⟩:=h;obtain ⟨m,d',hr',rfl⟩:=h';exact qkB v v' n m d d' w hM hr hr' hge
theorem qme {M : Nat -> Prop} (x : Nat) (w : World) (hM : Mb M w) (hx : x < 18446744073709551616) :
  Calls Tryz.prog 77 #[.int .u64 x] w fun e w'=>∃ u,e = .returned u/\qcY M w' u x/\Ext w w':=by
 have hsg:IntKind.u64.signed=false:=rfl
 have hx':(x:Int)<18446744073709551616:=by omega
 go_enter Tryz.func77,Tryz.ntmps77
 go_wp2_with (fail)
 have hB:Blk (w.alloc (Obj.cells #[Value.int IntKind.u32 ((x:Int) % 4294967296),Value.int IntKind.u32 ((x:Int) / 4294967296)] 155)) w.heap.size 155 2 (fun i=>.int .u32 ((if i=0 then x % 4294967296 else x / 4294967296:Nat):Int)):=
  Blk.of_alloc w _ _ _ 2 rfl (by
   intro i hi
   have:i=0∨i=1:=by omega
   rcases this with rfl | rfl <;> simp)
 have hN:=qbr.of_blk (M:=M) (d:=fun i=>if i=0 then x % 4294967296 else x / 4294967296) hB (hM.new (Nat.le_refl _)) 2 (Nat.le_refl _) (by omega) (Nat.le_refl _) (by unfold maxLen;omega) (fun i _=>rfl) (by intro i hi;show (if i=0 then x % 4294967296 else x / 4294967296)<4294967296;split <;> omega)
 have hv:nv (fun i=>if i=0 then x % 4294967296 else x / 4294967296) 2=x:=by simp [nv];omega
 have c:=qfY _ _ _ _ (hM.size (by simp)) hN;rw [hv] at c;refine c.mono ?_;rintro e w1 ⟨u,rfl,hu,he⟩;go_wp2;go_ret;exact ⟨u,rfl,hu,((Ext.refl w).alloc _).trans he⟩


def qcW (w:World) (g:Nat) (N:Nat) (s:Nat->Nat):Prop:=Blk w g 155 N (fun i=>.int .u32 (s i)) /\ ∀ i,i<N->s i<4294967296
theorem qcW.set {w:World} {g N:Nat} {s:Nat->Nat} (h:qcW w g N s) (k u:Nat) (hu:u<4294967296):qcW (w.setCell ⟨g,k,none⟩ (.int .u32 u)) g N (qa2 s k u):=by
 refine ⟨(h.1.set k _).congr fun i _=>?_,fun i hi=>?_⟩
 ·unfold upd qa2;split <;> rfl
 ·unfold qa2;split
  ·exact hu
  ·exact h.2 i hi
theorem qcW.ext {w w':World} {g N:Nat} {s:Nat->Nat} (h:qcW w g N s) (he:Ext w w'):qcW w' g N s:=⟨h.1.ext he,h.2⟩
theorem qdb (N:Nat):nv (fun _=>0) N=0:=by
 induction N with
 | zero=>rfl
 | succ N ih=>simp only [nv];rw [ih];simp

theorem qfX {M : Nat -> Prop} (a1 a2 : Option Addr) (c1 c2 n m : Nat) (d e : Nat -> Nat) (w : World) (h : qbr M w (.slice a1 n c1) n d) (h' : qbr M w (.slice a2 m c2) m e) (hL : n + m <= 1099511627776) :
  Calls Tryz.prog 182 #[.slice a1 n c1,.slice a2 m c2] w fun q w'=>∃ s,q = .returned (.slice (some ⟨w.heap.size,0,none⟩) (n+m) (n+m)) /\
   qcW w' w.heap.size (n+m) s/\nv s (n+m)=nv d n*nv e m/\Ext w w':=by
 obtain ⟨i0,hi,hz0,hz1,hz2⟩:=info_parts Tryz.info155;have HD:=Lib.hid h.2.1;have HE:=Lib.hid h'.2.1;have HR:=Lib.hid h;have HR':=Lib.hid h';clear h h'
 go_enter Tryz.func182,Tryz.ntmps182
 go_wp2_with (first | (refine wpList_make_full _ rfl _ _ _ rfl w.heap.size 155 i0 (.int .u32 0) 1 Tryz.underlying28 hi hz0 hz1 .i64 .i64 _ _ (n+m) rfl rfl ?c4 ?c5 ?c2 ?c3 ?c6 ?_))
 case c4=>go_num
 case c5=>go_num
 case c6=>simp
 case c2=>rw [hz2];omega
 case c3=>unfold maxLen;omega
 intro w1 hown hgrow;have hB:qcW w1 w.heap.size (n+m) (fun _=>0):=⟨Blk.made1 hown,fun _ _=>by show 0<4294967296;decide⟩;have he:=qaw hgrow;clear hown hgrow;go_wp2
 go_loopw [23] (fun i wr=>∃ (k:Nat) (s:Nat->Nat),k<=n/\i = .int .i64 k/\qcW wr w.heap.size (n+m) s/\nv s (n+m)=nv d k*nv e m/\(∀ q,k+m<=q->s q=0)/\Ext w wr) (fun i _=>n - (intOf i).toNat)
 case atStart=>exact ⟨0,fun _=>0,Nat.zero_le _,rfl,hB,by rw [qdb];simp [nv],fun _ _=>rfl,he⟩
 case round=>
  clear hB he;obtain ⟨k,s,hk,rfl,hB,hv,hz,her⟩:=hrel;have HV:=Lib.hid hv;have HZ:=Lib.hid hz;clear hv hz
  by_cases hlt:k<n
  ·obtain ⟨b1,o1,rfl,hb1,hc1⟩:=qaz HR.out (by omega)
   have g1:wr.cell? ⟨b1,o1+k,none⟩=some (.int .u32 (d k)):=by rw [her.cell hb1];exact hc1 k (by omega)
   clear hc1;have hdk:=HD.out k hlt
   by_cases h0:d k=0
   ·have t0:(((d k:Nat):Int) == 0)=true:=by simp [h0]
    have H0:=Lib.hid h0;clear h0;go_wp2
    go_roundw
    case rel=>exact ⟨k+1,s,by omega,by go_num,hB,by rw [HV.out];simp [nv,H0.out],fun q hq=>HZ.out q (by omega),her⟩
    case measure=>simp [intOf];omega
   ·have t0:(((d k:Nat):Int) == 0)=false:=by simp [h0]
    clear h0;go_wp2;obtain ⟨wo,rfl⟩ : ∃ wo:World,wo=wr:=⟨_,rfl⟩
    go_loopw [35,9] (fun i c wr=>∃ (j cy:Nat) (s':Nat->Nat),j<=m/\i = .int .i64 j/\c = .int .u32 cy/\cy<4294967296/\qcW wr w.heap.size (n+m) s' /\
     Hid (nv s' (n+m)+cy*4294967296 ^ (k+j)=nv s (n+m)+d k*nv e j*4294967296 ^ k)/\Hid (∀ q,k+m<=q->s' q=0)/\Ext w wr) (fun i _ _=>m - (intOf i).toNat)
    case atStart=>exact ⟨0,0,s,Nat.zero_le _,rfl,rfl,by decide,hB,by show _=_;simp [nv],HZ.out,her⟩
    case round=>
     clear hB her g1;obtain ⟨j,cy,s',hj,rfl,rfl,hcy,hB,hv,hz,her⟩:=hrel
     by_cases hlj:j<m
     ·obtain ⟨b2,o2,rfl,hb2,hc2⟩:=qaz HR'.out (by omega)
      have g2:wr.cell? ⟨b2,o2+j,none⟩=some (.int .u32 (e j)):=by rw [her.cell hb2];exact hc2 j (by omega)
      have g3:wr.cell? ⟨w.heap.size,k+j,none⟩=some (.int .u32 (s' (k+j))):=hB.1.cell (by omega);have g4:=hB.1.frozen (k+j);have hej:=HE.out j hlj;have hsk:=hB.2 (k+j) (by omega);obtain ⟨q1,q2⟩:=qom (d k) (e j) (s' (k+j)) cy hdk hej hsk hcy;have q3:=qfD (alo (mlo (d k) (e j)) (s' (k+j)) 0) cy 0;have q4:=qhH (d k) (e j);have q5:=qfD (mlo (d k) (e j)) (s' (k+j)) 0;have Q2:=Lib.hid q2;clear q2 hc2;go_wp2_with (fail);refine (qdh (d k) (e j) _ hdk hej).mono ?_;rintro e' w' ⟨rfl,rfl⟩;go_wp2_with (fail);refine (qa5 (mlo (d k) (e j)) (s' (k+j)) 0 _ q4 hsk (by decide)).mono ?_;rintro e' w' ⟨rfl,rfl⟩;go_wp2_with (fail);refine (qa5 (alo (mlo (d k) (e j)) (s' (k+j)) 0) cy 0 _ q5 hcy (by decide)).mono ?_;rintro e' w' ⟨rfl,rfl⟩;go_wp2
      go_roundw
      case rel=>
       refine ⟨j+1,mhi (d k) (e j)+ahi (mlo (d k) (e j)) (s' (k+j)) 0+ahi (alo (mlo (d k) (e j)) (s' (k+j)) 0) cy 0,qa2 s' (k+j) (alo (alo (mlo (d k) (e j)) (s' (k+j)) 0) cy 0),by omega,by go_num,by go_num,q1,hB.set _ _ q3,?_,?_,her.set (Nat.le_refl _) _⟩
       ·exact qn1 s' (n+m) k j (d k) (e j) cy _ _ _ (nv e j) (by omega) hv.out Q2.out
       ·intro q hq;unfold qa2;rw [if_neg (by omega)];exact hz.out q hq
      case measure=>simp [intOf];omega
     ·have:j=m:=by omega
      subst this;clear hlj;have g3:wr.cell? ⟨w.heap.size,k+j,none⟩=some (.int .u32 (s' (k+j))):=hB.1.cell (by omega);have g4:=hB.1.frozen (k+j);go_wp2
      go_roundw
      case rel=>
       refine ⟨k+1,qa2 s' (k+j) cy,by omega,by go_num,hB.set _ _ hcy,?_,?_,her.set (Nat.le_refl _) _⟩
       ·have h1:=ql5 s' (k+j) cy (n+j) (by omega);rw [hz.out (k+j) (by omega)] at h1;have h2:=hv.out;rw [HV.out] at h2;simp only [nv,Nat.add_mul]
        have h3:d k*nv e j*4294967296 ^ k=d k*4294967296 ^ k*nv e j:=by rw [Nat.mul_assoc,Nat.mul_comm (nv e j),<- Nat.mul_assoc]
        omega
       ·intro q hq;unfold qa2;rw [if_neg (by omega)];exact hz.out q (by omega)
      case measure=>simp [intOf];omega
  ·have:k=n:=by omega
   subst this;go_wp2;go_ret;exact ⟨s,rfl,hB,HV.out,her⟩

theorem qfq {w0 w:World} {g k:Nat} (h:w0.grownBy w (some g)) (u:Value):w0.grownBy (w.setCell ⟨g,k,none⟩ u) (some g):=
 qbF h ⟨rfl,rfl,rfl,by simp [World.setCell],fun q _ hq=>Below.heap_setCell _ _ _ _ (fun e=>hq (by rw [e]))⟩
theorem qfk {M : Nat -> Prop} (g off N cz T : Nat) (a2 : Option Addr) (c2 m : Nat) (s X : Nat -> Nat) (w : World) (hB : qcW w g T s) (hT : off + N <= T) (h' : qbr M w (.slice a2 m c2) m X) (hne : 0 < m -> ∀ p, a2 = some p -> p.block ≠ g) (hm : m <= N) (hNL : N <= 1099511627776)
  (hfit:nv (fun i=>s (off+i)) N+nv X m<4294967296 ^ N) :
  Calls Tryz.prog 183 #[.slice (some ⟨g,off,none⟩) N cz,.slice a2 m c2] w fun q w'=>∃ s',q = .returned (.tuple #[])/\qcW w' g T s'/\(∀ i,i<off∨off+N<=i->s' i=s i) /\
   nv (fun i=>s' (off+i)) N=nv (fun i=>s (off+i)) N+nv X m/\w.grownBy w' (some g):=by
 have HX:Hid (∀ i,cut X m i<4294967296):=qna X m h'.2.1;have HCY:Hid (∀ j,j<=N->cy (fun i=>s (off+i)) (cut X m) j<=1):=fun j hj=>qsR _ _ j (fun i hi=>hB.2 _ (by omega)) fun i _=>HX.out i;have HS:=Lib.hid hB.2;have HR':=Lib.hid h'
 have HF:Hid (nv (fun i=>s (off+i)) N+nv (cut X m) N<4294967296 ^ N):=by show _<_;rw [qgA X m N hm];exact hfit
 have HXv:Hid (nv (cut X m) N=nv X m):=qgA X m N hm;have HNE:=Lib.hid hne;clear h' hfit hne;have hlg:=hB.1.lt
 go_enter Tryz.func183,Tryz.ntmps183
 go_wp2
 go_loopw [10,4] (fun i c wr=>∃ j:Nat,j<=m/\i = .int .i64 j/\c = .int .u32 (cy (fun i=>s (off+i)) (cut X m) j)/\qcW wr g T (inf s (cut X m) off j)/\w.grownBy wr (some g)) (fun i _ _=>m - (intOf i).toNat)
 case atStart=>exact ⟨0,Nat.zero_le _,rfl,rfl,⟨hB.1.congr (by intro i _;unfold inf;rw [if_neg (by omega)]),qsw _ _ _ _ _ hB.2⟩,qcm _ _⟩
 case round=>
  clear hB;obtain ⟨j,hj,rfl,rfl,hB,hg⟩:=hrel;have hcy:=HCY.out j (by omega)
  by_cases hlt:j<m
  ·obtain ⟨b2,o2,rfl,hb2,hc2⟩:=qaz HR'.out (by omega);have hbg:b2≠g:=HNE.out (by omega) _ rfl
   have g2:wr.cell? ⟨b2,o2+j,none⟩=some (.int .u32 (cut X m j)):=by
    rw [World.cell?_of_block (w:=w) (hg.block b2 hb2 (by simpa using hbg)),hc2 j hlt];unfold cut;rw [if_pos hlt]
   have g3:wr.cell? ⟨g,off+j,none⟩=some (.int .u32 (s (off+j))):=by rw [hB.1.cell (by omega),qpB]
   have g4:=hB.1.frozen (off+j);clear hc2;have ctr:=qa5 (s (off+j)) (cut X m j) (cy (fun i=>s (off+i)) (cut X m) j) wr (HS.out _ (by omega)) (HX.out j) (by omega);have hal:alo (s (off+j)) (cut X m j) (cy (fun i=>s (off+i)) (cut X m) j)=sd (fun i=>s (off+i)) (cut X m) j:=rfl;have hah:ahi (s (off+j)) (cut X m j) (cy (fun i=>s (off+i)) (cut X m) j)=cy (fun i=>s (off+i)) (cut X m) (j+1):=rfl;rw [hal,hah] at ctr;have CTR:=Lib.hid ctr;clear ctr hal hah;go_wp2_with (fail);refine CTR.out.mono ?_;rintro e' w' ⟨rfl,rfl⟩;go_wp2
   go_roundw
   case rel=>exact ⟨j+1,by omega,by go_num,rfl,qmw s (cut X m) off j ▸ hB.set (off+j) _ (qnY _ _ _),qfq hg _⟩
   case measure=>simp [intOf];omega
  ·have:j=m:=by omega
   subst this;clear hlt;go_wp2;obtain ⟨wo,rfl⟩ : ∃ wo:World,wo=wr:=⟨_,rfl⟩
   go_loopw [7,4] (fun i c wr=>∃ q:Nat,j<=q/\q<=N/\i = .int .i64 q/\c = .int .u32 (cy (fun i=>s (off+i)) (cut X j) q)/\qcW wr g T (inf s (cut X j) off q)/\w.grownBy wr (some g)) (fun i _ _=>N - (intOf i).toNat)
   case atStart=>exact ⟨j,Nat.le_refl _,hm,rfl,rfl,hB,hg⟩
   case round=>
    clear hB hg hcy;obtain ⟨q,hjq,hq,rfl,rfl,hB,hg⟩:=hrel;have hcy:=HCY.out q (by omega)
    have hX0:Hid (∀ i,q<=i->cut X j i=0):=fun i hi=>by unfold cut;rw [if_neg (by omega)]
    by_cases hc0:cy (fun i=>s (off+i)) (cut X j) q=0
    ·have t0:(((cy (fun i=>s (off+i)) (cut X j) q:Nat):Int) == 0)=true:=by simp [hc0]
     have t1:(((cy (fun i=>s (off+i)) (cut X j) q:Nat):Int) != 0)=false:=by simp [hc0]
     have HC0:=Lib.hid hc0;clear hc0;go_wp2
     go_end0
     refine ⟨_,rfl,hB,fun i hi=>?_,?_,hg⟩
     ·unfold inf;rw [if_neg (by omega)]
     ·rw [<- HXv.out];exact qmv s (cut X j) off N q (fun i hi=>HS.out _ (by omega)) (fun i _=>HX.out i) HF.out hq (.inr ⟨HC0.out,hX0.out⟩)
    ·have t0:(((cy (fun i=>s (off+i)) (cut X j) q:Nat):Int) == 0)=false:=by simp [hc0]
     have t1:(((cy (fun i=>s (off+i)) (cut X j) q:Nat):Int) != 0)=true:=by simp [hc0]
     clear hc0
     by_cases hlt:q<N
     ·have g3:wr.cell? ⟨g,off+q,none⟩=some (.int .u32 (s (off+q))):=by rw [hB.1.cell (by omega),qpB]
      have g4:=hB.1.frozen (off+q);have ctr:=qa5 (s (off+q)) (cut X j q) (cy (fun i=>s (off+i)) (cut X j) q) wr (HS.out _ (by omega)) (HX.out q) (by omega);have hal:alo (s (off+q)) (cut X j q) (cy (fun i=>s (off+i)) (cut X j) q)=sd (fun i=>s (off+i)) (cut X j) q:=rfl;have hah:ahi (s (off+q)) (cut X j q) (cy (fun i=>s (off+i)) (cut X j) q)=cy (fun i=>s (off+i)) (cut X j) (q+1):=rfl;rw [hal,hah,hX0.out q (Nat.le_refl _)] at ctr;have CTR:=Lib.hid ctr;clear ctr hal hah;go_wp2_with (fail);refine CTR.out.mono ?_;rintro e' w' ⟨rfl,rfl⟩;go_wp2
      go_roundw
      case rel=>exact ⟨q+1,by omega,by omega,by go_num,rfl,qmw s (cut X j) off q ▸ hB.set (off+q) _ (qnY _ _ _),qfq hg _⟩
      case measure=>simp [intOf];omega
     ·have:q=N:=by omega
      subst this;go_wp2
      go_end0
      refine ⟨_,rfl,hB,fun i hi=>?_,?_,hg⟩
      ·unfold inf;rw [if_neg (by omega)]
      ·rw [<- HXv.out];exact qmv s (cut X j) off q q (fun i hi=>HS.out _ (by omega)) (fun i _=>HX.out i) HF.out hq (.inl rfl)


def qcQ (w:World) (N x:Nat) (q:Ending) (w':World):Prop:=∃ g s,q = .returned (.slice (some ⟨g,0,none⟩) N N)/\w.heap.size<=g/\qcW w' g N s/\nv s N=x/\Ext w w'
def qkh (K : Nat) : Prop := ∀ (M : Nat -> Prop) (a1 a2 : Option Addr) (c1 c2 n m : Nat) (d e : Nat -> Nat) (w : World), n + m <= K -> qbr M w (.slice a1 n c1) n d -> qbr M w (.slice a2 m c2) m e -> n + m <= 1099511627776 ->
  Calls Tryz.prog 159 #[.slice a1 n c1,.slice a2 m c2] w (qcQ w (n+m) (nv d n*nv e m))
theorem qdJ {M : Nat -> Prop} (a1 a2 : Option Addr) (c1 c2 n m : Nat) (d e : Nat -> Nat) (w : World) (h : qbr M w (.slice a1 n c1) n d) (h' : qbr M w (.slice a2 m c2) m e) (hL : n + m <= 1099511627776) (hs : n < 48 ∨ m < 48) :
  Calls Tryz.prog 159 #[.slice a1 n c1,.slice a2 m c2] w (qcQ w (n+m) (nv d n*nv e m)):=by
 rcases Nat.lt_or_ge n m with hlt | hge
 ·have hs':n<48:=by omega
  have c:=qfX a1 a2 c1 c2 n m d e w h h' hL;have C:=Lib.hid c;clear c h h'
  go_enter Tryz.func159,Tryz.ntmps159
  go_wp2_with (fail);refine C.out.mono ?_;rintro e' w' ⟨s,rfl,hB,hv,he⟩;have HV:=Lib.hid hv;clear hv;go_wp2;go_ret;exact ⟨_,s,rfl,Nat.le_refl _,hB,HV.out,he⟩
 ·have hs':m<48:=by omega
  have c:=qfX a2 a1 c2 c1 m n e d w h' h (by omega);rw [Nat.mul_comm,Nat.add_comm m n] at c;have C:=Lib.hid c;clear c h h'
  go_enter Tryz.func159,Tryz.ntmps159
  go_wp2_with (fail);refine C.out.mono ?_;rintro e' w' ⟨s,rfl,hB,hv,he⟩;have HV:=Lib.hid hv;clear hv;go_wp2;go_ret;exact ⟨_,s,rfl,Nat.le_refl _,hB,HV.out,he⟩


-- short names for the macros of fill.py
theorem xgA {α:Type _} {xs:List α} {i:Nat} : xs.toArray[i]? = xs[i]?:=List.getElem?_toArray
theorem xgB {α:Type _} {a:α} {l:List α} {i:Nat} : (a :: l)[i+1]? = l[i]?:=List.getElem?_cons_succ
theorem xgC {α:Type _} {a:α} {l:List α} : (a :: l)[0]? = some a:=List.getElem?_cons_zero
theorem xgD {α:Type _} {l:List α} {i:Nat} {a:α} : l.toArray.setIfInBounds i a=(l.set i a).toArray:=List.setIfInBounds_toArray ..
theorem xgE {α:Type _} {x:α} {xs:List α} {a:α} : (x :: xs).set 0 a=a :: xs:=List.set_cons_zero ..
theorem xgF {α:Type _} {x:α} {xs:List α} {n:Nat} {a:α} : (x :: xs).set (n+1) a=x :: xs.set n a:=List.set_cons_succ ..
section
variable {P:Program} {ops:Array Oper} {Q:Exit->Act->World->Prop} {md:Region.Mode} {S:World->Prop} {last:Nat}
def qba (P:Program) (md:Region.Mode) (ops:Array Oper) (Q:Exit->Act->World->Prop) (S:World->Prop) (last:Nat):Nat->Array Bool->Act->World->Prop
 | 0,listed,a,w=>Region.ready md ops listed = []/\Q .normal a w
 | fuel+1,listed,a,w=>
  (Region.ready md ops listed = []->Q .normal a w) /\
  ∀ i ∈ Region.ready md ops listed,wpOp P ops Q i (fun a' w'=>(i≠last->S w')/\qba P md ops Q S last fuel (listed.setIfInBounds i true) a' w') a w
theorem qfJ : ∀ (fuel:Nat) (listed:Array Bool) (a:Act) (w:World),qba P md ops Q S last fuel listed a w->wpAny P md ops Q fuel listed a w
 | 0,_,_,_,h=>h
 | fuel+1,_,_,_,h=>⟨h.1,fun i hi=>wpOp_mono (fun a' w' h'=>qfJ fuel _ a' w' h'.2) (h.2 i hi)⟩
def qlm (md:Region.Mode) (ops:Array Oper) (last i:Nat):Bool:=decide (ops.size<=last) || ((ops[last]?).map fun o=>o.after.any fun e=>Region.binds md e && e.on == i).getD false
theorem ql8 {i:Nat} {listed:Array Bool} (hw:qlm md ops last i=true) (hr:i ∈ Region.ready md ops listed):last ∉ Region.ready md ops listed:=by
 intro hl;obtain ⟨_,o,ho,hall⟩:=mem_ready.1 hl;unfold qlm at hw
 have hlt : ¬ ops.size<=last:=by
  have:=(Array.getElem?_eq_some_iff.1 ho).1;omega
 rw [ho,decide_eq_false hlt,Bool.false_or] at hw;simp only [Option.map_some,Option.getD_some,Array.any_eq_true,Bool.and_eq_true,beq_iff_eq] at hw;obtain ⟨k,hk,hb,he⟩:=hw;have h1:=hall _ (Array.getElem_mem hk) hb;have h0:=(mem_ready.1 hr).1;rw [he] at h1;rcases Nat.lt_or_ge i listed.size with h' | h'
 ·simp [h'] at h0 h1;rw [h0] at h1;cases h1
 ·simp [Array.getElem?_eq_none h'] at h1
theorem qhj {i : Nat} {oi : Oper} {v : Value} (hi : ops[i]? = some oi) (hsel : ∀ (j : Nat) (o : Oper) cs b, ops[j]? = some o -> o.op ≠ .select cs b)
  (hQ : ∀ c a w,Q (.panic c) (a.put oi.dst v) w->Q (.panic c) a w) (hw:qlm md ops last i=true) :
  ∀ (fuel:Nat) (listed:Array Bool) (a:Act) (w:World),
   (∀ j oj,ops[j]? = some oj->j≠i->listed.getD j true=false->(∀ e ∈ oj.after,Region.binds md e=true->e.on≠i)->oi.apart ops oj=true) ->
   i ∈ Region.ready md ops listed->YieldsIf P ops S oi v a->S w ->
   qba P md ops Q S last fuel (listed.setIfInBounds i true) (a.put oi.dst v) w->qba P md ops Q S last (fuel+1) listed a w:=by
 intro fuel
 induction fuel with
 | zero=>
  intro listed a w _ hr hy hS H;refine ⟨fun h=>(by rw [h] at hr;cases hr),fun j hj=>?_⟩
  by_cases hji:j=i
  ·subst hji;exact hy.wpOp hi hS ⟨fun _=>hS,H⟩
  ·have:=ready_mono hj hji;rw [H.1] at this;cases this
 | succ fuel ih=>
  intro listed a w hfree hr hy hS H;refine ⟨fun h=>(by rw [h] at hr;cases hr),fun j hj=>?_⟩
  by_cases hji:j=i
  ·subst hji;exact hy.wpOp hi hS ⟨fun _=>hS,H⟩
  ·have h1:=H.2 j (ready_mono hj hji);have hjl:j≠last:=fun e=>ql8 hw hr (e ▸ hj);obtain ⟨hjun,oj,hoj,hall⟩:=mem_ready.1 hj
   have hnot : ∀ e ∈ oj.after,Region.binds md e=true->e.on≠i:=fun e he hb heq=>by
    have h1:=hall e he hb;have h0:=(mem_ready.1 hr).1;rw [heq] at h1;rcases Nat.lt_or_ge i listed.size with h' | h'
    ·simp [h'] at h0 h1;rw [h0] at h1;cases h1
    ·simp [Array.getElem?_eq_none h'] at h1
   have h2:=wpOp_putIf hoj (hfree j oj hoj hji hjun hnot) (fun cs b=>hsel i oi cs b hi) (fun cs b=>hsel j oj cs b hoj) hQ hy h1
   have hfree' : ∀ k ok, ops[k]? = some ok -> k ≠ i -> (listed.setIfInBounds j true).getD k true = false ->
     (∀ e ∈ ok.after,Region.binds md e=true->e.on≠i)->oi.apart ops ok=true:=fun k ok hk hki hun hno=>by
    refine hfree k ok hk hki ?_ hno
    by_cases hjk:j=k
    ·subst hjk;exact hjun
    ·rw [getD_set_ne true hjk] at hun;exact hun
   refine wpOp_mono (fun a' w' h3=>⟨fun _=>h3.2.1 hjl,ih (listed.setIfInBounds j true) a' w' hfree' (ready_mono hr (Ne.symm hji)) h3.1 (h3.2.1 hjl) ?_⟩) h2;rw [Array.setIfInBounds_comm _ _ hji];exact h3.2.2
theorem qij (i : Nat) {oi : Oper} {v : Value} {fuel : Nat} {listed : Array Bool} {a : Act} {w : World} 
  (hs:Region.noSelect ops=true) (hf:Region.free md ops listed i=true) (hr:(Region.ready md ops listed).contains i=true) (hl:qlm md ops last i=true) (hS:S w)
  (hi:ops[i]? = some oi) (hwd:Region.wanted oi (yielded ops a.tmps)=true) (hy : ∀ w,S w->(execOp a.eval oi).run P w = .ok (.value v) w) (hQ : ∀ c a w,Q (.panic c) (a.put oi.dst v) w->Q (.panic c) a w)
  (h:qba P md ops Q S last fuel (listed.setIfInBounds i true) (a.put oi.dst v) w):qba P md ops Q S last (fuel+1) listed a w:=
 qhj hi (Region.noSelect_spec hs) hQ hl fuel listed a w (Region.free_spec hi hf) (by simpa using hr) (.inl ⟨hwd,hy⟩) hS h
structure TkG (P:Program) (md:Region.Mode) (ops:Array Oper) (Q:Exit->Act->World->Prop) (S:World->Prop) (last:Nat) (is:List Nat) (fuel:Nat) (listed:Array Bool) (a:Act) (w:World):Prop where
 out:qba P md ops Q S last fuel listed a w
theorem tkB (is:List Nat) {fuel:Nat} {listed:Array Bool} {a:Act} {w:World} (h:TkG P md ops Q S last is fuel listed a w):qba P md ops Q S last fuel listed a w:=h.out
theorem tkE {fuel:Nat} {listed:Array Bool} {a:Act} {w:World} (h:qba P md ops Q S last fuel listed a w):TkG P md ops Q S last [] fuel listed a w:=⟨h⟩
theorem tk1 {i : Nat} {is : List Nat} {oi : Oper} {v : Value} {fuel : Nat} {listed : Array Bool} {a : Act} {w : World}
  (hc:(Region.noSelect ops && Region.free md ops listed i && (Region.ready md ops listed).contains i && qlm md ops last i)=true) (hS:S w)
  (hi:ops[i]? = some oi) (hwd:Region.wanted oi (yielded ops a.tmps)=true) (hy : ∀ w,S w->(execOp a.eval oi).run P w = .ok (.value v) w) (hQ : ∀ c a w,Q (.panic c) (a.put oi.dst v) w->Q (.panic c) a w)
  (h:TkG P md ops Q S last is fuel (listed.setIfInBounds i true) (a.put oi.dst v) w):TkG P md ops Q S last (i :: is) (fuel+1) listed a w:=by
 simp only [Bool.and_eq_true] at hc;exact ⟨qij i hc.1.1.1 hc.1.1.2 hc.1.2 hc.2 hS hi hwd hy hQ h.out⟩
theorem qaa (i : Nat) {o : Oper} {fuel : Nat} {listed : Array Bool} {a : Act} {w : World} (hr : Region.ready md ops listed = [i]) (ho : ops[i]? = some o)
  (h : ∀ K':Act->World->Prop,Shut (∀ a w,(i≠last->S w)->qba P md ops Q S last fuel (listed.setIfInBounds i true) a w->K' a w)->if Region.wanted o (yielded ops a.tmps)=true then Oper.wp P o a w K' Q else K' (a.put o.dst undef) w):qba P md ops Q S last (fuel+1) listed a w:=by
 refine ⟨fun h0=>(by rw [h0] at hr;cases hr),fun j hj=>?_⟩;rw [hr] at hj;simp only [List.mem_singleton] at hj;subst hj;exact wpOp_step ho fun K' hK=>h K' fun a w h1 h2=>hK a w ⟨h1,h2⟩
theorem qau (i j : Nat) {oi oj : Oper} {fuel : Nat} {listed : Array Bool} {a : Act} {w : World} (hr : Region.ready md ops listed = [i, j]) (hi : ops[i]? = some oi) (hj : ops[j]? = some oj)
  (h : ∀ K':Act->World->Prop,Shut (∀ a w,(i≠last->S w)->qba P md ops Q S last fuel (listed.setIfInBounds i true) a w->K' a w)->if Region.wanted oi (yielded ops a.tmps)=true then Oper.wp P oi a w K' Q else K' (a.put oi.dst undef) w)
  (h' : ∀ K':Act->World->Prop,Shut (∀ a w,(j≠last->S w)->qba P md ops Q S last fuel (listed.setIfInBounds j true) a w->K' a w)->if Region.wanted oj (yielded ops a.tmps)=true then Oper.wp P oj a w K' Q else K' (a.put oj.dst undef) w):qba P md ops Q S last (fuel+1) listed a w:=by
 refine ⟨fun h0=>(by rw [h0] at hr;cases hr),fun q hq=>?_⟩;rw [hr] at hq;simp only [List.mem_cons,List.not_mem_nil,or_false] at hq;rcases hq with rfl | rfl
 ·exact wpOp_step hi fun K' hK=>h K' fun a w h1 h2=>hK a w ⟨h1,h2⟩
 ·exact wpOp_step hj fun K' hK=>h' K' fun a w h1 h2=>hK a w ⟨h1,h2⟩
theorem qac {listed : Array Bool} {a : Act} {w : World} (hr : Region.ready md ops listed = []) (h : Q .normal a w) :
  ∀ fuel,qba P md ops Q S last fuel listed a w
 | 0=>⟨hr,h⟩
 | _+1=>⟨fun _=>h,by rw [hr];simp⟩
theorem qad (S : World -> Prop) (last : Nat) {id : Nat} {a : Act} {w : World} (hm : P.follows .mixedOrders = true) (hS : S w.drew)
  (h:S w.drew->qba P .any ops Q S last ops.size (Array.replicate ops.size false) a w.drew):(Code.region id ops true).wp P Q a w:=
 wp_region_any hm (qfJ _ _ _ _ (h hS))
end


def STr (_:World):Prop:=True
theorem STr.ext {w:World} (_:STr w) (w':World):STr w':=trivial
theorem qbr.take {M:Nat->Prop} {w:World} {b off n c:Nat} {d:Nat->Nat} (h:qbr M w (.slice (some ⟨b,off,none⟩) n c) n d) (h0:0<n) {k:Nat} (hk:k<=n):qbr M w (.slice (some ⟨b,off,none⟩) k c) k d:=by
 obtain ⟨h1,h2,h3⟩:=h;refine ⟨by omega,fun i hi=>h2 i (by omega),?_⟩;rcases h3 with ⟨h3,_⟩ | ⟨b',off',cap,hv,hn,hc,hb,hcell⟩
 ·omega
 ·simp only [Value.slice.injEq,Option.some.injEq,Addr.mk.injEq,and_true] at hv;obtain ⟨⟨rfl,rfl⟩,_,rfl⟩:=hv;exact .inr ⟨b,off,c,rfl,by omega,hc,hb,fun i hi=>hcell i (by omega)⟩
theorem qbr.drop {M:Nat->Prop} {w:World} {b off n c:Nat} {d:Nat->Nat} (h:qbr M w (.slice (some ⟨b,off,none⟩) n c) n d) (h0:0<n) {k:Nat} (hk:k<=n):qbr M w (.slice (some ⟨b,off+k,none⟩) (n - k) (c - k)) (n - k) (fun i=>d (k+i)):=by
 obtain ⟨h1,h2,h3⟩:=h;refine ⟨by omega,fun i hi=>h2 _ (by omega),?_⟩;rcases h3 with ⟨h3,_⟩ | ⟨b',off',cap,hv,hn,hc,hb,hcell⟩
 ·omega
 ·simp only [Value.slice.injEq,Option.some.injEq,Addr.mk.injEq,and_true] at hv;obtain ⟨⟨rfl,rfl⟩,_,rfl⟩:=hv;exact .inr ⟨b,off+k,c - k,rfl,by omega,by omega,hb,fun i hi=>by rw [Nat.add_assoc];exact hcell _ (by omega)⟩
theorem qjI {s s':Nat->Nat} {off N T x:Nat} (hT:T=off+N) (hs : ∀ i,i<off∨off+N<=i->s' i=s i) (hv:nv (fun i=>s' (off+i)) N=nv (fun i=>s (off+i)) N+x):nv s' T=nv s T+4294967296 ^ off*x:=by
 subst hT;rw [qaY,qaY,hv,qaI s' s off fun i hi=>hs i (.inl hi),Nat.mul_add,Nat.add_assoc]
theorem qjJ {s:Nat->Nat} {off N T x:Nat} (hT:T=off+N) (h:nv s T+4294967296 ^ off*x<4294967296 ^ T):nv (fun i=>s (off+i)) N+x<4294967296 ^ N:=by
 subst hT;rw [qaY,Nat.pow_add] at h
 have h2:4294967296 ^ off*(nv (fun i=>s (off+i)) N+x)<4294967296 ^ off*4294967296 ^ N:=by rw [Nat.mul_add];omega
 exact Nat.lt_of_mul_lt_mul_left h2
theorem qdN {w : World} {g N : Nat} {s p : Nat -> Nat} {off k : Nat} (hB : Blk w g 155 N (qhg (fun i => .int .u32 (s i)) off k (fun i => .int .u32 (p i)))) (hs : ∀ i, i < N -> s i < 4294967296) (hp : ∀ i, i < k -> p i < 4294967296) :
  qcW w g N (fun i=>if off<=i/\i<off+k then p (i - off) else s i):=by
 refine ⟨hB.congr fun i _=>?_,fun i hi=>?_⟩
 ·unfold qhg;dsimp only;split <;> rfl
 ·dsimp only
  split
  ·exact hp _ (by omega)
  ·exact hs i hi
theorem qhE (k N:Nat) (p:Nat->Nat) (h:k<=N):nv (fun i=>if 0<=i/\i<0+k then p (i - 0) else 0) N=nv p k:=by
 obtain ⟨r,rfl⟩ : ∃ r,N=k+r:=⟨N - k,by omega⟩;rw [qaY,qaI _ p k (fun i hi=>by rw [if_pos (by omega)];rfl),qaI _ (fun _=>0) r (fun i _=>by rw [if_neg (by omega)]),qdb];omega
theorem ql1 (k r q N:Nat) (p t:Nat->Nat) (hq:q=k) (hN:N=k+r):nv (fun i=>if q<=i/\i<q+r then t (i - q) else if 0<=i/\i<0+k then p (i - 0) else 0) N=nv p k+4294967296 ^ k*nv t r:=by
 subst hq hN;rw [qaY,qaI _ p q (fun i hi=>by rw [if_neg (by omega),if_pos (by omega)];rfl),qaI _ t r (fun i hi=>by rw [if_pos (by omega),Nat.add_sub_cancel_left])]
theorem qqG (a0 a1 b0 b1:Nat):a0*b0+a1*b1<=(a0+a1)*(b0+b1)/\(a0+a1)*(b0+b1) - (a0*b0+a1*b1)=a0*b1+a1*b0:=by
 have:(a0+a1)*(b0+b1)=a0*b0+a1*b1+(a0*b1+a1*b0):=by
  rw [Nat.add_mul,Nat.mul_add,Nat.mul_add];omega
 omega
theorem qqF (a0 a1 b0 b1 P:Nat):a0*b0+P*P*(a1*b1)+P*(a0*b1+a1*b0)=(a0+P*a1)*(b0+P*b1):=by
 rw [Nat.add_mul,Nat.mul_add,Nat.mul_add,Nat.mul_add]
 have e1:P*a1*(P*b1)=P*P*(a1*b1):=by rw [Nat.mul_mul_mul_comm]
 have e2:a0*(P*b1)=P*(a0*b1):=by rw [Nat.mul_left_comm]
 have e3:P*a1*b0=P*(a1*b0):=Nat.mul_assoc ..;omega
theorem qqO (n:Nat):(((n:Int)+1) / 2)=(((n+1) / 2:Nat):Int):=by
 omega
theorem qfT (K : Nat) (ih : qkh K) (M : Nat -> Prop) (sw : Bool) (a1 a2 : Option Addr) (c1 c2 n m : Nat) (d e : Nat -> Nat) (w : World) (h : qbr M w (.slice a1 n c1) n d) (h' : qbr M w (.slice a2 m c2) m e) (hL : n + m <= 1099511627776) (hK : n + m <= K + 1) (hs : 48 <= m) (hmn : m <= n) (hsw : sw = true -> m < n) (hM : Mb M w) :
  Calls Tryz.prog 159 (if sw then #[.slice a2 m c2,.slice a1 n c1] else #[.slice a1 n c1,.slice a2 m c2]) w (qcQ w (n+m) (nv d n*nv e m)):=by
 obtain ⟨i0,hi,hz0,hz1,hz2⟩:=info_parts Tryz.info155;obtain ⟨b1,o1,rfl,hb1,_⟩:=qaz h (by omega);obtain ⟨b2,o2,rfl,hb2,_⟩:=qaz h' (by omega);have HR1:=Lib.hid h;have HR2:=Lib.hid h'
 have hcap1:n<=c1/\c1<=9223372036854775807:=by
  rcases h.2.2 with ⟨h0,_⟩ | ⟨_,_,_,hv,hn,hc,_⟩
  ·omega
  ·simp only [Value.slice.injEq,true_and] at hv;obtain ⟨_,rfl⟩:=hv;unfold maxLen at hc;omega
 have hcap2:m<=c2/\c2<=9223372036854775807:=by
  rcases h'.2.2 with ⟨h0,_⟩ | ⟨_,_,_,hv,hn,hc,_⟩
  ·omega
  ·simp only [Value.slice.injEq,true_and] at hv;obtain ⟨_,rfl⟩:=hv;unfold maxLen at hc;omega
 have HIH:=Lib.hid ih;have HMB:=Lib.hid hM;obtain ⟨hc1,hc1'⟩:=hcap1;obtain ⟨hc2,hc2'⟩:=hcap2;clear h h' ih hM
 have hnm:((n:Int)<(m:Int))=False:=by simp;omega
 have hm48:((m:Int)<48)=False:=by simp;omega
 cases sw
 case' false=>simp only [Bool.false_eq_true,if_false]
 case' true=>
  simp only [if_true]
  have hnm2:(m:Int)<(n:Int):=by have:=hsw rfl;omega
 all_goals
  clear hsw
  go_enter Tryz.func159,Tryz.ntmps159
  go_wp2_with (first | (refine wpList_make_full _ rfl _ _ _ rfl w.heap.size 155 i0 (.int .u32 0) 1 Tryz.underlying28 hi hz0 hz1 .i64 .i64 _ _ (n+m) rfl rfl ?c4 ?c5 ?c2 ?c3 ?c6 ?_))
  case c2=>rw [hz2];omega
  case c3=>unfold maxLen;omega
  case c4=>go_num
  case c5=>go_num
  case c6=>simp
  intro w1 hown hgrow;have hBk:qcW w1 w.heap.size (n+m) (fun _=>0):=⟨Blk.made1 hown,fun _ _=>(by decide:0<4294967296)⟩;have HD1:=Lib.hid hBk;have HE1:=Lib.hid (qaw hgrow);have hlt1:=hBk.1.lt;clear hown hgrow hBk
  by_cases hA:nv d n=0
  ·have HF:Hid (qcQ w (n+m) (nv d n*nv e m) (.returned (.slice (some ⟨w.heap.size,0,none⟩) (n+m) (n+m))) w1):=⟨_,_,rfl,Nat.le_refl _,HD1.out,by rw [qdb,hA,Nat.zero_mul],HE1.out⟩;have ctr:=qbN _ (nv d n) w1 ⟨_,_,HR1.out.ext HE1.out,rfl⟩;rw [decide_eq_true hA] at ctr;have CTR:=Lib.hid ctr;clear ctr;go_wp2_with (fail);refine CTR.out.mono ?_;rintro e' w' ⟨rfl,rfl⟩;go_wp2;go_ret;exact HF.out
  ·have ctrA:=qbN _ (nv d n) w1 ⟨_,_,HR1.out.ext HE1.out,rfl⟩;rw [decide_eq_false hA] at ctrA;have CTRA:=Lib.hid ctrA;clear ctrA
   by_cases hB:nv e m=0
   ·have HF:Hid (qcQ w (n+m) (nv d n*nv e m) (.returned (.slice (some ⟨w.heap.size,0,none⟩) (n+m) (n+m))) w1):=⟨_,_,rfl,Nat.le_refl _,HD1.out,by rw [qdb,hB,Nat.mul_zero],HE1.out⟩;have ctr:=qbN _ (nv e m) w1 ⟨_,_,HR2.out.ext HE1.out,rfl⟩;rw [decide_eq_true hB] at ctr;have CTR:=Lib.hid ctr;clear ctr;go_wp2_with (fail);refine CTRA.out.mono ?_;rintro e' w' ⟨rfl,rfl⟩;go_wp2_with (fail);refine CTR.out.mono ?_;rintro e' w' ⟨rfl,rfl⟩;go_wp2;go_ret;exact HF.out
   ·have ctrB:=qbN _ (nv e m) w1 ⟨_,_,HR2.out.ext HE1.out,rfl⟩;rw [decide_eq_false hB] at ctrB;have CTRB:=Lib.hid ctrB;clear ctrB hA hB;go_wp2_with (fail);refine CTRA.out.mono ?_;rintro e' w' ⟨rfl,rfl⟩;go_wp2_with (fail);refine CTRB.out.mono ?_;rintro e' w' ⟨rfl,rfl⟩;clear CTRA CTRB
    go_upto_region 9 with (fail)
    rw [qqO];obtain ⟨H,hH⟩ : ∃ H,H=(n+1) / 2:=⟨_,rfl⟩;rw [<- hH]
    have hH1:n<=2*H:=by omega
    have hH2:2*H<=n+1:=by omega
    have hMg:Mb (Mx M w.heap.size (w.heap.size+1)) w1:=Mx.mb HMB.out HE1.out.size (by omega);have hA1:=(HR1.out.more (M':=Mx M w.heap.size (w.heap.size+1)) (Mx.more (Nat.le_refl _))).ext HE1.out;have hA2:=(HR2.out.more (M':=Mx M w.heap.size (w.heap.size+1)) (Mx.more (Nat.le_refl _))).ext HE1.out;have HA1:=Lib.hid hA1;have HA2:=Lib.hid hA2
    have HVA:Hid (nv d n=nv d H+4294967296 ^ H*nv (fun i=>d (H+i)) (n - H)):=by
     show nv d n=_;rw [<- qaY,show H+(n - H)=n by omega]
    clear hA1 hA2 hH HR1 HR2 HMB;have HMG:=Lib.hid hMg;clear hMg
    by_cases hmH:m<=H
    ·have HI1:=Lib.hid (HIH.out _ _ _ _ _ H m d e w1 (by omega) (HA1.out.take (by omega) (show H<=n by omega)) HA2.out (by omega))
     have tmH:(m:Int)<=(H:Int):=by omega
     go_wp2_with (fail);refine HI1.out.mono ?_;rintro q w2 ⟨g2,s2,rfl,hg2,hB2,hv2,he2⟩;have hDz:=HD1.out.ext he2;have HB2:=Lib.hid hB2;have HV2:=Lib.hid hv2;have HE2:=Lib.hid he2;clear HI1 hB2 hv2 he2
     go_wp2_with (refine qbf rfl (.tmp 44) (.tmp 49) _ _ rfl 155 Tryz.underlying28 (by rw [hi];simp [hz1]) _ _ _ _ _ _ rfl rfl w.heap.size 0 155 (n+m) _ hDz.1 (H+m) ?k1 (fun i=>.int .u32 (s2 i)) ?k2 ?k3 ?k4 ?_)
     case k1=>show _=min _ _;omega
     case k2=>exact fun _=>⟨g2,0,⟨rfl,rfl⟩,fun j hj=>by rw [Nat.zero_add];exact HB2.out.1.cell hj⟩
     case k3=>omega
     case k4=>exact fun j hj=>rfl
     intro w3 hB3 hg3;have hD3:=qdN hB3 (fun _ _=>(by decide:0<4294967296)) (fun i hi=>HB2.out.2 i hi);have hV3:=qhE (H+m) (n+m) s2 (by omega);generalize hs3:(fun i=>if 0<=i/\i<0+(H+m) then s2 (i - 0) else 0)=s3 at hD3 hV3;have hk3:Kp (Mx M w.heap.size (w.heap.size+1)) w1 w3:=(Kp.of_ext HE2.out).trans (Kp.grown hg3 (fun k hk=>by cases hk;exact Mx.at (by omega)));have hE3:Ext w w3:=(HE1.out.trans HE2.out).grown hg3 (fun k hk=>by cases hk;exact Nat.le_refl _);have HE3:=Lib.hid hE3;have HD3:=Lib.hid hD3;have HV3:Hid (nv s3 (n+m)=nv d H*nv e m):=hV3.trans HV2.out;have HI2:=Lib.hid (HIH.out _ _ _ _ _ (n - H) m _ e w3.drew (by omega) ((((HA1.out.kp hk3).ext (Ext.refl _).drew)).drop (by omega) (show H<=n by omega)) ((HA2.out.kp hk3).ext (Ext.refl _).drew) (by omega));have HMG3:Hid (Mb (Mx M w.heap.size (w.heap.size+1)) w3):=HMG.out.size hk3.1;have hlt3:=hD3.1.lt;clear hB3 hg3 hk3 hE3 hD3 hV3 hs3 hDz HE2 HV2 HB2 hg2
     have hcH:(H:Int)<=(n:Int)+(m:Int):=by omega
     have hcH3:n+m≠H:=by omega
     have hcH4:c1≠H:=by omega
     have hcH1:(H:Int)<=(n:Int):=by omega
     have hcH2:(H:Int)<=(c1:Int):=by omega
     go_wp2;refine qad STr 10 (by kernel_rfl) trivial (fun hHeld=>?_);(refine tkB [0,1,2,3,4,5,6] ?_;(iterate 7 (refine tk1 (oi:=?_) (v:=?_) (by kernel_rfl) (by first | exact hSn | exact hHeld) ?_ ?_ ?_ ?_ ?_;rotate_left 2;(simp only [xgA,xgB,xgC];rfl);rfl;(intro wS hSw;obtain hT_:=hSw;go_simp;try with_reducible rfl);(exact fun _ _ _ h=>h);(try simp only [Act.put,xgD,xgE,xgF])));refine tkE ?_);((refine qaa 7 (o:=?_) (by kernel_rfl) ?_ ?_;rotate_left 1;(simp only [xgA,xgB,xgC];rfl);intro K hK);go_simp;(refine (HI2.out).mono ?_);rintro e_ w4 ⟨g4,s4,rfl,hg4,hB4,hv4,he4⟩;go_wp2_with (fail);(try clear hSn);(have hSn:=hHeld.ext w4);(refine hK.out _ _ (fun _=>hSn) ?_);clear hK K;(try simp only [Act.put,xgD,xgE,xgF]));have hg4':w3.heap.size<=g4:=hg4;have ctr:=qbj (M:=Mx M w.heap.size (w.heap.size+1)) hB4.1 (fun hg=>absurd (HMG3.out _ hg) (by omega)) (by unfold maxLen;omega) hB4.2 (by have:=qaR _ _ hB4.2;omega);rw [hv4] at ctr;have CTR:=Lib.hid ctr;have HE4:Hid (Ext w3 w4):=((Ext.refl w3).drew).trans he4;clear ctr HI2 hB4 hv4 hg4;((refine qaa 8 (o:=?_) (by kernel_rfl) ?_ ?_;rotate_left 1;(simp only [xgA,xgB,xgC];rfl);intro K hK);go_simp;(refine (CTR.out).mono ?_);rintro e_ wz ⟨u,rfl,hu,rfl⟩;go_wp2_with (fail);(try clear hSn);(have hSn:=hHeld.ext w4);(refine hK.out _ _ (fun _=>hSn) ?_);clear hK K;(try simp only [Act.put,xgD,xgE,xgF]));obtain ⟨X,hX,hXv,_⟩:=hu.len;obtain ⟨ua,uc,rfl⟩:=qap hX;have HXV:=Lib.hid hXv
     have hfin:nv s3 (n+m)+4294967296 ^ H*nv X (dlen (nv (fun i=>d (H+i)) (n - H)*nv e m))=nv d n*nv e m:=by
      rw [hXv,HV3.out,HVA.out,Nat.add_mul,Nat.mul_assoc]
     have hXl:dlen (nv (fun i=>d (H+i)) (n - H)*nv e m)<=n+m - H:=by
      have h1:=qaD (nv (fun i=>d (H+i)) (n - H)) (nv e m);have h2:=qaR (fun i=>d (H+i)) (n - H) (fun i hi=>HA1.out.2.1 _ (by omega));have h3:=qaR e m HA2.out.2.1;omega
     have hbd:nv d n*nv e m<4294967296 ^ (n+m):=by
      rw [Nat.pow_add];exact Nat.mul_lt_mul'' (qcH d n HA1.out.2.1) (qcH e m HA2.out.2.1)
     have CTI := Lib.hid (qfk w.heap.size H (n + m - H) (n + m - H) (n + m) ua uc _ s3 X w4 (HD3.out.ext HE4.out) (by omega) hX (fun h0 p hp => by
       subst hp;obtain ⟨b,o,e5,hb,_⟩:=qaz hX h0;rcases hX.2.2 with ⟨h6,_⟩ | ⟨b',off',cap',hv,_,_,hb',_⟩
       ·omega
       ·simp only [Value.slice.injEq,true_and,Option.some.injEq] at hv
        rw [hv.1];exact fun e6=>hb'.2 ((show b'=w.heap.size from e6) ▸ Mx.at ⟨Nat.le_refl _,Nat.lt_succ_self _⟩)) hXl (by omega) (qjJ (T:=n+m) (by omega) (by rw [hfin];exact hbd)))
     have HFIN:=Lib.hid hfin;generalize dlen (nv (fun i=>d (H+i)) (n - H)*nv e m)=xl at *;clear hX hXv hfin hbd hu CTR HXV;((refine qaa 9 (o:=?_) (by kernel_rfl) ?_ ?_;rotate_left 1;(simp only [xgA,xgB,xgC];rfl);intro K hK);go_simp;(refine (CTI.out).mono ?_);rintro e_ w6 ⟨s6,rfl,hD6,hs6,hv6,hg6⟩;go_wp2_with (fail);(try clear hSn);(have hSn:=hHeld.ext w6);(refine hK.out _ _ (fun _=>hSn) ?_);clear hK K;(try simp only [Act.put,xgD,xgE,xgF]));refine qac (by kernel_rfl) ?_ _;have hval:=qjI (T:=n+m) (by omega) hs6 hv6;rw [HFIN.out] at hval;have HF:Hid (qcQ w (n+m) (nv d n*nv e m) (.returned (.slice (some ⟨w.heap.size,0,none⟩) (n+m) (n+m))) w6):=⟨_,_,rfl,Nat.le_refl _,hD6,hval,(HE3.out.trans HE4.out).grown hg6 (fun k hk=>by cases hk;exact Nat.le_refl _)⟩;clear hval hD6 hs6 hv6 hg6 CTI hHeld hSn he4;go_wp2;go_ret;exact HF.out
    ·have tmH : ¬ (m:Int)<=(H:Int):=by omega
     have hcH:(H:Int)<=(n:Int)+(m:Int):=by omega
     have hcH1:(H:Int)<=(n:Int):=by omega
     have hcH2:(H:Int)<=(c1:Int):=by omega
     have hcH3:n+m≠H:=by omega
     have hcH4:c1≠H:=by omega
     have hcH5:(H:Int)<=(m:Int):=by omega
     have hcH6:(H:Int)<=(c2:Int):=by omega
     have hcH7:c2≠H:=by omega
     have HVB:Hid (nv e m=nv e H+4294967296 ^ H*nv (fun i=>e (H+i)) (m - H)):=by
      show nv e m=_;rw [<- qaY,show H+(m - H)=m by omega]
     have HTA:=Lib.hid (HA1.out.take (by omega) (show H<=n by omega));have HTB:=Lib.hid (HA2.out.take (by omega) (show H<=m by omega));have HDA:=Lib.hid (HA1.out.drop (by omega) (show H<=n by omega));have HDB:=Lib.hid (HA2.out.drop (by omega) (show H<=m by omega));have HI1:=Lib.hid (HIH.out _ _ _ _ _ H H d e w1.drew (by omega) (HTA.out.ext (Ext.refl _).drew) (HTB.out.ext (Ext.refl _).drew) (by omega));go_wp2;refine qad STr 7 (by kernel_rfl) trivial (fun hHeld=>?_);(refine tkB [0,1,2,3,4,5] ?_;(iterate 6 (refine tk1 (oi:=?_) (v:=?_) (by kernel_rfl) (by first | exact hSn | exact hHeld) ?_ ?_ ?_ ?_ ?_;rotate_left 2;(simp only [xgA,xgB,xgC];rfl);rfl;(intro wS hSw;obtain hT_:=hSw;go_simp;try with_reducible rfl);(exact fun _ _ _ h=>h);(try simp only [Act.put,xgD,xgE,xgF])));refine tkE ?_);((refine qaa 6 (o:=?_) (by kernel_rfl) ?_ ?_;rotate_left 1;(simp only [xgA,xgB,xgC];rfl);intro K hK);go_simp;(refine (HI1.out).mono ?_);rintro e_ w2 ⟨g2,s2,rfl,hg2,hB2,hv2,he2⟩;go_wp2_with (fail);(try clear hSn);(have hSn:=hHeld.ext w2);(refine hK.out _ _ (fun _=>hSn) ?_);clear hK K;(try simp only [Act.put,xgD,xgE,xgF]));((refine qaa 7 (o:=?_) (by kernel_rfl) ?_ ?_;rotate_left 1;(simp only [xgA,xgB,xgC];rfl);intro K hK);go_simp;(refine hK.out _ _ (fun h=>absurd rfl h) ?_);clear hK K;refine qac (by kernel_rfl) ?_ _);have HB2:=Lib.hid hB2;have HV2:=Lib.hid hv2;have HE2:Hid (Ext w1 w2):=((Ext.refl w1).drew).trans he2;have hg2':w1.heap.size<=g2:=hg2;clear HI1 hB2 hv2 he2 hHeld hSn hg2;have HI3:=Lib.hid (HIH.out _ _ _ _ _ (n - H) (m - H) _ _ w2.drew (by omega) ((HDA.out.ext HE2.out).ext (Ext.refl _).drew) ((HDB.out.ext HE2.out).ext (Ext.refl _).drew) (by omega))
     go_wp2;refine qad STr 7 (by kernel_rfl) trivial (fun hHeld=>?_);(refine tkB [0,1,2,3,4,5] ?_;(iterate 6 (refine tk1 (oi:=?_) (v:=?_) (by kernel_rfl) (by first | exact hSn | exact hHeld) ?_ ?_ ?_ ?_ ?_;rotate_left 2;(simp only [xgA,xgB,xgC];rfl);rfl;(intro wS hSw;obtain hT_:=hSw;go_simp;try with_reducible rfl);(exact fun _ _ _ h=>h);(try simp only [Act.put,xgD,xgE,xgF])));refine tkE ?_);((refine qaa 6 (o:=?_) (by kernel_rfl) ?_ ?_;rotate_left 1;(simp only [xgA,xgB,xgC];rfl);intro K hK);go_simp;(refine (HI3.out).mono ?_);rintro e_ w3 ⟨g3,s3,rfl,hg3,hB3,hv3,he3⟩;go_wp2_with (fail);(try clear hSn);(have hSn:=hHeld.ext w3);(refine hK.out _ _ (fun _=>hSn) ?_);clear hK K;(try simp only [Act.put,xgD,xgE,xgF]));((refine qaa 7 (o:=?_) (by kernel_rfl) ?_ ?_;rotate_left 1;(simp only [xgA,xgB,xgC];rfl);intro K hK);go_simp;(refine hK.out _ _ (fun h=>absurd rfl h) ?_);clear hK K;refine qac (by kernel_rfl) ?_ _);have HB3:=Lib.hid hB3;have HV3:=Lib.hid hv3;have HE3:Hid (Ext w2 w3):=((Ext.refl w2).drew).trans he3;have hg3':w2.heap.size<=g3:=hg3;clear HI3 hB3 hv3 he3 hHeld hSn hg3;have HE13:=Lib.hid (HE2.out.trans HE3.out);have HMG3:Hid (Mb (Mx M w.heap.size (w.heap.size+1)) w3.drew):=HMG.out.size HE13.out.size;have hxA:=qaR d H (fun i hi=>HTA.out.2.1 i hi);have hxB:=qaR e H (fun i hi=>HTB.out.2.1 i hi);have hyA:=qaR (fun i=>d (H+i)) (n - H) (fun i hi=>HDA.out.2.1 i hi);have hyB:=qaR (fun i=>e (H+i)) (m - H) (fun i hi=>HDB.out.2.1 i hi)
     have hbd:nv d n*nv e m<4294967296 ^ (n+m):=by
      rw [Nat.pow_add];exact Nat.mul_lt_mul'' (qcH d n HA1.out.2.1) (qcH e m HA2.out.2.1)
     have HBD:=Lib.hid hbd;have HNA0:Hid (qcc (Mx M w.heap.size (w.heap.size+1)) w3.drew _ (nv d H)):=⟨_,_,(HTA.out.ext HE13.out).ext (Ext.refl _).drew,rfl⟩;have HNA1:Hid (qcc (Mx M w.heap.size (w.heap.size+1)) w3.drew _ (nv (fun i=>d (H+i)) (n - H))):=⟨_,_,(HDA.out.ext HE13.out).ext (Ext.refl _).drew,rfl⟩;have HNB0:Hid (qcc (Mx M w.heap.size (w.heap.size+1)) w3.drew _ (nv e H)):=⟨_,_,(HTB.out.ext HE13.out).ext (Ext.refl _).drew,rfl⟩;have HNB1:Hid (qcc (Mx M w.heap.size (w.heap.size+1)) w3.drew _ (nv (fun i=>e (H+i)) (m - H))):=⟨_,_,(HDB.out.ext HE13.out).ext (Ext.refl _).drew,rfl⟩;clear HTA HTB HDA HDB HA1 HA2 hbd;generalize nv d H=A0 at *;generalize nv e H=B0 at *;generalize nv (fun i=>d (H+i)) (n - H)=A1 at *;generalize nv (fun i=>e (H+i)) (m - H)=B1 at *
     have hzA:dlen (A0+A1)<=H+1:=by have:=qco A0 A1;omega
     have hzB:dlen (B0+B1)<=H+1:=by have:=qco B0 B1;omega
     have HKM:=Lib.hid (qqG A0 A1 B0 B1)
     have HKS:Hid (A0*B0+4294967296 ^ H*4294967296 ^ H*(A1*B1)+4294967296 ^ H*(A0*B1+A1*B0)=nv d n*nv e m):=by
      show _=_;rw [HVA.out,HVB.out];exact qqF A0 A1 B0 B1 _
     have CTA:=Lib.hid (qeJ _ _ A0 A1 w3.drew HMG3.out HNA0.out HNA1.out (by omega));clear HNA0 HNA1 HVA HVB;go_wp2;refine qad STr 16 (by kernel_rfl) trivial (fun hHeld=>?_);(refine tkB [0,1,2,3,4,5,7,8,9,10,11,12] ?_;(iterate 12 (refine tk1 (oi:=?_) (v:=?_) (by kernel_rfl) (by first | exact hSn | exact hHeld) ?_ ?_ ?_ ?_ ?_;rotate_left 2;(simp only [xgA,xgB,xgC];rfl);rfl;(intro wS hSw;obtain hT_:=hSw;go_simp;try with_reducible rfl);(exact fun _ _ _ h=>h);(try simp only [Act.put,xgD,xgE,xgF])));refine tkE ?_);((refine qaa 6 (o:=?_) (by kernel_rfl) ?_ ?_;rotate_left 1;(simp only [xgA,xgB,xgC];rfl);intro K hK);go_simp;(refine (CTA.out).mono ?_);rintro e_ w4 ⟨u6,rfl,hu6,he4⟩;go_wp2_with (fail);(try clear hSn);(have hSn:=hHeld.ext w4);(refine hK.out _ _ (fun _=>hSn) ?_);clear hK K;(try simp only [Act.put,xgD,xgE,xgF]));((refine qaa 13 (o:=?_) (by kernel_rfl) ?_ ?_;rotate_left 1;(simp only [xgA,xgB,xgC];rfl);intro K hK);go_simp;(refine (qeJ _ _ B0 B1 w4 (HMG3.out.ext he4) (HNB0.out.ext he4) (HNB1.out.ext he4) (by omega)).mono ?_);rintro e_ w5 ⟨u13,rfl,hu13,he5⟩;go_wp2_with (fail);(try clear hSn);(have hSn:=hHeld.ext w5);(refine hK.out _ _ (fun _=>hSn) ?_);clear hK K;(try simp only [Act.put,xgD,xgE,xgF]));obtain ⟨XA,hXA,hXAv,_⟩:=(hu6.ext he5).len;obtain ⟨XB,hXB,hXBv,_⟩:=hu13.len;obtain ⟨uaA,ucA,rfl⟩:=qap hXA;obtain ⟨uaB,ucB,rfl⟩:=qap hXB;have ctr:=HIH.out _ _ _ _ _ _ _ XA XB w5 (by omega) hXA hXB (by omega);rw [hXAv,hXBv] at ctr;have CTP:=Lib.hid ctr;clear ctr hXA hXB hXAv hXBv hu6 hu13 CTA
     ((refine qaa 14 (o:=?_) (by kernel_rfl) ?_ ?_;rotate_left 1;(simp only [xgA,xgB,xgC];rfl);intro K hK);go_simp;(refine (CTP.out).mono ?_);rintro e_ w6 ⟨g6,s6,rfl,hg6,hB6,hv6,he6⟩;go_wp2_with (fail);(try clear hSn);(have hSn:=hHeld.ext w6);(refine hK.out _ _ (fun _=>hSn) ?_);clear hK K;(try simp only [Act.put,xgD,xgE,xgF]));(refine qaa 15 (o:=?_) (by kernel_rfl) ?_ ?_;rotate_left 1;(simp only [xgA,xgB,xgC];rfl);intro K hK);go_simp;refine hK.out _ _ (fun _=>trivial) ?_;clear hK K;(try simp only [Act.put,xgD,xgE,xgF]);refine qac (by kernel_rfl) ?_ _;generalize hlA:dlen (A0+A1)=lA at *;generalize hlB:dlen (B0+B1)=lB at *;have HB6:=Lib.hid hB6;have HV6:=Lib.hid hv6;have HE6:Hid (Ext w3 w6):=((Ext.refl w3).drew).trans ((he4.trans he5).trans he6)
     have hg6':w3.heap.size<=g6:=by have:=((he4.trans he5)).size;exact Nat.le_trans this hg6
     have HMG6:=Lib.hid (HMG3.out.ext ((he4.trans he5).trans he6));clear hB6 hv6 he4 he5 he6 hHeld hSn hg6 CTP HNB0 HNB1 hlA hlB;have hs3:=HE2.out.size;have hs6:=HE3.out.size;have HB26:=Lib.hid ((HB2.out.ext HE3.out).ext HE6.out);have HB36:=Lib.hid (HB3.out.ext HE6.out);have hnL:qcc (Mx M w.heap.size (w.heap.size+1)) w6 (.slice (some ⟨g2,0,none⟩) (H+H) (H+H)) (A0*B0):=⟨_,_,qbr.of_blk HB26.out.1 (fun hg=>hg.elim (fun h=>absurd (HMG.out _ (.inl h)) (by omega)) (fun h=>by omega)) _ (Nat.le_refl _) (by omega) (Nat.le_refl _) (by unfold maxLen;omega) (fun _ _=>rfl) HB26.out.2,HV2.out⟩;have hnH:qcc (Mx M w.heap.size (w.heap.size+1)) w6 (.slice (some ⟨g3,0,none⟩) (n - H+(m - H)) (n - H+(m - H))) (A1*B1):=⟨_,_,qbr.of_blk HB36.out.1 (fun hg=>hg.elim (fun h=>absurd (HMG.out _ (.inl h)) (by omega)) (fun h=>by omega)) _ (Nat.le_refl _) (by omega) (Nat.le_refl _) (by unfold maxLen;omega) (fun _ _=>rfl) HB36.out.2,HV3.out⟩;have hnM:qcc (Mx M w.heap.size (w.heap.size+1)) w6 (.slice (some ⟨g6,0,none⟩) (lA+lB) (lA+lB)) ((A0+A1)*(B0+B1)):=⟨_,_,qbr.of_blk HB6.out.1 (fun hg=>hg.elim (fun h=>absurd (HMG.out _ (.inl h)) (by omega)) (fun h=>by omega)) _ (Nat.le_refl _) (by omega) (Nat.le_refl _) (by unfold maxLen;omega) (fun _ _=>rfl) HB6.out.2,HV6.out⟩;have HNM:=Lib.hid hnM
     have CTS:=Lib.hid (qeJ _ _ (A0*B0) (A1*B1) w6 HMG6.out hnL hnH (by
      refine Nat.le_trans (qal HKM.out.1) ?_;have h1:=hnM.dlen
      omega))
     clear hnL hnH hnM HB6 HV6 hzA hzB;go_wp2_with (fail);refine CTS.out.mono ?_;rintro q w7 ⟨u7,rfl,hu7,he7⟩;have ctr:=qgE _ _ ((A0+A1)*(B0+B1)) (A0*B0+A1*B1) w7 (HMG6.out.ext he7) (HNM.out.ext he7) hu7.toV HKM.out.1;rw [HKM.out.2] at ctr;have CTU:=Lib.hid ctr;have HE7:=Lib.hid (HE6.out.trans he7);have HMG7:=Lib.hid (HMG6.out.ext he7);clear ctr hu7 he7 CTS HNM HKM HMG6;go_wp2_with (fail);refine CTU.out.mono ?_;rintro q w8 ⟨u8,rfl,hu8,he8⟩;have HE8:=Lib.hid (HE7.out.trans he8);have HMG8:=Lib.hid (HMG7.out.ext he8);obtain ⟨X,hX,hXv,_⟩:=hu8.len;obtain ⟨ua,uc,rfl⟩:=qap hX;have HX:=Lib.hid hX;have HXV:=Lib.hid hXv;have hDz:=(HD1.out.ext HE13.out).ext HE8.out;have HB28:=Lib.hid ((HB2.out.ext HE3.out).ext HE8.out);have HB38:=Lib.hid (HB3.out.ext HE8.out);clear hX hXv hu8 he8 CTU HE7 HMG7 HB26 HB36 HB2 HB3;obtain ⟨xl,hxl⟩ : ∃ xl,xl=dlen (A0*B1+A1*B0):=⟨_,rfl⟩;have HXL:=Lib.hid hxl;rw [<- hxl] at HX HXV ⊢;clear hxl
     go_wp2_with (refine qbf rfl (.tmp 99) (.tmp 100) _ _ rfl 155 Tryz.underlying28 (by rw [hi];simp [hz1]) _ _ _ _ _ _ rfl rfl w.heap.size 0 155 (n+m) _ hDz.1 (H+H) ?k1 (fun i=>.int .u32 (s2 i)) ?k2 ?k3 ?k4 ?_)
     case k1=>show _=min _ _;omega
     case k2=>exact fun _=>⟨g2,0,⟨rfl,rfl⟩,fun j hj=>by rw [Nat.zero_add];exact HB28.out.1.cell hj⟩
     case k3=>omega
     case k4=>exact fun j hj=>rfl
     intro w9 hB9 hg9;have hD9:=qdN hB9 (fun _ _=>(by decide:0<4294967296)) (fun i hi=>HB28.out.2 i hi);obtain ⟨s9,hs9⟩ : ∃ s9:Nat->Nat,s9=fun i=>if 0<=i/\i<0+(H+H) then s2 (i - 0) else 0:=⟨_,rfl⟩;rw [<- hs9] at hD9;have HS9:=Lib.hid hs9;clear hs9;have hB39:qcW w9 g3 (n - H+(m - H)) s3:=⟨HB38.out.1.grown hg9 (by intro e5;cases e5;omega),HB38.out.2⟩;have HG9:=Lib.hid hg9;have HB39:=Lib.hid hB39
     have hwz:2*(H:Int)<=(n:Int)+(m:Int):=by omega
     have hwz2:((2*(H:Int)).toNat)=2*H:=by omega
     have hwz3:n+m≠2*H:=by omega
     clear hB9 hg9 hDz hB39
     go_wp2_with (refine qbf rfl (.tmp 105) (.tmp 106) _ _ rfl 155 Tryz.underlying28 (by rw [hi];simp [hz1]) _ _ _ _ _ _ rfl rfl w.heap.size (2*H) 155 (n+m) _ hD9.1 (n - H+(m - H)) ?k1 (fun i=>.int .u32 (s3 i)) ?k2 ?k3 ?k4 ?_)
     case k1=>show _=min _ _;omega
     case k2=>exact fun _=>⟨g3,0,⟨rfl,rfl⟩,fun j hj=>by rw [Nat.zero_add];exact HB39.out.1.cell hj⟩
     case k3=>omega
     case k4=>exact fun j hj=>rfl
     intro w10 hB10 hg10;have hD10:=qdN hB10 hD9.2 (fun i hi=>HB39.out.2 i hi);have hv10:=ql1 (H+H) (n - H+(m - H)) (2*H) (n+m) s2 s3 (by omega) (by omega);rw [HS9.out] at hD10;generalize (fun i=>if 2*H<=i/\i<2*H+(n - H+(m - H)) then s3 (i - 2*H) else if 0<=i/\i<0+(H+H) then s2 (i - 0) else 0)=s10 at hD10 hv10;rw [HV2.out,HV3.out,show H+H=H+H from rfl,Nat.pow_add] at hv10;have hk10:Kp (Mx M w.heap.size (w.heap.size+1)) w8 w10:=(Kp.grown HG9.out (fun k hk=>by cases hk;exact Mx.at (by omega))).trans (Kp.grown hg10 (fun k hk=>by cases hk;exact Mx.at (by omega)));have hE10:Ext w w10:=((((HE1.out.trans HE13.out).trans HE8.out).grown HG9.out (fun k hk=>by cases hk;exact Nat.le_refl _))).grown hg10 (fun k hk=>by cases hk;exact Nat.le_refl _);have HX10:=Lib.hid (HX.out.kp hk10);have HE10:=Lib.hid hE10
     have hfin:nv s10 (n+m)+4294967296 ^ H*nv X xl=nv d n*nv e m:=by rw [hv10,HXV.out];exact HKS.out
     have hXl:xl<=n+m - H:=by
      have h1:dlen (nv X xl)<=n+m - H:=by
       rw [qan]
       have h2:4294967296 ^ H*nv X xl<4294967296 ^ H*4294967296 ^ (n+m - H):=by
        rw [<- Nat.pow_add,show H+(n+m - H)=n+m by omega];have:=HBD.out;omega
       exact Nat.lt_of_mul_lt_mul_left h2
      rw [HXL.out];rw [HXV.out] at h1;exact h1
     have CTI := Lib.hid (qfk w.heap.size H (n + m - H) (n + m - H) (n + m) ua uc _ s10 X w10 hD10 (by omega) HX10.out (fun h0 p hp => by
       subst hp;rcases HX10.out.2.2 with ⟨h6,_⟩ | ⟨b',off',cap',hv,_,_,hb',_⟩
       ·omega
       ·simp only [Value.slice.injEq,true_and,Option.some.injEq] at hv
        rw [hv.1];exact fun e6=>hb'.2 ((show b'=w.heap.size from e6) ▸ Mx.at ⟨Nat.le_refl _,Nat.lt_succ_self _⟩)) hXl (by omega) (qjJ (T:=n+m) (by omega) (by rw [hfin];exact HBD.out)))
     have HFIN:=Lib.hid hfin;clear hB10 hg10 hD10 hv10 hk10 hE10 hfin hXl hD9 HX HXV HG9 HB39 HB28 HB38;go_wp2_with (fail);refine CTI.out.mono ?_;rintro q w11 ⟨s11,rfl,hD11,hs11,hv11,hg11⟩;have hval:=qjI (T:=n+m) (by omega) hs11 hv11;rw [HFIN.out] at hval;have HF:Hid (qcQ w (n+m) (nv d n*nv e m) (.returned (.slice (some ⟨w.heap.size,0,none⟩) (n+m) (n+m))) w11):=⟨_,_,rfl,Nat.le_refl _,hD11,hval,HE10.out.grown hg11 (fun k hk=>by cases hk;exact Nat.le_refl _)⟩;clear hval hD11 hs11 hv11 hg11 CTI;go_wp2;go_ret;exact HF.out
theorem qiF (K:Nat):qkh K:=by
 induction K with
 | zero=>intro M a1 a2 c1 c2 n m d e w hK h h' hL;exact qdJ a1 a2 c1 c2 n m d e w h h' hL (.inl (by omega))
 | succ K ih=>
  intro M a1 a2 c1 c2 n m d e w hK h h' hL
  by_cases hs:n<48∨m<48
  ·exact qdJ a1 a2 c1 c2 n m d e w h h' hL hs
  ·have g:=h.more (M':=fun g=>M g/\g<w.heap.size) (fun g hg=>.inl hg.1);have g':=h'.more (M':=fun g=>M g/\g<w.heap.size) (fun g hg=>.inl hg.1)
   by_cases hlt:n<m
   ·have c:=qfT K ih _ true a2 a1 c2 c1 m n e d w g' g (by omega) (by omega) (by omega) (by omega) (fun _=>hlt) (fun g hg=>hg.2);rw [Nat.add_comm m n,Nat.mul_comm (nv e m)] at c;exact c
   ·exact qfT K ih _ false a1 a2 c1 c2 n m d e w g g' hL (by omega) (by omega) (by omega) (fun h=>(by cases h)) (fun g hg=>hg.2)


theorem qqu {M : Nat -> Prop} (v v' : Value) (n0 m0 : Nat) (d0 e0 : Nat -> Nat) (w : World) (hM : Mb M w) (h : qbr M w v n0 d0) (h' : qbr M w v' m0 e0) (hL : dlen (nv d0 n0) + dlen (nv e0 m0) <= 1099511627776) :
  Calls Tryz.prog 123 #[v,v'] w fun q w'=>∃ u,q = .returned u/\qcY M w' u (nv d0 n0*nv e0 m0)/\Ext w w':=by
 have t1:=qin d0 n0 h.2.1;have t2:=qin e0 m0 h'.2.1;rw [<- t1,<- t2] at hL;clear t1 t2;have E1:Hid (nv d0 (tl d0 n0)=nv d0 n0):=qdk d0 n0;have E2:Hid (nv e0 (tl e0 m0)=nv e0 m0):=qdk e0 m0
 go_enter Tryz.func123,Tryz.ntmps123
 go_wp2_with (fail);refine (qbn v n0 d0 w h).mono ?_;rintro e w' ⟨v1,rfl,hv1,rfl⟩;go_wp2_with (fail);refine (qbn v' m0 e0 w h').mono ?_;rintro e w' ⟨v2,rfl,hv2,rfl⟩;generalize tl d0 n0=n at *;generalize tl e0 m0=m at *;obtain ⟨a1,cap1,rfl⟩:=qap hv1;obtain ⟨a2,cap2,rfl⟩:=qap hv2;clear h h';go_wp2_with (fail);refine (qiF (n+m) M a1 a2 cap1 cap2 n m d0 e0 w (Nat.le_refl _) hv1 hv2 (by omega)).mono ?_;rintro e w1 ⟨g,s,rfl,hg,hB,hv,he⟩;have c:=qbj (M:=M) hB.1 (hM.new hg) (by unfold maxLen;omega) hB.2 (by have:=qaR _ _ hB.2;omega);rw [hv,E1.out,E2.out] at c;have C:=Lib.hid c;clear c hv hB;go_wp2_with (fail);refine C.out.mono ?_;rintro e' w2 ⟨u,rfl,hu,rfl⟩;go_wp2;go_ret;exact ⟨u,rfl,hu,he⟩
theorem qoj {M : Nat -> Prop} (v v' : Value) (x y : Nat) (w : World) (hM : Mb M w) (h : qcc M w v x) (h' : qcc M w v' y) (hL : dlen x + dlen y <= 1099511627776) :
  Calls Tryz.prog 123 #[v,v'] w fun q w'=>∃ u,q = .returned u/\qcY M w' u (x*y)/\Ext w w':=by
 obtain ⟨n,d,hr,rfl⟩:=h;obtain ⟨m,d',hr',rfl⟩:=h';exact qqu v v' n m d d' w hM hr hr' hL
end Go.Proofs.YtmcfpnmoklnhoaaGreat
