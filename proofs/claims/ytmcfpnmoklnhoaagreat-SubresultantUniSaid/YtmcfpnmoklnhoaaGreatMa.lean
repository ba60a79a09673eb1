/- Ma -/
import Derived.Test.YtmcfpnmoklnhoaaGreatRows
import Derived.WalkKit
import Derived.WalkSpells
import Derived.WalkLawsBesides
import Derived.Lib.Hide
import Derived.Laws.CopyOwn
import Derived.Deep.QuietTactic
import Derived.BigQuiet
import Derived.Deep.DeepCutAuto
import Derived.Deep.RegionHeld3
set_option linter.unusedVariables false
set_option maxRecDepth 100000
set_option maxHeartbeats 400000000
set_option linter.unusedSimpArgs false
namespace Go.Proofs.YtmcfpnmoklnhoaaGreat
def nv(d:Nat->Nat):Nat->Nat
 |0=>0
 |n+1=>nv d n+d n*4294967296^n
def tl(d:Nat->Nat):Nat->Nat
 |0=>0
 |n+1=>if d n=0 then tl d n else n+1
def wu:Nat->Nat->Nat
 |0,_=>0
 |f+1,x=>if x=0 then 0 else wu f (x/4294967296)+1
def az(x:Nat):Nat:=wu x x
theorem VT(n:Nat):0<4294967296^n:=Nat.pow_pos (by decide)
theorem EU(d:Nat->Nat)(n:Nat):tl d n<=n:=by
 induction n with
 |zero=>exact Nat.le_refl _
 |succ n ih=>simp only[tl];split<;>omega
theorem rV(d:Nat->Nat)(n:Nat):nv d (tl d n)=nv d n:=by
 induction n with
 |zero=>rfl
 |succ n ih=>
  simp only[tl];split
  ·rename_i h;rw[ih];simp[nv,h]
  ·rfl
theorem Hg(d:Nat->Nat)(n:Nat):tl d n=0\/d (tl d n-1)≠0:=by
 induction n with
 |zero=>exact .inl rfl
 |succ n ih=>
  simp only[tl];split
  ·exact ih
  ·rename_i h;exact .inr (by simpa using h)
theorem qou(d:Nat->Nat)(n:Nat):tl d (n+1)=if d n=0 then tl d n else n+1:=rfl
theorem nV(d e:Nat->Nat)(n:Nat)(h:∀i,i<n->d i=e i):nv d n=nv e n:=by
 induction n with
 |zero=>rfl
 |succ n ih=>simp only[nv];rw[ih λi hi=>h i (by omega),h n (by omega)]
theorem pO(d:Nat->Nat)(n:Nat)(h:∀i,i<n->d i<4294967296):nv d n<4294967296^n:=by
 induction n with
 |zero=>simp[nv]
 |succ n ih=>
  have h1:=ih λi hi=>h i (by omega);have h2:=h n (by omega);simp only[nv,Nat.pow_succ];have h3:d n*4294967296^n<=4294967295*4294967296^n:=Nat.mul_le_mul_right _ (by omega);omega
theorem QZ(d:Nat->Nat)(n:Nat)(h:d n≠0):4294967296^n<=nv d (n+1):=by
 simp only[nv];have:1*4294967296^n<=d n*4294967296^n:=Nat.mul_le_mul_right _ (by omega);omega
theorem qxj(d:Nat->Nat)(n:Nat):nv d n=0↔tl d n=0:=by
 constructor
 ·intro h;rcases Hg d n with h0|h0
  ·exact h0
  ·by_cases hz:tl d n=0
   ·exact hz
   ·exfalso;obtain⟨m,hm⟩:∃m,tl d n=m+1:=⟨tl d n-1,by omega⟩;rw[hm]at h0;have h1:=QZ d m (by simpa using h0);rw[<-hm,rV]at h1;have:=VT m;omega
 ·intro h;rw[<-rV,h];rfl
theorem Q0(d:Nat->Nat)(n:Nat):nv d (n+1)=d 0+4294967296*nv (λi=>d (i+1)) n:=by
 induction n with
 |zero=>simp[nv]
 |succ n ih=>
  rw[nv,ih];show _=d 0+4294967296*(nv (λi=>d (i+1)) n+d (n+1)*4294967296^n);rw[Nat.mul_add,Nat.pow_succ]
  have:d (n+1)*(4294967296^n*4294967296)=4294967296*(d (n+1)*4294967296^n):=by
   rw[<-Nat.mul_assoc,Nat.mul_comm]
  omega
theorem wW(d:Nat->Nat)(m n:Nat):nv d (m+n)=nv d m+4294967296^m*nv (λi=>d (m+i)) n:=by
 induction n with
 |zero=>simp[nv]
 |succ n ih=>
  show nv d (m+n)+d (m+n)*4294967296^(m+n)=nv d m+4294967296^m*(nv (λi=>d (m+i)) n+d (m+n)*4294967296^n);rw[ih,Nat.mul_add,Nat.pow_add]
  have:d (m+n)*(4294967296^m*4294967296^n)=4294967296^m*(d (m+n)*4294967296^n):=by
   rw[<-Nat.mul_assoc,Nat.mul_comm (d (m+n)),Nat.mul_assoc]
  omega
theorem qsc(f x:Nat)(h:x<=f):x<4294967296^(wu f x):=by
 induction f generalizing x with
 |zero=>have:x=0:=by omega
        subst this;simp[wu]
 |succ f ih=>
  simp only[wu];split
  ·rename_i h0;subst h0;simp
  ·rw[Nat.pow_succ];have h1:=ih (x/4294967296) (by omega);omega
theorem qsb(f x:Nat)(h:x<=f)(h0:x≠0):4294967296^(wu f x-1)<=x:=by
 induction f generalizing x with
 |zero=>omega
 |succ f ih=>
  simp only[wu];rw[if_neg h0]
  by_cases h1:x/4294967296=0
  ·have:wu f (x/4294967296)=0:=by rw[h1];cases f<;>simp[wu]
   rw[this];simp;omega
  ·have h2:=ih (x/4294967296) (by omega) h1
   have h3:wu f (x/4294967296)≠0:=by
    cases f with
    |zero=>omega
    |succ f=>simp[wu,h1]
   obtain⟨k,hk⟩:∃k,wu f (x/4294967296)=k+1:=⟨_,(Nat.succ_pred h3).symm⟩;rw[hk]at h2⊢;simp only[Nat.add_sub_cancel]at h2⊢;rw[Nat.pow_succ];omega
theorem Al(x:Nat):x<4294967296^az x:=qsc x x (Nat.le_refl _)
theorem qhA(x:Nat)(h:x≠0):4294967296^(az x-1)<=x:=qsb x x (Nat.le_refl _) h
theorem o9(x k:Nat):az x<=k↔x<4294967296^k:=by
 constructor
 ·intro h;exact Nat.lt_of_lt_of_le (Al x) (Nat.pow_le_pow_right (by decide) h)
 ·intro h
  by_cases h0:x=0
  ·subst h0;simp[az,wu]
  ·have h1:=qhA x h0;have h2:=(Nat.pow_lt_pow_iff_right (by decide:1<4294967296)).1 (Nat.lt_of_le_of_lt h1 h);omega
theorem qhC:az 0=0:=rfl
theorem ji{x y:Nat}(h:x<=y):az x<=az y:=(o9 _ _).2 (Nat.lt_of_le_of_lt h (Al y))
theorem Ug(d:Nat->Nat)(n:Nat)(hd:∀i,i<n->d i<4294967296)(h:n=0\/d (n-1)≠0):az (nv d n)=n:=by
 cases n with
 |zero=>rfl
 |succ n=>
  have h1:=pO d (n+1) hd;have h2:=QZ d n (by simpa using h);have h3:=(o9 _ _).2 h1
  by_cases h4:az (nv d (n+1))<=n
  ·have:=(o9 _ _).1 h4;omega
  ·omega
theorem xO(d:Nat->Nat)(n:Nat)(hd:∀i,i<n->d i<4294967296):az (nv d n)<=n:=(o9 _ _).2 (pO d n hd)
theorem Wp(d:Nat->Nat)(n:Nat)(hd:∀i,i<n->d i<4294967296):tl d n=az (nv d n):=by
 have h1:=EU d n;rw[<-rV d n,Ug d (tl d n) (λi hi=>hd i (by omega)) (Hg d n)]
theorem Lf(x y:Nat):az (x+y)<=max (az x) (az y)+1:=by
 rw[o9,Nat.pow_succ];have h1:=Al x;have h2:=Al y;have h3:4294967296^az x<=4294967296^max (az x) (az y):=Nat.pow_le_pow_right (by decide) (Nat.le_max_left ..);have h4:4294967296^az y<=4294967296^max (az x) (az y):=Nat.pow_le_pow_right (by decide) (Nat.le_max_right ..);omega
theorem qJ(x y:Nat):az (x*y)<=az x+az y:=by
 rw[o9,Nat.pow_add];exact Nat.mul_lt_mul'' (Al x) (Al y)
theorem Uh{x:Nat}(h:x≠0):0<az x:=by
 rcases Nat.eq_zero_or_pos (az x)with h0|h0
 ·have:=Al x;rw[h0]at this;omega
 ·exact h0
theorem qhz{x:Nat}:az x=0↔x=0:=by
 constructor
 ·intro h;rcases Nat.eq_zero_or_pos x with h0|h0
  ·exact h0
  ·have:=Uh (x:=x) (by omega);omega
 ·intro h;subst h;rfl
def kZ(x y:Nat):Int:=if x<y then-1 else if y<x then 1 else 0
theorem TZ{x y:Nat}(h:x<y):kZ x y= -1:=by unfold kZ;rw[if_pos h]
theorem qg7{x y:Nat}(h:y<x):kZ x y=1:=by unfold kZ;rw[if_neg (by omega),if_pos h]
theorem qrq{x y:Nat}(h:x=y):kZ x y=0:=by unfold kZ;rw[if_neg (by omega),if_neg (by omega)]
theorem qcW(d e:Nat->Nat)(n m:Nat)(hd:∀i,i<n->d i<4294967296)(h:n<m)(hm:m=0\/e (m-1)≠0):nv d n<nv e m:=by
 obtain⟨k,rfl⟩:∃k,m=k+1:=⟨m-1,by omega⟩;have h1:=pO d n hd;have h2:=QZ e k (by simpa using hm);have h3:4294967296^n<=4294967296^k:=Nat.pow_le_pow_right (by decide) (by omega);omega
theorem qmW(d e:Nat->Nat)(n i:Nat)(hd:∀j,j<n->d j<4294967296)(hi:i<n)(hs:∀j,i<j->j<n->d j=e j)(hl:d i<e i):nv d n<nv e n:=by
 induction n with
 |zero=>omega
 |succ n ih=>
  simp only[nv]
  by_cases hn:i=n
  ·subst hn;have h1:=pO d i λj hj=>hd j (by omega);have h2:(d i+1)*4294967296^i<=e i*4294967296^i:=Nat.mul_le_mul_right _ (by omega);rw[Nat.add_mul]at h2;omega
  ·have h1:=ih (λj hj=>hd j (by omega)) (by omega) λj h1 h2=>hs j h1 (by omega);rw[hs n (by omega) (by omega)];omega
def gG(x y c:Nat):Nat:=(x+y+c)%4294967296
def fI(x y c:Nat):Nat:=(x+y+c)/4294967296
def yz(x y c:Nat):Nat:=(x+4294967296-y-c)%4294967296
def gN(x y:Nat):Nat:=(x*y)%4294967296
def jT(x y:Nat):Nat:=(x*y)/4294967296
def borrow(x y c:Nat):Nat:=if x<y+c then 1 else 0
def cy(d e:Nat->Nat):Nat->Nat
 |0=>0
 |k+1=>(d k+e k+cy d e k)/4294967296
def sd(d e:Nat->Nat)(k:Nat):Nat:=(d k+e k+cy d e k)%4294967296
theorem qhh(d e:Nat->Nat)(n:Nat)(hd:∀i,i<n->d i<4294967296)(he:∀i,i<n->e i<4294967296):cy d e n<=1:=by
 induction n with
 |zero=>simp[cy]
 |succ n ih=>
  have h1:=ih (λi hi=>hd i (by omega)) λi hi=>he i (by omega);have h2:=hd n (by omega);have h3:=he n (by omega);simp only[cy];omega
theorem V6(d e:Nat->Nat)(k:Nat):sd d e k<4294967296:=Nat.mod_lt _ (by decide)
theorem qmY(d e:Nat->Nat)(n:Nat):nv (sd d e) n+cy d e n*4294967296^n=nv d n+nv e n:=by
 induction n with
 |zero=>simp[nv,cy]
 |succ n ih=>
  simp only[nv,cy,sd];have h:=Nat.div_add_mod (d n+e n+cy d e n) 4294967296
  have h2:(d n+e n+cy d e n)%4294967296*4294967296^n+(d n+e n+cy d e n)/4294967296*4294967296^(n+1)=(d n+e n+cy d e n)*4294967296^n:=by
   rw[Nat.pow_succ]
   conv=>rhs;rw[<-h]
   rw[Nat.add_mul,Nat.mul_comm 4294967296,Nat.mul_assoc,Nat.mul_comm 4294967296 (4294967296^n)];omega
  rw[Nat.add_mul,Nat.add_mul]at h2;omega
def cut(e:Nat->Nat)(m:Nat)(i:Nat):Nat:=if i<m then e i else 0
theorem qxc(e:Nat->Nat)(m k:Nat):nv (cut e m) (m+k)=nv e m:=by
 induction k with
 |zero=>exact nV _ _ _ λi hi=>by unfold cut;rw[if_pos (by simpa using hi)]
 |succ k ih=>rw[<-Nat.add_assoc];simp only[nv];rw[ih];unfold cut;rw[if_neg (by omega)];simp
theorem VJ(e:Nat->Nat)(m n:Nat)(h:m<=n):nv (cut e m) n=nv e m:=by
 obtain⟨k,rfl⟩:∃k,n=m+k:=⟨n-m,by omega⟩;exact qxc e m k
theorem qac(e:Nat->Nat)(m:Nat)(he:∀i,i<m->e i<4294967296)(i:Nat):cut e m i<4294967296:=by
 unfold cut;split
 ·exact he i (by assumption)
 ·decide
def ET(d e:Nat->Nat)(n:Nat)(i:Nat):Nat:=if i<n then sd d e i else cy d e n
theorem qxg(d e:Nat->Nat)(n:Nat):nv (ET d e n) (n+1)=nv d n+nv e n:=by
 simp only[nv];rw[nV (ET d e n) (sd d e) n λi hi=>by unfold ET;rw[if_pos hi], <-qmY];unfold ET;rw[if_neg (by omega)]
def bw(d e:Nat->Nat):Nat->Nat
 |0=>0
 |k+1=>if d k<e k+bw d e k then 1 else 0
def dd(d e:Nat->Nat)(k:Nat):Nat:=(d k+4294967296-e k-bw d e k)%4294967296
theorem ZN(d e:Nat->Nat)(k:Nat):bw d e k<=1:=by
 cases k with
 |zero=>simp[bw]
 |succ k=>simp only[bw];split<;>omega
theorem qaf(d e:Nat->Nat)(k:Nat):dd d e k<4294967296:=Nat.mod_lt _ (by decide)
theorem qxd(d e:Nat->Nat)(n:Nat)(hd:∀i,i<n->d i<4294967296)(he:∀i,i<n->e i<4294967296):nv (dd d e) n+nv e n=nv d n+bw d e n*4294967296^n:=by
 induction n with
 |zero=>simp[nv,bw]
 |succ n ih=>
  have h1:=ih (λi hi=>hd i (by omega)) λi hi=>he i (by omega);have h2:=hd n (by omega);have h3:=he n (by omega);have h4:=ZN d e n
  have h5:dd d e n+e n+bw d e n=d n+bw d e (n+1)*4294967296:=by
   simp only[dd,bw];split<;>omega
  simp only[nv]
  have h6:(dd d e n+e n+bw d e n)*4294967296^n=(d n+bw d e (n+1)*4294967296)*4294967296^n:=by rw[h5]
  have h7:bw d e (n+1)*4294967296*4294967296^n=bw d e (n+1)*4294967296^(n+1):=by
   rw[Nat.mul_assoc,Nat.mul_comm 4294967296 (4294967296^n), <-Nat.pow_succ]
  simp only[Nat.add_mul]at h6;omega
theorem qxe(d e:Nat->Nat)(n:Nat)(hd:∀i,i<n->d i<4294967296)(he:∀i,i<n->e i<4294967296)(h:nv e n<=nv d n):nv (dd d e) n=nv d n-nv e n:=by
 have h1:=qxd d e n hd he;have h2:=pO (dd d e) n λi _=>qaf d e i;have h3:=ZN d e n
 have h4:bw d e n=0:=by
  rcases Nat.eq_zero_or_pos (bw d e n)with h5|h5
  ·exact h5
  ·have h6:bw d e n=1:=by omega
   rw[h6]at h1;omega
 rw[h4]at h1;omega
def cK(s:Nat->Nat)(k u:Nat):Nat->Nat:=λi=>if i=k then u else s i
theorem qm0(s:Nat->Nat)(k u N:Nat)(h:k<N):nv (cK s k u) N+s k*4294967296^k=nv s N+u*4294967296^k:=by
 induction N with
 |zero=>omega
 |succ N ih=>
  simp only[nv]
  by_cases hk:k=N
  ·subst hk;rw[nV (cK s k u) s k λi hi=>by unfold cK;rw[if_neg (by omega)]];unfold cK;rw[if_pos rfl];omega
  ·have:=ih (by omega)
   have h2:cK s k u N=s N:=by unfold cK;rw[if_neg (by omega)]
   rw[h2];omega
theorem qwD(x y r c:Nat)(hx:x<4294967296)(hy:y<4294967296)(hr:r<4294967296)(hc:c<4294967296):
 jT x y+fI (gN x y) r 0+fI (gG (gN x y) r 0) c 0<4294967296/\
 gG (gG (gN x y) r 0) c 0+4294967296*(jT x y+fI (gN x y) r 0+fI (gG (gN x y) r 0) c 0)=x*y+r+c:=by
 have h1:x*y<=4294967295*4294967295:=Nat.mul_le_mul (by omega) (by omega);unfold jT gN fI gG;generalize x*y=p at*;omega
theorem qmm(x y:Nat)(hx:x<4294967296)(hy:y<4294967296):jT x y<4294967296:=by
 have h1:x*y<=4294967295*4294967295:=Nat.mul_le_mul (by omega) (by omega);unfold jT;omega
theorem QS(x y:Nat):gN x y<4294967296:=Nat.mod_lt _ (by decide)
theorem IL(x y c:Nat):gG x y c<4294967296:=Nat.mod_lt _ (by decide)
theorem qyr(s:Nat->Nat)(N i j x y c c' u V W:Nat)(hk:i+j<N)(h:nv s N+c*4294967296^(i+j)=V+x*W*4294967296^i)
 (hu:u+4294967296*c'=x*y+s (i+j)+c):nv (cK s (i+j) u) N+c'*4294967296^(i+(j+1))=V+x*(W+y*4294967296^j)*4294967296^i:=by
 have h1:=qm0 s (i+j) u N hk
 have h2:(u+4294967296*c')*4294967296^(i+j)=(x*y+s (i+j)+c)*4294967296^(i+j):=by rw[hu]
 have h3:c'*4294967296^(i+(j+1))=4294967296*c'*4294967296^(i+j):=by
  rw[<-Nat.add_assoc,Nat.pow_succ, <-Nat.mul_assoc,Nat.mul_comm, <-Nat.mul_assoc]
 have h4:x*(W+y*4294967296^j)*4294967296^i=x*W*4294967296^i+x*y*4294967296^(i+j):=by
  rw[Nat.mul_add,Nat.add_mul,Nat.pow_add, <-Nat.mul_assoc x y,Nat.mul_assoc (x*y),Nat.mul_comm (4294967296^j)]
 rw[h3,h4];simp only[Nat.add_mul]at h2;omega
def inf(s X:Nat->Nat)(off j:Nat):Nat->Nat:=λq=>if off<=q/\q<off+j then sd (λi=>s (off+i)) X (q-off)else s q
theorem qlQ(s X:Nat->Nat)(off j:Nat):cK (inf s X off j) (off+j) (sd (λi=>s (off+i)) X j)=inf s X off (j+1):=by
 funext q;unfold cK inf
 by_cases h:q=off+j
 ·subst h;rw[if_pos rfl,if_pos ⟨by omega,by omega⟩,show off+j-off=j from by omega]
 ·rw[if_neg h]
  by_cases h2:off<=q/\q<off+j
  ·rw[if_pos h2,if_pos ⟨h2.1,by omega⟩]
  ·rw[if_neg h2,if_neg (by omega)]
theorem qlP(s X:Nat->Nat)(off j:Nat):inf s X off j (off+j)=s (off+j):=by unfold inf;rw[if_neg (by omega)]
theorem qyH(D X:Nat->Nat)(N:Nat)(hD:∀i,i<N->D i<4294967296)(j:Nat)(hc:cy D X j=0)(hX:∀i,j<=i->X i=0)(i:Nat)(hi:j+i<=N):cy D X (j+i)=0/\(j+i<N->sd D X (j+i)=D (j+i)):=by
 induction i with
 |zero=>
  refine⟨hc,λh=>?_⟩;unfold sd;rw[Nat.add_zero,hc,hX j (Nat.le_refl _)];exact Nat.mod_eq_of_lt (by have:=hD j (by omega);omega)
 |succ i ih=>
  obtain⟨h1,h2⟩:=ih (by omega)
  have h3:cy D X (j+i+1)=0:=by
   simp only[cy];rw[h1,hX (j+i) (by omega)];have:=hD (j+i) (by omega);omega
  refine⟨h3,λh=>?_⟩;unfold sd;rw[<-Nat.add_assoc,h3,hX (j+i+1) (by omega)];exact Nat.mod_eq_of_lt (by have:=hD (j+i+1) (by omega);omega)
theorem qlR(s X:Nat->Nat)(off N j:Nat)(hD:∀i,i<N->s (off+i)<4294967296)(hX:∀i,i<N->X i<4294967296)(Gg:nv (λi=>s (off+i)) N+nv X N<4294967296^N)(hj:j<=N)
 (h:j=N\/(cy (λi=>s (off+i)) X j=0/\∀i,j<=i->X i=0)):nv (λi=>inf s X off j (off+i)) N=nv (λi=>s (off+i)) N+nv X N:=by
 have h1:=qmY (λi=>s (off+i)) X N
 have h2:cy (λi=>s (off+i)) X N=0:=by
  rcases Nat.eq_zero_or_pos (cy (λi=>s (off+i)) X N)with h5|h5
  ·exact h5
  ·have:1*4294967296^N<=cy (λi=>s (off+i)) X N*4294967296^N:=Nat.mul_le_mul_right _ h5;omega
 rw[h2]at h1;rw[<-h1,Nat.zero_mul,Nat.add_zero];refine nV _ _ _ λi hi=>?_;unfold inf
 by_cases jL:i<j
 ·rw[if_pos ⟨by omega,by omega⟩,show off+i-off=i from by omega]
 ·rw[if_neg (by omega)];rcases h with h|⟨h,hx⟩
  ·omega
  ·have:=(qyH (λi=>s (off+i)) X N hD j h hx (i-j) (by omega)).2 (by omega);rw[show j+(i-j)=i from by omega]at this;exact this.symm
theorem qvP(s X:Nat->Nat)(off j T:Nat)(hs:∀i,i<T->s i<4294967296)(i:Nat)(hi:i<T):inf s X off j i<4294967296:=by
 unfold inf;split
 ·exact V6 _ _ _
 ·exact hs i hi
end Go.Proofs.YtmcfpnmoklnhoaaGreat
namespace Go.Proofs.YtmcfpnmoklnhoaaGreat
open Go.RowKit
def Ext(w w':World):Prop:=Below w.heap.size w w'
theorem Ext.refl(w:World):Ext w w:=Below.refl _ _
theorem Ext.size{w w':World}(h:Ext w w'):w.heap.size<=w'.heap.size:=Below.size h
theorem Ext.trans{a b c:World}(h:Ext a b)(k:Ext b c):Ext a c:=Below.trans h (Below.mono k (Ext.size h))
theorem Ext.alloc{a w:World}(h:Ext a w)(o:Obj):Ext a (w.alloc o):=Below.alloc h (Ext.size h) o
theorem Ext.drew{a w:World}(h:Ext a w):Ext a w.drew:=Below.drew h
theorem Ext.drewN{a w:World}(h:Ext a w)(n:Nat):Ext a (w.drewN n):=by
 obtain⟨h1,h2,h3,h4,h5⟩:=h;exact⟨h1,h2,h3,h4,h5⟩
theorem Ext.set{a w:World}(h:Ext a w){p:Addr}(hp:a.heap.size<=p.block)(u:Value):Ext a (w.setCell p u):=Below.setCell h hp u
theorem Ext.grown{a w w':World}{row:Option Nat}(h:Ext a w)(hg:w.grownBy w' row)(hr:∀k,row=some k->a.heap.size<=k):Ext a w':=
 Below.grown h hg (Ext.size h) hr
theorem Ext.cell{w w':World}(h:Ext w w'){b o:Nat}(hb:b<w.heap.size):w'.cell? ⟨b,o,none⟩=w.cell? ⟨b,o,none⟩:=Below.cell h (p:=⟨b,o,none⟩) hb
theorem Ext.frozen{w w':World}(h:Ext w w'){b o:Nat}(hb:b<w.heap.size):w'.frozen? ⟨b,o,none⟩=w.frozen? ⟨b,o,none⟩:=Below.frozen h (p:=⟨b,o,none⟩) hb
theorem Ext.heap{w w':World}(h:Ext w w'){b:Nat}(hb:b<w.heap.size):w'.heap[b]?=w.heap[b]?:=Below.block h b hb
theorem Ext.below{w w':World}(h:Ext w w'):Below w.heap.size w w':=h
theorem DR{W w1:World}(hb:Ext W w1):(∀b o,b<W.heap.size->w1.cell? ⟨b,o,none⟩=W.cell? ⟨b,o,none⟩)/\(∀b o,b<W.heap.size->w1.frozen? ⟨b,o,none⟩=W.frozen? ⟨b,o,none⟩):=
 ⟨λ_ _ h=>hb.cell h,λ_ _ h=>hb.frozen h⟩
def ak(w:World)(g:Nat)(t:TypeId)(n:Nat)(f:Nat->Value):Prop:=
 ∃cur:Array Value,w.heap[g]?=some (.cells cur t (0,0))/\cur.size=n/\∀i,i<n->cur[i]?=some (f i)
theorem ak.lt{w:World}{g:Nat}{t:TypeId}{n:Nat}{f:Nat->Value}(h:ak w g t n f):g<w.heap.size:=by
 obtain⟨cur,hg,_⟩:=h;exact(Array.getElem?_eq_some_iff.1 hg).1
theorem ak.cell{w:World}{g:Nat}{t:TypeId}{n:Nat}{f:Nat->Value}(h:ak w g t n f){i:Nat}(hi:i<n):w.cell? ⟨g,i,none⟩=some (f i):=by
 obtain⟨cur,hg,_,hc⟩:=h;simp[World.cell?,hg,hc i hi]
theorem ak.frozen{w:World}{g:Nat}{t:TypeId}{n:Nat}{f:Nat->Value}(h:ak w g t n f)(i:Nat):w.frozen? ⟨g,i,none⟩=false:=by
 obtain⟨cur,hg,_,hc⟩:=h;simp[World.frozen?,hg]
theorem ak.of_heap{w w':World}{g:Nat}{t:TypeId}{n:Nat}{f:Nat->Value}(h:ak w g t n f)(he:w'.heap[g]?=w.heap[g]?):ak w' g t n f:=by
 obtain⟨cur,hg,r⟩:=h;exact⟨cur,he.trans hg,r⟩
theorem ak.ext{w w':World}{g:Nat}{t:TypeId}{n:Nat}{f:Nat->Value}(h:ak w g t n f)(he:Ext w w'):ak w' g t n f:=h.of_heap (he.heap h.lt)
theorem ak.alloc{w:World}{g:Nat}{t:TypeId}{n:Nat}{f:Nat->Value}(h:ak w g t n f)(o:Obj):ak (w.alloc o) g t n f:=h.of_heap (Below.heap_alloc w o g h.lt)
theorem ak.uI{w:World}{g:Nat}{t:TypeId}{n:Nat}{f:Nat->Value}(h:ak w g t n f){p:Addr}(hp:g≠p.block)(u:Value):ak (w.setCell p u) g t n f:=
 h.of_heap (Below.heap_setCell w p u g hp)
def iK(f:Nat->Value)(j:Nat)(u:Value):Nat->Value:=λi=>if i=j then u else f i
theorem ak.set{w:World}{g:Nat}{t:TypeId}{n:Nat}{f:Nat->Value}(h:ak w g t n f)(j:Nat)(u:Value):ak (w.setCell ⟨g,j,none⟩ u) g t n (iK f j u):=by
 obtain⟨cur,hg,hs,hc⟩:=h;refine⟨cur.setIfInBounds j u,heap_setCell_same w g j cur t u hg,by simpa using hs,λi hi=>?_⟩;rw[Array.getElem?_setIfInBounds];unfold iK
 by_cases jL:i=j
 ·subst jL;simp[hs,hi]
 ·rw[if_neg (by omega),if_neg jL];exact hc i hi
theorem ak.congr{w:World}{g:Nat}{t:TypeId}{n:Nat}{f f':Nat->Value}(h:ak w g t n f)(hf:∀i,i<n->f i=f' i):ak w g t n f':=by
 obtain⟨cur,hg,hs,hc⟩:=h;exact⟨cur,hg,hs,λi hi=>by rw[hc i hi,hf i hi]⟩
theorem ak.qm5{w:World}{base g n:Nat}{e:TypeId}{size:Nat}{xs:List Value}(h:w.ownsRow base e size (.slice (some ⟨g,0,none⟩) n n) n xs)(f:Nat->Value)(hf:∀i,i<n*size->xs[i]?=some (f i)):ak w g e (n*size) f:=by
 rcases h.2 with⟨h',_⟩|⟨g',cap',cur,h',_,hg,_,_,hsz,qct⟩
 ·simp at h'
 ·simp only[Value.slice.injEq,Option.some.injEq,Addr.mk.injEq,and_true,true_and]at h';obtain⟨rfl,rfl⟩:=h';refine⟨cur,hg,hsz,λi hi=>?_⟩;have h1:=hf i hi;rw[<-qct,List.getElem?_take,if_pos hi]at h1;simpa using h1
theorem ak.VL(w:World)(cs:Array Value)(t:TypeId)(f:Nat->Value)(n:Nat)(hn:cs.size=n)(hf:∀i,i<n->cs[i]?=some (f i)):ak (w.alloc (.cells cs t)) w.heap.size t n f:=
 ⟨cs,heap_alloc_new w _,hn,hf⟩
def arr(cs:Array Value):Nat->Value:=λi=>cs.getD i undef
theorem ak.bf(w:World)(cs:Array Value)(t:TypeId)(n:Nat)(hn:cs.size=n):ak (w.alloc (.cells cs t)) w.heap.size t n (arr cs):=
 ⟨cs,heap_alloc_new w _,hn,λi hi=>by unfold arr;rw[Array.getD_eq_getD_getElem?];simp[hn,hi]⟩
theorem ak.Q3(w:World)(u:Value)(t:TypeId):ak (w.alloc (.cells #[u] t)) w.heap.size t 1 (λ_=>u):=
 ak.VL w #[u] t _ 1 rfl (by
  intro i hi
  have h0:i=0:=by omega
  subst h0;rfl)
def over(f:Nat->Value)(off k:Nat)(src:Nat->Value):Nat->Value:=λi=>if off<=i/\i<off+k then src (i-off)else f i
theorem qxw(f:Nat->Value)(off:Nat)(src:Nat->Value):over f off 0 src=f:=by
 funext i;unfold over;rw[if_neg (by omega)]
theorem DN(b o j:Nat):(⟨b,o,none⟩:Addr).add j=⟨b,o+j,none⟩:=by
 unfold Addr.add;split<;>simp_all
theorem Uq(w:World)(r:Option Nat):w.grownBy w r:=⟨rfl,rfl,rfl,Nat.le_refl _,λ_ _ _=>rfl⟩
theorem OY{a b c:World}{r:Option Nat}(h:a.grownBy b r)(k:b.grownBy c r):a.grownBy c r:=
 ⟨k.os.trans h.os,k.tape.trans h.tape,k.output.trans h.output,Nat.le_trans h.size k.size,λi hi hr=>(k.block i (Nat.lt_of_lt_of_le hi h.size) hr).trans (h.block i hi hr)⟩
theorem Ext.grownBy{a w:World}(h:Ext a w)(r:Option Nat):a.grownBy w r:=⟨Below.os h,Below.tape h,Below.output h,h.size,λk hk _=>h.heap hk⟩
theorem ak.grown{w w':World}{g:Nat}{t:TypeId}{n:Nat}{f:Nat->Value}{r:Option Nat}(h:ak w g t n f)(hg:w.grownBy w' r)(hr:some g≠r):ak w' g t n f:=h.of_heap (hg.block g h.lt hr)
theorem ak.splice{w:World}{g:Nat}{t:TypeId}{n:Nat}{f:Nat->Value}(h:ak w g t n f)(off k:Nat)(src:Nat->Value)(Gg:off+k<=n):
 ∃cur:Array Value,w.heap[g]?=some (.cells cur t (0,0))/\cur.size=n/\
  ak (w.setRow g (cur.toList.take off++((List.range k).map src++cur.toList.drop (off+((List.range k).map src).length))).toArray) g t n (over f off k src):=by
 obtain⟨cur,hg,hs,hc⟩:=h;refine⟨cur,hg,hs,_,setRow_heap w g _ _ t _ hg,by simp;omega,λi hi=>?_⟩;have hci:=hc i hi;rw[<-Array.getElem?_toList]at hci;simp only[List.length_map,List.length_range,List.getElem?_toArray];unfold over
 by_cases h1:i<off
 ·rw[List.getElem?_append_left (by simp;omega),List.getElem?_take,if_pos h1,if_neg (by omega)];exact hci
 ·rw[List.getElem?_append_right (by simp;omega)]
  have hl:(cur.toList.take off).length=off:=by simp;omega
  rw[hl]
  by_cases h2:i<off+k
  ·rw[List.getElem?_append_left (by simp;omega),if_pos ⟨by omega,h2⟩];simp only[List.getElem?_map];rw[List.getElem?_range (by omega)];rfl
  ·rw[List.getElem?_append_right (by simp;omega),if_neg (by omega),List.getElem?_drop, <-hci]
   congr 1
   simp;omega
theorem qaz(w:World)(g:Nat)(cs:Array Value):w.grownBy (w.setRow g cs) (some g):=
 ⟨rfl,rfl,rfl,by simp[World.setRow],λk _ hk=>setRow_other w g k cs (λe=>hk (by rw[e]))⟩
theorem Rv{P:Program}{w:World}{ops:Array Oper}{rest:List Oper}{o:Oper}{a:Act}{Q:Exit->Act->World->Prop}(iF:o.guard=none)(d s:Operand)(dT sT:TypeId)
 (ho:o.op=.call {callee:=.builtin .copy,args:= #[d,s],argTypes:= #[dT,sT]}) (elem:TypeId) (hu:P.underlying dT=some (.slice elem)) (hsz:(P.info? elem).map (·.size)=some 1)
 (dp sp:Option Addr) (FO BB Hf Cx:Nat) (hd:a.eval d=.slice dp FO BB) (hs:a.eval s=.slice sp Hf Cx)
 (g off:Nat) (t:TypeId) (N:Nat) (f:Nat->Value) (hB:ak w g t N f) (k:Nat) (hk:k=Nat.min Hf FO) (src:Nat->Value)
 (hpos:0<k->dp=some ⟨g,off,none⟩/\∃b q,sp=some ⟨b,q,none⟩/\∀j,j<k->w.cell? ⟨b,q+j,none⟩=some (src j))
 (Gg:off+k<=N) (h1:∀j,j<k->(src j).oneCell'=true)
 (h:∀w',ak w' g t N (over f off k src)->w.grownBy w' (some g)->wpList P ops Q rest (a.put o.dst (goInt k)) w'):
 wpList P ops Q (o::rest) a w:=by
 by_cases h0:k=0
 ·subst h0;refine wpList_copy_nothing iF d s dT sT ho elem hu hsz dp sp FO BB Hf Cx hd hs hk.symm ?_;exact h w (by rw[qxw];exact hB) (Uq _ _)
 ·obtain⟨rfl,b,q,rfl,Co⟩:=hpos (by omega);obtain⟨cur,hg,hcs,hb⟩:=hB.splice off k src Gg;refine wpList_copy_own iF d s dT sT ho elem hu hsz g off FO BB ⟨b,q,none⟩ Hf Cx hd hs cur t hg ((List.range k).map src) (by simpa using hk) ?_ (by simp;omega) ?_ ?_
  ·intro j v hv;simp only[List.getElem?_map,Option.map_eq_some_iff]at hv;obtain⟨x,hx,rfl⟩:=hv;have hlt:=(List.getElem?_eq_some_iff.1 hx).1;simp only[List.length_range]at hlt;rw[List.getElem?_range hlt]at hx;cases hx;rw[DN];exact Co j hlt
  ·intro v hv;simp only[List.mem_map,List.mem_range]at hv;obtain⟨j,hj,rfl⟩:=hv;exact h1 j hj
  ·simp only[List.length_map,List.length_range]at hb⊢;exact h _ hb (qaz _ _ _)
theorem qwy(u:Value)(n i:Nat)(hi:i<n):(madeCells #[u] n).toList[i]?=some u:=by
 have:i%1=0:=Nat.mod_one i;simp[madeCells,hi,this]
theorem ak.Am{w:World}{base g n:Nat}{e:TypeId}{u:Value}(h:w.ownsRow base e 1 (.slice (some ⟨g,0,none⟩) n n) n (madeCells #[u] n).toList):ak w g e n (λ_=>u):=by
 have:=ak.qm5 h (λ_=>u) (λi hi=>qwy u _ i (by omega));simpa using this
theorem lM{w w':World}(h:w.grownBy w' none):Ext w w':=(Ext.refl w).grown h (by intro k hk;cases hk)
def Mb(M:Nat->Prop)(w:World):Prop:=∀g,M g->g<w.heap.size
theorem Mb.ext{M:Nat->Prop}{w w':World}(h:Mb M w)(he:Ext w w'):Mb M w':=λg hg=>Nat.lt_of_lt_of_le (h g hg) he.size
theorem Mb.size{M:Nat->Prop}{w w':World}(h:Mb M w)(he:w.heap.size<=w'.heap.size):Mb M w':=λg hg=>Nat.lt_of_lt_of_le (h g hg) he
theorem Mb.new{M:Nat->Prop}{w:World}(h:Mb M w){g:Nat}(hg:w.heap.size<=g):¬M g:=λhm=>by have:=h g hm;omega
def Kp(M:Nat->Prop)(w w':World):Prop:=w.heap.size<=w'.heap.size/\∀b,b<w.heap.size->¬M b->w'.heap[b]?=w.heap[b]?
theorem Kp.jC{M:Nat->Prop}{w w':World}(h:Ext w w'):Kp M w w':=⟨h.size,λ_ hb _=>h.heap hb⟩
theorem Kp.trans{M:Nat->Prop}{a b c:World}(h:Kp M a b)(k:Kp M b c):Kp M a c:=⟨Nat.le_trans h.1 k.1,λq hq hm=>(k.2 q (Nat.lt_of_lt_of_le hq h.1) hm).trans (h.2 q hq hm)⟩
theorem Kp.refl(M:Nat->Prop)(w:World):Kp M w w:=⟨Nat.le_refl _,λ_ _ _=>rfl⟩
theorem Kp.set(M:Nat->Prop)(w:World){p:Addr}(hp:M p.block)(u:Value):Kp M w (w.setCell p u):=
 ⟨by simp[World.setCell],λb _ hb=>Below.heap_setCell _ _ _ _ (λe=>hb (e ▸ hp))⟩
theorem Kp.grown{M:Nat->Prop}{w w':World}{r:Option Nat}(hg:w.grownBy w' r)(hr:∀k,r=some k->M k):Kp M w w':=
 ⟨hg.size,λb hb hm=>hg.block b hb (λe=>hm (hr b e.symm))⟩
theorem Kp.cell{M:Nat->Prop}{w w':World}(h:Kp M w w'){b o:Nat}(hb:b<w.heap.size)(hm:¬M b):w'.cell? ⟨b,o,none⟩=w.cell? ⟨b,o,none⟩:=World.cell?_of_block (w:=w) (h.2 b hb hm)
theorem Kp.mono{M M':Nat->Prop}{w w':World}(h:Kp M w w')(hm:∀b,M b->M' b):Kp M' w w':=⟨h.1,λb hb hn=>h.2 b hb (λk=>hn (hm b k))⟩
def dK(M:Nat->Prop)(w:World)(v:Value)(n:Nat)(d:Nat->Nat):Prop:=
 n<=1099511627776/\(∀i,i<n->d i<4294967296)/\
 ((n=0/\∃a cap,v=.slice a 0 cap/\cap<=maxLen/\(a=none->cap=0))\/∃b off cap,v=.slice (some ⟨b,off,none⟩) n cap/\n<=cap/\cap<=maxLen/\(b<w.heap.size/\¬M b)/\∀i,i<n->w.cell? ⟨b,off+i,none⟩=some (.int .u32 (d i)))
theorem dK.kp{M:Nat->Prop}{w w':World}{v:Value}{n:Nat}{d:Nat->Nat}(h:dK M w v n d)(he:Kp M w w'):dK M w' v n d:=by
 obtain⟨h1,h2,h3⟩:=h;refine⟨h1,h2,?_⟩;rcases h3 with h3|⟨b,off,cap,hv,hn,hc,hb,hcell⟩
 ·exact .inl h3
 ·exact .inr ⟨b,off,cap,hv,hn,hc,⟨Nat.lt_of_lt_of_le hb.1 he.1,hb.2⟩,λi hi=>by rw[he.cell hb.1 hb.2];exact hcell i hi⟩
theorem dK.more{M M':Nat->Prop}{w:World}{v:Value}{n:Nat}{d:Nat->Nat}(h:dK M w v n d)(hm:∀g,M' g->M g\/w.heap.size<=g):dK M' w v n d:=by
 obtain⟨h1,h2,h3⟩:=h;refine⟨h1,h2,?_⟩;rcases h3 with h3|⟨b,off,cap,hv,hn,hc,hb,hcell⟩
 ·exact .inl h3
 ·exact .inr ⟨b,off,cap,hv,hn,hc,⟨hb.1,λk=>(hm b k).elim hb.2 (by omega)⟩,hcell⟩
theorem dK.ext{M:Nat->Prop}{w w':World}{v:Value}{n:Nat}{d:Nat->Nat}(h:dK M w v n d)(he:Ext w w'):dK M w' v n d:=h.kp (Kp.jC he)
def fA(M:Nat->Prop)(w:World)(v:Value)(x:Nat):Prop:=∃n d,dK M w v n d/\nv d n=x
def gT(M:Nat->Prop)(w:World)(v:Value)(x:Nat):Prop:=∃n d,dK M w v n d/\nv d n=x/\(n=0\/d (n-1)≠0)
section
variable{M M':Nat->Prop}{w w':World}{v:Value}{x:Nat}
theorem fA.kp(h:fA M w v x)(he:Kp M w w'):fA M w' v x:=by
 obtain⟨n,d,h1,h2⟩:=h;exact⟨n,d,h1.kp he,h2⟩
theorem gT.kp(h:gT M w v x)(he:Kp M w w'):gT M w' v x:=by
 obtain⟨n,d,h1,h2⟩:=h;exact⟨n,d,h1.kp he,h2⟩
theorem fA.more(h:fA M w v x)(hm:∀g,M' g->M g\/w.heap.size<=g):fA M' w v x:=by
 obtain⟨n,d,h1,h2⟩:=h;exact⟨n,d,h1.more hm,h2⟩
theorem gT.more(h:gT M w v x)(hm:∀g,M' g->M g\/w.heap.size<=g):gT M' w v x:=by
 obtain⟨n,d,h1,h2⟩:=h;exact⟨n,d,h1.more hm,h2⟩
theorem fA.ext(h:fA M w v x)(he:Ext w w'):fA M w' v x:=h.kp (Kp.jC he)
theorem gT.ext(h:gT M w v x)(he:Ext w w'):gT M w' v x:=h.kp (Kp.jC he)
theorem gT.eH(h:gT M w v x):fA M w v x:=by
 obtain⟨n,d,h1,h2,_⟩:=h;exact⟨n,d,h1,h2⟩
theorem fA.az(h:fA M w v x):az x<=1099511627776:=by
 obtain⟨n,d,h1,rfl⟩:=h;exact Nat.le_trans (xO d n h1.2.1) h1.1
theorem gT.len(h:gT M w v x):∃d,dK M w v (az x) d/\nv d (az x)=x/\(az x=0\/d (az x-1)≠0):=by
 obtain⟨n,d,h1,rfl,h3⟩:=h;rw[Ug d n h1.2.1 h3];exact⟨d,h1,rfl,h3⟩
end
theorem dK.nil(M:Nat->Prop)(w:World):dK M w (.slice none 0 0) 0 (λ_=>0):=⟨by decide,by intro i hi;omega,.inl ⟨rfl,none,0,rfl,Nat.zero_le _,λ_=>rfl⟩⟩
theorem gT.nil(M:Nat->Prop)(w:World):gT M w (.slice none 0 0) 0:=⟨0,λ_=>0,dK.nil M w,rfl,.inl rfl⟩
theorem dK.G5{M:Nat->Prop}{w:World}{g:Nat}{t:TypeId}{N n:Nat}{d:Nat->Nat}{f:Nat->Value}(h:ak w g t N f)(hM:¬M g)(cap:Nat)(hn:n<=N)(hL:n<=1099511627776)(BU:n<=cap)(hc:cap<=maxLen)
 (hf:∀i,i<n->f i=.int .u32 (d i)) (hd:∀i,i<n->d i<4294967296):dK M w (.slice (some ⟨g,0,none⟩) n cap) n d:=
 ⟨hL,hd,.inr ⟨g,0,cap,rfl,BU,hc,⟨h.lt,hM⟩,λi hi=>by rw[Nat.zero_add,h.cell (by omega),hf i hi]⟩⟩
def Mx(M:Nat->Prop)(n k:Nat):Nat->Prop:=λg=>M g\/(n<=g/\g<k)
theorem Mx.more{M:Nat->Prop}{n k:Nat}{w:World}(hn:w.heap.size<=n):∀g,Mx M n k g->M g\/w.heap.size<=g:=λg hg=>hg.imp id (λh=>by omega)
theorem Mx.less{M:Nat->Prop}{n k:Nat}{w:World}:∀g,M g->Mx M n k g\/w.heap.size<=g:=λg hg=>.inl (.inl hg)
theorem Mx.mb{M:Nat->Prop}{n k:Nat}{w w':World}(h:Mb M w)(hs:w.heap.size<=w'.heap.size)(hk:k<=w'.heap.size):Mb (Mx M n k) w':=λg hg=>hg.elim (λh1=>Nat.lt_of_lt_of_le (h g h1) hs) (λh1=>by omega)
theorem Mx.at{M:Nat->Prop}{n k g:Nat}(h:n<=g/\g<k):Mx M n k g:=.inr h
theorem qdy(b off n cap:Nat)(d:Nat->Nat)(w:World)(BU:n<=cap)(hm:cap<=maxLen)
 (hc:∀i,i<n->w.cell? ⟨b,off+i,none⟩=some (.int .u32 (d i))):
 Calls Tryz.prog 134 #[.slice (some ⟨b,off,none⟩) n cap] w λe w'=>e=.returned (.slice (some ⟨b,off,none⟩) (tl d n) cap)/\w=w':=by
 unfold maxLen at hm
 go_enter Tryz.func134,Tryz.ntmps134
 go_wp2
 go_loop [3] (λi=>∃k:Nat,k<=n/\i=.int .i64 k/\tl d k=tl d n) (λi=>(intOf i).toNat)
 case atStart=>exact⟨n,Nat.le_refl _,rfl,rfl⟩
 case round=>
  obtain⟨k,hk,rfl,ht⟩:=hrel;have HT:=Lib.hid ht;clear ht
  by_cases h0:k=0
  ·subst h0;go_wp2;go_ret;exact⟨by rw[<-HT.out];rfl,rfl⟩
  ·obtain⟨j,rfl⟩:∃j,k=j+1:=⟨k-1,by omega⟩;have hcell:=hc j (by omega)
   by_cases hz:d j=0
   ·have Ms:(((d j:Nat):Int)==0)=true:=by simp[hz]
    have HZ:=Lib.hid hz;clear hz;go_wp2
    go_round
    case rel=>exact⟨j,by omega,rfl,by rw[<-HT.out,qou,if_pos HZ.out]⟩
    case measure=>simp[intOf]
   ·have Ms:(((d j:Nat):Int)==0)=false:=by simp[hz]
    have HZ:=Lib.hid hz;clear hz;go_wp2;go_ret;exact⟨by rw[<-HT.out,qou,if_neg HZ.out];rfl,rfl⟩
theorem qoy(a:Option Addr)(cap:Nat)(hc:cap<=maxLen)(hn:a=none->cap=0)(w:World):
 Calls Tryz.prog 134 #[.slice a 0 cap] w λe w'=>e=.returned (.slice a 0 cap)/\w=w':=by
 unfold maxLen at hc
 cases a with
 |none=>
  obtain rfl:=hn rfl;clear hn
  go_enter Tryz.func134,Tryz.ntmps134
  go_wp2;refine wp_loop_rounds 1 ?_;rw[rounds_succ];go_wp2;go_ret;exact⟨rfl,rfl⟩
 |some a=>
  clear hn
  go_enter Tryz.func134,Tryz.ntmps134
  go_wp2;refine wp_loop_rounds 1 ?_;rw[rounds_succ];go_wp2;go_ret;exact⟨rfl,rfl⟩
theorem vK{M:Nat->Prop}(v:Value)(n:Nat)(d:Nat->Nat)(w:World)(h:dK M w v n d):
 Calls Tryz.prog 134 #[v] w λe w'=>∃v',e=.returned v'/\dK M w v' (tl d n) d/\w=w':=by
 obtain⟨h1,h2,h3⟩:=h;have hl:=EU d n;rcases h3 with⟨rfl,a,cap,rfl,hc,iw⟩|⟨b,off,cap,rfl,hn,hc,hb,hcell⟩
 ·refine(qoy a cap hc iw w).mono ?_;rintro e w' ⟨rfl,rfl⟩;exact⟨_,rfl,⟨Nat.zero_le _,by intro i hi;simp[tl]at hi,.inl ⟨rfl,a,cap,rfl,hc,iw⟩⟩,rfl⟩
 ·refine(qdy b off n cap d w hn hc hcell).mono ?_;rintro e w' ⟨rfl,rfl⟩;exact⟨_,rfl,⟨by omega,λi hi=>h2 i (by omega),.inr ⟨b,off,cap,rfl,by omega,hc,hb,λi hi=>hcell i (by omega)⟩⟩,rfl⟩
theorem JK{M:Nat->Prop}{w:World}{g:Nat}{t:TypeId}{N:Nat}{s:Nat->Nat}(h:ak w g t N (λi=>.int .u32 (s i)))(lX:¬M g)(hN:N<=maxLen)(hs:∀i,i<N->s i<4294967296)(hL:az (nv s N)<=1099511627776):
 Calls Tryz.prog 134 #[.slice (some ⟨g,0,none⟩) N N] w λe w'=>∃u,e=.returned u/\gT M w u (nv s N)/\w=w':=by
 refine(qdy g 0 N N s w (Nat.le_refl _) hN (λi hi=>by rw[Nat.zero_add];exact h.cell hi)).mono ?_;rintro e w' ⟨rfl,rfl⟩;have hl:=EU s N;have hd:=Wp s N hs;exact⟨_,rfl,⟨_,s,dK.G5 h lX N hl (by omega) hl hN (λi _=>rfl) (λi hi=>hs i (by omega)),rV s N,Hg s N⟩,rfl⟩
theorem kE{M:Nat->Prop}{w:World}{v:Value}{n:Nat}{d:Nat->Nat}(h:dK M w v n d):∃a cap,v=.slice a n cap:=by
 obtain⟨_,_,h3⟩:=h;rcases h3 with⟨rfl,a,cap,rfl,_⟩|⟨b,off,cap,rfl,_⟩
 ·exact⟨_,_,rfl⟩
 ·exact⟨_,_,rfl⟩
theorem JJ{M:Nat->Prop}(v:Value)(x:Nat)(w:World)(h:fA M w v x):
 Calls Tryz.prog 84 #[v] w λe w'=>e=.returned (.bool (decide (x=0)))/\w=w':=by
 obtain⟨n,d,hr,rfl⟩:=h;have hz:=qxj d n;have HZ:=Lib.hid hz;clear hz
 go_enter Tryz.func84,Tryz.ntmps84
 go_wp2_with (fail);refine(vK v n d w hr).mono ?_;rintro e w' ⟨v',rfl,lC,rfl⟩;obtain⟨a,cap,rfl⟩:=kE lC;go_wp2;go_ret;refine⟨?_,rfl⟩
 by_cases h0:tl d n=0
 ·simp[h0,HZ.out]
 ·simp[h0,HZ.out];try omega
theorem Bt(x y c:Nat)(w:World)(hx:x<4294967296)(hy:y<4294967296)(hc:c<4294967296):
 Calls Tryz.prog 185 #[.int .u32 x,.int .u32 y,.int .u32 c] w λe w'=>
  e=.returned (.tuple #[.int .u32 (gG x y c),.int .u32 (fI x y c)])/\w=w':=by
 go_enter Tryz.func185,Tryz.ntmps185
 go_wp2
 go_ret2
 exact⟨by simp[gG,fI],rfl⟩
theorem wrap_u32(n:Nat)(h:n<4294967296):IntKind.u32.wrap (n:Int)=n:=by
 exact IntWalk.u32_in _ (by omega)
theorem K5(n:Nat)(h:n<4294967296):(BitVec.ofInt IntKind.u32.bits (n:Int)).toNat=n:=by
 simp[IntKind.bits];omega
theorem qgP(a b:Nat)(ha:a<4294967296)(hb:b<4294967296):bits BinOp.and .u32 a b=((a&&& b:Nat):Int):=by
 unfold bits;have h1:=K5 a ha;have h2:=K5 b hb;simp only[BitVec.toNat_and,h1,h2];rw[wrap_u32];exact Nat.lt_of_le_of_lt Nat.and_le_left ha
theorem qgS(a b:Nat)(ha:a<4294967296)(hb:b<4294967296):bits BinOp.or .u32 a b=((a|||b:Nat):Int):=by
 unfold bits;have h1:=K5 a ha;have h2:=K5 b hb;simp only[BitVec.toNat_or,h1,h2];rw[wrap_u32];exact Nat.or_lt_two_pow (n:=32) ha hb
theorem ZM(a b:Nat)(ha:a<4294967296)(hb:b<4294967296):bits BinOp.xor .u32 a b=((a^^^b:Nat):Int):=by
 unfold bits;have h1:=K5 a ha;have h2:=K5 b hb;simp only[BitVec.toNat_xor,h1,h2];rw[wrap_u32];exact Nat.xor_lt_two_pow (n:=32) ha hb
theorem Rn(a:Nat)(h:a<4294967296):a.testBit 31=decide (2147483648<=a):=by
 rw[Nat.testBit_eq_decide_div_mod_eq];simp only[decide_eq_decide];omega
theorem qzD(a:Nat)(h:a<4294967296):a/2147483648=(a.testBit 31).toNat:=by
 rw[Rn a h]
 by_cases h1:2147483648<=a
 ·simp[h1];omega
 ·simp[h1];omega
theorem qzi(x y c:Nat)(hx:x<4294967296)(hy:y<4294967296)(hc:c<2):
 (((4294967295^^^x)&&& y)|||((4294967295^^^(x^^^y))&&& ((x+4294967296-y-c)%4294967296)))/2147483648=borrow x y c:=by
 have hm:(x+4294967296-y-c)%4294967296<4294967296:=Nat.mod_lt _ (by decide);have Vj:x^^^y<4294967296:=Nat.xor_lt_two_pow (n:=32) hx hy;have l1:((4294967295^^^x)&&& y)<2^32:=Nat.lt_of_le_of_lt Nat.and_le_right hy;have l2:((4294967295^^^(x^^^y))&&& ((x+4294967296-y-c)%4294967296))<2^32:=Nat.lt_of_le_of_lt Nat.and_le_right hm;rw[qzD _ (Nat.or_lt_two_pow (n:=32) l1 l2)];simp only[Nat.testBit_or,Nat.testBit_and,Nat.testBit_xor];rw[Rn x hx,Rn y hy,Rn _ hm,Rn 4294967295 (by decide)];unfold borrow
 by_cases h1:2147483648<=x<;>by_cases h2:2147483648<=y<;>by_cases h3:2147483648<=(x+4294967296-y-c)%4294967296<;>by_cases h4:x<y+c<;>simp[h1,h2,h3,h4]<;>omega
theorem TI(x y:Nat)(w:World)(hx:x<4294967296)(hy:y<4294967296):
 Calls Tryz.prog 204 #[.int .u32 x,.int .u32 y] w λe w'=>
  e=.returned (.tuple #[.int .u32 (jT x y),.int .u32 (gN x y)])/\w=w':=by
 have Vj:x*y<=4294967295*4294967295:=Nat.mul_le_mul (by omega) (by omega)
 have qvB:((x*y:Nat):Int)<=18446744065119617025:=by omega
 rw[Int.natCast_mul]at qvB
 have qCN:(0:Int)<=(x:Int)*(y:Int):=by rw[<-Int.natCast_mul];exact Int.natCast_nonneg _
 have yl:IntKind.u64.signed=false:=rfl
 go_enter Tryz.func204,Tryz.ntmps204
 go_wp2
 go_ret2
 exact⟨by simp[gN,jT],rfl⟩
theorem ZK(x y c:Nat)(w:World)(hx:x<4294967296)(hy:y<4294967296)(hc:c<2):
 Calls Tryz.prog 187 #[.int .u32 x,.int .u32 y,.int .u32 c] w λe w'=>
  e=.returned (.tuple #[.int .u32 (yz x y c),.int .u32 (borrow x y c)])/\w=w':=by
 have yl:IntKind.u32.signed=false:=rfl
 go_enter Tryz.func187,Tryz.ntmps187
 go_wp2
 go_ret2
 have hd:((x:Int)-y-c)%4294967296=((x+4294967296-y-c)%4294967296:Nat):=by omega
 have hmax:IntKind.u32.max=((4294967295:Nat):Int):=rfl;have hm:(x+4294967296-y-c)%4294967296<4294967296:=Nat.mod_lt _ (by decide);have Vj:x^^^y<4294967296:=Nat.xor_lt_two_pow (n:=32) hx hy;have hnx:4294967295^^^x<4294967296:=Nat.xor_lt_two_pow (n:=32) (by decide) hx;have qu5:4294967295^^^(x^^^y)<4294967296:=Nat.xor_lt_two_pow (n:=32) (by decide) Vj;have l1:((4294967295^^^x)&&& y)<4294967296:=Nat.lt_of_le_of_lt Nat.and_le_right hy;have l2:((4294967295^^^(x^^^y))&&& ((x+4294967296-y-c)%4294967296))<4294967296:=Nat.lt_of_le_of_lt Nat.and_le_right hm;have hb:=qzi x y c hx hy hc
 have key:(bits BinOp.or IntKind.u32 (bits BinOp.and IntKind.u32 (bits BinOp.xor IntKind.u32 IntKind.u32.max ↑x) ↑y) (bits BinOp.and IntKind.u32 (bits BinOp.xor IntKind.u32 IntKind.u32.max (bits BinOp.xor IntKind.u32 ↑x ↑y)) (((x:Int)-y-c)%4294967296))/2147483648:Int)=(borrow x y c:Nat):=by
  rw[hd,hmax,ZM x y hx hy,ZM _ _ (by decide) hx,ZM _ _ (by decide) Vj,qgP _ _ hnx hy,qgP _ _ qu5 hm,qgS _ _ l1 l2, <-hb];simp
 refine⟨?_,rfl⟩;show Ending.returned (.tuple #[.int .u32 ((((x:Int)-y)%4294967296-c)%4294967296),.int .u32 (bits BinOp.or IntKind.u32 (bits BinOp.and IntKind.u32 (bits BinOp.xor IntKind.u32 IntKind.u32.max ↑x) ↑y) (bits BinOp.and IntKind.u32 (bits BinOp.xor IntKind.u32 IntKind.u32.max (bits BinOp.xor IntKind.u32 ↑x ↑y)) (((x:Int)-y-c)%4294967296))/2147483648)])=_;rw[key,show((((x:Int)-y)%4294967296-c)%4294967296)=(yz x y c:Nat)from by unfold yz;omega]
theorem Tryz.EK:(Tryz.prog.info? 155).map (λi=>(i.zero,i.size,i.bytes))=some (some (.int .u32 0),1,4):=by kernel_rfl
theorem qmz{M:Nat->Prop}(v:Value)(n:Nat)(d:Nat->Nat)(w:World)(hM:Mb M w)(h:dK M w v n d):
 Calls Tryz.prog 131 #[v] w λe w'=>∃v',e=.returned v'/\gT M w' v' (nv d n)/\Ext w w':=by
 obtain⟨i0,hi,hz0,hz1,hz2⟩:=info_parts Tryz.EK
 go_enter Tryz.func131,Tryz.ntmps131
 go_wp2_with (fail);refine(vK v n d w h).mono ?_;rintro e w' ⟨v',rfl,lC,rfl⟩;have htl:=EU d n;have hn:=h.1;generalize hm:tl d n=m at*;have Hm:=Lib.hid hm;clear hm;obtain⟨a,cap,rfl⟩:=kE lC
 go_wp2_with (first|(refine wpList_make_full _ rfl _ _ _ rfl w.heap.size 155 i0 (.int .u32 0) 1 Tryz.underlying28 hi hz0 hz1 .i64 .i64 _ _ m rfl rfl rfl rfl ?c2 ?c3 (Nat.le_refl _) ?_))
 case c2=>rw[hz2];omega
 case c3=>unfold maxLen;omega
 intro w1 hown hgrow;have hB:=ak.Am hown;have he:=lM hgrow;clear hown hgrow;obtain⟨hL,hd,h3⟩:=lC
 go_wp2_with (refine Rv rfl (.tmp 9) (.tmp 10) _ _ rfl 155 Tryz.underlying28 (by rw[hi];simp[hz1]) _ _ _ _ _ _ rfl rfl w.heap.size 0 155 m _ hB m ?k1 (λi=>.int .u32 (d i)) ?k2 ?k3 ?k4 ?_)
 case k1=>exact(Nat.min_self m).symm
 case k2=>
  intro h0;rcases h3 with⟨hv,sQ⟩|⟨b,off,cap',hv,mJ,dR,hb1,hcell⟩
  ·omega
  ·simp only[Value.slice.injEq]at hv;exact⟨b,off,hv.1,λj hj=>by rw[he.cell hb1.1];exact hcell j hj⟩
 case k3=>omega
 case k4=>intro j hj;rfl
 intro w2 cZ iI;have aA:Ext w w2:=he.grown iI (by intro k hk;cases hk;exact Nat.le_refl _);go_wp2;go_ret;refine⟨_,rfl,⟨m,d,dK.G5 cZ (hM.new (Nat.le_refl _)) m (Nat.le_refl _) hL (Nat.le_refl _) (by unfold maxLen;omega) ?_ hd,?_,?_⟩,aA⟩
 ·intro i hi';unfold over;rw[if_pos (by omega)];rfl
 ·rw[<-Hm.out];exact rV d n
 ·rw[<-Hm.out];exact Hg d n
theorem EM{M:Nat->Prop}(v:Value)(x:Nat)(w:World)(hM:Mb M w)(h:fA M w v x):
 Calls Tryz.prog 131 #[v] w λe w'=>∃v',e=.returned v'/\gT M w' v' x/\Ext w w':=by
 obtain⟨n,d,hr,rfl⟩:=h;exact qmz v n d w hM hr
theorem qmy{M:Nat->Prop}(v v':Value)(n0 m0:Nat)(d d':Nat->Nat)(w:World)(h:dK M w v n0 d)(h':dK M w v' m0 d'):
 Calls Tryz.prog 132 #[v,v'] w λe w'=>e=.returned (.int .i64 (kZ (nv d n0) (nv d' m0)))/\Ext w w':=by
 have e1:=rV d n0;have e2:=rV d' m0;have k1:=Hg d n0;have k2:=Hg d' m0;have sQ:Hid (nv d (tl d n0)=nv d n0):=e1;have Ex:Hid (nv d' (tl d' m0)=nv d' m0):=e2;clear e1 e2;have iq:Hid (tl d n0=0\/d (tl d n0-1)≠0):=k1;have kz:Hid (tl d' m0=0\/d' (tl d' m0-1)≠0):=k2;clear k1 k2
 go_enter Tryz.func132,Tryz.ntmps132
 go_wp2_with (fail);refine(vK v n0 d w h).mono ?_;rintro e w' ⟨v1,rfl,hv1,rfl⟩;go_wp2_with (fail);refine(vK v' m0 d' w h').mono ?_;rintro e w' ⟨v2,rfl,hv2,rfl⟩;generalize tl d n0=n at*;generalize tl d' m0=m at*;have E1:Hid (nv d n=nv d n0):=sQ;have E2:Hid (nv d' m=nv d' m0):=Ex;have HK:Hid (n=0\/d (n-1)≠0):=iq;have HK':Hid (m=0\/d' (m-1)≠0):=kz;clear sQ Ex iq kz;obtain⟨a1,uj,rfl⟩:=kE hv1;obtain⟨a2,cap2,rfl⟩:=kE hv2;obtain⟨hL,hd,h3⟩:=hv1;obtain⟨D8,vE,h3'⟩:=hv2;have HD:=Lib.hid hd;have XC:=Lib.hid vE;have H3:=Lib.hid h3;have H3':=Lib.hid h3';clear hd vE h3 h3' h h';rcases Nat.lt_trichotomy n m with hlt|heq|jR
 ·go_wp2;go_ret;exact⟨by rw[<-E1.out, <-E2.out,TZ (qcW d d' n m HD.out hlt HK'.out)];rfl,Ext.refl _⟩
 ·subst heq
  by_cases iw:n=0
  ·subst iw;go_wp2;refine wp_loop_rounds 1 ?_;rw[rounds_succ];go_wp2;go_ret;exact⟨by rw[<-E1.out, <-E2.out];rfl,Ext.refl _⟩
  ·have hd:=HD.out;have vE:=XC.out;rcases H3.out with⟨h0,_⟩|⟨b,off,cap,hv,BU,hm,hb,hc⟩
   ·exact absurd h0 iw
   rcases H3'.out with⟨h0,_⟩|⟨b',off',cap',lC,qBl,hm',hb',Jf⟩
   ·exact absurd h0 iw
   simp only[Value.slice.injEq,true_and]at hv lC;obtain⟨rfl,rfl⟩:=hv;obtain⟨rfl,rfl⟩:=lC;clear H3 H3' HD XC;unfold maxLen at hm hm';go_wp2
   go_loopw [5] (λi wr=>∃k:Nat,k<=n/\i=.int .i64 ((k:Int)-1)/\(∀j,k<=j->j<n->d j=d' j)/\Ext w wr) (λi _=>((intOf i)+1).toNat)
   case atStart=>exact⟨n,Nat.le_refl _,by rfl,by intro j h1 h2;omega,Ext.refl _⟩
   case round=>
    obtain⟨k,hkn,rfl,hs,he⟩:=hrel;have HS:=Lib.hid hs;clear hs
    by_cases h0:k=0
    ·subst h0;go_wp2;go_ret;exact⟨by rw[<-E1.out, <-E2.out,qrq (nV d d' n λi hi=>HS.out i (by omega) hi)];rfl,he⟩
    ·obtain⟨j,rfl⟩:∃j,k=j+1:=⟨k-1,by omega⟩
     have hcell:wr.cell? ⟨b,off+j,none⟩=some (.int .u32 (d j)):=by rw[he.cell hb.1];exact hc j (by omega)
     have qBn:wr.cell? ⟨b',off'+j,none⟩=some (.int .u32 (d' j)):=by rw[he.cell hb'.1];exact Jf j (by omega)
     have hx:=hd j (by omega);have Mq:=vE j (by omega);have HC:=Lib.hid hc;have HC':=Lib.hid Jf;clear hc Jf;rcases Nat.lt_trichotomy (d j) (d' j)with hlt|heq|jR
     ·have hl:=qmW d d' n j hd (by omega) (λi h1 h2=>HS.out i (by omega) h2) hlt;have HL:=Lib.hid hl;clear hl;go_wp2
      go_quiet (fail)
      go_wp2;go_ret;exact⟨by rw[<-E1.out, <-E2.out,TZ HL.out];rfl,by exact he.drewN _⟩
     ·have q1:d j<=d' j:=by omega
      have q2:d' j<=d j:=by omega
      have HE:=Lib.hid heq;clear heq;go_wp2
      go_quiet (fail)
      go_wp2
      go_quiet (fail)
      go_wp2
      go_roundw
      case rel=>exact⟨j,by omega,by go_num,λi h1 h2=>if jL:i=j then(by rw[jL];exact HE.out)else HS.out i (by omega) h2,he.drewN _⟩
      case measure=>simp[intOf]
     ·have hl:=qmW d' d n j vE (by omega) (λi h1 h2=>(HS.out i (by omega) h2).symm) jR;have HL:=Lib.hid hl;clear hl;go_wp2
      go_quiet (fail)
      go_wp2
      go_quiet (fail)
      go_wp2;go_ret;exact⟨by rw[<-E1.out, <-E2.out,qg7 HL.out];rfl,by exact(he.drewN _).drewN _⟩
 ·go_wp2;go_ret;exact⟨by rw[<-E1.out, <-E2.out,qg7 (qcW d' d m n XC.out jR HK.out)];rfl,Ext.refl _⟩
theorem JI{M:Nat->Prop}(v v':Value)(x y:Nat)(w:World)(h:fA M w v x)(h':fA M w v' y):
 Calls Tryz.prog 132 #[v,v'] w λe w'=>e=.returned (.int .i64 (kZ x y))/\Ext w w':=by
 obtain⟨n,d,hr,rfl⟩:=h;obtain⟨m,d',Aa,rfl⟩:=h';exact qmy v v' n m d d' w hr Aa
theorem qmw(x y c g:Nat)(t:TypeId)(w:World)(hx:x<4294967296)(hy:y<4294967296)(hc:c<4294967296)(hB:ak w g t 1 (λ_=>.int .u32 c)):
 Calls Tryz.prog 184 #[.int .u32 x,.int .u32 y,.pointer (some ⟨g,0,none⟩)] w λe w'=>
  e=.returned (.int .u32 (gG x y c))/\ak w' g t 1 (λ_=>.int .u32 (fI x y c))/\w.grownBy w' (some g):=by
 have h1:=hB.cell (i:=0) (by omega);have h2:=hB.frozen 0
 go_enter Tryz.func184,Tryz.ntmps184
 go_wp2_with (go_at_call 185;refine(Bt x y c _ hx hy hc).mono ?_;rintro e w' ⟨rfl,rfl⟩)
 go_ret;refine⟨rfl,(hB.set 0 _).congr ?_,?_⟩
 ·intro i hi;unfold iK;rw[if_pos (by omega)]
 ·exact⟨rfl,rfl,rfl,by simp[World.setCell],λk _ hk=>Below.heap_setCell _ _ _ _ (λe=>hk (by simp[e]))⟩
theorem qmC(x y c g:Nat)(t:TypeId)(w:World)(hx:x<4294967296)(hy:y<4294967296)(hc:c<2)(hB:ak w g t 1 (λ_=>.int .u32 c)):
 Calls Tryz.prog 186 #[.int .u32 x,.int .u32 y,.pointer (some ⟨g,0,none⟩)] w λe w'=>
  e=.returned (.int .u32 (yz x y c))/\ak w' g t 1 (λ_=>.int .u32 (borrow x y c))/\w.grownBy w' (some g):=by
 have h1:=hB.cell (i:=0) (by omega);have h2:=hB.frozen 0
 go_enter Tryz.func186,Tryz.ntmps186
 go_wp2_with (go_at_call 187;refine(ZK x y c _ hx hy hc).mono ?_;rintro e w' ⟨rfl,rfl⟩)
 go_ret;refine⟨rfl,(hB.set 0 _).congr ?_,?_⟩
 ·intro i hi;unfold iK;rw[if_pos (by omega)]
 ·exact⟨rfl,rfl,rfl,by simp[World.setCell],λk _ hk=>Below.heap_setCell _ _ _ _ (λe=>hk (by simp[e]))⟩
theorem mU{M:Nat->Prop}{w:World}{a:Option Addr}{n cap:Nat}{d:Nat->Nat}(h:dK M w (.slice a n cap) n d)(h0:0<n):
 ∃b off,a=some ⟨b,off,none⟩/\b<w.heap.size/\∀i,i<n->w.cell? ⟨b,off+i,none⟩=some (.int .u32 (d i)):=by
 obtain⟨_,_,h3⟩:=h;rcases h3 with⟨_,h4⟩|⟨b,off,cap',hv,_,_,hb,hc⟩
 ·omega
 ·simp only[Value.slice.injEq]at hv;exact⟨b,off,hv.1,hb.1,hc⟩
def IK(d e:Nat->Nat)(k:Nat):Nat->Value:=λi=>.int .u32 ((if i<k then sd d e i else 0:Nat):Int)
theorem qgJ(d e:Nat->Nat)(k:Nat):iK (IK d e k) k (.int .u32 (sd d e k:Nat))=IK d e (k+1):=by
 funext i;unfold iK IK
 by_cases h:i=k
 ·subst h;rw[if_pos rfl,if_pos (by omega)]
 ·rw[if_neg h]
  by_cases h2:i<k
  ·rw[if_pos h2,if_pos (by omega)]
  ·rw[if_neg h2,if_neg (by omega)]
theorem qwQ{M:Nat->Prop}(v v':Value)(n0 m0:Nat)(d0 e0:Nat->Nat)(w:World)(hM:Mb M w)(h:dK M w v n0 d0)(h':dK M w v' m0 e0)(hL:az (nv d0 n0+nv e0 m0)<=1099511627776):
 Calls Tryz.prog 160 #[v,v'] w λe w'=>∃u,e=.returned u/\gT M w' u (nv d0 n0+nv e0 m0)/\Ext w w':=by
 obtain⟨i0,hi,hz0,hz1,hz2⟩:=info_parts Tryz.EK;have hmf:∀(fn:Fn)(first cap:Array Value)(w:World),(Instr.makeFunc fn first cap).run Tryz.prog w=.ok (.func fn first cap) w:=λ_ _ _ _=>rfl;have key:∀(a1 a2:Option Addr)(uj cap2 n m:Nat)(d e:Nat->Nat),dK M w (.slice a1 n uj) n d->dK M w (.slice a2 m cap2) m e->m<=n->nv d n+nv e m=nv d0 n0+nv e0 m0->True:=λ_ _ _ _ _ _ _ _ _ _ _ _=>trivial
 go_enter Tryz.func160,Tryz.ntmps160
 go_wp2_with (fail);refine(vK v n0 d0 w h).mono ?_;rintro e w' ⟨v1,rfl,hv1,rfl⟩;go_wp2_with (fail);refine(vK v' m0 e0 w h').mono ?_;rintro e w' ⟨v2,rfl,hv2,rfl⟩;have E1:Hid (nv d0 (tl d0 n0)=nv d0 n0):=rV d0 n0;have E2:Hid (nv e0 (tl e0 m0)=nv e0 m0):=rV e0 m0;generalize tl d0 n0=n1 at*;generalize tl e0 m0=m1 at*;obtain⟨a1,uj,rfl⟩:=kE hv1;obtain⟨a2,cap2,rfl⟩:=kE hv2;clear h h' key
 go_upto_if 19 with(fail)
 go_cut [0,1] (λs0 s1 wx=>w=wx/\∃(a b:Option Addr)(c1 c2 n m:Nat)(d e:Nat->Nat),s0=.slice a n c1/\s1=.slice b m c2/\m<=n/\Hid (dK M w s0 n d/\dK M w s1 m e/\nv d n+nv e m=nv d0 n0+nv e0 m0))
 case first=>
  rcases Nat.lt_or_ge n1 m1 with hlt|iZ
  ·go_wp2
   go_meet
   exact⟨rfl,a2,a1,cap2,uj,m1,n1,e0,d0,rfl,rfl,by omega,hv2,hv1,by rw[E1.out,E2.out];omega⟩
  ·go_wp2
   go_meet
   exact⟨rfl,a1,a2,uj,cap2,n1,m1,d0,e0,rfl,rfl,by omega,hv1,hv2,by rw[E1.out,E2.out]⟩
 case rest=>
  obtain⟨rfl,a,b,c1,c2,n,m,d,e,rfl,rfl,vH,hR⟩:=hcut;have pE:=hR.out.1;have eu:=pE.1;clear pE
  go_wp2_with (first|(refine wpList_make_full _ rfl _ _ _ rfl (w.heap.size+1) 155 i0 (.int .u32 0) 1 Tryz.underlying28 hi hz0 hz1 .i64 .i64 _ _ (n+1) rfl rfl ?c4 ?c5 ?c2 ?c3 ?c6 ?_))
  case c4=>go_num
  case c5=>go_num
  case c6=>simp
  case c2=>rw[hz2];omega
  case c3=>unfold maxLen;omega
  intro w1 hown hgrow;have hB:=ak.Am hown;have he:=lM hgrow;clear hown hgrow;have hC:ak w1 w.heap.size 155 1 (λ_=>.int .u32 (cy d (cut e m) 0:Nat)):=(ak.Q3 w _ _).ext he;have af:Ext w w1:=((Ext.refl w).alloc _).trans he;obtain⟨hRd,LK,hRv⟩:=hR.out;have ky:=hRd.2.1;have hel:=LK.2.1;have qO:=qac e m hel;have HD:=Lib.hid ky;have HC:=Lib.hid qO;have J6:Hid (∀k,k<=n->cy d (cut e m) k<=1):=λk hk=>qhh d (cut e m) k (λi hi=>ky i (by omega)) λi _=>qO i;have HV:=Lib.hid hRv;have N8:=Lib.hid hRd;have Yx:=Lib.hid LK;clear hRd LK hRv ky hel qO hR he;go_wp2
  go_loopw [29] (λi wr=>∃k:Nat,k<=m/\i=.int .i64 k/\ak wr (w.heap.size+1) 155 (n+1) (IK d (cut e m) k)/\ak wr w.heap.size 155 1 (λ_=>.int .u32 (cy d (cut e m) k))/\Ext w wr) (λi _=>m-(intOf i).toNat)
  case atStart=>exact⟨0,Nat.zero_le _,rfl,hB.congr (by intro i _;simp[IK]),hC,af⟩
  case round=>
   obtain⟨k,hk,rfl,qM,xR,bW⟩:=hrel
   by_cases hlt:k<m
   ·obtain⟨b1,o1,rfl,hb1,dR⟩:=mU N8.out (by omega);obtain⟨b2,o2,rfl,gX,dO⟩:=mU Yx.out (by omega)
    have g1:wr.cell? ⟨b1,o1+k,none⟩=some (.int .u32 (d k)):=by rw[bW.cell hb1];exact dR k (by omega)
    have g2:wr.cell? ⟨b2,o2+k,none⟩=some (.int .u32 (e k)):=by rw[bW.cell gX];exact dO k (by omega)
    have sO:e k=cut e m k:=by unfold cut;rw[if_pos hlt]
    rw[sO]at g2;clear dR dO sO;go_wp2_with (fail);refine(qmw (d k) (cut e m k) (cy d (cut e m) k) w.heap.size 155 _ (HD.out k (by omega)) (HC.out k) (by have:=J6.out k (by omega);omega) xR).mono ?_;rintro e' w2 ⟨rfl,qN,iI⟩;have cZ:=qM.grown iI (by simp);have aA:=bW.grown iI (by intro q hq;cases hq;exact Nat.le_refl _);have q1:=cZ.cell (i:=k) (by omega);have q2:=cZ.frozen k;go_wp2
    go_roundw
    case rel=>exact⟨k+1,by omega,by go_num,qgJ d (cut e m) k ▸ cZ.set k _,qN.uI (by simp) _,aA.set (by simp) _⟩
    case measure=>simp[intOf];omega
   ·have:k=m:=by omega
    subst this;clear hlt hk;go_wp2;obtain⟨wo,rfl⟩:∃wo:World,wo=wr:=⟨_,rfl⟩
    go_loopw [10] (λi wr=>∃j:Nat,k<=j/\j<=n/\i=.int .i64 j/\ak wr (w.heap.size+1) 155 (n+1) (IK d (cut e k) j)/\ak wr w.heap.size 155 1 (λ_=>.int .u32 (cy d (cut e k) j))/\Ext w wr) (λi _=>n-(intOf i).toNat)
    case atStart=>exact⟨k,Nat.le_refl _,vH,rfl,qM,xR,bW⟩
    case round=>
     clear qM xR bW;obtain⟨j,Gl,hj,rfl,qM,xR,bW⟩:=hrel
     by_cases hlt:j<n
     ·obtain⟨b1,o1,rfl,hb1,dR⟩:=mU N8.out (by omega)
      have g1:wr.cell? ⟨b1,o1+j,none⟩=some (.int .u32 (d j)):=by rw[bW.cell hb1];exact dR j (by omega)
      have sO:cut e k j=0:=by unfold cut;rw[if_neg (by omega)]
      have aS:=qmw (d j) (cut e k j) (cy d (cut e k) j) w.heap.size 155 wr (HD.out j (by omega)) (HC.out j) (by have:=J6.out j (by omega);omega) xR;have zM:gG (d j) (cut e k j) (cy d (cut e k) j)=sd d (cut e k) j:=rfl;have zL:fI (d j) (cut e k j) (cy d (cut e k) j)=cy d (cut e k) (j+1):=rfl;rw[zM,zL,sO]at aS;have aO:=Lib.hid aS;clear dR sO aS zM zL;go_wp2_with (fail);refine aO.out.mono ?_;rintro e' w2 ⟨rfl,qN,iI⟩;have cZ:=qM.grown iI (by simp);have aA:=bW.grown iI (by intro q hq;cases hq;exact Nat.le_refl _);have q1:=cZ.cell (i:=j) (by omega);have q2:=cZ.frozen j;go_wp2
      go_roundw
      case rel=>exact⟨j+1,by omega,by omega,by go_num,qgJ d (cut e k) j ▸ cZ.set j _,qN.uI (by simp) _,aA.set (by simp) _⟩
      case measure=>simp[intOf];omega
     ·have:j=n:=by omega
      subst this;clear hlt;have q1:=qM.cell (i:=j) (by omega);have q2:=qM.frozen j;have q3:=xR.cell (i:=0) (by omega);have jK:=qM.set j (.int .u32 (cy d (cut e k) j))
      have kv:ak (wr.setCell ⟨w.heap.size+1,j,none⟩ (.int .u32 (cy d (cut e k) j))) (w.heap.size+1) 155 (j+1) (λi=>.int .u32 (ET d (cut e k) j i)):=by
       refine jK.congr λi hi=>?_;unfold iK IK ET
       by_cases h1:i=j
       ·subst h1;rw[if_pos rfl,if_neg (by omega)]
       ·rw[if_neg h1,if_pos (by omega),if_pos (by omega)]
      have aW:Ext w (wr.setCell ⟨w.heap.size+1,j,none⟩ (.int .u32 (cy d (cut e k) j))):=bW.set (by simp) _
      have hsl:∀i,i<j+1->ET d (cut e k) j i<4294967296:=λi _=>by
       unfold ET;split
       ·exact V6 _ _ _
       ·have:=J6.out j (by omega);omega
      have hval:nv (ET d (cut e k) j) (j+1)=nv d0 n0+nv e0 m0:=by rw[qxg,VJ e k j Gl];exact HV.out
      have aS:=JK (M:=M) kv (hM.new (by omega)) (by unfold maxLen;omega) hsl (by rw[hval];exact hL);rw[hval]at aS;have aO:=Lib.hid aS;clear aS jK kv hsl hval;go_wp2_with (fail);refine aO.out.mono ?_;rintro e' w2 ⟨u,rfl,hu,rfl⟩;go_wp2;go_ret;exact⟨u,rfl,hu,aW⟩
theorem VF{M:Nat->Prop}(v v':Value)(x y:Nat)(w:World)(hM:Mb M w)(h:fA M w v x)(h':fA M w v' y)(hL:az (x+y)<=1099511627776):
 Calls Tryz.prog 160 #[v,v'] w λe w'=>∃u,e=.returned u/\gT M w' u (x+y)/\Ext w w':=by
 obtain⟨n,d,hr,rfl⟩:=h;obtain⟨m,d',Aa,rfl⟩:=h';exact qwQ v v' n m d d' w hM hr Aa hL
def JY(d e:Nat->Nat)(k:Nat):Nat->Value:=λi=>.int .u32 ((if i<k then dd d e i else 0:Nat):Int)
theorem qoo(d e:Nat->Nat)(k:Nat):iK (JY d e k) k (.int .u32 (dd d e k:Nat))=JY d e (k+1):=by
 funext i;unfold iK JY
 by_cases h:i=k
 ·subst h;rw[if_pos rfl,if_pos (by omega)]
 ·rw[if_neg h]
  by_cases h2:i<k
  ·rw[if_pos h2,if_pos (by omega)]
  ·rw[if_neg h2,if_neg (by omega)]
theorem qwX{M:Nat->Prop}(v v':Value)(n0 m0:Nat)(d0 e0:Nat->Nat)(w:World)(hM:Mb M w)(h:dK M w v n0 d0)(h':dK M w v' m0 e0)(iZ:nv e0 m0<=nv d0 n0):
 Calls Tryz.prog 161 #[v,v'] w λe w'=>∃u,e=.returned (.tuple #[u,.bool true])/\gT M w' u (nv d0 n0-nv e0 m0)/\Ext w w':=by
 obtain⟨i0,hi,hz0,hz1,hz2⟩:=info_parts Tryz.EK;have hmf:∀(fn:Fn)(first cap:Array Value)(w:World),(Instr.makeFunc fn first cap).run Tryz.prog w=.ok (.func fn first cap) w:=λ_ _ _ _=>rfl;have E1:Hid (nv d0 (tl d0 n0)=nv d0 n0):=rV d0 n0;have E2:Hid (nv e0 (tl e0 m0)=nv e0 m0):=rV e0 m0;have E3:Hid (tl d0 n0=0\/d0 (tl d0 n0-1)≠0):=Hg d0 n0;have E4:Hid (tl e0 m0=0\/e0 (tl e0 m0-1)≠0):=Hg e0 m0;have oq:=Lib.hid iZ;clear iZ
 go_enter Tryz.func161,Tryz.ntmps161
 go_wp2_with (fail);refine(vK v n0 d0 w h).mono ?_;rintro e w' ⟨v1,rfl,hv1,rfl⟩;go_wp2_with (fail);refine(vK v' m0 e0 w h').mono ?_;rintro e w' ⟨v2,rfl,hv2,rfl⟩;generalize tl d0 n0=n at*;generalize tl e0 m0=m at*;go_wp2_with (fail);refine(qmy v1 v2 n m d0 e0 w hv1 hv2).mono ?_;rintro e w1 ⟨rfl,fG⟩
 have hc:¬(kZ (nv d0 n) (nv e0 m)<0):=by
  have:=oq.out;rw[E1.out,E2.out];unfold kZ;rw[if_neg (by omega)];split<;>omega
 have vH:m<=n:=by
  rcases Nat.lt_or_ge n m with h1|h1
  ·have:=qcW d0 e0 n m hv1.2.1 h1 E4.out;have:=oq.out;rw[<-E1.out, <-E2.out]at this;omega
  ·exact h1
 have pE:=hv1.ext fG;have Eb:=hv2.ext fG;have HX:=Lib.hid fG;clear h h' hv1 hv2 fG;obtain⟨a,c1,rfl⟩:=kE pE;obtain⟨b,c2,rfl⟩:=kE Eb;have eu:=pE.1;have ky:=pE.2.1;have qO:=qac e0 m Eb.2.1;have HD:=Lib.hid ky;have HC:=Lib.hid qO;have N8:=Lib.hid pE;have Yx:=Lib.hid Eb;clear pE Eb ky qO
 go_wp2_with (first|(refine wpList_make_full _ rfl _ _ _ rfl (w1.heap.size+1) 155 i0 (.int .u32 0) 1 Tryz.underlying28 hi hz0 hz1 .i64 .i64 _ _ n rfl rfl ?c4 ?c5 ?c2 ?c3 ?c6 ?_))
 case c4=>rfl
 case c5=>rfl
 case c6=>simp
 case c2=>rw[hz2];omega
 case c3=>unfold maxLen;omega
 intro w2 hown hgrow;have hB:=ak.Am hown;have he:=lM hgrow;clear hown hgrow;have hC:ak w2 w1.heap.size 155 1 (λ_=>.int .u32 (bw d0 (cut e0 m) 0:Nat)):=(ak.Q3 w1 _ _).ext he;have af:Ext w1 w2:=((Ext.refl w1).alloc _).trans he
 have tN:Hid (∀k,bw d0 (cut e0 m) k<2):=λk=>by have:=ZN d0 (cut e0 m) k;omega
 clear he;go_wp2
 go_loopw [26] (λi wr=>∃k:Nat,k<=m/\i=.int .i64 k/\ak wr (w1.heap.size+1) 155 n (JY d0 (cut e0 m) k)/\ak wr w1.heap.size 155 1 (λ_=>.int .u32 (bw d0 (cut e0 m) k))/\Ext w1 wr) (λi _=>m-(intOf i).toNat)
 case atStart=>exact⟨0,Nat.zero_le _,rfl,hB.congr (by intro i _;simp[JY]),hC,af⟩
 case round=>
  obtain⟨k,hk,rfl,qM,xR,bW⟩:=hrel
  by_cases hlt:k<m
  ·obtain⟨b1,o1,rfl,hb1,dR⟩:=mU N8.out (by omega);obtain⟨b2,o2,rfl,gX,dO⟩:=mU Yx.out (by omega)
   have g1:wr.cell? ⟨b1,o1+k,none⟩=some (.int .u32 (d0 k)):=by rw[bW.cell hb1];exact dR k (by omega)
   have g2:wr.cell? ⟨b2,o2+k,none⟩=some (.int .u32 (e0 k)):=by rw[bW.cell gX];exact dO k (by omega)
   have sO:e0 k=cut e0 m k:=by unfold cut;rw[if_pos hlt]
   rw[sO]at g2;clear dR dO sO;go_wp2_with (fail);refine(qmC (d0 k) (cut e0 m k) (bw d0 (cut e0 m) k) w1.heap.size 155 _ (HD.out k (by omega)) (HC.out k) (tN.out k) xR).mono ?_;rintro e' w3 ⟨rfl,qN,iI⟩;have cZ:=qM.grown iI (by simp);have aA:=bW.grown iI (by intro q hq;cases hq;exact Nat.le_refl _);have q1:=cZ.cell (i:=k) (by omega);have q2:=cZ.frozen k;go_wp2
   go_roundw
   case rel=>exact⟨k+1,by omega,by go_num,qoo d0 (cut e0 m) k ▸ cZ.set k _,qN.uI (by simp) _,aA.set (by simp) _⟩
   case measure=>simp[intOf];omega
  ·have:k=m:=by omega
   subst this;clear hlt hk;go_wp2;obtain⟨wo,rfl⟩:∃wo:World,wo=wr:=⟨_,rfl⟩
   go_loopw [11] (λi wr=>∃j:Nat,k<=j/\j<=n/\i=.int .i64 j/\ak wr (w1.heap.size+1) 155 n (JY d0 (cut e0 k) j)/\ak wr w1.heap.size 155 1 (λ_=>.int .u32 (bw d0 (cut e0 k) j))/\Ext w1 wr) (λi _=>n-(intOf i).toNat)
   case atStart=>exact⟨k,Nat.le_refl _,vH,rfl,qM,xR,bW⟩
   case round=>
    clear qM xR bW;obtain⟨j,Gl,hj,rfl,qM,xR,bW⟩:=hrel
    by_cases hlt:j<n
    ·obtain⟨b1,o1,rfl,hb1,dR⟩:=mU N8.out (by omega)
     have g1:wr.cell? ⟨b1,o1+j,none⟩=some (.int .u32 (d0 j)):=by rw[bW.cell hb1];exact dR j (by omega)
     have sO:cut e0 k j=0:=by unfold cut;rw[if_neg (by omega)]
     have aS:=qmC (d0 j) (cut e0 k j) (bw d0 (cut e0 k) j) w1.heap.size 155 wr (HD.out j (by omega)) (HC.out j) (tN.out j) xR;have zM:yz (d0 j) (cut e0 k j) (bw d0 (cut e0 k) j)=dd d0 (cut e0 k) j:=rfl;have zL:borrow (d0 j) (cut e0 k j) (bw d0 (cut e0 k) j)=bw d0 (cut e0 k) (j+1):=rfl;rw[zM,zL,sO]at aS;have aO:=Lib.hid aS;clear dR sO aS zM zL;go_wp2_with (fail);refine aO.out.mono ?_;rintro e' w3 ⟨rfl,qN,iI⟩;have cZ:=qM.grown iI (by simp);have aA:=bW.grown iI (by intro q hq;cases hq;exact Nat.le_refl _);have q1:=cZ.cell (i:=j) (by omega);have q2:=cZ.frozen j;go_wp2
     go_roundw
     case rel=>exact⟨j+1,by omega,by omega,by go_num,qoo d0 (cut e0 k) j ▸ cZ.set j _,qN.uI (by simp) _,aA.set (by simp) _⟩
     case measure=>simp[intOf];omega
    ·have:j=n:=by omega
     subst this;clear hlt
     have kv:ak wr (w1.heap.size+1) 155 j (λi=>.int .u32 (dd d0 (cut e0 k) i)):=by
      refine qM.congr λi hi=>?_;unfold JY;rw[if_pos hi]
     have hval:nv (dd d0 (cut e0 k)) j=nv d0 n0-nv e0 m0:=by
      have dO:=VJ e0 k j Gl;have iZ:=oq.out;rw[qxe d0 (cut e0 k) j HD.out (λi _=>HC.out i) (by rw[dO,E1.out,E2.out];exact iZ),dO,E1.out,E2.out]
     have aS:=JK (M:=M) kv (hM.new (by have:=HX.out.size;omega)) (by unfold maxLen;omega) (λi _=>qaf _ _ _) (Nat.le_trans (xO _ _ λi _=>qaf _ _ _) eu);rw[hval]at aS;have aO:=Lib.hid aS;clear aS kv hval;go_wp2_with (fail);refine aO.out.mono ?_;rintro e' w2 ⟨u,rfl,hu,rfl⟩;go_wp2
     go_ret2
     exact⟨u,rfl,hu,HX.out.trans bW⟩
theorem qcN{M:Nat->Prop}(v v':Value)(x y:Nat)(w:World)(hM:Mb M w)(h:fA M w v x)(h':fA M w v' y)(iZ:y<=x):
 Calls Tryz.prog 161 #[v,v'] w λe w'=>∃u,e=.returned (.tuple #[u,.bool true])/\gT M w' u (x-y)/\Ext w w':=by
 obtain⟨n,d,hr,rfl⟩:=h;obtain⟨m,d',Aa,rfl⟩:=h';exact qwX v v' n m d d' w hM hr Aa iZ
theorem VG{M:Nat->Prop}(x:Nat)(w:World)(hM:Mb M w)(hx:x<18446744073709551616):
 Calls Tryz.prog 77 #[.int .u64 x] w λe w'=>∃u,e=.returned u/\gT M w' u x/\Ext w w':=by
 have yl:IntKind.u64.signed=false:=rfl
 have Mq:(x:Int)<18446744073709551616:=by omega
 go_enter Tryz.func77,Tryz.ntmps77
 go_wp2_with (fail)
 have hB:ak (w.alloc (Obj.cells #[Value.int IntKind.u32 ((x:Int)%4294967296),Value.int IntKind.u32 ((x:Int)/4294967296)] 155)) w.heap.size 155 2 (λi=>.int .u32 ((if i=0 then x%4294967296 else x/4294967296:Nat):Int)):=
  ak.VL w _ _ _ 2 rfl (by
   intro i hi
   have:i=0\/i=1:=by omega
   rcases this with rfl|rfl<;>simp)
 have hN:=dK.G5 (M:=M) (d:=λi=>if i=0 then x%4294967296 else x/4294967296) hB (hM.new (Nat.le_refl _)) 2 (Nat.le_refl _) (by omega) (Nat.le_refl _) (by unfold maxLen;omega) (λi _=>rfl) (by intro i hi;show(if i=0 then x%4294967296 else x/4294967296)<4294967296;split<;>omega)
 have hv:nv (λi=>if i=0 then x%4294967296 else x/4294967296) 2=x:=by simp[nv];omega
 have c:=qmz _ _ _ _ (hM.size (by simp)) hN;rw[hv]at c;refine c.mono ?_;rintro e w1 ⟨u,rfl,hu,he⟩;go_wp2;go_ret;exact⟨u,rfl,hu,((Ext.refl w).alloc _).trans he⟩
def iP(w:World)(g:Nat)(N:Nat)(s:Nat->Nat):Prop:=ak w g 155 N (λi=>.int .u32 (s i))/\∀i,i<N->s i<4294967296
theorem iP.set{w:World}{g N:Nat}{s:Nat->Nat}(h:iP w g N s)(k u:Nat)(hu:u<4294967296):iP (w.setCell ⟨g,k,none⟩ (.int .u32 u)) g N (cK s k u):=by
 refine⟨(h.1.set k _).congr λi _=>?_,λi hi=>?_⟩
 ·unfold iK cK;split<;>rfl
 ·unfold cK;split
  ·exact hu
  ·exact h.2 i hi
theorem iP.ext{w w':World}{g N:Nat}{s:Nat->Nat}(h:iP w g N s)(he:Ext w w'):iP w' g N s:=⟨h.1.ext he,h.2⟩
theorem ML(N:Nat):nv (λ_=>0) N=0:=by
 induction N with
 |zero=>rfl
 |succ N ih=>simp only[nv];rw[ih];simp
theorem qmA{M:Nat->Prop}(a1 a2:Option Addr)(c1 c2 n m:Nat)(d e:Nat->Nat)(w:World)(h:dK M w (.slice a1 n c1) n d)(h':dK M w (.slice a2 m c2) m e)(hL:n+m<=1099511627776):
 Calls Tryz.prog 182 #[.slice a1 n c1,.slice a2 m c2] w λq w'=>∃s,q=.returned (.slice (some ⟨w.heap.size,0,none⟩) (n+m) (n+m))/\
  iP w' w.heap.size (n+m) s/\nv s (n+m)=nv d n*nv e m/\Ext w w':=by
 obtain⟨i0,hi,hz0,hz1,hz2⟩:=info_parts Tryz.EK;have HD:=Lib.hid h.2.1;have HE:=Lib.hid h'.2.1;have HR:=Lib.hid h;have Yq:=Lib.hid h';clear h h'
 go_enter Tryz.func182,Tryz.ntmps182
 go_wp2_with (first|(refine wpList_make_full _ rfl _ _ _ rfl w.heap.size 155 i0 (.int .u32 0) 1 Tryz.underlying28 hi hz0 hz1 .i64 .i64 _ _ (n+m) rfl rfl ?c4 ?c5 ?c2 ?c3 ?c6 ?_))
 case c4=>go_num
 case c5=>go_num
 case c6=>simp
 case c2=>rw[hz2];omega
 case c3=>unfold maxLen;omega
 intro w1 hown hgrow;have hB:iP w1 w.heap.size (n+m) (λ_=>0):=⟨ak.Am hown,λ_ _=>by show 0<4294967296;decide⟩;have he:=lM hgrow;clear hown hgrow;go_wp2
 go_loopw [23] (λi wr=>∃(k:Nat)(s:Nat->Nat),k<=n/\i=.int .i64 k/\iP wr w.heap.size (n+m) s/\nv s (n+m)=nv d k*nv e m/\(∀q,k+m<=q->s q=0)/\Ext w wr) (λi _=>n-(intOf i).toNat)
 case atStart=>exact⟨0,λ_=>0,Nat.zero_le _,rfl,hB,by rw[ML];simp[nv],λ_ _=>rfl,he⟩
 case round=>
  clear hB he;obtain⟨k,s,hk,rfl,hB,hv,hz,bW⟩:=hrel;have HV:=Lib.hid hv;have HZ:=Lib.hid hz;clear hv hz
  by_cases hlt:k<n
  ·obtain⟨b1,o1,rfl,hb1,dR⟩:=mU HR.out (by omega)
   have g1:wr.cell? ⟨b1,o1+k,none⟩=some (.int .u32 (d k)):=by rw[bW.cell hb1];exact dR k (by omega)
   clear dR;have wJ:=HD.out k hlt
   by_cases h0:d k=0
   ·have t0:(((d k:Nat):Int)==0)=true:=by simp[h0]
    have H0:=Lib.hid h0;clear h0;go_wp2
    go_roundw
    case rel=>exact⟨k+1,s,by omega,by go_num,hB,by rw[HV.out];simp[nv,H0.out],λq hq=>HZ.out q (by omega),bW⟩
    case measure=>simp[intOf];omega
   ·have t0:(((d k:Nat):Int)==0)=false:=by simp[h0]
    clear h0;go_wp2;obtain⟨wo,rfl⟩:∃wo:World,wo=wr:=⟨_,rfl⟩
    go_loopw [35,9] (λi c wr=>∃(j cy:Nat)(s':Nat->Nat),j<=m/\i=.int .i64 j/\c=.int .u32 cy/\cy<4294967296/\iP wr w.heap.size (n+m) s'/\
     Hid (nv s' (n+m)+cy*4294967296^(k+j)=nv s (n+m)+d k*nv e j*4294967296^k)/\Hid (∀q,k+m<=q->s' q=0)/\Ext w wr) (λi _ _=>m-(intOf i).toNat)
    case atStart=>exact⟨0,0,s,Nat.zero_le _,rfl,rfl,by decide,hB,by show _=_;simp[nv],HZ.out,bW⟩
    case round=>
     clear hB bW g1;obtain⟨j,cy,s',hj,rfl,rfl,Eh,hB,hv,hz,bW⟩:=hrel
     by_cases hlj:j<m
     ·obtain⟨b2,o2,rfl,gX,dO⟩:=mU Yq.out (by omega)
      have g2:wr.cell? ⟨b2,o2+j,none⟩=some (.int .u32 (e j)):=by rw[bW.cell gX];exact dO j (by omega)
      have g3:wr.cell? ⟨w.heap.size,k+j,none⟩=some (.int .u32 (s' (k+j))):=hB.1.cell (by omega);have g4:=hB.1.frozen (k+j);have hej:=HE.out j hlj;have Js:=hB.2 (k+j) (by omega);obtain⟨q1,q2⟩:=qwD (d k) (e j) (s' (k+j)) cy wJ hej Js Eh;have q3:=IL (gG (gN (d k) (e j)) (s' (k+j)) 0) cy 0;have q4:=QS (d k) (e j);have q5:=IL (gN (d k) (e j)) (s' (k+j)) 0;have Q2:=Lib.hid q2;clear q2 dO;go_wp2_with (fail);refine(TI (d k) (e j) _ wJ hej).mono ?_;rintro e' w' ⟨rfl,rfl⟩;go_wp2_with (fail);refine(Bt (gN (d k) (e j)) (s' (k+j)) 0 _ q4 Js (by decide)).mono ?_;rintro e' w' ⟨rfl,rfl⟩;go_wp2_with (fail);refine(Bt (gG (gN (d k) (e j)) (s' (k+j)) 0) cy 0 _ q5 Eh (by decide)).mono ?_;rintro e' w' ⟨rfl,rfl⟩;go_wp2
      go_roundw
      case rel=>
       refine⟨j+1,jT (d k) (e j)+fI (gN (d k) (e j)) (s' (k+j)) 0+fI (gG (gN (d k) (e j)) (s' (k+j)) 0) cy 0,cK s' (k+j) (gG (gG (gN (d k) (e j)) (s' (k+j)) 0) cy 0),by omega,by go_num,by go_num,q1,hB.set _ _ q3,?_,?_,bW.set (Nat.le_refl _) _⟩
       ·exact qyr s' (n+m) k j (d k) (e j) cy _ _ _ (nv e j) (by omega) hv.out Q2.out
       ·intro q hq;unfold cK;rw[if_neg (by omega)];exact hz.out q hq
      case measure=>simp[intOf];omega
     ·have:j=m:=by omega
      subst this;clear hlj;have g3:wr.cell? ⟨w.heap.size,k+j,none⟩=some (.int .u32 (s' (k+j))):=hB.1.cell (by omega);have g4:=hB.1.frozen (k+j);go_wp2
      go_roundw
      case rel=>
       refine⟨k+1,cK s' (k+j) cy,by omega,by go_num,hB.set _ _ Eh,?_,?_,bW.set (Nat.le_refl _) _⟩
       ·have h1:=qm0 s' (k+j) cy (n+j) (by omega);rw[hz.out (k+j) (by omega)]at h1;have h2:=hv.out;rw[HV.out]at h2;simp only[nv,Nat.add_mul]
        have h3:d k*nv e j*4294967296^k=d k*4294967296^k*nv e j:=by rw[Nat.mul_assoc,Nat.mul_comm (nv e j), <-Nat.mul_assoc]
        omega
       ·intro q hq;unfold cK;rw[if_neg (by omega)];exact hz.out q (by omega)
      case measure=>simp[intOf];omega
  ·have:k=n:=by omega
   subst this;go_wp2;go_ret;exact⟨s,rfl,hB,HV.out,bW⟩
theorem qaA{w0 w:World}{g k:Nat}(h:w0.grownBy w (some g))(u:Value):w0.grownBy (w.setCell ⟨g,k,none⟩ u) (some g):=
 OY h ⟨rfl,rfl,rfl,by simp[World.setCell],λq _ hq=>Below.heap_setCell _ _ _ _ (λe=>hq (by rw[e]))⟩
theorem qmx{M:Nat->Prop}(g off N cz T:Nat)(a2:Option Addr)(c2 m:Nat)(s X:Nat->Nat)(w:World)(hB:iP w g T s)(hT:off+N<=T)(h':dK M w (.slice a2 m c2) m X)(hne:0<m->∀p,a2=some p->p.block≠g)(hm:m<=N)(LD:N<=1099511627776)
 (Gg:nv (λi=>s (off+i)) N+nv X m<4294967296^N):
 Calls Tryz.prog 183 #[.slice (some ⟨g,off,none⟩) N cz,.slice a2 m c2] w λq w'=>∃s',q=.returned (.tuple #[])/\iP w' g T s'/\(∀i,i<off\/off+N<=i->s' i=s i)/\
  nv (λi=>s' (off+i)) N=nv (λi=>s (off+i)) N+nv X m/\w.grownBy w' (some g):=by
 have HX:Hid (∀i,cut X m i<4294967296):=qac X m h'.2.1;have J6:Hid (∀j,j<=N->cy (λi=>s (off+i)) (cut X m) j<=1):=λj hj=>qhh _ _ j (λi hi=>hB.2 _ (by omega)) λi _=>HX.out i;have HS:=Lib.hid hB.2;have Yq:=Lib.hid h'
 have HF:Hid (nv (λi=>s (off+i)) N+nv (cut X m) N<4294967296^N):=by show _<_;rw[VJ X m N hm];exact Gg
 have HXv:Hid (nv (cut X m) N=nv X m):=VJ X m N hm;have oQ:=Lib.hid hne;clear h' Gg hne;have hlg:=hB.1.lt
 go_enter Tryz.func183,Tryz.ntmps183
 go_wp2
 go_loopw [10,4] (λi c wr=>∃j:Nat,j<=m/\i=.int .i64 j/\c=.int .u32 (cy (λi=>s (off+i)) (cut X m) j)/\iP wr g T (inf s (cut X m) off j)/\w.grownBy wr (some g)) (λi _ _=>m-(intOf i).toNat)
 case atStart=>exact⟨0,Nat.zero_le _,rfl,rfl,⟨hB.1.congr (by intro i _;unfold inf;rw[if_neg (by omega)]),qvP _ _ _ _ _ hB.2⟩,Uq _ _⟩
 case round=>
  clear hB;obtain⟨j,hj,rfl,rfl,hB,hg⟩:=hrel;have Eh:=J6.out j (by omega)
  by_cases hlt:j<m
  ·obtain⟨b2,o2,rfl,gX,dO⟩:=mU Yq.out (by omega);have wG:b2≠g:=oQ.out (by omega) _ rfl
   have g2:wr.cell? ⟨b2,o2+j,none⟩=some (.int .u32 (cut X m j)):=by
    rw[World.cell?_of_block (w:=w) (hg.block b2 gX (by simpa using wG)),dO j hlt];unfold cut;rw[if_pos hlt]
   have g3:wr.cell? ⟨g,off+j,none⟩=some (.int .u32 (s (off+j))):=by rw[hB.1.cell (by omega),qlP]
   have g4:=hB.1.frozen (off+j);clear dO;have aS:=Bt (s (off+j)) (cut X m j) (cy (λi=>s (off+i)) (cut X m) j) wr (HS.out _ (by omega)) (HX.out j) (by omega);have zM:gG (s (off+j)) (cut X m j) (cy (λi=>s (off+i)) (cut X m) j)=sd (λi=>s (off+i)) (cut X m) j:=rfl;have zL:fI (s (off+j)) (cut X m j) (cy (λi=>s (off+i)) (cut X m) j)=cy (λi=>s (off+i)) (cut X m) (j+1):=rfl;rw[zM,zL]at aS;have aO:=Lib.hid aS;clear aS zM zL;go_wp2_with (fail);refine aO.out.mono ?_;rintro e' w' ⟨rfl,rfl⟩;go_wp2
   go_roundw
   case rel=>exact⟨j+1,by omega,by go_num,rfl,qlQ s (cut X m) off j ▸ hB.set (off+j) _ (V6 _ _ _),qaA hg _⟩
   case measure=>simp[intOf];omega
  ·have:j=m:=by omega
   subst this;clear hlt;go_wp2;obtain⟨wo,rfl⟩:∃wo:World,wo=wr:=⟨_,rfl⟩
   go_loopw [7,4] (λi c wr=>∃q:Nat,j<=q/\q<=N/\i=.int .i64 q/\c=.int .u32 (cy (λi=>s (off+i)) (cut X j) q)/\iP wr g T (inf s (cut X j) off q)/\w.grownBy wr (some g)) (λi _ _=>N-(intOf i).toNat)
   case atStart=>exact⟨j,Nat.le_refl _,hm,rfl,rfl,hB,hg⟩
   case round=>
    clear hB hg Eh;obtain⟨q,hjq,hq,rfl,rfl,hB,hg⟩:=hrel;have Eh:=J6.out q (by omega)
    have nO:Hid (∀i,q<=i->cut X j i=0):=λi hi=>by unfold cut;rw[if_neg (by omega)]
    by_cases mH:cy (λi=>s (off+i)) (cut X j) q=0
    ·have t0:(((cy (λi=>s (off+i)) (cut X j) q:Nat):Int)==0)=true:=by simp[mH]
     have t1:(((cy (λi=>s (off+i)) (cut X j) q:Nat):Int)!=0)=false:=by simp[mH]
     have oM:=Lib.hid mH;clear mH;go_wp2
     go_end0
     refine⟨_,rfl,hB,λi hi=>?_,?_,hg⟩
     ·unfold inf;rw[if_neg (by omega)]
     ·rw[<-HXv.out];exact qlR s (cut X j) off N q (λi hi=>HS.out _ (by omega)) (λi _=>HX.out i) HF.out hq (.inr ⟨oM.out,nO.out⟩)
    ·have t0:(((cy (λi=>s (off+i)) (cut X j) q:Nat):Int)==0)=false:=by simp[mH]
     have t1:(((cy (λi=>s (off+i)) (cut X j) q:Nat):Int)!=0)=true:=by simp[mH]
     clear mH
     by_cases hlt:q<N
     ·have g3:wr.cell? ⟨g,off+q,none⟩=some (.int .u32 (s (off+q))):=by rw[hB.1.cell (by omega),qlP]
      have g4:=hB.1.frozen (off+q);have aS:=Bt (s (off+q)) (cut X j q) (cy (λi=>s (off+i)) (cut X j) q) wr (HS.out _ (by omega)) (HX.out q) (by omega);have zM:gG (s (off+q)) (cut X j q) (cy (λi=>s (off+i)) (cut X j) q)=sd (λi=>s (off+i)) (cut X j) q:=rfl;have zL:fI (s (off+q)) (cut X j q) (cy (λi=>s (off+i)) (cut X j) q)=cy (λi=>s (off+i)) (cut X j) (q+1):=rfl;rw[zM,zL,nO.out q (Nat.le_refl _)]at aS;have aO:=Lib.hid aS;clear aS zM zL;go_wp2_with (fail);refine aO.out.mono ?_;rintro e' w' ⟨rfl,rfl⟩;go_wp2
      go_roundw
      case rel=>exact⟨q+1,by omega,by omega,by go_num,rfl,qlQ s (cut X j) off q ▸ hB.set (off+q) _ (V6 _ _ _),qaA hg _⟩
      case measure=>simp[intOf];omega
     ·have:q=N:=by omega
      subst this;go_wp2
      go_end0
      refine⟨_,rfl,hB,λi hi=>?_,?_,hg⟩
      ·unfold inf;rw[if_neg (by omega)]
      ·rw[<-HXv.out];exact qlR s (cut X j) off q q (λi hi=>HS.out _ (by omega)) (λi _=>HX.out i) HF.out hq (.inl rfl)
def IA(w:World)(N x:Nat)(q:Ending)(w':World):Prop:=∃g s,q=.returned (.slice (some ⟨g,0,none⟩) N N)/\w.heap.size<=g/\iP w' g N s/\nv s N=x/\Ext w w'
def qgo(K:Nat):Prop:=∀(M:Nat->Prop)(a1 a2:Option Addr)(c1 c2 n m:Nat)(d e:Nat->Nat)(w:World),n+m<=K->dK M w (.slice a1 n c1) n d->dK M w (.slice a2 m c2) m e->n+m<=1099511627776->
 Calls Tryz.prog 159 #[.slice a1 n c1,.slice a2 m c2] w (IA w (n+m) (nv d n*nv e m))
theorem qnr{M:Nat->Prop}(a1 a2:Option Addr)(c1 c2 n m:Nat)(d e:Nat->Nat)(w:World)(h:dK M w (.slice a1 n c1) n d)(h':dK M w (.slice a2 m c2) m e)(hL:n+m<=1099511627776)(hs:n<48\/m<48):
 Calls Tryz.prog 159 #[.slice a1 n c1,.slice a2 m c2] w (IA w (n+m) (nv d n*nv e m)):=by
 rcases Nat.lt_or_ge n m with hlt|iZ
 ·have kC:n<48:=by omega
  have c:=qmA a1 a2 c1 c2 n m d e w h h' hL;have C:=Lib.hid c;clear c h h'
  go_enter Tryz.func159,Tryz.ntmps159
  go_wp2_with (fail);refine C.out.mono ?_;rintro e' w' ⟨s,rfl,hB,hv,he⟩;have HV:=Lib.hid hv;clear hv;go_wp2;go_ret;exact⟨_,s,rfl,Nat.le_refl _,hB,HV.out,he⟩
 ·have kC:m<48:=by omega
  have c:=qmA a2 a1 c2 c1 m n e d w h' h (by omega);rw[Nat.mul_comm,Nat.add_comm m n]at c;have C:=Lib.hid c;clear c h h'
  go_enter Tryz.func159,Tryz.ntmps159
  go_wp2_with (fail);refine C.out.mono ?_;rintro e' w' ⟨s,rfl,hB,hv,he⟩;have HV:=Lib.hid hv;clear hv;go_wp2;go_ret;exact⟨_,s,rfl,Nat.le_refl _,hB,HV.out,he⟩
theorem iL{α:Type _}{xs:List α}{i:Nat}:xs.toArray[i]?=xs[i]?:=List.getElem?_toArray
theorem iM{α:Type _}{a:α}{l:List α}{i:Nat}:(a::l)[i+1]?=l[i]?:=List.getElem?_cons_succ
theorem iN{α:Type _}{a:α}{l:List α}:(a::l)[0]?=some a:=List.getElem?_cons_zero
theorem aD{α:Type _}{l:List α}{i:Nat}{a:α}:l.toArray.setIfInBounds i a=(l.set i a).toArray:=List.setIfInBounds_toArray ..
theorem aF{α:Type _}{x:α}{xs:List α}{a:α}:(x::xs).set 0 a=a::xs:=List.set_cons_zero ..
theorem aG{α:Type _}{x:α}{xs:List α}{n:Nat}{a:α}:(x::xs).set (n+1) a=x::xs.set n a:=List.set_cons_succ ..
section
variable{P:Program}{ops:Array Oper}{Q:Exit->Act->World->Prop}{md:Region.Mode}{S:World->Prop}{last:Nat}
def l9(P:Program)(md:Region.Mode)(ops:Array Oper)(Q:Exit->Act->World->Prop)(S:World->Prop)(last:Nat):Nat->Array Bool->Act->World->Prop
 |0,listed,a,w=>Region.ready md ops listed=[]/\Q .normal a w
 |fuel+1,listed,a,w=>
  (Region.ready md ops listed=[]->Q .normal a w)/\
  ∀i∈Region.ready md ops listed,wpOp P ops Q i (λa' w'=>(i≠last->S w')/\l9 P md ops Q S last fuel (listed.setIfInBounds i true) a' w') a w
theorem qoM:∀(fuel:Nat)(listed:Array Bool)(a:Act)(w:World),l9 P md ops Q S last fuel listed a w->wpAny P md ops Q fuel listed a w
 |0,_,_,_,h=>h
 |fuel+1,_,_,_,h=>⟨h.1,λi hi=>wpOp_mono (λa' w' h'=>qoM fuel _ a' w' h'.2) (h.2 i hi)⟩
def waits(md:Region.Mode)(ops:Array Oper)(last i:Nat):Bool:=decide (ops.size<=last)||((ops[last]?).map λo=>o.after.any λe=>Region.binds md e&&e.on==i).getD false
theorem qmN{i:Nat}{listed:Array Bool}(hw:waits md ops last i=true)(hr:i∈Region.ready md ops listed):last∉Region.ready md ops listed:=by
 intro hl;obtain⟨_,o,ho,oG⟩:=mem_ready.1 hl;unfold waits at hw
 have hlt:¬ops.size<=last:=by
  have:=(Array.getElem?_eq_some_iff.1 ho).1;omega
 rw[ho,decide_eq_false hlt,Bool.false_or]at hw;simp only[Option.map_some,Option.getD_some,Array.any_eq_true,Bool.and_eq_true,beq_iff_eq]at hw;obtain⟨k,hk,hb,he⟩:=hw;have h1:=oG _ (Array.getElem_mem hk) hb;have h0:=(mem_ready.1 hr).1;rw[he]at h1;rcases Nat.lt_or_ge i listed.size with h'|h'
 ·simp[h']at h0 h1;rw[h0]at h1;cases h1
 ·simp[Array.getElem?_eq_none h']at h1
theorem qoK{i:Nat}{oi:Oper}{v:Value}(hi:ops[i]?=some oi)(GD:∀(j:Nat)(o:Oper) cs b,ops[j]?=some o->o.op≠ .select cs b)
 (hQ:∀c a w,Q (.panic c) (a.put oi.dst v) w->Q (.panic c) a w) (hw:waits md ops last i=true):
 ∀(fuel:Nat)(listed:Array Bool)(a:Act)(w:World),
  (∀j oj,ops[j]?=some oj->j≠i->listed.getD j true=false->(∀e∈oj.after,Region.binds md e=true->e.on≠i)->oi.apart ops oj=true)->
  i∈Region.ready md ops listed->YieldsIf P ops S oi v a->S w->
  l9 P md ops Q S last fuel (listed.setIfInBounds i true) (a.put oi.dst v) w->l9 P md ops Q S last (fuel+1) listed a w:=by
 intro fuel
 induction fuel with
 |zero=>
  intro listed a w _ hr hy hS H;refine⟨λh=>(by rw[h]at hr;cases hr),λj hj=>?_⟩
  by_cases j5:j=i
  ·subst j5;exact hy.wpOp hi hS ⟨λ_=>hS,H⟩
  ·have:=ready_mono hj j5;rw[H.1]at this;cases this
 |succ fuel ih=>
  intro listed a w Gh hr hy hS H;refine⟨λh=>(by rw[h]at hr;cases hr),λj hj=>?_⟩
  by_cases j5:j=i
  ·subst j5;exact hy.wpOp hi hS ⟨λ_=>hS,H⟩
  ·have h1:=H.2 j (ready_mono hj j5);have vG:j≠last:=λe=>qmN hw hr (e ▸ hj);obtain⟨Gj,oj,z8,oG⟩:=mem_ready.1 hj
   have P9:∀e∈oj.after,Region.binds md e=true->e.on≠i:=λe he hb heq=>by
    have h1:=oG e he hb;have h0:=(mem_ready.1 hr).1;rw[heq]at h1;rcases Nat.lt_or_ge i listed.size with h'|h'
    ·simp[h']at h0 h1;rw[h0]at h1;cases h1
    ·simp[Array.getElem?_eq_none h']at h1
   have h2:=wpOp_putIf z8 (Gh j oj z8 j5 Gj P9) (λcs b=>GD i oi cs b hi) (λcs b=>GD j oj cs b z8) hQ hy h1
   have PN:∀k ok,ops[k]?=some ok->k≠i->(listed.setIfInBounds j true).getD k true=false->
    (∀e∈ok.after,Region.binds md e=true->e.on≠i)->oi.apart ops ok=true:=λk ok hk PX Af hno=>by
    refine Gh k ok hk PX ?_ hno
    by_cases pJ:j=k
    ·subst pJ;exact Gj
    ·rw[getD_set_ne true pJ]at Af;exact Af
   refine wpOp_mono (λa' w' h3=>⟨λ_=>h3.2.1 vG,ih (listed.setIfInBounds j true) a' w' PN (ready_mono hr (Ne.symm j5)) h3.1 (h3.2.1 vG) ?_⟩) h2;rw[Array.setIfInBounds_comm _ _ j5];exact h3.2.2
theorem qz4(i:Nat){oi:Oper}{v:Value}{fuel:Nat}{listed:Array Bool}{a:Act}{w:World}
 (hs:Region.noSelect ops=true) (hf:Region.free md ops listed i=true) (hr:(Region.ready md ops listed).contains i=true) (hl:waits md ops last i=true) (hS:S w)
 (hi:ops[i]?=some oi) (hwd:Region.wanted oi (yielded ops a.tmps)=true) (hy:∀w,S w->(execOp a.eval oi).run P w=.ok (.value v) w) (hQ:∀c a w,Q (.panic c) (a.put oi.dst v) w->Q (.panic c) a w)
 (h:l9 P md ops Q S last fuel (listed.setIfInBounds i true) (a.put oi.dst v) w):l9 P md ops Q S last (fuel+1) listed a w:=
 qoK hi (Region.noSelect_spec hs) hQ hl fuel listed a w (Region.free_spec hi hf) (by simpa using hr) (.inl ⟨hwd,hy⟩) hS h
structure KY(P:Program)(md:Region.Mode)(ops:Array Oper)(Q:Exit->Act->World->Prop)(S:World->Prop)(last:Nat)(is:List Nat)(fuel:Nat)(listed:Array Bool)(a:Act)(w:World):Prop where
 out:l9 P md ops Q S last fuel listed a w
theorem dF(is:List Nat){fuel:Nat}{listed:Array Bool}{a:Act}{w:World}(h:KY P md ops Q S last is fuel listed a w):l9 P md ops Q S last fuel listed a w:=h.out
theorem dG{fuel:Nat}{listed:Array Bool}{a:Act}{w:World}(h:l9 P md ops Q S last fuel listed a w):KY P md ops Q S last [] fuel listed a w:=⟨h⟩
theorem dD{i:Nat}{is:List Nat}{oi:Oper}{v:Value}{fuel:Nat}{listed:Array Bool}{a:Act}{w:World}
 (hy:∀w,S w->(execOp a.eval oi).run P w=.ok (.value v) w) (h:KY P md ops Q S last is fuel (listed.setIfInBounds i true) (a.put oi.dst v) w)
 (hc:(Region.noSelect ops&&Region.free md ops listed i&&(Region.ready md ops listed).contains i&&waits md ops last i)=true:=by kernel_rfl) (hS:S w:=by first|exact ag|exact hHeld)
 (hi:ops[i]?=some oi:=by simp only[iL,iM,iN];rfl) (hwd:Region.wanted oi (yielded ops a.tmps)=true:=by rfl) (hQ:∀c a w,Q (.panic c) (a.put oi.dst v) w->Q (.panic c) a w:=by exactλ_ _ _ h=>h):KY P md ops Q S last (i::is) (fuel+1) listed a w:=by
 simp only[Bool.and_eq_true]at hc;exact⟨qz4 i hc.1.1.1 hc.1.1.2 hc.1.2 hc.2 hS hi hwd hy hQ h.out⟩
theorem aK(i:Nat){o:Oper}{fuel:Nat}{listed:Array Bool}{a:Act}{w:World}
 (h:∀K':Act->World->Prop,Shut (∀a w,(i≠last->S w)->l9 P md ops Q S last fuel (listed.setIfInBounds i true) a w->K' a w)->if Region.wanted o (yielded ops a.tmps)=true then Oper.wp P o a w K' Q else K' (a.put o.dst undef) w) (hr:Region.ready md ops listed=[i]:=by kernel_rfl) (ho:ops[i]?=some o:=by simp only[iL,iM,iN];rfl):l9 P md ops Q S last (fuel+1) listed a w:=by
 refine⟨λh0=>(by rw[h0]at hr;cases hr),λj hj=>?_⟩;rw[hr]at hj;simp only[List.mem_singleton]at hj;subst hj;exact wpOp_step ho λK' hK=>h K' λa w h1 h2=>hK a w ⟨h1,h2⟩
theorem xe(i j:Nat){oi oj:Oper}{fuel:Nat}{listed:Array Bool}{a:Act}{w:World}(hr:Region.ready md ops listed=[i,j])(hi:ops[i]?=some oi)(hj:ops[j]?=some oj)
 (h:∀K':Act->World->Prop,Shut (∀a w,(i≠last->S w)->l9 P md ops Q S last fuel (listed.setIfInBounds i true) a w->K' a w)->if Region.wanted oi (yielded ops a.tmps)=true then Oper.wp P oi a w K' Q else K' (a.put oi.dst undef) w)
 (h':∀K':Act->World->Prop,Shut (∀a w,(j≠last->S w)->l9 P md ops Q S last fuel (listed.setIfInBounds j true) a w->K' a w)->if Region.wanted oj (yielded ops a.tmps)=true then Oper.wp P oj a w K' Q else K' (a.put oj.dst undef) w):l9 P md ops Q S last (fuel+1) listed a w:=by
 refine⟨λh0=>(by rw[h0]at hr;cases hr),λq hq=>?_⟩;rw[hr]at hq;simp only[List.mem_cons,List.not_mem_nil,or_false]at hq;rcases hq with rfl|rfl
 ·exact wpOp_step hi λK' hK=>h K' λa w h1 h2=>hK a w ⟨h1,h2⟩
 ·exact wpOp_step hj λK' hK=>h' K' λa w h1 h2=>hK a w ⟨h1,h2⟩
theorem ek{listed:Array Bool}{a:Act}{w:World}{fuel:Nat}(h:Q .normal a w)(hr:Region.ready md ops listed=[]:=by kernel_rfl):
 l9 P md ops Q S last fuel listed a w:=by
 cases fuel with
 |zero=>exact⟨hr,h⟩
 |succ _=>exact⟨λ_=>h,by rw[hr];simp⟩
theorem fM(S:World->Prop)(last:Nat){id:Nat}{a:Act}{w:World}(hm:P.follows .mixedOrders=true)(hS:S w.drew)
 (h:S w.drew->l9 P .any ops Q S last ops.size (Array.replicate ops.size false) a w.drew):(Code.region id ops true).wp P Q a w:=
 wp_region_any hm (qoM _ _ _ _ (h hS))
end
def DL(_:World):Prop:=True
theorem DL.ext{w:World}(_:DL w)(w':World):DL w':=trivial
theorem dK.take{M:Nat->Prop}{w:World}{b off n c:Nat}{d:Nat->Nat}(h:dK M w (.slice (some ⟨b,off,none⟩) n c) n d)(h0:0<n){k:Nat}(hk:k<=n):dK M w (.slice (some ⟨b,off,none⟩) k c) k d:=by
 obtain⟨h1,h2,h3⟩:=h;refine⟨by omega,λi hi=>h2 i (by omega),?_⟩;rcases h3 with⟨h3,_⟩|⟨b',off',cap,hv,hn,hc,hb,hcell⟩
 ·omega
 ·simp only[Value.slice.injEq,Option.some.injEq,Addr.mk.injEq,and_true]at hv;obtain⟨⟨rfl,rfl⟩,_,rfl⟩:=hv;exact .inr ⟨b,off,c,rfl,by omega,hc,hb,λi hi=>hcell i (by omega)⟩
theorem dK.drop{M:Nat->Prop}{w:World}{b off n c:Nat}{d:Nat->Nat}(h:dK M w (.slice (some ⟨b,off,none⟩) n c) n d)(h0:0<n){k:Nat}(hk:k<=n):dK M w (.slice (some ⟨b,off+k,none⟩) (n-k) (c-k)) (n-k) (λi=>d (k+i)):=by
 obtain⟨h1,h2,h3⟩:=h;refine⟨by omega,λi hi=>h2 _ (by omega),?_⟩;rcases h3 with⟨h3,_⟩|⟨b',off',cap,hv,hn,hc,hb,hcell⟩
 ·omega
 ·simp only[Value.slice.injEq,Option.some.injEq,Addr.mk.injEq,and_true]at hv;obtain⟨⟨rfl,rfl⟩,_,rfl⟩:=hv;exact .inr ⟨b,off+k,c-k,rfl,by omega,by omega,hb,λi hi=>by rw[Nat.add_assoc];exact hcell _ (by omega)⟩
theorem qlZ{s s':Nat->Nat}{off N T x:Nat}(hT:T=off+N)(hs:∀i,i<off\/off+N<=i->s' i=s i)(hv:nv (λi=>s' (off+i)) N=nv (λi=>s (off+i)) N+x):nv s' T=nv s T+4294967296^off*x:=by
 subst hT;rw[wW,wW,hv,nV s' s off λi hi=>hs i (.inl hi),Nat.mul_add,Nat.add_assoc]
theorem qlY{s:Nat->Nat}{off N T x:Nat}(hT:T=off+N)(h:nv s T+4294967296^off*x<4294967296^T):nv (λi=>s (off+i)) N+x<4294967296^N:=by
 subst hT;rw[wW,Nat.pow_add]at h
 have h2:4294967296^off*(nv (λi=>s (off+i)) N+x)<4294967296^off*4294967296^N:=by rw[Nat.mul_add];omega
 exact Nat.lt_of_mul_lt_mul_left h2
theorem VM{w:World}{g N:Nat}{s p:Nat->Nat}{off k:Nat}(hB:ak w g 155 N (over (λi=>.int .u32 (s i)) off k (λi=>.int .u32 (p i))))(hs:∀i,i<N->s i<4294967296)(hp:∀i,i<k->p i<4294967296):
 iP w g N (λi=>if off<=i/\i<off+k then p (i-off)else s i):=by
 refine⟨hB.congr λi _=>?_,λi hi=>?_⟩
 ·unfold over;dsimp only;split<;>rfl
 ·dsimp only
  split
  ·exact hp _ (by omega)
  ·exact hs i hi
theorem qna(k N:Nat)(p:Nat->Nat)(h:k<=N):nv (λi=>if 0<=i/\i<0+k then p (i-0)else 0) N=nv p k:=by
 obtain⟨r,rfl⟩:∃r,N=k+r:=⟨N-k,by omega⟩;rw[wW,nV _ p k (λi hi=>by rw[if_pos (by omega)];rfl),nV _ (λ_=>0) r (λi _=>by rw[if_neg (by omega)]),ML];omega
theorem qxx(k r q N:Nat)(p t:Nat->Nat)(hq:q=k)(hN:N=k+r):nv (λi=>if q<=i/\i<q+r then t (i-q)else if 0<=i/\i<0+k then p (i-0)else 0) N=nv p k+4294967296^k*nv t r:=by
 subst hq hN;rw[wW,nV _ p q (λi hi=>by rw[if_neg (by omega),if_pos (by omega)];rfl),nV _ t r (λi hi=>by rw[if_pos (by omega),Nat.add_sub_cancel_left])]
theorem qv9(a0 a1 b0 b1:Nat):a0*b0+a1*b1<=(a0+a1)*(b0+b1)/\(a0+a1)*(b0+b1)-(a0*b0+a1*b1)=a0*b1+a1*b0:=by
 have:(a0+a1)*(b0+b1)=a0*b0+a1*b1+(a0*b1+a1*b0):=by
  rw[Nat.add_mul,Nat.mul_add,Nat.mul_add];omega
 omega
theorem qwa(a0 a1 b0 b1 P:Nat):a0*b0+P*P*(a1*b1)+P*(a0*b1+a1*b0)=(a0+P*a1)*(b0+P*b1):=by
 rw[Nat.add_mul,Nat.mul_add,Nat.mul_add,Nat.mul_add]
 have e1:P*a1*(P*b1)=P*P*(a1*b1):=by rw[Nat.mul_mul_mul_comm]
 have e2:a0*(P*b1)=P*(a0*b1):=by rw[Nat.mul_left_comm]
 have e3:P*a1*b0=P*(a1*b0):=Nat.mul_assoc ..;omega
theorem qtO(n:Nat):(((n:Int)+1)/2)=(((n+1)/2:Nat):Int):=by
 omega
theorem qnq(K:Nat)(ih:qgo K)(M:Nat->Prop)(sw:Bool)(a1 a2:Option Addr)(c1 c2 n m:Nat)(d e:Nat->Nat)(w:World)(h:dK M w (.slice a1 n c1) n d)(h':dK M w (.slice a2 m c2) m e)(hL:n+m<=1099511627776)(hK:n+m<=K+1)(hs:48<=m)(vH:m<=n)(hsw:sw=true->m<n)(hM:Mb M w):
 Calls Tryz.prog 159 (if sw then #[.slice a2 m c2,.slice a1 n c1]else #[.slice a1 n c1,.slice a2 m c2]) w (IA w (n+m) (nv d n*nv e m)):=by
 obtain⟨i0,hi,hz0,hz1,hz2⟩:=info_parts Tryz.EK;obtain⟨b1,o1,rfl,hb1,_⟩:=mU h (by omega);obtain⟨b2,o2,rfl,gX,_⟩:=mU h' (by omega);have tZ:=Lib.hid h;have rz:=Lib.hid h'
 have qj0:n<=c1/\c1<=9223372036854775807:=by
  rcases h.2.2 with⟨h0,_⟩|⟨_,_,_,hv,hn,hc,_⟩
  ·omega
  ·simp only[Value.slice.injEq,true_and]at hv;obtain⟨_,rfl⟩:=hv;unfold maxLen at hc;omega
 have qj1:m<=c2/\c2<=9223372036854775807:=by
  rcases h'.2.2 with⟨h0,_⟩|⟨_,_,_,hv,hn,hc,_⟩
  ·omega
  ·simp only[Value.slice.injEq,true_and]at hv;obtain⟨_,rfl⟩:=hv;unfold maxLen at hc;omega
 have kG:=Lib.hid ih;have dL:=Lib.hid hM;obtain⟨dR,qBf⟩:=qj0;obtain⟨dO,qBg⟩:=qj1;clear h h' ih hM
 have gY:((n:Int)<(m:Int))=False:=by simp;omega
 have qCa:((m:Int)<48)=False:=by simp;omega
 cases sw
 case' false=>simp only[Bool.false_eq_true,if_false]
 case' true=>
  simp only[if_true]
  have qCn:(m:Int)<(n:Int):=by have:=hsw rfl;omega
 all_goals
  clear hsw
  go_enter Tryz.func159,Tryz.ntmps159
  go_wp2_with (first|(refine wpList_make_full _ rfl _ _ _ rfl w.heap.size 155 i0 (.int .u32 0) 1 Tryz.underlying28 hi hz0 hz1 .i64 .i64 _ _ (n+m) rfl rfl ?c4 ?c5 ?c2 ?c3 ?c6 ?_))
  case c2=>rw[hz2];omega
  case c3=>unfold maxLen;omega
  case c4=>go_num
  case c5=>go_num
  case c6=>simp
  intro w1 hown hgrow;have bI:iP w1 w.heap.size (n+m) (λ_=>0):=⟨ak.Am hown,λ_ _=>(by decide:0<4294967296)⟩;have oh:=Lib.hid bI;have aL:=Lib.hid (lM hgrow);have Gq:=bI.1.lt;clear hown hgrow bI
  by_cases hA:nv d n=0
  ·have HF:Hid (IA w (n+m) (nv d n*nv e m) (.returned (.slice (some ⟨w.heap.size,0,none⟩) (n+m) (n+m))) w1):=⟨_,_,rfl,Nat.le_refl _,oh.out,by rw[ML,hA,Nat.zero_mul],aL.out⟩;have aS:=JJ _ (nv d n) w1 ⟨_,_,tZ.out.ext aL.out,rfl⟩;rw[decide_eq_true hA]at aS;have aO:=Lib.hid aS;clear aS;go_wp2_with (fail);refine aO.out.mono ?_;rintro e' w' ⟨rfl,rfl⟩;go_wp2;go_ret;exact HF.out
  ·have qaa:=JJ _ (nv d n) w1 ⟨_,_,tZ.out.ext aL.out,rfl⟩;rw[decide_eq_false hA]at qaa;have WR:=Lib.hid qaa;clear qaa
   by_cases hB:nv e m=0
   ·have HF:Hid (IA w (n+m) (nv d n*nv e m) (.returned (.slice (some ⟨w.heap.size,0,none⟩) (n+m) (n+m))) w1):=⟨_,_,rfl,Nat.le_refl _,oh.out,by rw[ML,hB,Nat.mul_zero],aL.out⟩;have aS:=JJ _ (nv e m) w1 ⟨_,_,rz.out.ext aL.out,rfl⟩;rw[decide_eq_true hB]at aS;have aO:=Lib.hid aS;clear aS;go_wp2_with (fail);refine WR.out.mono ?_;rintro e' w' ⟨rfl,rfl⟩;go_wp2_with (fail);refine aO.out.mono ?_;rintro e' w' ⟨rfl,rfl⟩;go_wp2;go_ret;exact HF.out
   ·have qab:=JJ _ (nv e m) w1 ⟨_,_,rz.out.ext aL.out,rfl⟩;rw[decide_eq_false hB]at qab;have qd4:=Lib.hid qab;clear qab hA hB;go_wp2_with (fail);refine WR.out.mono ?_;rintro e' w' ⟨rfl,rfl⟩;go_wp2_with (fail);refine qd4.out.mono ?_;rintro e' w' ⟨rfl,rfl⟩;clear WR qd4
    go_upto_region 9 with(fail)
    rw[qtO];obtain⟨H,hH⟩:∃H,H=(n+1)/2:=⟨_,rfl⟩;rw[<-hH]
    have hH1:n<=2*H:=by omega
    have hH2:2*H<=n+1:=by omega
    have lX:Mb (Mx M w.heap.size (w.heap.size+1)) w1:=Mx.mb dL.out aL.out.size (by omega);have hA1:=(tZ.out.more (M':=Mx M w.heap.size (w.heap.size+1)) (Mx.more (Nat.le_refl _))).ext aL.out;have Lm:=(rz.out.more (M':=Mx M w.heap.size (w.heap.size+1)) (Mx.more (Nat.le_refl _))).ext aL.out;have EY:=Lib.hid hA1;have qC:=Lib.hid Lm
    have YP:Hid (nv d n=nv d H+4294967296^H*nv (λi=>d (H+i)) (n-H)):=by
     show nv d n=_;rw[<-wW,show H+(n-H)=n by omega]
    clear hA1 Lm hH tZ rz dL;have jh:=Lib.hid lX;clear lX
    by_cases hmH:m<=H
    ·have Fg:=Lib.hid (kG.out _ _ _ _ _ H m d e w1 (by omega) (EY.out.take (by omega) (show H<=n by omega)) qC.out (by omega))
     have tmH:(m:Int)<=(H:Int):=by omega
     go_wp2_with (fail);refine Fg.out.mono ?_;rintro q w2 ⟨g2,s2,rfl,iI,cZ,hv2,aA⟩;have xS:=oh.out.ext aA;have fH:=Lib.hid cZ;have yT:=Lib.hid hv2;have aU:=Lib.hid aA;clear Fg cZ hv2 aA
     go_wp2_with (refine Rv rfl (.tmp 44) (.tmp 49) _ _ rfl 155 Tryz.underlying28 (by rw[hi];simp[hz1]) _ _ _ _ _ _ rfl rfl w.heap.size 0 155 (n+m) _ xS.1 (H+m) ?k1 (λi=>.int .u32 (s2 i)) ?k2 ?k3 ?k4 ?_)
     case k1=>show _=min _ _;omega
     case k2=>exactλ_=>⟨g2,0,⟨rfl,rfl⟩,λj hj=>by rw[Nat.zero_add];exact fH.out.1.cell hj⟩
     case k3=>omega
     case k4=>exactλj hj=>rfl
     intro w3 jK jQ;have Uv:=VM jK (λ_ _=>(by decide:0<4294967296)) (λi hi=>fH.out.2 i hi);have hV3:=qna (H+m) (n+m) s2 (by omega);generalize qR:(λi=>if 0<=i/\i<0+(H+m)then s2 (i-0)else 0)=s3 at Uv hV3;have rP:Kp (Mx M w.heap.size (w.heap.size+1)) w1 w3:=(Kp.jC aU.out).trans (Kp.grown jQ (λk hk=>by cases hk;exact Mx.at (by omega)));have zo:Ext w w3:=(aL.out.trans aU.out).grown jQ (λk hk=>by cases hk;exact Nat.le_refl _);have eP:=Lib.hid zo;have HD3:=Lib.hid Uv;have Io:Hid (nv s3 (n+m)=nv d H*nv e m):=hV3.trans yT.out;have yL:=Lib.hid (kG.out _ _ _ _ _ (n-H) m _ e w3.drew (by omega) ((((EY.out.kp rP).ext (Ext.refl _).drew)).drop (by omega) (show H<=n by omega)) ((qC.out.kp rP).ext (Ext.refl _).drew) (by omega));have NS:Hid (Mb (Mx M w.heap.size (w.heap.size+1)) w3):=jh.out.size rP.1;have Cf:=Uv.1.lt;clear jK jQ rP zo Uv hV3 qR xS aU yT fH iI
     have hcH:(H:Int)<=(n:Int)+(m:Int):=by omega
     have qt2:n+m≠H:=by omega
     have qt3:c1≠H:=by omega
     have qt0:(H:Int)<=(n:Int):=by omega
     have qt1:(H:Int)<=(c1:Int):=by omega
     go_wp2;refine fM DL 10 (by kernel_rfl) trivial (λhHeld=>?_);(refine dF [0,1,2,3,4,5,6] ?_;(iterate 7 (refine dD (v:=?_) ?_ ?_;rotate_left 1;(intro wS hSw;obtain Pp:=hSw;go_simp;try with_reducible rfl);(try simp only[Act.put,aD,aF,aG])));refine dG ?_);((refine aK 7 ?_;intro K hK);go_simp;(refine(yL.out).mono ?_);rintro e_ w4 ⟨g4,s4,rfl,l5,kv,Qp,aW⟩;go_wp2_with (fail);(try clear ag);(have ag:=hHeld.ext w4);(refine hK.out _ _ (λ_=>ag) ?_);clear hK K;(try simp only[Act.put,aD,aF,aG]));have qBz:w3.heap.size<=g4:=l5;have aS:=JK (M:=Mx M w.heap.size (w.heap.size+1)) kv.1 (λhg=>absurd (NS.out _ hg) (by omega)) (by unfold maxLen;omega) kv.2 (by have:=xO _ _ kv.2;omega);rw[Qp]at aS;have aO:=Lib.hid aS;have fV:Hid (Ext w3 w4):=((Ext.refl w3).drew).trans aW;clear aS yL kv Qp l5;((refine aK 8 ?_;intro K hK);go_simp;(refine(aO.out).mono ?_);rintro e_ wz ⟨u,rfl,hu,rfl⟩;go_wp2_with (fail);(try clear ag);(have ag:=hHeld.ext w4);(refine hK.out _ _ (λ_=>ag) ?_);clear hK K;(try simp only[Act.put,aD,aF,aG]));obtain⟨X,hX,xY,_⟩:=hu.len;obtain⟨ua,uc,rfl⟩:=kE hX;have FC:=Lib.hid xY
     have gM:nv s3 (n+m)+4294967296^H*nv X (az (nv (λi=>d (H+i)) (n-H)*nv e m))=nv d n*nv e m:=by
      rw[xY,Io.out,YP.out,Nat.add_mul,Nat.mul_assoc]
     have Jc:az (nv (λi=>d (H+i)) (n-H)*nv e m)<=n+m-H:=by
      have h1:=qJ (nv (λi=>d (H+i)) (n-H)) (nv e m);have h2:=xO (λi=>d (H+i)) (n-H) (λi hi=>EY.out.2.1 _ (by omega));have h3:=xO e m qC.out.2.1;omega
     have qw:nv d n*nv e m<4294967296^(n+m):=by
      rw[Nat.pow_add];exact Nat.mul_lt_mul'' (pO d n EY.out.2.1) (pO e m qC.out.2.1)
     have Nh:=Lib.hid (qmx w.heap.size H (n+m-H) (n+m-H) (n+m) ua uc _ s3 X w4 (HD3.out.ext fV.out) (by omega) hX (λh0 p hp=>by
      subst hp;obtain⟨b,o,e5,hb,_⟩:=mU hX h0;rcases hX.2.2 with⟨h6,_⟩|⟨b',off',cap',hv,_,_,hb',_⟩
      ·omega
      ·simp only[Value.slice.injEq,true_and,Option.some.injEq]at hv
       rw[hv.1];exactλe6=>hb'.2 ((show b'=w.heap.size from e6) ▸ Mx.at ⟨Nat.le_refl _,Nat.lt_succ_self _⟩)) Jc (by omega) (qlY (T:=n+m) (by omega) (by rw[gM];exact qw)))
     have xh:=Lib.hid gM;generalize az (nv (λi=>d (H+i)) (n-H)*nv e m)=xl at*;clear hX xY gM qw hu aO FC;((refine aK 9 ?_;intro K hK);go_simp;(refine(Nh.out).mono ?_);rintro e_ w6 ⟨s6,rfl,hD6,Jr,Ag,dU⟩;go_wp2_with (fail);(try clear ag);(have ag:=hHeld.ext w6);(refine hK.out _ _ (λ_=>ag) ?_);clear hK K;(try simp only[Act.put,aD,aF,aG]));refine ek ?_;have hval:=qlZ (T:=n+m) (by omega) Jr Ag;rw[xh.out]at hval;have HF:Hid (IA w (n+m) (nv d n*nv e m) (.returned (.slice (some ⟨w.heap.size,0,none⟩) (n+m) (n+m))) w6):=⟨_,_,rfl,Nat.le_refl _,hD6,hval,(eP.out.trans fV.out).grown dU (λk hk=>by cases hk;exact Nat.le_refl _)⟩;clear hval hD6 Jr Ag dU Nh hHeld ag aW;go_wp2;go_ret;exact HF.out
    ·have tmH:¬(m:Int)<=(H:Int):=by omega
     have hcH:(H:Int)<=(n:Int)+(m:Int):=by omega
     have qt0:(H:Int)<=(n:Int):=by omega
     have qt1:(H:Int)<=(c1:Int):=by omega
     have qt2:n+m≠H:=by omega
     have qt3:c1≠H:=by omega
     have qBi:(H:Int)<=(m:Int):=by omega
     have qBj:(H:Int)<=(c2:Int):=by omega
     have qBk:c2≠H:=by omega
     have yU:Hid (nv e m=nv e H+4294967296^H*nv (λi=>e (H+i)) (m-H)):=by
      show nv e m=_;rw[<-wW,show H+(m-H)=m by omega]
     have SN:=Lib.hid (EY.out.take (by omega) (show H<=n by omega));have SQ:=Lib.hid (qC.out.take (by omega) (show H<=m by omega));have RP:=Lib.hid (EY.out.drop (by omega) (show H<=n by omega));have oN:=Lib.hid (qC.out.drop (by omega) (show H<=m by omega));have Fg:=Lib.hid (kG.out _ _ _ _ _ H H d e w1.drew (by omega) (SN.out.ext (Ext.refl _).drew) (SQ.out.ext (Ext.refl _).drew) (by omega));go_wp2;refine fM DL 7 (by kernel_rfl) trivial (λhHeld=>?_);(refine dF [0,1,2,3,4,5] ?_;(iterate 6 (refine dD (v:=?_) ?_ ?_;rotate_left 1;(intro wS hSw;obtain Pp:=hSw;go_simp;try with_reducible rfl);(try simp only[Act.put,aD,aF,aG])));refine dG ?_);((refine aK 6 ?_;intro K hK);go_simp;(refine(Fg.out).mono ?_);rintro e_ w2 ⟨g2,s2,rfl,iI,cZ,hv2,aA⟩;go_wp2_with (fail);(try clear ag);(have ag:=hHeld.ext w2);(refine hK.out _ _ (λ_=>ag) ?_);clear hK K;(try simp only[Act.put,aD,aF,aG]));((refine aK 7 ?_;intro K hK);go_simp;(refine hK.out _ _ (λh=>absurd rfl h) ?_);clear hK K;refine ek ?_);have fH:=Lib.hid cZ;have yT:=Lib.hid hv2;have aU:Hid (Ext w1 w2):=((Ext.refl w1).drew).trans aA;have qub:w1.heap.size<=g2:=iI;clear Fg cZ hv2 aA hHeld ag iI;have R7:=Lib.hid (kG.out _ _ _ _ _ (n-H) (m-H) _ _ w2.drew (by omega) ((RP.out.ext aU.out).ext (Ext.refl _).drew) ((oN.out.ext aU.out).ext (Ext.refl _).drew) (by omega));go_wp2;refine fM DL 7 (by kernel_rfl) trivial (λhHeld=>?_)
     (refine dF [0,1,2,3,4,5] ?_;(iterate 6 (refine dD (v:=?_) ?_ ?_;rotate_left 1;(intro wS hSw;obtain Pp:=hSw;go_simp;try with_reducible rfl);(try simp only[Act.put,aD,aF,aG])));refine dG ?_);((refine aK 6 ?_;intro K hK);go_simp;(refine(R7.out).mono ?_);rintro e_ w3 ⟨g3,s3,rfl,jQ,jK,GJ,aT⟩;go_wp2_with (fail);(try clear ag);(have ag:=hHeld.ext w3);(refine hK.out _ _ (λ_=>ag) ?_);clear hK K;(try simp only[Act.put,aD,aF,aG]));((refine aK 7 ?_;intro K hK);go_simp;(refine hK.out _ _ (λh=>absurd rfl h) ?_);clear hK K;refine ek ?_);have og:=Lib.hid jK;have Io:=Lib.hid GJ;have eP:Hid (Ext w2 w3):=((Ext.refl w2).drew).trans aT;have qBy:w2.heap.size<=g3:=jQ;clear R7 jK GJ aT hHeld ag jQ;have H5:=Lib.hid (aU.out.trans eP.out);have NS:Hid (Mb (Mx M w.heap.size (w.heap.size+1)) w3.drew):=jh.out.size H5.out.size;have hxA:=xO d H (λi hi=>SN.out.2.1 i hi);have hxB:=xO e H (λi hi=>SQ.out.2.1 i hi);have hyA:=xO (λi=>d (H+i)) (n-H) (λi hi=>RP.out.2.1 i hi);have hyB:=xO (λi=>e (H+i)) (m-H) (λi hi=>oN.out.2.1 i hi)
     have qw:nv d n*nv e m<4294967296^(n+m):=by
      rw[Nat.pow_add];exact Nat.mul_lt_mul'' (pO d n EY.out.2.1) (pO e m qC.out.2.1)
     have E5:=Lib.hid qw;have qfg:Hid (fA (Mx M w.heap.size (w.heap.size+1)) w3.drew _ (nv d H)):=⟨_,_,(SN.out.ext H5.out).ext (Ext.refl _).drew,rfl⟩;have qfh:Hid (fA (Mx M w.heap.size (w.heap.size+1)) w3.drew _ (nv (λi=>d (H+i)) (n-H))):=⟨_,_,(RP.out.ext H5.out).ext (Ext.refl _).drew,rfl⟩;have qfi:Hid (fA (Mx M w.heap.size (w.heap.size+1)) w3.drew _ (nv e H)):=⟨_,_,(SQ.out.ext H5.out).ext (Ext.refl _).drew,rfl⟩;have qfj:Hid (fA (Mx M w.heap.size (w.heap.size+1)) w3.drew _ (nv (λi=>e (H+i)) (m-H))):=⟨_,_,(oN.out.ext H5.out).ext (Ext.refl _).drew,rfl⟩;clear SN SQ RP oN EY qC qw;generalize nv d H=A0 at*;generalize nv e H=B0 at*;generalize nv (λi=>d (H+i)) (n-H)=A1 at*;generalize nv (λi=>e (H+i)) (m-H)=B1 at*
     have hzA:az (A0+A1)<=H+1:=by have:=Lf A0 A1;omega
     have hzB:az (B0+B1)<=H+1:=by have:=Lf B0 B1;omega
     have Sc:=Lib.hid (qv9 A0 A1 B0 B1)
     have HKS:Hid (A0*B0+4294967296^H*4294967296^H*(A1*B1)+4294967296^H*(A0*B1+A1*B0)=nv d n*nv e m):=by
      show _=_;rw[YP.out,yU.out];exact qwa A0 A1 B0 B1 _
     have CTA:=Lib.hid (VF _ _ A0 A1 w3.drew NS.out qfg.out qfh.out (by omega));clear qfg qfh YP yU;go_wp2;refine fM DL 16 (by kernel_rfl) trivial (λhHeld=>?_);(refine dF [0,1,2,3,4,5,7,8,9,10,11,12] ?_;(iterate 12 (refine dD (v:=?_) ?_ ?_;rotate_left 1;(intro wS hSw;obtain Pp:=hSw;go_simp;try with_reducible rfl);(try simp only[Act.put,aD,aF,aG])));refine dG ?_);((refine aK 6 ?_;intro K hK);go_simp;(refine(CTA.out).mono ?_);rintro e_ w4 ⟨u6,rfl,hu6,aW⟩;go_wp2_with (fail);(try clear ag);(have ag:=hHeld.ext w4);(refine hK.out _ _ (λ_=>ag) ?_);clear hK K;(try simp only[Act.put,aD,aF,aG]));((refine aK 13 ?_;intro K hK);go_simp;(refine(VF _ _ B0 B1 w4 (NS.out.ext aW) (qfi.out.ext aW) (qfj.out.ext aW) (by omega)).mono ?_);rintro e_ w5 ⟨u13,rfl,qlt,aR⟩;go_wp2_with (fail);(try clear ag);(have ag:=hHeld.ext w5);(refine hK.out _ _ (λ_=>ag) ?_);clear hK K;(try simp only[Act.put,aD,aF,aG]));obtain⟨XA,hXA,qjI,_⟩:=(hu6.ext aR).len;obtain⟨XB,hXB,qjJ,_⟩:=qlt.len;obtain⟨uaA,ucA,rfl⟩:=kE hXA;obtain⟨uaB,ucB,rfl⟩:=kE hXB;have aS:=kG.out _ _ _ _ _ _ _ XA XB w5 (by omega) hXA hXB (by omega);rw[qjI,qjJ]at aS;have CTP:=Lib.hid aS;clear aS hXA hXB qjI qjJ hu6 qlt CTA;((refine aK 14 ?_;intro K hK);go_simp;(refine(CTP.out).mono ?_);rintro e_ w6 ⟨g6,s6,rfl,dU,zi,Ag,fe⟩;go_wp2_with (fail);(try clear ag);(have ag:=hHeld.ext w6);(refine hK.out _ _ (λ_=>ag) ?_);clear hK K;(try simp only[Act.put,aD,aF,aG]))
     (refine aK 15 ?_;intro K hK);go_simp;refine hK.out _ _ (λ_=>trivial) ?_;clear hK K;(try simp only[Act.put,aD,aF,aG]);refine ek ?_;generalize hlA:az (A0+A1)=lA at*;generalize hlB:az (B0+B1)=lB at*;have jV:=Lib.hid zi;have rC:=Lib.hid Ag;have fw:Hid (Ext w3 w6):=((Ext.refl w3).drew).trans ((aW.trans aR).trans fe)
     have qBA:w3.heap.size<=g6:=by have:=((aW.trans aR)).size;exact Nat.le_trans this dU
     have Sq:=Lib.hid (NS.out.ext ((aW.trans aR).trans fe));clear zi Ag aW aR fe hHeld ag dU CTP qfi qfj hlA hlB;have qR:=aU.out.size;have Jr:=eP.out.size;have Xh:=Lib.hid ((fH.out.ext eP.out).ext fw.out);have Xj:=Lib.hid (og.out.ext fw.out);have eu:fA (Mx M w.heap.size (w.heap.size+1)) w6 (.slice (some ⟨g2,0,none⟩) (H+H) (H+H)) (A0*B0):=⟨_,_,dK.G5 Xh.out.1 (λhg=>hg.elim (λh=>absurd (jh.out _ (.inl h)) (by omega)) (λh=>by omega)) _ (Nat.le_refl _) (by omega) (Nat.le_refl _) (by unfold maxLen;omega) (λ_ _=>rfl) Xh.out.2,yT.out⟩;have hnH:fA (Mx M w.heap.size (w.heap.size+1)) w6 (.slice (some ⟨g3,0,none⟩) (n-H+(m-H)) (n-H+(m-H))) (A1*B1):=⟨_,_,dK.G5 Xj.out.1 (λhg=>hg.elim (λh=>absurd (jh.out _ (.inl h)) (by omega)) (λh=>by omega)) _ (Nat.le_refl _) (by omega) (Nat.le_refl _) (by unfold maxLen;omega) (λ_ _=>rfl) Xj.out.2,Io.out⟩;have hnM:fA (Mx M w.heap.size (w.heap.size+1)) w6 (.slice (some ⟨g6,0,none⟩) (lA+lB) (lA+lB)) ((A0+A1)*(B0+B1)):=⟨_,_,dK.G5 jV.out.1 (λhg=>hg.elim (λh=>absurd (jh.out _ (.inl h)) (by omega)) (λh=>by omega)) _ (Nat.le_refl _) (by omega) (Nat.le_refl _) (by unfold maxLen;omega) (λ_ _=>rfl) jV.out.2,rC.out⟩;have uR:=Lib.hid hnM
     have CTS:=Lib.hid (VF _ _ (A0*B0) (A1*B1) w6 Sq.out eu hnH (by
      refine Nat.le_trans (ji Sc.out.1) ?_;have h1:=hnM.az
      omega))
     clear eu hnH hnM jV rC hzA hzB;go_wp2_with (fail);refine CTS.out.mono ?_;rintro q w7 ⟨u7,rfl,Qo,fE⟩;have aS:=qcN _ _ ((A0+A1)*(B0+B1)) (A0*B0+A1*B1) w7 (Sq.out.ext fE) (uR.out.ext fE) Qo.eH Sc.out.1;rw[Sc.out.2]at aS;have CTU:=Lib.hid aS;have iB:=Lib.hid (fw.out.trans fE);have qfc:=Lib.hid (Sq.out.ext fE);clear aS Qo fE CTS uR Sc Sq;go_wp2_with (fail);refine CTU.out.mono ?_;rintro q w8 ⟨u8,rfl,hu8,lN⟩;have AU:=Lib.hid (iB.out.trans lN);have qAG:=Lib.hid (qfc.out.ext lN);obtain⟨X,hX,xY,_⟩:=hu8.len;obtain⟨ua,uc,rfl⟩:=kE hX;have HX:=Lib.hid hX;have FC:=Lib.hid xY;have xS:=(oh.out.ext H5.out).ext AU.out;have Xi:=Lib.hid ((fH.out.ext eP.out).ext AU.out);have Xk:=Lib.hid (og.out.ext AU.out);clear hX xY hu8 lN CTU iB qfc Xh Xj fH og;obtain⟨xl,GN⟩:∃xl,xl=az (A0*B1+A1*B0):=⟨_,rfl⟩;have HXL:=Lib.hid GN;rw[<-GN]at HX FC⊢;clear GN
     go_wp2_with (refine Rv rfl (.tmp 99) (.tmp 100) _ _ rfl 155 Tryz.underlying28 (by rw[hi];simp[hz1]) _ _ _ _ _ _ rfl rfl w.heap.size 0 155 (n+m) _ xS.1 (H+H) ?k1 (λi=>.int .u32 (s2 i)) ?k2 ?k3 ?k4 ?_)
     case k1=>show _=min _ _;omega
     case k2=>exactλ_=>⟨g2,0,⟨rfl,rfl⟩,λj hj=>by rw[Nat.zero_add];exact Xi.out.1.cell hj⟩
     case k3=>omega
     case k4=>exactλj hj=>rfl
     intro w9 Lr hg9;have zm:=VM Lr (λ_ _=>(by decide:0<4294967296)) (λi hi=>Xi.out.2 i hi);obtain⟨s9,hs9⟩:∃s9:Nat->Nat,s9=λi=>if 0<=i/\i<0+(H+H)then s2 (i-0)else 0:=⟨_,rfl⟩;rw[<-hs9]at zm;have HS9:=Lib.hid hs9;clear hs9;have qip:iP w9 g3 (n-H+(m-H)) s3:=⟨Xk.out.1.grown hg9 (by intro e5;cases e5;omega),Xk.out.2⟩;have XO:=Lib.hid hg9;have Xl:=Lib.hid qip
     have hwz:2*(H:Int)<=(n:Int)+(m:Int):=by omega
     have qCG:((2*(H:Int)).toNat)=2*H:=by omega
     have qCH:n+m≠2*H:=by omega
     clear Lr hg9 xS qip
     go_wp2_with (refine Rv rfl (.tmp 105) (.tmp 106) _ _ rfl 155 Tryz.underlying28 (by rw[hi];simp[hz1]) _ _ _ _ _ _ rfl rfl w.heap.size (2*H) 155 (n+m) _ zm.1 (n-H+(m-H)) ?k1 (λi=>.int .u32 (s3 i)) ?k2 ?k3 ?k4 ?_)
     case k1=>show _=min _ _;omega
     case k2=>exactλ_=>⟨g3,0,⟨rfl,rfl⟩,λj hj=>by rw[Nat.zero_add];exact Xl.out.1.cell hj⟩
     case k3=>omega
     case k4=>exactλj hj=>rfl
     intro fU qio qbA;have Uu:=VM qio zm.2 (λi hi=>Xl.out.2 i hi);have Vf:=qxx (H+H) (n-H+(m-H)) (2*H) (n+m) s2 s3 (by omega) (by omega);rw[HS9.out]at Uu;generalize (λi=>if 2*H<=i/\i<2*H+(n-H+(m-H))then s3 (i-2*H)else if 0<=i/\i<0+(H+H)then s2 (i-0)else 0)=s10 at Uu Vf;rw[yT.out,Io.out,show H+H=H+H from rfl,Nat.pow_add]at Vf;have qkB:Kp (Mx M w.heap.size (w.heap.size+1)) w8 fU:=(Kp.grown XO.out (λk hk=>by cases hk;exact Mx.at (by omega))).trans (Kp.grown qbA (λk hk=>by cases hk;exact Mx.at (by omega)));have D5:Ext w fU:=((((aL.out.trans H5.out).trans AU.out).grown XO.out (λk hk=>by cases hk;exact Nat.le_refl _))).grown qbA (λk hk=>by cases hk;exact Nat.le_refl _);have Oj:=Lib.hid (HX.out.kp qkB);have su:=Lib.hid D5
     have gM:nv s10 (n+m)+4294967296^H*nv X xl=nv d n*nv e m:=by rw[Vf,FC.out];exact HKS.out
     have Jc:xl<=n+m-H:=by
      have h1:az (nv X xl)<=n+m-H:=by
       rw[o9]
       have h2:4294967296^H*nv X xl<4294967296^H*4294967296^(n+m-H):=by
        rw[<-Nat.pow_add,show H+(n+m-H)=n+m by omega];have:=E5.out;omega
       exact Nat.lt_of_mul_lt_mul_left h2
      rw[HXL.out];rw[FC.out]at h1;exact h1
     have Nh:=Lib.hid (qmx w.heap.size H (n+m-H) (n+m-H) (n+m) ua uc _ s10 X fU Uu (by omega) Oj.out (λh0 p hp=>by
      subst hp;rcases Oj.out.2.2 with⟨h6,_⟩|⟨b',off',cap',hv,_,_,hb',_⟩
      ·omega
      ·simp only[Value.slice.injEq,true_and,Option.some.injEq]at hv
       rw[hv.1];exactλe6=>hb'.2 ((show b'=w.heap.size from e6) ▸ Mx.at ⟨Nat.le_refl _,Nat.lt_succ_self _⟩)) Jc (by omega) (qlY (T:=n+m) (by omega) (by rw[gM];exact E5.out)))
     have xh:=Lib.hid gM;clear qio qbA Uu Vf qkB D5 gM Jc zm HX FC XO Xl Xi Xk;go_wp2_with (fail);refine Nh.out.mono ?_;rintro q vO ⟨s11,rfl,qiF,qlj,qlz,LW⟩;have hval:=qlZ (T:=n+m) (by omega) qlj qlz;rw[xh.out]at hval;have HF:Hid (IA w (n+m) (nv d n*nv e m) (.returned (.slice (some ⟨w.heap.size,0,none⟩) (n+m) (n+m))) vO):=⟨_,_,rfl,Nat.le_refl _,qiF,hval,su.out.grown LW (λk hk=>by cases hk;exact Nat.le_refl _)⟩;clear hval qiF qlj qlz LW Nh;go_wp2;go_ret;exact HF.out
theorem qwV(K:Nat):qgo K:=by
 induction K with
 |zero=>intro M a1 a2 c1 c2 n m d e w hK h h' hL;exact qnr a1 a2 c1 c2 n m d e w h h' hL (.inl (by omega))
 |succ K ih=>
  intro M a1 a2 c1 c2 n m d e w hK h h' hL
  by_cases hs:n<48\/m<48
  ·exact qnr a1 a2 c1 c2 n m d e w h h' hL hs
  ·have g:=h.more (M':=λg=>M g/\g<w.heap.size) (λg hg=>.inl hg.1);have g':=h'.more (M':=λg=>M g/\g<w.heap.size) (λg hg=>.inl hg.1)
   by_cases hlt:n<m
   ·have c:=qnq K ih _ true a2 a1 c2 c1 m n e d w g' g (by omega) (by omega) (by omega) (by omega) (λ_=>hlt) (λg hg=>hg.2);rw[Nat.add_comm m n,Nat.mul_comm (nv e m)]at c;exact c
   ·exact qnq K ih _ false a1 a2 c1 c2 n m d e w g g' hL (by omega) (by omega) (by omega) (λh=>(by cases h)) (λg hg=>hg.2)
theorem qwT{M:Nat->Prop}(v v':Value)(n0 m0:Nat)(d0 e0:Nat->Nat)(w:World)(hM:Mb M w)(h:dK M w v n0 d0)(h':dK M w v' m0 e0)(hL:az (nv d0 n0)+az (nv e0 m0)<=1099511627776):
 Calls Tryz.prog 123 #[v,v'] w λq w'=>∃u,q=.returned u/\gT M w' u (nv d0 n0*nv e0 m0)/\Ext w w':=by
 have t1:=Wp d0 n0 h.2.1;have t2:=Wp e0 m0 h'.2.1;rw[<-t1, <-t2]at hL;clear t1 t2;have E1:Hid (nv d0 (tl d0 n0)=nv d0 n0):=rV d0 n0;have E2:Hid (nv e0 (tl e0 m0)=nv e0 m0):=rV e0 m0
 go_enter Tryz.func123,Tryz.ntmps123
 go_wp2_with (fail);refine(vK v n0 d0 w h).mono ?_;rintro e w' ⟨v1,rfl,hv1,rfl⟩;go_wp2_with (fail);refine(vK v' m0 e0 w h').mono ?_;rintro e w' ⟨v2,rfl,hv2,rfl⟩;generalize tl d0 n0=n at*;generalize tl e0 m0=m at*;obtain⟨a1,uj,rfl⟩:=kE hv1;obtain⟨a2,cap2,rfl⟩:=kE hv2;clear h h';go_wp2_with (fail);refine(qwV (n+m) M a1 a2 uj cap2 n m d0 e0 w (Nat.le_refl _) hv1 hv2 (by omega)).mono ?_;rintro e w1 ⟨g,s,rfl,hg,hB,hv,he⟩;have c:=JK (M:=M) hB.1 (hM.new hg) (by unfold maxLen;omega) hB.2 (by have:=xO _ _ hB.2;omega);rw[hv,E1.out,E2.out]at c;have C:=Lib.hid c;clear c hv hB;go_wp2_with (fail);refine C.out.mono ?_;rintro e' w2 ⟨u,rfl,hu,rfl⟩;go_wp2;go_ret;exact⟨u,rfl,hu,he⟩
theorem qwU{M:Nat->Prop}(v v':Value)(x y:Nat)(w:World)(hM:Mb M w)(h:fA M w v x)(h':fA M w v' y)(hL:az x+az y<=1099511627776):
 Calls Tryz.prog 123 #[v,v'] w λq w'=>∃u,q=.returned u/\gT M w' u (x*y)/\Ext w w':=by
 obtain⟨n,d,hr,rfl⟩:=h;obtain⟨m,d',Aa,rfl⟩:=h';exact qwT v v' n m d d' w hM hr Aa hL
end Go.Proofs.YtmcfpnmoklnhoaaGreat
