/- Ma -/
import Derived.Test.YtmcfpnmoklnhoaaGreatRows
import Derived.WalkKit
import Derived.WalkSpells
import Derived.WalkLawsBesides
import Derived.Lib.Hide
import Derived.Laws.CopyOwn
import Derived.Deep.QuietTactic
import Derived.BigQuiet
import Derived.Deep.DeepCutAuto
import Derived.Deep.RegionHeld3
set_option linter.unusedVariables false
set_option maxRecDepth 100000
set_option maxHeartbeats 400000000
set_option linter.unusedSimpArgs false
namespace Go.Proofs.YtmcfpnmoklnhoaaGreat
theorem ae{p:Prop}(h:p):Go.RowKit.Hid p:=Go.Lib.hid h
theorem aI(n:Nat):n<=n:=Nat.le_refl n
theorem aR{n m k:Nat}(h:n<=m)(h2:m<=k):n<=k:=Nat.le_trans h h2
theorem ah{c:Prop}{h:Decidable c}(hn:¬c){α:Sort _}{t e:α}:(if c then t else e)=e:=if_neg hn
theorem ai{c:Prop}{h:Decidable c}(hc:c){α:Sort _}{t e:α}:(if c then t else e)=t:=if_pos hc
theorem dH{n m k:Nat}(h:n<m)(h2:m<=k):n<k:=Nat.lt_of_lt_of_le h h2
theorem bK(n:Nat):0<=n:=Nat.zero_le n
theorem eF{p:Prop}(h:¬p->False):p:=Classical.byContradiction h
theorem eB{n m:Nat}(k:Nat)(h:n<=m):n*k<=m*k:=Nat.mul_le_mul_right k h
theorem iw(n:Nat):(0:Int)<=n:=Int.natCast_nonneg n
theorem oF(w:Go.World)(a:Go.Addr){u:Go.Value}(h:w.cell? a=some u):a.block<w.heap.size:=Go.World.block_lt_of_cell? w a h
theorem bu{P:Go.Program}{fn:Go.Func}{R:Go.Ending->Go.World->Prop}{a:Go.Act}{w:Go.World}{v:Go.Value}(h:(Go.results fn a.tmps).run P w=.ok v w)(hd:a.defers=[])(r:R (.returned v) w):Go.bodyPost P fn R .ret a w:=Go.bodyPost_ret h hd r
def nv(d:Nat->Nat):Nat->Nat
 |0=>0
 |n+1=>nv d n+d n*4294967296^n
def tl(d:Nat->Nat):Nat->Nat
 |0=>0
 |n+1=>if d n=0 then tl d n else n+1
def xJ:Nat->Nat->Nat
 |0,_=>0
 |f+1,x=>if x=0 then 0 else xJ f (x/4294967296)+1
def aH(x:Nat):Nat:=xJ x x
theorem Yf(n:Nat):0<4294967296^n:=Nat.pow_pos (by decide)
theorem Ji(d:Nat->Nat)(n:Nat):tl d n<=n:=by
 induction n with
 |zero=>exact aI _
 |succ n ih=>simp only[tl];split<;>omega
theorem tQ(d:Nat->Nat)(n:Nat):nv d (tl d n)=nv d n:=by
 induction n with
 |zero=>rfl
 |succ n ih=>
  simp only[tl];split
  ·rename_i h;rw[ih];simp[nv,h]
  ·rfl
theorem Jh(d:Nat->Nat)(n:Nat):tl d n=0\/d (tl d n-1)≠0:=by
 induction n with
 |zero=>exact .inl rfl
 |succ n ih=>
  simp only[tl];split
  ·exact ih
  ·rename_i h;exact .inr (by simpa using h)
theorem qqD(d:Nat->Nat)(n:Nat):tl d (n+1)=if d n=0 then tl d n else n+1:=rfl
theorem pE(d e:Nat->Nat)(n:Nat)(h:∀i,i<n->d i=e i):nv d n=nv e n:=by
 induction n with
 |zero=>rfl
 |succ n ih=>simp only[nv];rw[ih λi hi=>h i (by omega),h n (by omega)]
theorem qQ(d:Nat->Nat)(n:Nat)(h:∀i,i<n->d i<4294967296):nv d n<4294967296^n:=by
 induction n with
 |zero=>simp[nv]
 |succ n ih=>
  have h1:=ih λi hi=>h i (by omega);have h2:=h n (by omega);simp only[nv,Nat.pow_succ];have h3:d n*4294967296^n<=4294967295*4294967296^n:=eB _ (by omega);omega
theorem Tj(d:Nat->Nat)(n:Nat)(h:d n≠0):4294967296^n<=nv d (n+1):=by
 simp only[nv];have:1*4294967296^n<=d n*4294967296^n:=eB _ (by omega);omega
theorem qzR(d:Nat->Nat)(n:Nat):nv d n=0↔tl d n=0:=by
 constructor
 ·intro h;rcases Jh d n with h0|h0
  ·exact h0
  ·by_cases hz:tl d n=0
   ·exact hz
   ·exfalso;obtain⟨m,hm⟩:∃m,tl d n=m+1:=⟨tl d n-1,by omega⟩;rw[hm]at h0;have h1:=Tj d m (by simpa using h0);rw[<-hm,tQ]at h1;have:=Yf m;omega
 ·intro h;rw[<-tQ,h];rfl
theorem Tk(d:Nat->Nat)(n:Nat):nv d (n+1)=d 0+4294967296*nv (λi=>d (i+1)) n:=by
 induction n with
 |zero=>simp[nv]
 |succ n ih=>
  rw[nv,ih];show _=d 0+4294967296*(nv (λi=>d (i+1)) n+d (n+1)*4294967296^n);rw[Nat.mul_add,Nat.pow_succ]
  have:d (n+1)*(4294967296^n*4294967296)=4294967296*(d (n+1)*4294967296^n):=by
   rw[<-Nat.mul_assoc,Nat.mul_comm]
  omega
theorem yh(d:Nat->Nat)(m n:Nat):nv d (m+n)=nv d m+4294967296^m*nv (λi=>d (m+i)) n:=by
 induction n with
 |zero=>simp[nv]
 |succ n ih=>
  show nv d (m+n)+d (m+n)*4294967296^(m+n)=nv d m+4294967296^m*(nv (λi=>d (m+i)) n+d (m+n)*4294967296^n);rw[ih,Nat.mul_add,Nat.pow_add]
  have:d (m+n)*(4294967296^m*4294967296^n)=4294967296^m*(d (m+n)*4294967296^n):=by
   rw[<-Nat.mul_assoc,Nat.mul_comm (d (m+n)),Nat.mul_assoc]
  omega
theorem quu(f x:Nat)(h:x<=f):x<4294967296^(xJ f x):=by
 induction f generalizing x with
 |zero=>have:x=0:=by omega
        subst this;simp[xJ]
 |succ f ih=>
  simp only[xJ];split
  ·rename_i h0;subst h0;simp
  ·rw[Nat.pow_succ];have h1:=ih (x/4294967296) (by omega);omega
theorem qut(f x:Nat)(h:x<=f)(h0:x≠0):4294967296^(xJ f x-1)<=x:=by
 induction f generalizing x with
 |zero=>omega
 |succ f ih=>
  simp only[xJ];rw[ah h0]
  by_cases h1:x/4294967296=0
  ·have:xJ f (x/4294967296)=0:=by rw[h1];cases f<;>simp[xJ]
   rw[this];simp;omega
  ·have h2:=ih (x/4294967296) (by omega) h1
   have h3:xJ f (x/4294967296)≠0:=by
    cases f with
    |zero=>omega
    |succ f=>simp[xJ,h1]
   obtain⟨k,hk⟩:∃k,xJ f (x/4294967296)=k+1:=⟨_,(Nat.succ_pred h3).symm⟩;rw[hk]at h2⊢;simp only[Nat.add_sub_cancel]at h2⊢;rw[Nat.pow_succ];omega
theorem BJ(x:Nat):x<4294967296^aH x:=quu x x (aI _)
theorem qjq(x:Nat)(h:x≠0):4294967296^(aH x-1)<=x:=qut x x (aI _) h
theorem lZ(x k:Nat):aH x<=k↔x<4294967296^k:=by
 constructor
 ·intro h;exact dH (BJ x) (Nat.pow_le_pow_right (by decide) h)
 ·intro h
  by_cases h0:x=0
  ·subst h0;simp[aH,xJ]
  ·have h1:=qjq x h0;have h2:=(Nat.pow_lt_pow_iff_right (by decide:1<4294967296)).1 (Nat.lt_of_le_of_lt h1 h);omega
theorem qjs:aH 0=0:=rfl
theorem jB{x y:Nat}(h:x<=y):aH x<=aH y:=(lZ _ _).2 (Nat.lt_of_le_of_lt h (BJ y))
theorem VT(d:Nat->Nat)(n:Nat)(hd:∀i,i<n->d i<4294967296)(h:n=0\/d (n-1)≠0):aH (nv d n)=n:=by
 cases n with
 |zero=>rfl
 |succ n=>
  have h1:=qQ d (n+1) hd;have h2:=Tj d n (by simpa using h);have h3:=(lZ _ _).2 h1
  by_cases h4:aH (nv d (n+1))<=n
  ·have:=(lZ _ _).1 h4;omega
  ·omega
theorem yR(d:Nat->Nat)(n:Nat)(hd:∀i,i<n->d i<4294967296):aH (nv d n)<=n:=(lZ _ _).2 (qQ d n hd)
theorem YB(d:Nat->Nat)(n:Nat)(hd:∀i,i<n->d i<4294967296):tl d n=aH (nv d n):=by
 have h1:=Ji d n;rw[<-tQ d n,VT d (tl d n) (λi hi=>hd i (by omega)) (Jh d n)]
theorem Nl(x y:Nat):aH (x+y)<=max (aH x) (aH y)+1:=by
 rw[lZ,Nat.pow_succ];have h1:=BJ x;have h2:=BJ y;have h3:4294967296^aH x<=4294967296^max (aH x) (aH y):=Nat.pow_le_pow_right (by decide) (Nat.le_max_left ..);have h4:4294967296^aH y<=4294967296^max (aH x) (aH y):=Nat.pow_le_pow_right (by decide) (Nat.le_max_right ..);omega
theorem pQ(x y:Nat):aH (x*y)<=aH x+aH y:=by
 rw[lZ,Nat.pow_add];exact Nat.mul_lt_mul'' (BJ x) (BJ y)
theorem VU{x:Nat}(h:x≠0):0<aH x:=by
 rcases Nat.eq_zero_or_pos (aH x)with h0|h0
 ·have:=BJ x;rw[h0]at this;omega
 ·exact h0
theorem qjp{x:Nat}:aH x=0↔x=0:=by
 constructor
 ·intro h;rcases Nat.eq_zero_or_pos x with h0|h0
  ·exact h0
  ·have:=VU (x:=x) (by omega);omega
 ·intro h;subst h;rfl
def mG(x y:Nat):Int:=if x<y then-1 else if y<x then 1 else 0
theorem VG{x y:Nat}(h:x<y):mG x y= -1:=by unfold mG;rw[ai h]
theorem qiX{x y:Nat}(h:y<x):mG x y=1:=by unfold mG;rw[ah (by omega),ai h]
theorem qtC{x y:Nat}(h:x=y):mG x y=0:=by unfold mG;rw[ah (by omega),ah (by omega)]
theorem qek(d e:Nat->Nat)(n m:Nat)(hd:∀i,i<n->d i<4294967296)(h:n<m)(hm:m=0\/e (m-1)≠0):nv d n<nv e m:=by
 obtain⟨k,rfl⟩:∃k,m=k+1:=⟨m-1,by omega⟩;have h1:=qQ d n hd;have h2:=Tj e k (by simpa using hm);have h3:4294967296^n<=4294967296^k:=Nat.pow_le_pow_right (by decide) (by omega);omega
theorem qoX(d e:Nat->Nat)(n i:Nat)(hd:∀j,j<n->d j<4294967296)(hi:i<n)(hs:∀j,i<j->j<n->d j=e j)(hl:d i<e i):nv d n<nv e n:=by
 induction n with
 |zero=>omega
 |succ n ih=>
  simp only[nv]
  by_cases hn:i=n
  ·subst hn;have h1:=qQ d i λj hj=>hd j (by omega);have h2:(d i+1)*4294967296^i<=e i*4294967296^i:=eB _ (by omega);rw[Nat.add_mul]at h2;omega
  ·have h1:=ih (λj hj=>hd j (by omega)) (by omega) λj h1 h2=>hs j h1 (by omega);rw[hs n (by omega) (by omega)];omega
def iL(x y c:Nat):Nat:=(x+y+c)%4294967296
def ic(x y c:Nat):Nat:=(x+y+c)/4294967296
def zM(x y c:Nat):Nat:=(x+4294967296-y-c)%4294967296
def iV(x y:Nat):Nat:=(x*y)%4294967296
def kU(x y:Nat):Nat:=(x*y)/4294967296
def borrow(x y c:Nat):Nat:=if x<y+c then 1 else 0
def cy(d e:Nat->Nat):Nat->Nat
 |0=>0
 |k+1=>(d k+e k+cy d e k)/4294967296
def sd(d e:Nat->Nat)(k:Nat):Nat:=(d k+e k+cy d e k)%4294967296
theorem qi8(d e:Nat->Nat)(n:Nat)(hd:∀i,i<n->d i<4294967296)(he:∀i,i<n->e i<4294967296):cy d e n<=1:=by
 induction n with
 |zero=>simp[cy]
 |succ n ih=>
  have h1:=ih (λi hi=>hd i (by omega)) λi hi=>he i (by omega);have h2:=hd n (by omega);have h3:=he n (by omega);simp only[cy];omega
theorem Yq(d e:Nat->Nat)(k:Nat):sd d e k<4294967296:=Nat.mod_lt _ (by decide)
theorem qoZ(d e:Nat->Nat)(n:Nat):nv (sd d e) n+cy d e n*4294967296^n=nv d n+nv e n:=by
 induction n with
 |zero=>simp[nv,cy]
 |succ n ih=>
  simp only[nv,cy,sd];have h:=Nat.div_add_mod (d n+e n+cy d e n) 4294967296
  have h2:(d n+e n+cy d e n)%4294967296*4294967296^n+(d n+e n+cy d e n)/4294967296*4294967296^(n+1)=(d n+e n+cy d e n)*4294967296^n:=by
   rw[Nat.pow_succ]
   conv=>rhs;rw[<-h]
   rw[Nat.add_mul,Nat.mul_comm 4294967296,Nat.mul_assoc,Nat.mul_comm 4294967296 (4294967296^n)];omega
  rw[Nat.add_mul,Nat.add_mul]at h2;omega
def cut(e:Nat->Nat)(m:Nat)(i:Nat):Nat:=if i<m then e i else 0
theorem qzK(e:Nat->Nat)(m k:Nat):nv (cut e m) (m+k)=nv e m:=by
 induction k with
 |zero=>exact pE _ _ _ λi hi=>by unfold cut;rw[ai (by simpa using hi)]
 |succ k ih=>rw[<-Nat.add_assoc];simp only[nv];rw[ih];unfold cut;rw[ah (by omega)];simp
theorem X6(e:Nat->Nat)(m n:Nat)(h:m<=n):nv (cut e m) n=nv e m:=by
 obtain⟨k,rfl⟩:∃k,n=m+k:=⟨n-m,by omega⟩;exact qzK e m k
theorem qbi(e:Nat->Nat)(m:Nat)(he:∀i,i<m->e i<4294967296)(i:Nat):cut e m i<4294967296:=by
 unfold cut;split
 ·exact he i (by assumption)
 ·decide
def F3(d e:Nat->Nat)(n:Nat)(i:Nat):Nat:=if i<n then sd d e i else cy d e n
theorem qzO(d e:Nat->Nat)(n:Nat):nv (F3 d e n) (n+1)=nv d n+nv e n:=by
 simp only[nv];rw[pE (F3 d e n) (sd d e) n λi hi=>by unfold F3;rw[ai hi], <-qoZ];unfold F3;rw[ah (by omega)]
def bw(d e:Nat->Nat):Nat->Nat
 |0=>0
 |k+1=>if d k<e k+bw d e k then 1 else 0
def dd(d e:Nat->Nat)(k:Nat):Nat:=(d k+4294967296-e k-bw d e k)%4294967296
theorem qa2(d e:Nat->Nat)(k:Nat):bw d e k<=1:=by
 cases k with
 |zero=>simp[bw]
 |succ k=>simp only[bw];split<;>omega
theorem qbl(d e:Nat->Nat)(k:Nat):dd d e k<4294967296:=Nat.mod_lt _ (by decide)
theorem qzL(d e:Nat->Nat)(n:Nat)(hd:∀i,i<n->d i<4294967296)(he:∀i,i<n->e i<4294967296):nv (dd d e) n+nv e n=nv d n+bw d e n*4294967296^n:=by
 induction n with
 |zero=>simp[nv,bw]
 |succ n ih=>
  have h1:=ih (λi hi=>hd i (by omega)) λi hi=>he i (by omega);have h2:=hd n (by omega);have h3:=he n (by omega);have h4:=qa2 d e n
  have h5:dd d e n+e n+bw d e n=d n+bw d e (n+1)*4294967296:=by
   simp only[dd,bw];split<;>omega
  simp only[nv]
  have h6:(dd d e n+e n+bw d e n)*4294967296^n=(d n+bw d e (n+1)*4294967296)*4294967296^n:=by rw[h5]
  have h7:bw d e (n+1)*4294967296*4294967296^n=bw d e (n+1)*4294967296^(n+1):=by
   rw[Nat.mul_assoc,Nat.mul_comm 4294967296 (4294967296^n), <-Nat.pow_succ]
  simp only[Nat.add_mul]at h6;omega
theorem qzM(d e:Nat->Nat)(n:Nat)(hd:∀i,i<n->d i<4294967296)(he:∀i,i<n->e i<4294967296)(h:nv e n<=nv d n):nv (dd d e) n=nv d n-nv e n:=by
 have h1:=qzL d e n hd he;have h2:=qQ (dd d e) n λi _=>qbl d e i;have h3:=qa2 d e n
 have h4:bw d e n=0:=by
  rcases Nat.eq_zero_or_pos (bw d e n)with h5|h5
  ·exact h5
  ·have h6:bw d e n=1:=by omega
   rw[h6]at h1;omega
 rw[h4]at h1;omega
def dK(s:Nat->Nat)(k u:Nat):Nat->Nat:=λi=>if i=k then u else s i
theorem qo1(s:Nat->Nat)(k u N:Nat)(h:k<N):nv (dK s k u) N+s k*4294967296^k=nv s N+u*4294967296^k:=by
 induction N with
 |zero=>omega
 |succ N ih=>
  simp only[nv]
  by_cases hk:k=N
  ·subst hk;rw[pE (dK s k u) s k λi hi=>by unfold dK;rw[ah (by omega)]];unfold dK;rw[ai rfl];omega
  ·have:=ih (by omega)
   have h2:dK s k u N=s N:=by unfold dK;rw[ah (by omega)]
   rw[h2];omega
theorem qza(x y r c:Nat)(hx:x<4294967296)(hy:y<4294967296)(hr:r<4294967296)(hc:c<4294967296):
 kU x y+ic (iV x y) r 0+ic (iL (iV x y) r 0) c 0<4294967296/\
 iL (iL (iV x y) r 0) c 0+4294967296*(kU x y+ic (iV x y) r 0+ic (iL (iV x y) r 0) c 0)=x*y+r+c:=by
 have h1:x*y<=4294967295*4294967295:=Nat.mul_le_mul (by omega) (by omega);unfold kU iV ic iL;generalize x*y=p at*;omega
theorem qoj(x y:Nat)(hx:x<4294967296)(hy:y<4294967296):kU x y<4294967296:=by
 have h1:x*y<=4294967295*4294967295:=Nat.mul_le_mul (by omega) (by omega);unfold kU;omega
theorem Ta(x y:Nat):iV x y<4294967296:=Nat.mod_lt _ (by decide)
theorem J9(x y c:Nat):iL x y c<4294967296:=Nat.mod_lt _ (by decide)
theorem qAU(s:Nat->Nat)(N i j x y c c' u V W:Nat)(hk:i+j<N)(h:nv s N+c*4294967296^(i+j)=V+x*W*4294967296^i)
 (hu:u+4294967296*c'=x*y+s (i+j)+c):nv (dK s (i+j) u) N+c'*4294967296^(i+(j+1))=V+x*(W+y*4294967296^j)*4294967296^i:=by
 have h1:=qo1 s (i+j) u N hk
 have h2:(u+4294967296*c')*4294967296^(i+j)=(x*y+s (i+j)+c)*4294967296^(i+j):=by rw[hu]
 have h3:c'*4294967296^(i+(j+1))=4294967296*c'*4294967296^(i+j):=by
  rw[<-Nat.add_assoc,Nat.pow_succ, <-Nat.mul_assoc,Nat.mul_comm, <-Nat.mul_assoc]
 have h4:x*(W+y*4294967296^j)*4294967296^i=x*W*4294967296^i+x*y*4294967296^(i+j):=by
  rw[Nat.mul_add,Nat.add_mul,Nat.pow_add, <-Nat.mul_assoc x y,Nat.mul_assoc (x*y),Nat.mul_comm (4294967296^j)]
 rw[h3,h4];simp only[Nat.add_mul]at h2;omega
def inf(s X:Nat->Nat)(off j:Nat):Nat->Nat:=λq=>if off<=q/\q<off+j then sd (λi=>s (off+i)) X (q-off)else s q
theorem qnN(s X:Nat->Nat)(off j:Nat):dK (inf s X off j) (off+j) (sd (λi=>s (off+i)) X j)=inf s X off (j+1):=by
 funext q;unfold dK inf
 by_cases h:q=off+j
 ·subst h;rw[ai rfl,ai ⟨by omega,by omega⟩,show off+j-off=j from by omega]
 ·rw[ah h]
  by_cases h2:off<=q/\q<off+j
  ·rw[ai h2,ai ⟨h2.1,by omega⟩]
  ·rw[ah h2,ah (by omega)]
theorem qnM(s X:Nat->Nat)(off j:Nat):inf s X off j (off+j)=s (off+j):=by unfold inf;rw[ah (by omega)]
theorem qBd(D X:Nat->Nat)(N:Nat)(hD:∀i,i<N->D i<4294967296)(j:Nat)(hc:cy D X j=0)(hX:∀i,j<=i->X i=0)(i:Nat)(hi:j+i<=N):cy D X (j+i)=0/\(j+i<N->sd D X (j+i)=D (j+i)):=by
 induction i with
 |zero=>
  refine⟨hc,λh=>?_⟩;unfold sd;rw[Nat.add_zero,hc,hX j (aI _)];exact Nat.mod_eq_of_lt (by have:=hD j (by omega);omega)
 |succ i ih=>
  obtain⟨h1,h2⟩:=ih (by omega)
  have h3:cy D X (j+i+1)=0:=by
   simp only[cy];rw[h1,hX (j+i) (by omega)];have:=hD (j+i) (by omega);omega
  refine⟨h3,λh=>?_⟩;unfold sd;rw[<-Nat.add_assoc,h3,hX (j+i+1) (by omega)];exact Nat.mod_eq_of_lt (by have:=hD (j+i+1) (by omega);omega)
theorem qnO(s X:Nat->Nat)(off N j:Nat)(hD:∀i,i<N->s (off+i)<4294967296)(hX:∀i,i<N->X i<4294967296)(H8:nv (λi=>s (off+i)) N+nv X N<4294967296^N)(hj:j<=N)
 (h:j=N\/(cy (λi=>s (off+i)) X j=0/\∀i,j<=i->X i=0)):nv (λi=>inf s X off j (off+i)) N=nv (λi=>s (off+i)) N+nv X N:=by
 have h1:=qoZ (λi=>s (off+i)) X N
 have h2:cy (λi=>s (off+i)) X N=0:=by
  rcases Nat.eq_zero_or_pos (cy (λi=>s (off+i)) X N)with h5|h5
  ·exact h5
  ·have:1*4294967296^N<=cy (λi=>s (off+i)) X N*4294967296^N:=eB _ h5;omega
 rw[h2]at h1;rw[<-h1,Nat.zero_mul,Nat.add_zero];refine pE _ _ _ λi hi=>?_;unfold inf
 by_cases kP:i<j
 ·rw[ai ⟨by omega,by omega⟩,show off+i-off=i from by omega]
 ·rw[ah (by omega)];rcases h with h|⟨h,hx⟩
  ·omega
  ·have:=(qBd (λi=>s (off+i)) X N hD j h hx (i-j) (by omega)).2 (by omega);rw[show j+(i-j)=i from by omega]at this;exact this.symm
theorem qyo(s X:Nat->Nat)(off j T:Nat)(hs:∀i,i<T->s i<4294967296)(i:Nat)(hi:i<T):inf s X off j i<4294967296:=by
 unfold inf;split
 ·exact Yq _ _ _
 ·exact hs i hi
end Go.Proofs.YtmcfpnmoklnhoaaGreat
namespace Go.Proofs.YtmcfpnmoklnhoaaGreat
open Go.RowKit
def Ext(w w':World):Prop:=Below w.heap.size w w'
theorem Ext.refl(w:World):Ext w w:=Below.refl _ _
theorem Ext.size{w w':World}(h:Ext w w'):w.heap.size<=w'.heap.size:=Below.size h
theorem Ext.trans{a b c:World}(h:Ext a b)(k:Ext b c):Ext a c:=Below.trans h (Below.mono k (Ext.size h))
theorem Ext.alloc{a w:World}(h:Ext a w)(o:Obj):Ext a (w.alloc o):=Below.alloc h (Ext.size h) o
theorem Ext.drew{a w:World}(h:Ext a w):Ext a w.drew:=Below.drew h
theorem Ext.drewN{a w:World}(h:Ext a w)(n:Nat):Ext a (w.drewN n):=by
 obtain⟨h1,h2,h3,h4,h5⟩:=h;exact⟨h1,h2,h3,h4,h5⟩
theorem Ext.set{a w:World}(h:Ext a w){p:Addr}(hp:a.heap.size<=p.block)(u:Value):Ext a (w.setCell p u):=Below.setCell h hp u
theorem Ext.grown{a w w':World}{row:Option Nat}(h:Ext a w)(hg:w.grownBy w' row)(hr:∀k,row=some k->a.heap.size<=k):Ext a w':=
 Below.grown h hg (Ext.size h) hr
theorem Ext.cell{w w':World}(h:Ext w w'){b o:Nat}(hb:b<w.heap.size):w'.cell? ⟨b,o,none⟩=w.cell? ⟨b,o,none⟩:=Below.cell h (p:=⟨b,o,none⟩) hb
theorem Ext.frozen{w w':World}(h:Ext w w'){b o:Nat}(hb:b<w.heap.size):w'.frozen? ⟨b,o,none⟩=w.frozen? ⟨b,o,none⟩:=Below.frozen h (p:=⟨b,o,none⟩) hb
theorem Ext.heap{w w':World}(h:Ext w w'){b:Nat}(hb:b<w.heap.size):w'.heap[b]?=w.heap[b]?:=Below.block h b hb
theorem Ext.below{w w':World}(h:Ext w w'):Below w.heap.size w w':=h
theorem ER{W w1:World}(hb:Ext W w1):(∀b o,b<W.heap.size->w1.cell? ⟨b,o,none⟩=W.cell? ⟨b,o,none⟩)/\(∀b o,b<W.heap.size->w1.frozen? ⟨b,o,none⟩=W.frozen? ⟨b,o,none⟩):=
 ⟨λ_ _ h=>hb.cell h,λ_ _ h=>hb.frozen h⟩
def aG(w:World)(g:Nat)(t:TypeId)(n:Nat)(f:Nat->Value):Prop:=
 ∃cur:Array Value,w.heap[g]?=some (.cells cur t (0,0))/\cur.size=n/\∀i,i<n->cur[i]?=some (f i)
theorem aG.lt{w:World}{g:Nat}{t:TypeId}{n:Nat}{f:Nat->Value}(h:aG w g t n f):g<w.heap.size:=by
 obtain⟨cur,hg,_⟩:=h;exact(Array.getElem?_eq_some_iff.1 hg).1
theorem aG.cell{w:World}{g:Nat}{t:TypeId}{n:Nat}{f:Nat->Value}(h:aG w g t n f){i:Nat}(hi:i<n):w.cell? ⟨g,i,none⟩=some (f i):=by
 obtain⟨cur,hg,_,hc⟩:=h;simp[World.cell?,hg,hc i hi]
theorem aG.frozen{w:World}{g:Nat}{t:TypeId}{n:Nat}{f:Nat->Value}(h:aG w g t n f)(i:Nat):w.frozen? ⟨g,i,none⟩=false:=by
 obtain⟨cur,hg,_,hc⟩:=h;simp[World.frozen?,hg]
theorem aG.of_heap{w w':World}{g:Nat}{t:TypeId}{n:Nat}{f:Nat->Value}(h:aG w g t n f)(he:w'.heap[g]?=w.heap[g]?):aG w' g t n f:=by
 obtain⟨cur,hg,r⟩:=h;exact⟨cur,he.trans hg,r⟩
theorem aG.ext{w w':World}{g:Nat}{t:TypeId}{n:Nat}{f:Nat->Value}(h:aG w g t n f)(he:Ext w w'):aG w' g t n f:=h.of_heap (he.heap h.lt)
theorem aG.alloc{w:World}{g:Nat}{t:TypeId}{n:Nat}{f:Nat->Value}(h:aG w g t n f)(o:Obj):aG (w.alloc o) g t n f:=h.of_heap (Below.heap_alloc w o g h.lt)
theorem aG.vT{w:World}{g:Nat}{t:TypeId}{n:Nat}{f:Nat->Value}(h:aG w g t n f){p:Addr}(hp:g≠p.block)(u:Value):aG (w.setCell p u) g t n f:=
 h.of_heap (Below.heap_setCell w p u g hp)
def jr(f:Nat->Value)(j:Nat)(u:Value):Nat->Value:=λi=>if i=j then u else f i
theorem aG.set{w:World}{g:Nat}{t:TypeId}{n:Nat}{f:Nat->Value}(h:aG w g t n f)(j:Nat)(u:Value):aG (w.setCell ⟨g,j,none⟩ u) g t n (jr f j u):=by
 obtain⟨cur,hg,hs,hc⟩:=h;refine⟨cur.setIfInBounds j u,heap_setCell_same w g j cur t u hg,by simpa using hs,λi hi=>?_⟩;rw[Array.getElem?_setIfInBounds];unfold jr
 by_cases kP:i=j
 ·subst kP;simp[hs,hi]
 ·rw[ah (by omega),ah kP];exact hc i hi
theorem aG.congr{w:World}{g:Nat}{t:TypeId}{n:Nat}{f f':Nat->Value}(h:aG w g t n f)(hf:∀i,i<n->f i=f' i):aG w g t n f':=by
 obtain⟨cur,hg,hs,hc⟩:=h;exact⟨cur,hg,hs,λi hi=>by rw[hc i hi,hf i hi]⟩
theorem aG.qo6{w:World}{base g n:Nat}{e:TypeId}{size:Nat}{xs:List Value}(h:w.ownsRow base e size (.slice (some ⟨g,0,none⟩) n n) n xs)(f:Nat->Value)(hf:∀i,i<n*size->xs[i]?=some (f i)):aG w g e (n*size) f:=by
 rcases h.2 with⟨h',_⟩|⟨g',cap',cur,h',_,hg,_,_,hsz,qdO⟩
 ·simp at h'
 ·simp only[Value.slice.injEq,Option.some.injEq,Addr.mk.injEq,and_true,true_and]at h';obtain⟨rfl,rfl⟩:=h';refine⟨cur,hg,hsz,λi hi=>?_⟩;have h1:=hf i hi;rw[<-qdO,List.getElem?_take,ai hi]at h1;simpa using h1
theorem aG.X8(w:World)(cs:Array Value)(t:TypeId)(f:Nat->Value)(n:Nat)(hn:cs.size=n)(hf:∀i,i<n->cs[i]?=some (f i)):aG (w.alloc (.cells cs t)) w.heap.size t n f:=
 ⟨cs,heap_alloc_new w _,hn,hf⟩
def arr(cs:Array Value):Nat->Value:=λi=>cs.getD i undef
theorem aG.bq(w:World)(cs:Array Value)(t:TypeId)(n:Nat)(hn:cs.size=n):aG (w.alloc (.cells cs t)) w.heap.size t n (arr cs):=
 ⟨cs,heap_alloc_new w _,hn,λi hi=>by unfold arr;rw[Array.getD_eq_getD_getElem?];simp[hn,hi]⟩
theorem aG.Tn(w:World)(u:Value)(t:TypeId):aG (w.alloc (.cells #[u] t)) w.heap.size t 1 (λ_=>u):=
 aG.X8 w #[u] t _ 1 rfl (by
  intro i hi
  have h0:i=0:=by omega
  subst h0;rfl)
def over(f:Nat->Value)(off k:Nat)(src:Nat->Value):Nat->Value:=λi=>if off<=i/\i<off+k then src (i-off)else f i
theorem qz4(f:Nat->Value)(off:Nat)(src:Nat->Value):over f off 0 src=f:=by
 funext i;unfold over;rw[ah (by omega)]
theorem GQ(b o j:Nat):(⟨b,o,none⟩:Addr).add j=⟨b,o+j,none⟩:=by
 unfold Addr.add;split<;>simp_all
theorem V7(w:World)(r:Option Nat):w.grownBy w r:=⟨rfl,rfl,rfl,aI _,λ_ _ _=>rfl⟩
theorem QM{a b c:World}{r:Option Nat}(h:a.grownBy b r)(k:b.grownBy c r):a.grownBy c r:=
 ⟨k.os.trans h.os,k.tape.trans h.tape,k.output.trans h.output,aR h.size k.size,λi hi hr=>(k.block i (dH hi h.size) hr).trans (h.block i hi hr)⟩
theorem Ext.grownBy{a w:World}(h:Ext a w)(r:Option Nat):a.grownBy w r:=⟨Below.os h,Below.tape h,Below.output h,h.size,λk hk _=>h.heap hk⟩
theorem aG.grown{w w':World}{g:Nat}{t:TypeId}{n:Nat}{f:Nat->Value}{r:Option Nat}(h:aG w g t n f)(hg:w.grownBy w' r)(hr:some g≠r):aG w' g t n f:=h.of_heap (hg.block g h.lt hr)
theorem aG.splice{w:World}{g:Nat}{t:TypeId}{n:Nat}{f:Nat->Value}(h:aG w g t n f)(off k:Nat)(src:Nat->Value)(H8:off+k<=n):
 ∃cur:Array Value,w.heap[g]?=some (.cells cur t (0,0))/\cur.size=n/\
  aG (w.setRow g (cur.toList.take off++((List.range k).map src++cur.toList.drop (off+((List.range k).map src).length))).toArray) g t n (over f off k src):=by
 obtain⟨cur,hg,hs,hc⟩:=h;refine⟨cur,hg,hs,_,setRow_heap w g _ _ t _ hg,by simp;omega,λi hi=>?_⟩;have hci:=hc i hi;rw[<-Array.getElem?_toList]at hci;simp only[List.length_map,List.length_range,List.getElem?_toArray];unfold over
 by_cases h1:i<off
 ·rw[List.getElem?_append_left (by simp;omega),List.getElem?_take,ai h1,ah (by omega)];exact hci
 ·rw[List.getElem?_append_right (by simp;omega)]
  have hl:(cur.toList.take off).length=off:=by simp;omega
  rw[hl]
  by_cases h2:i<off+k
  ·rw[List.getElem?_append_left (by simp;omega),ai ⟨by omega,h2⟩];simp only[List.getElem?_map];rw[List.getElem?_range (by omega)];rfl
  ·rw[List.getElem?_append_right (by simp;omega),ah (by omega),List.getElem?_drop, <-hci]
   congr 1
   simp;omega
theorem qbR(w:World)(g:Nat)(cs:Array Value):w.grownBy (w.setRow g cs) (some g):=
 ⟨rfl,rfl,rfl,by simp[World.setRow],λk _ hk=>setRow_other w g k cs (λe=>hk (by rw[e]))⟩
theorem TU{P:Program}{w:World}{ops:Array Oper}{rest:List Oper}{o:Oper}{a:Act}{Q:Exit->Act->World->Prop}(jF:o.guard=none)(d s:Operand)(dT sT:TypeId)
 (ho:o.op=.call {callee:=.builtin .copy,args:= #[d,s],argTypes:= #[dT,sT]}) (elem:TypeId) (hu:P.underlying dT=some (.slice elem)) (hsz:(P.info? elem).map (·.size)=some 1)
 (dp sp:Option Addr) (GZ Dm Jg Eh:Nat) (hd:a.eval d=.slice dp GZ Dm) (hs:a.eval s=.slice sp Jg Eh)
 (g off:Nat) (t:TypeId) (N:Nat) (f:Nat->Value) (hB:aG w g t N f) (k:Nat) (hk:k=Nat.min Jg GZ) (src:Nat->Value)
 (hpos:0<k->dp=some ⟨g,off,none⟩/\∃b q,sp=some ⟨b,q,none⟩/\∀j,j<k->w.cell? ⟨b,q+j,none⟩=some (src j))
 (H8:off+k<=N) (h1:∀j,j<k->(src j).oneCell'=true)
 (h:∀w',aG w' g t N (over f off k src)->w.grownBy w' (some g)->wpList P ops Q rest (a.put o.dst (goInt k)) w'):
 wpList P ops Q (o::rest) a w:=by
 by_cases h0:k=0
 ·subst h0;refine wpList_copy_nothing jF d s dT sT ho elem hu hsz dp sp GZ Dm Jg Eh hd hs hk.symm ?_;exact h w (by rw[qz4];exact hB) (V7 _ _)
 ·obtain⟨rfl,b,q,rfl,Ea⟩:=hpos (by omega);obtain⟨cur,hg,hcs,hb⟩:=hB.splice off k src H8;refine wpList_copy_own jF d s dT sT ho elem hu hsz g off GZ Dm ⟨b,q,none⟩ Jg Eh hd hs cur t hg ((List.range k).map src) (by simpa using hk) ?_ (by simp;omega) ?_ ?_
  ·intro j v hv;simp only[List.getElem?_map,Option.map_eq_some_iff]at hv;obtain⟨x,hx,rfl⟩:=hv;have hlt:=(List.getElem?_eq_some_iff.1 hx).1;simp only[List.length_range]at hlt;rw[List.getElem?_range hlt]at hx;cases hx;rw[GQ];exact Ea j hlt
  ·intro v hv;simp only[List.mem_map,List.mem_range]at hv;obtain⟨j,hj,rfl⟩:=hv;exact h1 j hj
  ·simp only[List.length_map,List.length_range]at hb⊢;exact h _ hb (qbR _ _ _)
theorem qy5(u:Value)(n i:Nat)(hi:i<n):(madeCells #[u] n).toList[i]?=some u:=by
 have:i%1=0:=Nat.mod_one i;simp[madeCells,hi,this]
theorem aG.BK{w:World}{base g n:Nat}{e:TypeId}{u:Value}(h:w.ownsRow base e 1 (.slice (some ⟨g,0,none⟩) n n) n (madeCells #[u] n).toList):aG w g e n (λ_=>u):=by
 have:=aG.qo6 h (λ_=>u) (λi hi=>qy5 u _ i (by omega));simpa using this
theorem nL{w w':World}(h:w.grownBy w' none):Ext w w':=(Ext.refl w).grown h (by intro k hk;cases hk)
def Mb(M:Nat->Prop)(w:World):Prop:=∀g,M g->g<w.heap.size
theorem Mb.ext{M:Nat->Prop}{w w':World}(h:Mb M w)(he:Ext w w'):Mb M w':=λg hg=>dH (h g hg) he.size
theorem Mb.size{M:Nat->Prop}{w w':World}(h:Mb M w)(he:w.heap.size<=w'.heap.size):Mb M w':=λg hg=>dH (h g hg) he
theorem Mb.new{M:Nat->Prop}{w:World}(h:Mb M w){g:Nat}(hg:w.heap.size<=g):¬M g:=λhm=>by have:=h g hm;omega
def Kp(M:Nat->Prop)(w w':World):Prop:=w.heap.size<=w'.heap.size/\∀b,b<w.heap.size->¬M b->w'.heap[b]?=w.heap[b]?
theorem Kp.kV{M:Nat->Prop}{w w':World}(h:Ext w w'):Kp M w w':=⟨h.size,λ_ hb _=>h.heap hb⟩
theorem Kp.trans{M:Nat->Prop}{a b c:World}(h:Kp M a b)(k:Kp M b c):Kp M a c:=⟨aR h.1 k.1,λq hq hm=>(k.2 q (dH hq h.1) hm).trans (h.2 q hq hm)⟩
theorem Kp.refl(M:Nat->Prop)(w:World):Kp M w w:=⟨aI _,λ_ _ _=>rfl⟩
theorem Kp.set(M:Nat->Prop)(w:World){p:Addr}(hp:M p.block)(u:Value):Kp M w (w.setCell p u):=
 ⟨by simp[World.setCell],λb _ hb=>Below.heap_setCell _ _ _ _ (λe=>hb (e ▸ hp))⟩
theorem Kp.grown{M:Nat->Prop}{w w':World}{r:Option Nat}(hg:w.grownBy w' r)(hr:∀k,r=some k->M k):Kp M w w':=
 ⟨hg.size,λb hb hm=>hg.block b hb (λe=>hm (hr b e.symm))⟩
theorem Kp.cell{M:Nat->Prop}{w w':World}(h:Kp M w w'){b o:Nat}(hb:b<w.heap.size)(hm:¬M b):w'.cell? ⟨b,o,none⟩=w.cell? ⟨b,o,none⟩:=World.cell?_of_block (w:=w) (h.2 b hb hm)
theorem Kp.mono{M M':Nat->Prop}{w w':World}(h:Kp M w w')(hm:∀b,M b->M' b):Kp M' w w':=⟨h.1,λb hb hn=>h.2 b hb (λk=>hn (hm b k))⟩
def eu(M:Nat->Prop)(w:World)(v:Value)(n:Nat)(d:Nat->Nat):Prop:=
 n<=1099511627776/\(∀i,i<n->d i<4294967296)/\
 ((n=0/\∃a cap,v=.slice a 0 cap/\cap<=maxLen/\(a=none->cap=0))\/∃b off cap,v=.slice (some ⟨b,off,none⟩) n cap/\n<=cap/\cap<=maxLen/\(b<w.heap.size/\¬M b)/\∀i,i<n->w.cell? ⟨b,off+i,none⟩=some (.int .u32 (d i)))
theorem eu.kp{M:Nat->Prop}{w w':World}{v:Value}{n:Nat}{d:Nat->Nat}(h:eu M w v n d)(he:Kp M w w'):eu M w' v n d:=by
 obtain⟨h1,h2,h3⟩:=h;refine⟨h1,h2,?_⟩;rcases h3 with h3|⟨b,off,cap,hv,hn,hc,hb,hcell⟩
 ·exact .inl h3
 ·exact .inr ⟨b,off,cap,hv,hn,hc,⟨dH hb.1 he.1,hb.2⟩,λi hi=>by rw[he.cell hb.1 hb.2];exact hcell i hi⟩
theorem eu.more{M M':Nat->Prop}{w:World}{v:Value}{n:Nat}{d:Nat->Nat}(h:eu M w v n d)(hm:∀g,M' g->M g\/w.heap.size<=g):eu M' w v n d:=by
 obtain⟨h1,h2,h3⟩:=h;refine⟨h1,h2,?_⟩;rcases h3 with h3|⟨b,off,cap,hv,hn,hc,hb,hcell⟩
 ·exact .inl h3
 ·exact .inr ⟨b,off,cap,hv,hn,hc,⟨hb.1,λk=>(hm b k).elim hb.2 (by omega)⟩,hcell⟩
theorem eu.ext{M:Nat->Prop}{w w':World}{v:Value}{n:Nat}{d:Nat->Nat}(h:eu M w v n d)(he:Ext w w'):eu M w' v n d:=h.kp (Kp.kV he)
def gP(M:Nat->Prop)(w:World)(v:Value)(x:Nat):Prop:=∃n d,eu M w v n d/\nv d n=x
def iX(M:Nat->Prop)(w:World)(v:Value)(x:Nat):Prop:=∃n d,eu M w v n d/\nv d n=x/\(n=0\/d (n-1)≠0)
section
variable{M M':Nat->Prop}{w w':World}{v:Value}{x:Nat}
theorem gP.kp(h:gP M w v x)(he:Kp M w w'):gP M w' v x:=by
 obtain⟨n,d,h1,h2⟩:=h;exact⟨n,d,h1.kp he,h2⟩
theorem iX.kp(h:iX M w v x)(he:Kp M w w'):iX M w' v x:=by
 obtain⟨n,d,h1,h2⟩:=h;exact⟨n,d,h1.kp he,h2⟩
theorem gP.more(h:gP M w v x)(hm:∀g,M' g->M g\/w.heap.size<=g):gP M' w v x:=by
 obtain⟨n,d,h1,h2⟩:=h;exact⟨n,d,h1.more hm,h2⟩
theorem iX.more(h:iX M w v x)(hm:∀g,M' g->M g\/w.heap.size<=g):iX M' w v x:=by
 obtain⟨n,d,h1,h2⟩:=h;exact⟨n,d,h1.more hm,h2⟩
theorem gP.ext(h:gP M w v x)(he:Ext w w'):gP M w' v x:=h.kp (Kp.kV he)
theorem iX.ext(h:iX M w v x)(he:Ext w w'):iX M w' v x:=h.kp (Kp.kV he)
theorem iX.fB(h:iX M w v x):gP M w v x:=by
 obtain⟨n,d,h1,h2,_⟩:=h;exact⟨n,d,h1,h2⟩
theorem gP.aH(h:gP M w v x):aH x<=1099511627776:=by
 obtain⟨n,d,h1,rfl⟩:=h;exact aR (yR d n h1.2.1) h1.1
theorem iX.len(h:iX M w v x):∃d,eu M w v (aH x) d/\nv d (aH x)=x/\(aH x=0\/d (aH x-1)≠0):=by
 obtain⟨n,d,h1,rfl,h3⟩:=h;rw[VT d n h1.2.1 h3];exact⟨d,h1,rfl,h3⟩
end
theorem eu.nil(M:Nat->Prop)(w:World):eu M w (.slice none 0 0) 0 (λ_=>0):=⟨by decide,by intro i hi;omega,.inl ⟨rfl,none,0,rfl,bK _,λ_=>rfl⟩⟩
theorem iX.nil(M:Nat->Prop)(w:World):iX M w (.slice none 0 0) 0:=⟨0,λ_=>0,eu.nil M w,rfl,.inl rfl⟩
theorem eu.I5{M:Nat->Prop}{w:World}{g:Nat}{t:TypeId}{N n:Nat}{d:Nat->Nat}{f:Nat->Value}(h:aG w g t N f)(hM:¬M g)(cap:Nat)(hn:n<=N)(hL:n<=1099511627776)(Hz:n<=cap)(hc:cap<=maxLen)
 (hf:∀i,i<n->f i=.int .u32 (d i)) (hd:∀i,i<n->d i<4294967296):eu M w (.slice (some ⟨g,0,none⟩) n cap) n d:=
 ⟨hL,hd,.inr ⟨g,0,cap,rfl,Hz,hc,⟨h.lt,hM⟩,λi hi=>by rw[Nat.zero_add,h.cell (by omega),hf i hi]⟩⟩
def Mx(M:Nat->Prop)(n k:Nat):Nat->Prop:=λg=>M g\/(n<=g/\g<k)
theorem Mx.more{M:Nat->Prop}{n k:Nat}{w:World}(hn:w.heap.size<=n):∀g,Mx M n k g->M g\/w.heap.size<=g:=λg hg=>hg.imp id (λh=>by omega)
theorem Mx.less{M:Nat->Prop}{n k:Nat}{w:World}:∀g,M g->Mx M n k g\/w.heap.size<=g:=λg hg=>.inl (.inl hg)
theorem Mx.mb{M:Nat->Prop}{n k:Nat}{w w':World}(h:Mb M w)(hs:w.heap.size<=w'.heap.size)(hk:k<=w'.heap.size):Mb (Mx M n k) w':=λg hg=>hg.elim (λh1=>dH (h g h1) hs) (λh1=>by omega)
theorem Mx.at{M:Nat->Prop}{n k g:Nat}(h:n<=g/\g<k):Mx M n k g:=.inr h
theorem qqI(b off n cap:Nat)(d:Nat->Nat)(w:World)(Hz:n<=cap)(hm:cap<=maxLen)
 (hc:∀i,i<n->w.cell? ⟨b,off+i,none⟩=some (.int .u32 (d i))):
 Calls Tryz.prog 134 #[.slice (some ⟨b,off,none⟩) n cap] w λe w'=>e=.returned (.slice (some ⟨b,off,none⟩) (tl d n) cap)/\w=w':=by
 unfold maxLen at hm
 go_enter Tryz.func134,Tryz.ntmps134
 go_wp2
 go_loop [3] (λi=>∃k:Nat,k<=n/\i=.int .i64 k/\tl d k=tl d n) (λi=>(intOf i).toNat)
 case atStart=>exact⟨n,aI _,rfl,rfl⟩
 case round=>
  obtain⟨k,hk,rfl,ht⟩:=hrel;have HT:=ae ht;clear ht
  by_cases h0:k=0
  ·subst h0;go_wp2;go_ret;exact⟨by rw[<-HT.out];rfl,rfl⟩
  ·obtain⟨j,rfl⟩:∃j,k=j+1:=⟨k-1,by omega⟩;have hcell:=hc j (by omega)
   by_cases hz:d j=0
   ·have Ed:(((d j:Nat):Int)==0)=true:=by simp[hz]
    have HZ:=ae hz;clear hz;go_wp2
    go_round
    case rel=>exact⟨j,by omega,rfl,by rw[<-HT.out,qqD,ai HZ.out]⟩
    case measure=>simp[intOf]
   ·have Ed:(((d j:Nat):Int)==0)=false:=by simp[hz]
    have HZ:=ae hz;clear hz;go_wp2;go_ret;exact⟨by rw[<-HT.out,qqD,ah HZ.out];rfl,rfl⟩
theorem qB9(a:Option Addr)(cap:Nat)(hc:cap<=maxLen)(hn:a=none->cap=0)(w:World):
 Calls Tryz.prog 134 #[.slice a 0 cap] w λe w'=>e=.returned (.slice a 0 cap)/\w=w':=by
 unfold maxLen at hc
 cases a with
 |none=>
  obtain rfl:=hn rfl;clear hn
  go_enter Tryz.func134,Tryz.ntmps134
  go_wp2;refine wp_loop_rounds 1 ?_;rw[rounds_succ];go_wp2;go_ret;exact⟨rfl,rfl⟩
 |some a=>
  clear hn
  go_enter Tryz.func134,Tryz.ntmps134
  go_wp2;refine wp_loop_rounds 1 ?_;rw[rounds_succ];go_wp2;go_ret;exact⟨rfl,rfl⟩
theorem wY{M:Nat->Prop}(v:Value)(n:Nat)(d:Nat->Nat)(w:World)(h:eu M w v n d):
 Calls Tryz.prog 134 #[v] w λe w'=>∃v',e=.returned v'/\eu M w v' (tl d n) d/\w=w':=by
 obtain⟨h1,h2,h3⟩:=h;have hl:=Ji d n;rcases h3 with⟨rfl,a,cap,rfl,hc,jg⟩|⟨b,off,cap,rfl,hn,hc,hb,hcell⟩
 ·refine(qB9 a cap hc jg w).mono ?_;rintro e w' ⟨rfl,rfl⟩;exact⟨_,rfl,⟨bK _,by intro i hi;simp[tl]at hi,.inl ⟨rfl,a,cap,rfl,hc,jg⟩⟩,rfl⟩
 ·refine(qqI b off n cap d w hn hc hcell).mono ?_;rintro e w' ⟨rfl,rfl⟩;exact⟨_,rfl,⟨by omega,λi hi=>h2 i (by omega),.inr ⟨b,off,cap,rfl,by omega,hc,hb,λi hi=>hcell i (by omega)⟩⟩,rfl⟩
theorem Lf{M:Nat->Prop}{w:World}{g:Nat}{t:TypeId}{N:Nat}{s:Nat->Nat}(h:aG w g t N (λi=>.int .u32 (s i)))(o9:¬M g)(hN:N<=maxLen)(hs:∀i,i<N->s i<4294967296)(hL:aH (nv s N)<=1099511627776):
 Calls Tryz.prog 134 #[.slice (some ⟨g,0,none⟩) N N] w λe w'=>∃u,e=.returned u/\iX M w u (nv s N)/\w=w':=by
 refine(qqI g 0 N N s w (aI _) hN (λi hi=>by rw[Nat.zero_add];exact h.cell hi)).mono ?_;rintro e w' ⟨rfl,rfl⟩;have hl:=Ji s N;have hd:=YB s N hs;exact⟨_,rfl,⟨_,s,eu.I5 h o9 N hl (by omega) hl hN (λi _=>rfl) (λi hi=>hs i (by omega)),tQ s N,Jh s N⟩,rfl⟩
theorem lM{M:Nat->Prop}{w:World}{v:Value}{n:Nat}{d:Nat->Nat}(h:eu M w v n d):∃a cap,v=.slice a n cap:=by
 obtain⟨_,_,h3⟩:=h;rcases h3 with⟨rfl,a,cap,rfl,_⟩|⟨b,off,cap,rfl,_⟩
 ·exact⟨_,_,rfl⟩
 ·exact⟨_,_,rfl⟩
theorem Le{M:Nat->Prop}(v:Value)(x:Nat)(w:World)(h:gP M w v x):
 Calls Tryz.prog 84 #[v] w λe w'=>e=.returned (.bool (decide (x=0)))/\w=w':=by
 obtain⟨n,d,hr,rfl⟩:=h;have hz:=qzR d n;have HZ:=ae hz;clear hz
 go_enter Tryz.func84,Tryz.ntmps84
 go_wp2_with (fail);refine(wY v n d w hr).mono ?_;rintro e w' ⟨v',rfl,mJ,rfl⟩;obtain⟨a,cap,rfl⟩:=lM mJ;go_wp2;go_ret;refine⟨?_,rfl⟩
 by_cases h0:tl d n=0
 ·simp[h0,HZ.out]
 ·simp[h0,HZ.out];try omega
theorem Dh(x y c:Nat)(w:World)(hx:x<4294967296)(hy:y<4294967296)(hc:c<4294967296):
 Calls Tryz.prog 185 #[.int .u32 x,.int .u32 y,.int .u32 c] w λe w'=>
  e=.returned (.tuple #[.int .u32 (iL x y c),.int .u32 (ic x y c)])/\w=w':=by
 go_enter Tryz.func185,Tryz.ntmps185
 go_wp2
 go_ret2
 exact⟨by simp[iL,ic],rfl⟩
theorem wrap_u32(n:Nat)(h:n<4294967296):IntKind.u32.wrap (n:Int)=n:=by
 exact IntWalk.u32_in _ (by omega)
theorem Nb(n:Nat)(h:n<4294967296):(BitVec.ofInt IntKind.u32.bits (n:Int)).toNat=n:=by
 simp[IntKind.bits];omega
theorem qiI(a b:Nat)(ha:a<4294967296)(hb:b<4294967296):bits BinOp.and .u32 a b=((a&&& b:Nat):Int):=by
 unfold bits;have h1:=Nb a ha;have h2:=Nb b hb;simp only[BitVec.toNat_and,h1,h2];rw[wrap_u32];exact Nat.lt_of_le_of_lt Nat.and_le_left ha
theorem qiL(a b:Nat)(ha:a<4294967296)(hb:b<4294967296):bits BinOp.or .u32 a b=((a|||b:Nat):Int):=by
 unfold bits;have h1:=Nb a ha;have h2:=Nb b hb;simp only[BitVec.toNat_or,h1,h2];rw[wrap_u32];exact Nat.or_lt_two_pow (n:=32) ha hb
theorem qaZ(a b:Nat)(ha:a<4294967296)(hb:b<4294967296):bits BinOp.xor .u32 a b=((a^^^b:Nat):Int):=by
 unfold bits;have h1:=Nb a ha;have h2:=Nb b hb;simp only[BitVec.toNat_xor,h1,h2];rw[wrap_u32];exact Nat.xor_lt_two_pow (n:=32) ha hb
theorem TI(a:Nat)(h:a<4294967296):a.testBit 31=decide (2147483648<=a):=by
 rw[Nat.testBit_eq_decide_div_mod_eq];simp only[decide_eq_decide];omega
theorem qB7(a:Nat)(h:a<4294967296):a/2147483648=(a.testBit 31).toNat:=by
 rw[TI a h]
 by_cases h1:2147483648<=a
 ·simp[h1];omega
 ·simp[h1];omega
theorem qBL(x y c:Nat)(hx:x<4294967296)(hy:y<4294967296)(hc:c<2):
 (((4294967295^^^x)&&& y)|||((4294967295^^^(x^^^y))&&& ((x+4294967296-y-c)%4294967296)))/2147483648=borrow x y c:=by
 have hm:(x+4294967296-y-c)%4294967296<4294967296:=Nat.mod_lt _ (by decide);have Xx:x^^^y<4294967296:=Nat.xor_lt_two_pow (n:=32) hx hy;have l1:((4294967295^^^x)&&& y)<2^32:=Nat.lt_of_le_of_lt Nat.and_le_right hy;have l2:((4294967295^^^(x^^^y))&&& ((x+4294967296-y-c)%4294967296))<2^32:=Nat.lt_of_le_of_lt Nat.and_le_right hm;rw[qB7 _ (Nat.or_lt_two_pow (n:=32) l1 l2)];simp only[Nat.testBit_or,Nat.testBit_and,Nat.testBit_xor];rw[TI x hx,TI y hy,TI _ hm,TI 4294967295 (by decide)];unfold borrow
 by_cases h1:2147483648<=x<;>by_cases h2:2147483648<=y<;>by_cases h3:2147483648<=(x+4294967296-y-c)%4294967296<;>by_cases h4:x<y+c<;>simp[h1,h2,h3,h4]<;>omega
theorem Vs(x y:Nat)(w:World)(hx:x<4294967296)(hy:y<4294967296):
 Calls Tryz.prog 204 #[.int .u32 x,.int .u32 y] w λe w'=>
  e=.returned (.tuple #[.int .u32 (kU x y),.int .u32 (iV x y)])/\w=w':=by
 have Xx:x*y<=4294967295*4294967295:=Nat.mul_le_mul (by omega) (by omega)
 have qx8:((x*y:Nat):Int)<=18446744065119617025:=by omega
 rw[Int.natCast_mul]at qx8
 have qFo:(0:Int)<=(x:Int)*(y:Int):=by rw[<-Int.natCast_mul];exact iw _
 have zD:IntKind.u64.signed=false:=rfl
 go_enter Tryz.func204,Tryz.ntmps204
 go_wp2
 go_ret2
 exact⟨by simp[iV,kU],rfl⟩
theorem qaY(x y c:Nat)(w:World)(hx:x<4294967296)(hy:y<4294967296)(hc:c<2):
 Calls Tryz.prog 187 #[.int .u32 x,.int .u32 y,.int .u32 c] w λe w'=>
  e=.returned (.tuple #[.int .u32 (zM x y c),.int .u32 (borrow x y c)])/\w=w':=by
 have zD:IntKind.u32.signed=false:=rfl
 go_enter Tryz.func187,Tryz.ntmps187
 go_wp2
 go_ret2
 have hd:((x:Int)-y-c)%4294967296=((x+4294967296-y-c)%4294967296:Nat):=by omega
 have hmax:IntKind.u32.max=((4294967295:Nat):Int):=rfl;have hm:(x+4294967296-y-c)%4294967296<4294967296:=Nat.mod_lt _ (by decide);have Xx:x^^^y<4294967296:=Nat.xor_lt_two_pow (n:=32) hx hy;have hnx:4294967295^^^x<4294967296:=Nat.xor_lt_two_pow (n:=32) (by decide) hx;have qxA:4294967295^^^(x^^^y)<4294967296:=Nat.xor_lt_two_pow (n:=32) (by decide) Xx;have l1:((4294967295^^^x)&&& y)<4294967296:=Nat.lt_of_le_of_lt Nat.and_le_right hy;have l2:((4294967295^^^(x^^^y))&&& ((x+4294967296-y-c)%4294967296))<4294967296:=Nat.lt_of_le_of_lt Nat.and_le_right hm;have hb:=qBL x y c hx hy hc
 have key:(bits BinOp.or IntKind.u32 (bits BinOp.and IntKind.u32 (bits BinOp.xor IntKind.u32 IntKind.u32.max ↑x) ↑y) (bits BinOp.and IntKind.u32 (bits BinOp.xor IntKind.u32 IntKind.u32.max (bits BinOp.xor IntKind.u32 ↑x ↑y)) (((x:Int)-y-c)%4294967296))/2147483648:Int)=(borrow x y c:Nat):=by
  rw[hd,hmax,qaZ x y hx hy,qaZ _ _ (by decide) hx,qaZ _ _ (by decide) Xx,qiI _ _ hnx hy,qiI _ _ qxA hm,qiL _ _ l1 l2, <-hb];simp
 refine⟨?_,rfl⟩;show Ending.returned (.tuple #[.int .u32 ((((x:Int)-y)%4294967296-c)%4294967296),.int .u32 (bits BinOp.or IntKind.u32 (bits BinOp.and IntKind.u32 (bits BinOp.xor IntKind.u32 IntKind.u32.max ↑x) ↑y) (bits BinOp.and IntKind.u32 (bits BinOp.xor IntKind.u32 IntKind.u32.max (bits BinOp.xor IntKind.u32 ↑x ↑y)) (((x:Int)-y-c)%4294967296))/2147483648)])=_;rw[key,show((((x:Int)-y)%4294967296-c)%4294967296)=(zM x y c:Nat)from by unfold zM;omega]
theorem Tryz.FU:(Tryz.prog.info? 155).map (λi=>(i.zero,i.size,i.bytes))=some (some (.int .u32 0),1,4):=by kernel_rfl
theorem qoz{M:Nat->Prop}(v:Value)(n:Nat)(d:Nat->Nat)(w:World)(hM:Mb M w)(h:eu M w v n d):
 Calls Tryz.prog 131 #[v] w λe w'=>∃v',e=.returned v'/\iX M w' v' (nv d n)/\Ext w w':=by
 obtain⟨i0,hi,hz0,hz1,hz2⟩:=info_parts Tryz.FU
 go_enter Tryz.func131,Tryz.ntmps131
 go_wp2_with (fail);refine(wY v n d w h).mono ?_;rintro e w' ⟨v',rfl,mJ,rfl⟩;have htl:=Ji d n;have hn:=h.1;generalize hm:tl d n=m at*;have Hm:=ae hm;clear hm;obtain⟨a,cap,rfl⟩:=lM mJ
 go_wp2_with (first|(refine wpList_make_full _ rfl _ _ _ rfl w.heap.size 155 i0 (.int .u32 0) 1 Tryz.underlying28 hi hz0 hz1 .i64 .i64 _ _ m rfl rfl rfl rfl ?c2 ?c3 (aI _) ?_))
 case c2=>rw[hz2];omega
 case c3=>unfold maxLen;omega
 intro w1 hown hgrow;have hB:=aG.BK hown;have he:=nL hgrow;clear hown hgrow;obtain⟨hL,hd,h3⟩:=mJ
 go_wp2_with (refine TU rfl (.tmp 9) (.tmp 10) _ _ rfl 155 Tryz.underlying28 (by rw[hi];simp[hz1]) _ _ _ _ _ _ rfl rfl w.heap.size 0 155 m _ hB m ?k1 (λi=>.int .u32 (d i)) ?k2 ?k3 ?k4 ?_)
 case k1=>exact(Nat.min_self m).symm
 case k2=>
  intro h0;rcases h3 with⟨hv,rA⟩|⟨b,off,cap',hv,kT,fF,hb1,hcell⟩
  ·omega
  ·simp only[Value.slice.injEq]at hv;exact⟨b,off,hv.1,λj hj=>by rw[he.cell hb1.1];exact hcell j hj⟩
 case k3=>omega
 case k4=>intro j hj;rfl
 intro w2 dJ jq;have aJ:Ext w w2:=he.grown jq (by intro k hk;cases hk;exact aI _);go_wp2;go_ret;refine⟨_,rfl,⟨m,d,eu.I5 dJ (hM.new (aI _)) m (aI _) hL (aI _) (by unfold maxLen;omega) ?_ hd,?_,?_⟩,aJ⟩
 ·intro i hi';unfold over;rw[ai (by omega)];rfl
 ·rw[<-Hm.out];exact tQ d n
 ·rw[<-Hm.out];exact Jh d n
theorem FW{M:Nat->Prop}(v:Value)(x:Nat)(w:World)(hM:Mb M w)(h:gP M w v x):
 Calls Tryz.prog 131 #[v] w λe w'=>∃v',e=.returned v'/\iX M w' v' x/\Ext w w':=by
 obtain⟨n,d,hr,rfl⟩:=h;exact qoz v n d w hM hr
theorem qoy{M:Nat->Prop}(v v':Value)(n0 m0:Nat)(d d':Nat->Nat)(w:World)(h:eu M w v n0 d)(h':eu M w v' m0 d'):
 Calls Tryz.prog 132 #[v,v'] w λe w'=>e=.returned (.int .i64 (mG (nv d n0) (nv d' m0)))/\Ext w w':=by
 have e1:=tQ d n0;have e2:=tQ d' m0;have k1:=Jh d n0;have k2:=Jh d' m0;have rA:Hid (nv d (tl d n0)=nv d n0):=e1;have wR:Hid (nv d' (tl d' m0)=nv d' m0):=e2;clear e1 e2;have j5:Hid (tl d n0=0\/d (tl d n0-1)≠0):=k1;have jf:Hid (tl d' m0=0\/d' (tl d' m0-1)≠0):=k2;clear k1 k2
 go_enter Tryz.func132,Tryz.ntmps132
 go_wp2_with (fail);refine(wY v n0 d w h).mono ?_;rintro e w' ⟨v1,rfl,hv1,rfl⟩;go_wp2_with (fail);refine(wY v' m0 d' w h').mono ?_;rintro e w' ⟨v2,rfl,hv2,rfl⟩;generalize tl d n0=n at*;generalize tl d' m0=m at*;have E1:Hid (nv d n=nv d n0):=rA;have E2:Hid (nv d' m=nv d' m0):=wR;have HK:Hid (n=0\/d (n-1)≠0):=j5;have HK':Hid (m=0\/d' (m-1)≠0):=jf;clear rA wR j5 jf;obtain⟨a1,xH,rfl⟩:=lM hv1;obtain⟨a2,cap2,rfl⟩:=lM hv2;obtain⟨hL,hd,h3⟩:=hv1;obtain⟨Ff,uA,h3'⟩:=hv2;have HD:=ae hd;have Zn:=ae uA;have H3:=ae h3;have H3':=ae h3';clear hd uA h3 h3' h h';rcases Nat.lt_trichotomy n m with hlt|heq|kR
 ·go_wp2;go_ret;exact⟨by rw[<-E1.out, <-E2.out,VG (qek d d' n m HD.out hlt HK'.out)];rfl,Ext.refl _⟩
 ·subst heq
  by_cases jg:n=0
  ·subst jg;go_wp2;refine wp_loop_rounds 1 ?_;rw[rounds_succ];go_wp2;go_ret;exact⟨by rw[<-E1.out, <-E2.out];rfl,Ext.refl _⟩
  ·have hd:=HD.out;have uA:=Zn.out;rcases H3.out with⟨h0,_⟩|⟨b,off,cap,hv,Hz,hm,hb,hc⟩
   ·exact absurd h0 jg
   rcases H3'.out with⟨h0,_⟩|⟨b',off',cap',mJ,qDU,hm',hb',DJ⟩
   ·exact absurd h0 jg
   simp only[Value.slice.injEq,true_and]at hv mJ;obtain⟨rfl,rfl⟩:=hv;obtain⟨rfl,rfl⟩:=mJ;clear H3 H3' HD Zn;unfold maxLen at hm hm';go_wp2
   go_loopw [5] (λi wr=>∃k:Nat,k<=n/\i=.int .i64 ((k:Int)-1)/\(∀j,k<=j->j<n->d j=d' j)/\Ext w wr) (λi _=>((intOf i)+1).toNat)
   case atStart=>exact⟨n,aI _,by rfl,by intro j h1 h2;omega,Ext.refl _⟩
   case round=>
    obtain⟨k,hkn,rfl,hs,he⟩:=hrel;have HS:=ae hs;clear hs
    by_cases h0:k=0
    ·subst h0;go_wp2;go_ret;exact⟨by rw[<-E1.out, <-E2.out,qtC (pE d d' n λi hi=>HS.out i (by omega) hi)];rfl,he⟩
    ·obtain⟨j,rfl⟩:∃j,k=j+1:=⟨k-1,by omega⟩
     have hcell:wr.cell? ⟨b,off+j,none⟩=some (.int .u32 (d j)):=by rw[he.cell hb.1];exact hc j (by omega)
     have qDW:wr.cell? ⟨b',off'+j,none⟩=some (.int .u32 (d' j)):=by rw[he.cell hb'.1];exact DJ j (by omega)
     have hx:=hd j (by omega);have II:=uA j (by omega);have HC:=ae hc;have HC':=ae DJ;clear hc DJ;rcases Nat.lt_trichotomy (d j) (d' j)with hlt|heq|kR
     ·have hl:=qoX d d' n j hd (by omega) (λi h1 h2=>HS.out i (by omega) h2) hlt;have HL:=ae hl;clear hl;go_wp2
      go_quiet (fail)
      go_wp2;go_ret;exact⟨by rw[<-E1.out, <-E2.out,VG HL.out];rfl,by exact he.drewN _⟩
     ·have q1:d j<=d' j:=by omega
      have q2:d' j<=d j:=by omega
      have HE:=ae heq;clear heq;go_wp2
      go_quiet (fail)
      go_wp2
      go_quiet (fail)
      go_wp2
      go_roundw
      case rel=>exact⟨j,by omega,by go_num,λi h1 h2=>if kP:i=j then(by rw[kP];exact HE.out)else HS.out i (by omega) h2,he.drewN _⟩
      case measure=>simp[intOf]
     ·have hl:=qoX d' d n j uA (by omega) (λi h1 h2=>(HS.out i (by omega) h2).symm) kR;have HL:=ae hl;clear hl;go_wp2
      go_quiet (fail)
      go_wp2
      go_quiet (fail)
      go_wp2;go_ret;exact⟨by rw[<-E1.out, <-E2.out,qiX HL.out];rfl,by exact(he.drewN _).drewN _⟩
 ·go_wp2;go_ret;exact⟨by rw[<-E1.out, <-E2.out,qiX (qek d' d m n Zn.out kR HK.out)];rfl,Ext.refl _⟩
theorem Ld{M:Nat->Prop}(v v':Value)(x y:Nat)(w:World)(h:gP M w v x)(h':gP M w v' y):
 Calls Tryz.prog 132 #[v,v'] w λe w'=>e=.returned (.int .i64 (mG x y))/\Ext w w':=by
 obtain⟨n,d,hr,rfl⟩:=h;obtain⟨m,d',Bv,rfl⟩:=h';exact qoy v v' n m d d' w hr Bv
theorem qow(x y c g:Nat)(t:TypeId)(w:World)(hx:x<4294967296)(hy:y<4294967296)(hc:c<4294967296)(hB:aG w g t 1 (λ_=>.int .u32 c)):
 Calls Tryz.prog 184 #[.int .u32 x,.int .u32 y,.pointer (some ⟨g,0,none⟩)] w λe w'=>
  e=.returned (.int .u32 (iL x y c))/\aG w' g t 1 (λ_=>.int .u32 (ic x y c))/\w.grownBy w' (some g):=by
 have h1:=hB.cell (i:=0) (by omega);have h2:=hB.frozen 0
 go_enter Tryz.func184,Tryz.ntmps184
 go_wp2_with (go_at_call 185;refine(Dh x y c _ hx hy hc).mono ?_;rintro e w' ⟨rfl,rfl⟩)
 go_ret;refine⟨rfl,(hB.set 0 _).congr ?_,?_⟩
 ·intro i hi;unfold jr;rw[ai (by omega)]
 ·exact⟨rfl,rfl,rfl,by simp[World.setCell],λk _ hk=>Below.heap_setCell _ _ _ _ (λe=>hk (by simp[e]))⟩
theorem qoC(x y c g:Nat)(t:TypeId)(w:World)(hx:x<4294967296)(hy:y<4294967296)(hc:c<2)(hB:aG w g t 1 (λ_=>.int .u32 c)):
 Calls Tryz.prog 186 #[.int .u32 x,.int .u32 y,.pointer (some ⟨g,0,none⟩)] w λe w'=>
  e=.returned (.int .u32 (zM x y c))/\aG w' g t 1 (λ_=>.int .u32 (borrow x y c))/\w.grownBy w' (some g):=by
 have h1:=hB.cell (i:=0) (by omega);have h2:=hB.frozen 0
 go_enter Tryz.func186,Tryz.ntmps186
 go_wp2_with (go_at_call 187;refine(qaY x y c _ hx hy hc).mono ?_;rintro e w' ⟨rfl,rfl⟩)
 go_ret;refine⟨rfl,(hB.set 0 _).congr ?_,?_⟩
 ·intro i hi;unfold jr;rw[ai (by omega)]
 ·exact⟨rfl,rfl,rfl,by simp[World.setCell],λk _ hk=>Below.heap_setCell _ _ _ _ (λe=>hk (by simp[e]))⟩
theorem oL{M:Nat->Prop}{w:World}{a:Option Addr}{n cap:Nat}{d:Nat->Nat}(h:eu M w (.slice a n cap) n d)(h0:0<n):
 ∃b off,a=some ⟨b,off,none⟩/\b<w.heap.size/\∀i,i<n->w.cell? ⟨b,off+i,none⟩=some (.int .u32 (d i)):=by
 obtain⟨_,_,h3⟩:=h;rcases h3 with⟨_,h4⟩|⟨b,off,cap',hv,_,_,hb,hc⟩
 ·omega
 ·simp only[Value.slice.injEq]at hv;exact⟨b,off,hv.1,hb.1,hc⟩
def J8(d e:Nat->Nat)(k:Nat):Nat->Value:=λi=>.int .u32 ((if i<k then sd d e i else 0:Nat):Int)
theorem qiD(d e:Nat->Nat)(k:Nat):jr (J8 d e k) k (.int .u32 (sd d e k:Nat))=J8 d e (k+1):=by
 funext i;unfold jr J8
 by_cases h:i=k
 ·subst h;rw[ai rfl,ai (by omega)]
 ·rw[ah h]
  by_cases h2:i<k
  ·rw[ai h2,ai (by omega)]
  ·rw[ah h2,ah (by omega)]
theorem qzl{M:Nat->Prop}(v v':Value)(n0 m0:Nat)(d0 e0:Nat->Nat)(w:World)(hM:Mb M w)(h:eu M w v n0 d0)(h':eu M w v' m0 e0)(hL:aH (nv d0 n0+nv e0 m0)<=1099511627776):
 Calls Tryz.prog 160 #[v,v'] w λe w'=>∃u,e=.returned u/\iX M w' u (nv d0 n0+nv e0 m0)/\Ext w w':=by
 obtain⟨i0,hi,hz0,hz1,hz2⟩:=info_parts Tryz.FU;have WZ:∀(fn:Fn)(first cap:Array Value)(w:World),(Instr.makeFunc fn first cap).run Tryz.prog w=.ok (.func fn first cap) w:=λ_ _ _ _=>rfl;have key:∀(a1 a2:Option Addr)(xH cap2 n m:Nat)(d e:Nat->Nat),eu M w (.slice a1 n xH) n d->eu M w (.slice a2 m cap2) m e->m<=n->nv d n+nv e m=nv d0 n0+nv e0 m0->True:=λ_ _ _ _ _ _ _ _ _ _ _ _=>trivial
 go_enter Tryz.func160,Tryz.ntmps160
 go_wp2_with (fail);refine(wY v n0 d0 w h).mono ?_;rintro e w' ⟨v1,rfl,hv1,rfl⟩;go_wp2_with (fail);refine(wY v' m0 e0 w h').mono ?_;rintro e w' ⟨v2,rfl,hv2,rfl⟩;have E1:Hid (nv d0 (tl d0 n0)=nv d0 n0):=tQ d0 n0;have E2:Hid (nv e0 (tl e0 m0)=nv e0 m0):=tQ e0 m0;generalize tl d0 n0=n1 at*;generalize tl e0 m0=m1 at*;obtain⟨a1,xH,rfl⟩:=lM hv1;obtain⟨a2,cap2,rfl⟩:=lM hv2;clear h h' key
 go_upto_if 19 with(fail)
 go_cut [0,1] (λs0 s1 wx=>w=wx/\∃(a b:Option Addr)(c1 c2 n m:Nat)(d e:Nat->Nat),s0=.slice a n c1/\s1=.slice b m c2/\m<=n/\Hid (eu M w s0 n d/\eu M w s1 m e/\nv d n+nv e m=nv d0 n0+nv e0 m0))
 case first=>
  rcases Nat.lt_or_ge n1 m1 with hlt|jS
  ·go_wp2
   go_meet
   exact⟨rfl,a2,a1,cap2,xH,m1,n1,e0,d0,rfl,rfl,by omega,hv2,hv1,by rw[E1.out,E2.out];omega⟩
  ·go_wp2
   go_meet
   exact⟨rfl,a1,a2,xH,cap2,n1,m1,d0,e0,rfl,rfl,by omega,hv1,hv2,by rw[E1.out,E2.out]⟩
 case rest=>
  obtain⟨rfl,a,b,c1,c2,n,m,d,e,rfl,rfl,Bq,hR⟩:=hcut;have qD:=hR.out.1;have gH:=qD.1;clear qD
  go_wp2_with (first|(refine wpList_make_full _ rfl _ _ _ rfl (w.heap.size+1) 155 i0 (.int .u32 0) 1 Tryz.underlying28 hi hz0 hz1 .i64 .i64 _ _ (n+1) rfl rfl ?c4 ?c5 ?c2 ?c3 ?c6 ?_))
  case c4=>go_num
  case c5=>go_num
  case c6=>simp
  case c2=>rw[hz2];omega
  case c3=>unfold maxLen;omega
  intro w1 hown hgrow;have hB:=aG.BK hown;have he:=nL hgrow;clear hown hgrow;have hC:aG w1 w.heap.size 155 1 (λ_=>.int .u32 (cy d (cut e m) 0:Nat)):=(aG.Tn w _ _).ext he;have az:Ext w w1:=((Ext.refl w).alloc _).trans he;obtain⟨hRd,NM,hRv⟩:=hR.out;have jZ:=hRd.2.1;have hel:=NM.2.1;have rY:=qbi e m hel;have HD:=ae jZ;have HC:=ae rY;have Es:Hid (∀k,k<=n->cy d (cut e m) k<=1):=λk hk=>qi8 d (cut e m) k (λi hi=>jZ i (by omega)) λi _=>rY i;have HV:=ae hRv;have PU:=ae hRd;have HRe:=ae NM;clear hRd NM hRv jZ hel rY hR he;go_wp2
  go_loopw [29] (λi wr=>∃k:Nat,k<=m/\i=.int .i64 k/\aG wr (w.heap.size+1) 155 (n+1) (J8 d (cut e m) k)/\aG wr w.heap.size 155 1 (λ_=>.int .u32 (cy d (cut e m) k))/\Ext w wr) (λi _=>m-(intOf i).toNat)
  case atStart=>exact⟨0,bK _,rfl,hB.congr (by intro i _;simp[J8]),hC,az⟩
  case round=>
   obtain⟨k,hk,rfl,o8,yU,dL⟩:=hrel
   by_cases hlt:k<m
   ·obtain⟨b1,o1,rfl,hb1,fF⟩:=oL PU.out (by omega);obtain⟨b2,o2,rfl,jR,fw⟩:=oL HRe.out (by omega)
    have g1:wr.cell? ⟨b1,o1+k,none⟩=some (.int .u32 (d k)):=by rw[dL.cell hb1];exact fF k (by omega)
    have g2:wr.cell? ⟨b2,o2+k,none⟩=some (.int .u32 (e k)):=by rw[dL.cell jR];exact fw k (by omega)
    have uC:e k=cut e m k:=by unfold cut;rw[ai hlt]
    rw[uC]at g2;clear fF fw uC;go_wp2_with (fail);refine(qow (d k) (cut e m k) (cy d (cut e m) k) w.heap.size 155 _ (HD.out k (by omega)) (HC.out k) (by have:=Es.out k (by omega);omega) yU).mono ?_;rintro e' w2 ⟨rfl,rV,jq⟩;have dJ:=o8.grown jq (by simp);have aJ:=dL.grown jq (by intro q hq;cases hq;exact aI _);have q1:=dJ.cell (i:=k) (by omega);have q2:=dJ.frozen k;go_wp2
    go_roundw
    case rel=>exact⟨k+1,by omega,by go_num,qiD d (cut e m) k ▸ dJ.set k _,rV.vT (by simp) _,aJ.set (by simp) _⟩
    case measure=>simp[intOf];omega
   ·have:k=m:=by omega
    subst this;clear hlt hk;go_wp2;obtain⟨wo,rfl⟩:∃wo:World,wo=wr:=⟨_,rfl⟩
    go_loopw [10] (λi wr=>∃j:Nat,k<=j/\j<=n/\i=.int .i64 j/\aG wr (w.heap.size+1) 155 (n+1) (J8 d (cut e k) j)/\aG wr w.heap.size 155 1 (λ_=>.int .u32 (cy d (cut e k) j))/\Ext w wr) (λi _=>n-(intOf i).toNat)
    case atStart=>exact⟨k,aI _,Bq,rfl,o8,yU,dL⟩
    case round=>
     clear o8 yU dL;obtain⟨j,Ie,hj,rfl,o8,yU,dL⟩:=hrel
     by_cases hlt:j<n
     ·obtain⟨b1,o1,rfl,hb1,fF⟩:=oL PU.out (by omega)
      have g1:wr.cell? ⟨b1,o1+j,none⟩=some (.int .u32 (d j)):=by rw[dL.cell hb1];exact fF j (by omega)
      have uC:cut e k j=0:=by unfold cut;rw[ah (by omega)]
      have bf:=qow (d j) (cut e k j) (cy d (cut e k) j) w.heap.size 155 wr (HD.out j (by omega)) (HC.out j) (by have:=Es.out j (by omega);omega) yU;have Bi:iL (d j) (cut e k j) (cy d (cut e k) j)=sd d (cut e k) j:=rfl;have Bh:ic (d j) (cut e k j) (cy d (cut e k) j)=cy d (cut e k) (j+1):=rfl;rw[Bi,Bh,uC]at bf;have aW:=ae bf;clear fF uC bf Bi Bh;go_wp2_with (fail);refine aW.out.mono ?_;rintro e' w2 ⟨rfl,rV,jq⟩;have dJ:=o8.grown jq (by simp);have aJ:=dL.grown jq (by intro q hq;cases hq;exact aI _);have q1:=dJ.cell (i:=j) (by omega);have q2:=dJ.frozen j;go_wp2
      go_roundw
      case rel=>exact⟨j+1,by omega,by omega,by go_num,qiD d (cut e k) j ▸ dJ.set j _,rV.vT (by simp) _,aJ.set (by simp) _⟩
      case measure=>simp[intOf];omega
     ·have:j=n:=by omega
      subst this;clear hlt;have q1:=o8.cell (i:=j) (by omega);have q2:=o8.frozen j;have q3:=yU.cell (i:=0) (by omega);have jM:=o8.set j (.int .u32 (cy d (cut e k) j))
      have kL:aG (wr.setCell ⟨w.heap.size+1,j,none⟩ (.int .u32 (cy d (cut e k) j))) (w.heap.size+1) 155 (j+1) (λi=>.int .u32 (F3 d (cut e k) j i)):=by
       refine jM.congr λi hi=>?_;unfold jr J8 F3
       by_cases h1:i=j
       ·subst h1;rw[ai rfl,ah (by omega)]
       ·rw[ah h1,ai (by omega),ai (by omega)]
      have bB:Ext w (wr.setCell ⟨w.heap.size+1,j,none⟩ (.int .u32 (cy d (cut e k) j))):=dL.set (by simp) _
      have hsl:∀i,i<j+1->F3 d (cut e k) j i<4294967296:=λi _=>by
       unfold F3;split
       ·exact Yq _ _ _
       ·have:=Es.out j (by omega);omega
      have hval:nv (F3 d (cut e k) j) (j+1)=nv d0 n0+nv e0 m0:=by rw[qzO,X6 e k j Ie];exact HV.out
      have bf:=Lf (M:=M) kL (hM.new (by omega)) (by unfold maxLen;omega) hsl (by rw[hval];exact hL);rw[hval]at bf;have aW:=ae bf;clear bf jM kL hsl hval;go_wp2_with (fail);refine aW.out.mono ?_;rintro e' w2 ⟨u,rfl,hu,rfl⟩;go_wp2;go_ret;exact⟨u,rfl,hu,bB⟩
theorem XW{M:Nat->Prop}(v v':Value)(x y:Nat)(w:World)(hM:Mb M w)(h:gP M w v x)(h':gP M w v' y)(hL:aH (x+y)<=1099511627776):
 Calls Tryz.prog 160 #[v,v'] w λe w'=>∃u,e=.returned u/\iX M w' u (x+y)/\Ext w w':=by
 obtain⟨n,d,hr,rfl⟩:=h;obtain⟨m,d',Bv,rfl⟩:=h';exact qzl v v' n m d d' w hM hr Bv hL
def LF(d e:Nat->Nat)(k:Nat):Nat->Value:=λi=>.int .u32 ((if i<k then dd d e i else 0:Nat):Int)
theorem qqz(d e:Nat->Nat)(k:Nat):jr (LF d e k) k (.int .u32 (dd d e k:Nat))=LF d e (k+1):=by
 funext i;unfold jr LF
 by_cases h:i=k
 ·subst h;rw[ai rfl,ai (by omega)]
 ·rw[ah h]
  by_cases h2:i<k
  ·rw[ai h2,ai (by omega)]
  ·rw[ah h2,ah (by omega)]
theorem qzr{M:Nat->Prop}(v v':Value)(n0 m0:Nat)(d0 e0:Nat->Nat)(w:World)(hM:Mb M w)(h:eu M w v n0 d0)(h':eu M w v' m0 e0)(jS:nv e0 m0<=nv d0 n0):
 Calls Tryz.prog 161 #[v,v'] w λe w'=>∃u,e=.returned (.tuple #[u,.bool true])/\iX M w' u (nv d0 n0-nv e0 m0)/\Ext w w':=by
 obtain⟨i0,hi,hz0,hz1,hz2⟩:=info_parts Tryz.FU;have WZ:∀(fn:Fn)(first cap:Array Value)(w:World),(Instr.makeFunc fn first cap).run Tryz.prog w=.ok (.func fn first cap) w:=λ_ _ _ _=>rfl;have E1:Hid (nv d0 (tl d0 n0)=nv d0 n0):=tQ d0 n0;have E2:Hid (nv e0 (tl e0 m0)=nv e0 m0):=tQ e0 m0;have E3:Hid (tl d0 n0=0\/d0 (tl d0 n0-1)≠0):=Jh d0 n0;have E4:Hid (tl e0 m0=0\/e0 (tl e0 m0-1)≠0):=Jh e0 m0;have pJ:=ae jS;clear jS
 go_enter Tryz.func161,Tryz.ntmps161
 go_wp2_with (fail);refine(wY v n0 d0 w h).mono ?_;rintro e w' ⟨v1,rfl,hv1,rfl⟩;go_wp2_with (fail);refine(wY v' m0 e0 w h').mono ?_;rintro e w' ⟨v2,rfl,hv2,rfl⟩;generalize tl d0 n0=n at*;generalize tl e0 m0=m at*;go_wp2_with (fail);refine(qoy v1 v2 n m d0 e0 w hv1 hv2).mono ?_;rintro e w1 ⟨rfl,gY⟩
 have hc:¬(mG (nv d0 n) (nv e0 m)<0):=by
  have:=pJ.out;rw[E1.out,E2.out];unfold mG;rw[ah (by omega)];split<;>omega
 have Bq:m<=n:=by
  rcases Nat.lt_or_ge n m with h1|h1
  ·have:=qek d0 e0 n m hv1.2.1 h1 E4.out;have:=pJ.out;rw[<-E1.out, <-E2.out]at this;omega
  ·exact h1
 have qD:=hv1.ext gY;have Fj:=hv2.ext gY;have HX:=ae gY;clear h h' hv1 hv2 gY;obtain⟨a,c1,rfl⟩:=lM qD;obtain⟨b,c2,rfl⟩:=lM Fj;have gH:=qD.1;have jZ:=qD.2.1;have rY:=qbi e0 m Fj.2.1;have HD:=ae jZ;have HC:=ae rY;have PU:=ae qD;have HRe:=ae Fj;clear qD Fj jZ rY
 go_wp2_with (first|(refine wpList_make_full _ rfl _ _ _ rfl (w1.heap.size+1) 155 i0 (.int .u32 0) 1 Tryz.underlying28 hi hz0 hz1 .i64 .i64 _ _ n rfl rfl ?c4 ?c5 ?c2 ?c3 ?c6 ?_))
 case c4=>rfl
 case c5=>rfl
 case c6=>simp
 case c2=>rw[hz2];omega
 case c3=>unfold maxLen;omega
 intro w2 hown hgrow;have hB:=aG.BK hown;have he:=nL hgrow;clear hown hgrow;have hC:aG w2 w1.heap.size 155 1 (λ_=>.int .u32 (bw d0 (cut e0 m) 0:Nat)):=(aG.Tn w1 _ _).ext he;have az:Ext w1 w2:=((Ext.refl w1).alloc _).trans he
 have uO:Hid (∀k,bw d0 (cut e0 m) k<2):=λk=>by have:=qa2 d0 (cut e0 m) k;omega
 clear he;go_wp2
 go_loopw [26] (λi wr=>∃k:Nat,k<=m/\i=.int .i64 k/\aG wr (w1.heap.size+1) 155 n (LF d0 (cut e0 m) k)/\aG wr w1.heap.size 155 1 (λ_=>.int .u32 (bw d0 (cut e0 m) k))/\Ext w1 wr) (λi _=>m-(intOf i).toNat)
 case atStart=>exact⟨0,bK _,rfl,hB.congr (by intro i _;simp[LF]),hC,az⟩
 case round=>
  obtain⟨k,hk,rfl,o8,yU,dL⟩:=hrel
  by_cases hlt:k<m
  ·obtain⟨b1,o1,rfl,hb1,fF⟩:=oL PU.out (by omega);obtain⟨b2,o2,rfl,jR,fw⟩:=oL HRe.out (by omega)
   have g1:wr.cell? ⟨b1,o1+k,none⟩=some (.int .u32 (d0 k)):=by rw[dL.cell hb1];exact fF k (by omega)
   have g2:wr.cell? ⟨b2,o2+k,none⟩=some (.int .u32 (e0 k)):=by rw[dL.cell jR];exact fw k (by omega)
   have uC:e0 k=cut e0 m k:=by unfold cut;rw[ai hlt]
   rw[uC]at g2;clear fF fw uC;go_wp2_with (fail);refine(qoC (d0 k) (cut e0 m k) (bw d0 (cut e0 m) k) w1.heap.size 155 _ (HD.out k (by omega)) (HC.out k) (uO.out k) yU).mono ?_;rintro e' w3 ⟨rfl,rV,jq⟩;have dJ:=o8.grown jq (by simp);have aJ:=dL.grown jq (by intro q hq;cases hq;exact aI _);have q1:=dJ.cell (i:=k) (by omega);have q2:=dJ.frozen k;go_wp2
   go_roundw
   case rel=>exact⟨k+1,by omega,by go_num,qqz d0 (cut e0 m) k ▸ dJ.set k _,rV.vT (by simp) _,aJ.set (by simp) _⟩
   case measure=>simp[intOf];omega
  ·have:k=m:=by omega
   subst this;clear hlt hk;go_wp2;obtain⟨wo,rfl⟩:∃wo:World,wo=wr:=⟨_,rfl⟩
   go_loopw [11] (λi wr=>∃j:Nat,k<=j/\j<=n/\i=.int .i64 j/\aG wr (w1.heap.size+1) 155 n (LF d0 (cut e0 k) j)/\aG wr w1.heap.size 155 1 (λ_=>.int .u32 (bw d0 (cut e0 k) j))/\Ext w1 wr) (λi _=>n-(intOf i).toNat)
   case atStart=>exact⟨k,aI _,Bq,rfl,o8,yU,dL⟩
   case round=>
    clear o8 yU dL;obtain⟨j,Ie,hj,rfl,o8,yU,dL⟩:=hrel
    by_cases hlt:j<n
    ·obtain⟨b1,o1,rfl,hb1,fF⟩:=oL PU.out (by omega)
     have g1:wr.cell? ⟨b1,o1+j,none⟩=some (.int .u32 (d0 j)):=by rw[dL.cell hb1];exact fF j (by omega)
     have uC:cut e0 k j=0:=by unfold cut;rw[ah (by omega)]
     have bf:=qoC (d0 j) (cut e0 k j) (bw d0 (cut e0 k) j) w1.heap.size 155 wr (HD.out j (by omega)) (HC.out j) (uO.out j) yU;have Bi:zM (d0 j) (cut e0 k j) (bw d0 (cut e0 k) j)=dd d0 (cut e0 k) j:=rfl;have Bh:borrow (d0 j) (cut e0 k j) (bw d0 (cut e0 k) j)=bw d0 (cut e0 k) (j+1):=rfl;rw[Bi,Bh,uC]at bf;have aW:=ae bf;clear fF uC bf Bi Bh;go_wp2_with (fail);refine aW.out.mono ?_;rintro e' w3 ⟨rfl,rV,jq⟩;have dJ:=o8.grown jq (by simp);have aJ:=dL.grown jq (by intro q hq;cases hq;exact aI _);have q1:=dJ.cell (i:=j) (by omega);have q2:=dJ.frozen j;go_wp2
     go_roundw
     case rel=>exact⟨j+1,by omega,by omega,by go_num,qqz d0 (cut e0 k) j ▸ dJ.set j _,rV.vT (by simp) _,aJ.set (by simp) _⟩
     case measure=>simp[intOf];omega
    ·have:j=n:=by omega
     subst this;clear hlt
     have kL:aG wr (w1.heap.size+1) 155 j (λi=>.int .u32 (dd d0 (cut e0 k) i)):=by
      refine o8.congr λi hi=>?_;unfold LF;rw[ai hi]
     have hval:nv (dd d0 (cut e0 k)) j=nv d0 n0-nv e0 m0:=by
      have fw:=X6 e0 k j Ie;have jS:=pJ.out;rw[qzM d0 (cut e0 k) j HD.out (λi _=>HC.out i) (by rw[fw,E1.out,E2.out];exact jS),fw,E1.out,E2.out]
     have bf:=Lf (M:=M) kL (hM.new (by have:=HX.out.size;omega)) (by unfold maxLen;omega) (λi _=>qbl _ _ _) (aR (yR _ _ λi _=>qbl _ _ _) gH);rw[hval]at bf;have aW:=ae bf;clear bf kL hval;go_wp2_with (fail);refine aW.out.mono ?_;rintro e' w2 ⟨u,rfl,hu,rfl⟩;go_wp2
     go_ret2
     exact⟨u,rfl,hu,HX.out.trans dL⟩
theorem qd8{M:Nat->Prop}(v v':Value)(x y:Nat)(w:World)(hM:Mb M w)(h:gP M w v x)(h':gP M w v' y)(jS:y<=x):
 Calls Tryz.prog 161 #[v,v'] w λe w'=>∃u,e=.returned (.tuple #[u,.bool true])/\iX M w' u (x-y)/\Ext w w':=by
 obtain⟨n,d,hr,rfl⟩:=h;obtain⟨m,d',Bv,rfl⟩:=h';exact qzr v v' n m d d' w hM hr Bv jS
theorem XX{M:Nat->Prop}(x:Nat)(w:World)(hM:Mb M w)(hx:x<18446744073709551616):
 Calls Tryz.prog 77 #[.int .u64 x] w λe w'=>∃u,e=.returned u/\iX M w' u x/\Ext w w':=by
 have zD:IntKind.u64.signed=false:=rfl
 have II:(x:Int)<18446744073709551616:=by omega
 go_enter Tryz.func77,Tryz.ntmps77
 go_wp2_with (fail)
 have hB:aG (w.alloc (Obj.cells #[Value.int IntKind.u32 ((x:Int)%4294967296),Value.int IntKind.u32 ((x:Int)/4294967296)] 155)) w.heap.size 155 2 (λi=>.int .u32 ((if i=0 then x%4294967296 else x/4294967296:Nat):Int)):=
  aG.X8 w _ _ _ 2 rfl (by
   intro i hi
   have:i=0\/i=1:=by omega
   rcases this with rfl|rfl<;>simp)
 have hN:=eu.I5 (M:=M) (d:=λi=>if i=0 then x%4294967296 else x/4294967296) hB (hM.new (aI _)) 2 (aI _) (by omega) (aI _) (by unfold maxLen;omega) (λi _=>rfl) (by intro i hi;show(if i=0 then x%4294967296 else x/4294967296)<4294967296;split<;>omega)
 have hv:nv (λi=>if i=0 then x%4294967296 else x/4294967296) 2=x:=by simp[nv];omega
 have c:=qoz _ _ _ _ (hM.size (by simp)) hN;rw[hv]at c;refine c.mono ?_;rintro e w1 ⟨u,rfl,hu,he⟩;go_wp2;go_ret;exact⟨u,rfl,hu,((Ext.refl w).alloc _).trans he⟩
def jy(w:World)(g:Nat)(N:Nat)(s:Nat->Nat):Prop:=aG w g 155 N (λi=>.int .u32 (s i))/\∀i,i<N->s i<4294967296
theorem jy.set{w:World}{g N:Nat}{s:Nat->Nat}(h:jy w g N s)(k u:Nat)(hu:u<4294967296):jy (w.setCell ⟨g,k,none⟩ (.int .u32 u)) g N (dK s k u):=by
 refine⟨(h.1.set k _).congr λi _=>?_,λi hi=>?_⟩
 ·unfold jr dK;split<;>rfl
 ·unfold dK;split
  ·exact hu
  ·exact h.2 i hi
theorem jy.ext{w w':World}{g N:Nat}{s:Nat->Nat}(h:jy w g N s)(he:Ext w w'):jy w' g N s:=⟨h.1.ext he,h.2⟩
theorem OE(N:Nat):nv (λ_=>0) N=0:=by
 induction N with
 |zero=>rfl
 |succ N ih=>simp only[nv];rw[ih];simp
theorem qoA{M:Nat->Prop}(a1 a2:Option Addr)(c1 c2 n m:Nat)(d e:Nat->Nat)(w:World)(h:eu M w (.slice a1 n c1) n d)(h':eu M w (.slice a2 m c2) m e)(hL:n+m<=1099511627776):
 Calls Tryz.prog 182 #[.slice a1 n c1,.slice a2 m c2] w λq w'=>∃s,q=.returned (.slice (some ⟨w.heap.size,0,none⟩) (n+m) (n+m))/\
  jy w' w.heap.size (n+m) s/\nv s (n+m)=nv d n*nv e m/\Ext w w':=by
 obtain⟨i0,hi,hz0,hz1,hz2⟩:=info_parts Tryz.FU;have HD:=ae h.2.1;have HE:=ae h'.2.1;have HR:=ae h;have HR':=ae h';clear h h'
 go_enter Tryz.func182,Tryz.ntmps182
 go_wp2_with (first|(refine wpList_make_full _ rfl _ _ _ rfl w.heap.size 155 i0 (.int .u32 0) 1 Tryz.underlying28 hi hz0 hz1 .i64 .i64 _ _ (n+m) rfl rfl ?c4 ?c5 ?c2 ?c3 ?c6 ?_))
 case c4=>go_num
 case c5=>go_num
 case c6=>simp
 case c2=>rw[hz2];omega
 case c3=>unfold maxLen;omega
 intro w1 hown hgrow;have hB:jy w1 w.heap.size (n+m) (λ_=>0):=⟨aG.BK hown,λ_ _=>by show 0<4294967296;decide⟩;have he:=nL hgrow;clear hown hgrow;go_wp2
 go_loopw [23] (λi wr=>∃(k:Nat)(s:Nat->Nat),k<=n/\i=.int .i64 k/\jy wr w.heap.size (n+m) s/\nv s (n+m)=nv d k*nv e m/\(∀q,k+m<=q->s q=0)/\Ext w wr) (λi _=>n-(intOf i).toNat)
 case atStart=>exact⟨0,λ_=>0,bK _,rfl,hB,by rw[OE];simp[nv],λ_ _=>rfl,he⟩
 case round=>
  clear hB he;obtain⟨k,s,hk,rfl,hB,hv,hz,dL⟩:=hrel;have HV:=ae hv;have HZ:=ae hz;clear hv hz
  by_cases hlt:k<n
  ·obtain⟨b1,o1,rfl,hb1,fF⟩:=oL HR.out (by omega)
   have g1:wr.cell? ⟨b1,o1+k,none⟩=some (.int .u32 (d k)):=by rw[dL.cell hb1];exact fF k (by omega)
   clear fF;have xS:=HD.out k hlt
   by_cases h0:d k=0
   ·have t0:(((d k:Nat):Int)==0)=true:=by simp[h0]
    have H0:=ae h0;clear h0;go_wp2
    go_roundw
    case rel=>exact⟨k+1,s,by omega,by go_num,hB,by rw[HV.out];simp[nv,H0.out],λq hq=>HZ.out q (by omega),dL⟩
    case measure=>simp[intOf];omega
   ·have t0:(((d k:Nat):Int)==0)=false:=by simp[h0]
    clear h0;go_wp2;obtain⟨wo,rfl⟩:∃wo:World,wo=wr:=⟨_,rfl⟩
    go_loopw [35,9] (λi c wr=>∃(j cy:Nat)(s':Nat->Nat),j<=m/\i=.int .i64 j/\c=.int .u32 cy/\cy<4294967296/\jy wr w.heap.size (n+m) s'/\
     Hid (nv s' (n+m)+cy*4294967296^(k+j)=nv s (n+m)+d k*nv e j*4294967296^k)/\Hid (∀q,k+m<=q->s' q=0)/\Ext w wr) (λi _ _=>m-(intOf i).toNat)
    case atStart=>exact⟨0,0,s,bK _,rfl,rfl,by decide,hB,by show _=_;simp[nv],HZ.out,dL⟩
    case round=>
     clear hB dL g1;obtain⟨j,cy,s',hj,rfl,rfl,Fx,hB,hv,hz,dL⟩:=hrel
     by_cases hlj:j<m
     ·obtain⟨b2,o2,rfl,jR,fw⟩:=oL HR'.out (by omega)
      have g2:wr.cell? ⟨b2,o2+j,none⟩=some (.int .u32 (e j)):=by rw[dL.cell jR];exact fw j (by omega)
      have g3:wr.cell? ⟨w.heap.size,k+j,none⟩=some (.int .u32 (s' (k+j))):=hB.1.cell (by omega);have g4:=hB.1.frozen (k+j);have hej:=HE.out j hlj;have KU:=hB.2 (k+j) (by omega);obtain⟨q1,q2⟩:=qza (d k) (e j) (s' (k+j)) cy xS hej KU Fx;have q3:=J9 (iL (iV (d k) (e j)) (s' (k+j)) 0) cy 0;have q4:=Ta (d k) (e j);have q5:=J9 (iV (d k) (e j)) (s' (k+j)) 0;have Q2:=ae q2;clear q2 fw;go_wp2_with (fail);refine(Vs (d k) (e j) _ xS hej).mono ?_;rintro e' w' ⟨rfl,rfl⟩;go_wp2_with (fail);refine(Dh (iV (d k) (e j)) (s' (k+j)) 0 _ q4 KU (by decide)).mono ?_;rintro e' w' ⟨rfl,rfl⟩;go_wp2_with (fail);refine(Dh (iL (iV (d k) (e j)) (s' (k+j)) 0) cy 0 _ q5 Fx (by decide)).mono ?_;rintro e' w' ⟨rfl,rfl⟩;go_wp2
      go_roundw
      case rel=>
       refine⟨j+1,kU (d k) (e j)+ic (iV (d k) (e j)) (s' (k+j)) 0+ic (iL (iV (d k) (e j)) (s' (k+j)) 0) cy 0,dK s' (k+j) (iL (iL (iV (d k) (e j)) (s' (k+j)) 0) cy 0),by omega,by go_num,by go_num,q1,hB.set _ _ q3,?_,?_,dL.set (aI _) _⟩
       ·exact qAU s' (n+m) k j (d k) (e j) cy _ _ _ (nv e j) (by omega) hv.out Q2.out
       ·intro q hq;unfold dK;rw[ah (by omega)];exact hz.out q hq
      case measure=>simp[intOf];omega
     ·have:j=m:=by omega
      subst this;clear hlj;have g3:wr.cell? ⟨w.heap.size,k+j,none⟩=some (.int .u32 (s' (k+j))):=hB.1.cell (by omega);have g4:=hB.1.frozen (k+j);go_wp2
      go_roundw
      case rel=>
       refine⟨k+1,dK s' (k+j) cy,by omega,by go_num,hB.set _ _ Fx,?_,?_,dL.set (aI _) _⟩
       ·have h1:=qo1 s' (k+j) cy (n+j) (by omega);rw[hz.out (k+j) (by omega)]at h1;have h2:=hv.out;rw[HV.out]at h2;simp only[nv,Nat.add_mul]
        have h3:d k*nv e j*4294967296^k=d k*4294967296^k*nv e j:=by rw[Nat.mul_assoc,Nat.mul_comm (nv e j), <-Nat.mul_assoc]
        omega
       ·intro q hq;unfold dK;rw[ah (by omega)];exact hz.out q (by omega)
      case measure=>simp[intOf];omega
  ·have:k=n:=by omega
   subst this;go_wp2;go_ret;exact⟨s,rfl,hB,HV.out,dL⟩
theorem qbS{w0 w:World}{g k:Nat}(h:w0.grownBy w (some g))(u:Value):w0.grownBy (w.setCell ⟨g,k,none⟩ u) (some g):=
 QM h ⟨rfl,rfl,rfl,by simp[World.setCell],λq _ hq=>Below.heap_setCell _ _ _ _ (λe=>hq (by rw[e]))⟩
theorem qox{M:Nat->Prop}(g off N cz T:Nat)(a2:Option Addr)(c2 m:Nat)(s X:Nat->Nat)(w:World)(hB:jy w g T s)(hT:off+N<=T)(h':eu M w (.slice a2 m c2) m X)(hne:0<m->∀p,a2=some p->p.block≠g)(hm:m<=N)(NH:N<=1099511627776)
 (H8:nv (λi=>s (off+i)) N+nv X m<4294967296^N):
 Calls Tryz.prog 183 #[.slice (some ⟨g,off,none⟩) N cz,.slice a2 m c2] w λq w'=>∃s',q=.returned (.tuple #[])/\jy w' g T s'/\(∀i,i<off\/off+N<=i->s' i=s i)/\
  nv (λi=>s' (off+i)) N=nv (λi=>s (off+i)) N+nv X m/\w.grownBy w' (some g):=by
 have HX:Hid (∀i,cut X m i<4294967296):=qbi X m h'.2.1;have Es:Hid (∀j,j<=N->cy (λi=>s (off+i)) (cut X m) j<=1):=λj hj=>qi8 _ _ j (λi hi=>hB.2 _ (by omega)) λi _=>HX.out i;have HS:=ae hB.2;have HR':=ae h'
 have HF:Hid (nv (λi=>s (off+i)) N+nv (cut X m) N<4294967296^N):=by show _<_;rw[X6 X m N hm];exact H8
 have HXv:Hid (nv (cut X m) N=nv X m):=X6 X m N hm;have qo:=ae hne;clear h' H8 hne;have hlg:=hB.1.lt
 go_enter Tryz.func183,Tryz.ntmps183
 go_wp2
 go_loopw [10,4] (λi c wr=>∃j:Nat,j<=m/\i=.int .i64 j/\c=.int .u32 (cy (λi=>s (off+i)) (cut X m) j)/\jy wr g T (inf s (cut X m) off j)/\w.grownBy wr (some g)) (λi _ _=>m-(intOf i).toNat)
 case atStart=>exact⟨0,bK _,rfl,rfl,⟨hB.1.congr (by intro i _;unfold inf;rw[ah (by omega)]),qyo _ _ _ _ _ hB.2⟩,V7 _ _⟩
 case round=>
  clear hB;obtain⟨j,hj,rfl,rfl,hB,hg⟩:=hrel;have Fx:=Es.out j (by omega)
  by_cases hlt:j<m
  ·obtain⟨b2,o2,rfl,jR,fw⟩:=oL HR'.out (by omega);have xQ:b2≠g:=qo.out (by omega) _ rfl
   have g2:wr.cell? ⟨b2,o2+j,none⟩=some (.int .u32 (cut X m j)):=by
    rw[World.cell?_of_block (w:=w) (hg.block b2 jR (by simpa using xQ)),fw j hlt];unfold cut;rw[ai hlt]
   have g3:wr.cell? ⟨g,off+j,none⟩=some (.int .u32 (s (off+j))):=by rw[hB.1.cell (by omega),qnM]
   have g4:=hB.1.frozen (off+j);clear fw;have bf:=Dh (s (off+j)) (cut X m j) (cy (λi=>s (off+i)) (cut X m) j) wr (HS.out _ (by omega)) (HX.out j) (by omega);have Bi:iL (s (off+j)) (cut X m j) (cy (λi=>s (off+i)) (cut X m) j)=sd (λi=>s (off+i)) (cut X m) j:=rfl;have Bh:ic (s (off+j)) (cut X m j) (cy (λi=>s (off+i)) (cut X m) j)=cy (λi=>s (off+i)) (cut X m) (j+1):=rfl;rw[Bi,Bh]at bf;have aW:=ae bf;clear bf Bi Bh;go_wp2_with (fail);refine aW.out.mono ?_;rintro e' w' ⟨rfl,rfl⟩;go_wp2
   go_roundw
   case rel=>exact⟨j+1,by omega,by go_num,rfl,qnN s (cut X m) off j ▸ hB.set (off+j) _ (Yq _ _ _),qbS hg _⟩
   case measure=>simp[intOf];omega
  ·have:j=m:=by omega
   subst this;clear hlt;go_wp2;obtain⟨wo,rfl⟩:∃wo:World,wo=wr:=⟨_,rfl⟩
   go_loopw [7,4] (λi c wr=>∃q:Nat,j<=q/\q<=N/\i=.int .i64 q/\c=.int .u32 (cy (λi=>s (off+i)) (cut X j) q)/\jy wr g T (inf s (cut X j) off q)/\w.grownBy wr (some g)) (λi _ _=>N-(intOf i).toNat)
   case atStart=>exact⟨j,aI _,hm,rfl,rfl,hB,hg⟩
   case round=>
    clear hB hg Fx;obtain⟨q,hjq,hq,rfl,rfl,hB,hg⟩:=hrel;have Fx:=Es.out q (by omega)
    have ky:Hid (∀i,q<=i->cut X j i=0):=λi hi=>by unfold cut;rw[ah (by omega)]
    by_cases jY:cy (λi=>s (off+i)) (cut X j) q=0
    ·have t0:(((cy (λi=>s (off+i)) (cut X j) q:Nat):Int)==0)=true:=by simp[jY]
     have t1:(((cy (λi=>s (off+i)) (cut X j) q:Nat):Int)!=0)=false:=by simp[jY]
     have qh:=ae jY;clear jY;go_wp2
     go_end0
     refine⟨_,rfl,hB,λi hi=>?_,?_,hg⟩
     ·unfold inf;rw[ah (by omega)]
     ·rw[<-HXv.out];exact qnO s (cut X j) off N q (λi hi=>HS.out _ (by omega)) (λi _=>HX.out i) HF.out hq (.inr ⟨qh.out,ky.out⟩)
    ·have t0:(((cy (λi=>s (off+i)) (cut X j) q:Nat):Int)==0)=false:=by simp[jY]
     have t1:(((cy (λi=>s (off+i)) (cut X j) q:Nat):Int)!=0)=true:=by simp[jY]
     clear jY
     by_cases hlt:q<N
     ·have g3:wr.cell? ⟨g,off+q,none⟩=some (.int .u32 (s (off+q))):=by rw[hB.1.cell (by omega),qnM]
      have g4:=hB.1.frozen (off+q);have bf:=Dh (s (off+q)) (cut X j q) (cy (λi=>s (off+i)) (cut X j) q) wr (HS.out _ (by omega)) (HX.out q) (by omega);have Bi:iL (s (off+q)) (cut X j q) (cy (λi=>s (off+i)) (cut X j) q)=sd (λi=>s (off+i)) (cut X j) q:=rfl;have Bh:ic (s (off+q)) (cut X j q) (cy (λi=>s (off+i)) (cut X j) q)=cy (λi=>s (off+i)) (cut X j) (q+1):=rfl;rw[Bi,Bh,ky.out q (aI _)]at bf;have aW:=ae bf;clear bf Bi Bh;go_wp2_with (fail);refine aW.out.mono ?_;rintro e' w' ⟨rfl,rfl⟩;go_wp2
      go_roundw
      case rel=>exact⟨q+1,by omega,by omega,by go_num,rfl,qnN s (cut X j) off q ▸ hB.set (off+q) _ (Yq _ _ _),qbS hg _⟩
      case measure=>simp[intOf];omega
     ·have:q=N:=by omega
      subst this;go_wp2
      go_end0
      refine⟨_,rfl,hB,λi hi=>?_,?_,hg⟩
      ·unfold inf;rw[ah (by omega)]
      ·rw[<-HXv.out];exact qnO s (cut X j) off q q (λi hi=>HS.out _ (by omega)) (λi _=>HX.out i) HF.out hq (.inl rfl)
def JY(w:World)(N x:Nat)(q:Ending)(w':World):Prop:=∃g s,q=.returned (.slice (some ⟨g,0,none⟩) N N)/\w.heap.size<=g/\jy w' g N s/\nv s N=x/\Ext w w'
def qij(K:Nat):Prop:=∀(M:Nat->Prop)(a1 a2:Option Addr)(c1 c2 n m:Nat)(d e:Nat->Nat)(w:World),n+m<=K->eu M w (.slice a1 n c1) n d->eu M w (.slice a2 m c2) m e->n+m<=1099511627776->
 Calls Tryz.prog 159 #[.slice a1 n c1,.slice a2 m c2] w (JY w (n+m) (nv d n*nv e m))
theorem qpt{M:Nat->Prop}(a1 a2:Option Addr)(c1 c2 n m:Nat)(d e:Nat->Nat)(w:World)(h:eu M w (.slice a1 n c1) n d)(h':eu M w (.slice a2 m c2) m e)(hL:n+m<=1099511627776)(hs:n<48\/m<48):
 Calls Tryz.prog 159 #[.slice a1 n c1,.slice a2 m c2] w (JY w (n+m) (nv d n*nv e m)):=by
 rcases Nat.lt_or_ge n m with hlt|jS
 ·have kC:n<48:=by omega
  have c:=qoA a1 a2 c1 c2 n m d e w h h' hL;have C:=ae c;clear c h h'
  go_enter Tryz.func159,Tryz.ntmps159
  go_wp2_with (fail);refine C.out.mono ?_;rintro e' w' ⟨s,rfl,hB,hv,he⟩;have HV:=ae hv;clear hv;go_wp2;go_ret;exact⟨_,s,rfl,aI _,hB,HV.out,he⟩
 ·have kC:m<48:=by omega
  have c:=qoA a2 a1 c2 c1 m n e d w h' h (by omega);rw[Nat.mul_comm,Nat.add_comm m n]at c;have C:=ae c;clear c h h'
  go_enter Tryz.func159,Tryz.ntmps159
  go_wp2_with (fail);refine C.out.mono ?_;rintro e' w' ⟨s,rfl,hB,hv,he⟩;have HV:=ae hv;clear hv;go_wp2;go_ret;exact⟨_,s,rfl,aI _,hB,HV.out,he⟩
theorem fC{α:Type _}{xs:List α}{i:Nat}:xs.toArray[i]?=xs[i]?:=List.getElem?_toArray
theorem fD{α:Type _}{a:α}{l:List α}{i:Nat}:(a::l)[i+1]?=l[i]?:=List.getElem?_cons_succ
theorem fE{α:Type _}{a:α}{l:List α}:(a::l)[0]?=some a:=List.getElem?_cons_zero
theorem aB{α:Type _}{l:List α}{i:Nat}{a:α}:l.toArray.setIfInBounds i a=(l.set i a).toArray:=List.setIfInBounds_toArray ..
theorem aC{α:Type _}{x:α}{xs:List α}{a:α}:(x::xs).set 0 a=a::xs:=List.set_cons_zero ..
theorem aD{α:Type _}{x:α}{xs:List α}{n:Nat}{a:α}:(x::xs).set (n+1) a=x::xs.set n a:=List.set_cons_succ ..
section
variable{P:Program}{ops:Array Oper}{Q:Exit->Act->World->Prop}{md:Region.Mode}{S:World->Prop}{last:Nat}
def oD(P:Program)(md:Region.Mode)(ops:Array Oper)(Q:Exit->Act->World->Prop)(S:World->Prop)(last:Nat):Nat->Array Bool->Act->World->Prop
 |0,listed,a,w=>Region.ready md ops listed=[]/\Q .normal a w
 |fuel+1,listed,a,w=>
  (Region.ready md ops listed=[]->Q .normal a w)/\
  ∀i∈Region.ready md ops listed,wpOp P ops Q i (λa' w'=>(i≠last->S w')/\oD P md ops Q S last fuel (listed.setIfInBounds i true) a' w') a w
theorem qqZ:∀(fuel:Nat)(listed:Array Bool)(a:Act)(w:World),oD P md ops Q S last fuel listed a w->wpAny P md ops Q fuel listed a w
 |0,_,_,_,h=>h
 |fuel+1,_,_,_,h=>⟨h.1,λi hi=>wpOp_mono (λa' w' h'=>qqZ fuel _ a' w' h'.2) (h.2 i hi)⟩
def waits(md:Region.Mode)(ops:Array Oper)(last i:Nat):Bool:=decide (ops.size<=last)||((ops[last]?).map λo=>o.after.any λe=>Region.binds md e&&e.on==i).getD false
theorem qoQ{i:Nat}{listed:Array Bool}(hw:waits md ops last i=true)(hr:i∈Region.ready md ops listed):last∉Region.ready md ops listed:=by
 intro hl;obtain⟨_,o,ho,qE⟩:=mem_ready.1 hl;unfold waits at hw
 have hlt:¬ops.size<=last:=by
  have:=(Array.getElem?_eq_some_iff.1 ho).1;omega
 rw[ho,decide_eq_false hlt,Bool.false_or]at hw;simp only[Option.map_some,Option.getD_some,Array.any_eq_true,Bool.and_eq_true,beq_iff_eq]at hw;obtain⟨k,hk,hb,he⟩:=hw;have h1:=qE _ (Array.getElem_mem hk) hb;have h0:=(mem_ready.1 hr).1;rw[he]at h1;rcases Nat.lt_or_ge i listed.size with h'|h'
 ·simp[h']at h0 h1;rw[h0]at h1;cases h1
 ·simp[Array.getElem?_eq_none h']at h1
theorem qqX{i:Nat}{oi:Oper}{v:Value}(hi:ops[i]?=some oi)(Iu:∀(j:Nat)(o:Oper) cs b,ops[j]?=some o->o.op≠ .select cs b)
 (hQ:∀c a w,Q (.panic c) (a.put oi.dst v) w->Q (.panic c) a w) (hw:waits md ops last i=true):
 ∀(fuel:Nat)(listed:Array Bool)(a:Act)(w:World),
  (∀j oj,ops[j]?=some oj->j≠i->listed.getD j true=false->(∀e∈oj.after,Region.binds md e=true->e.on≠i)->oi.apart ops oj=true)->
  i∈Region.ready md ops listed->YieldsIf P ops S oi v a->S w->
  oD P md ops Q S last fuel (listed.setIfInBounds i true) (a.put oi.dst v) w->oD P md ops Q S last (fuel+1) listed a w:=by
 intro fuel
 induction fuel with
 |zero=>
  intro listed a w _ hr hy hS H;refine⟨λh=>(by rw[h]at hr;cases hr),λj hj=>?_⟩
  by_cases lu:j=i
  ·subst lu;exact hy.wpOp hi hS ⟨λ_=>hS,H⟩
  ·have:=ready_mono hj lu;rw[H.1]at this;cases this
 |succ fuel ih=>
  intro listed a w H9 hr hy hS H;refine⟨λh=>(by rw[h]at hr;cases hr),λj hj=>?_⟩
  by_cases lu:j=i
  ·subst lu;exact hy.wpOp hi hS ⟨λ_=>hS,H⟩
  ·have h1:=H.2 j (ready_mono hj lu);have wQ:j≠last:=λe=>qoQ hw hr (e ▸ hj);obtain⟨Ic,oj,Bu,qE⟩:=mem_ready.1 hj
   have RL:∀e∈oj.after,Region.binds md e=true->e.on≠i:=λe he hb heq=>by
    have h1:=qE e he hb;have h0:=(mem_ready.1 hr).1;rw[heq]at h1;rcases Nat.lt_or_ge i listed.size with h'|h'
    ·simp[h']at h0 h1;rw[h0]at h1;cases h1
    ·simp[Array.getElem?_eq_none h']at h1
   have h2:=wpOp_putIf Bu (H9 j oj Bu lu Ic RL) (λcs b=>Iu i oi cs b hi) (λcs b=>Iu j oj cs b Bu) hQ hy h1
   have Rm:∀k ok,ops[k]?=some ok->k≠i->(listed.setIfInBounds j true).getD k true=false->
    (∀e∈ok.after,Region.binds md e=true->e.on≠i)->oi.apart ops ok=true:=λk ok hk Ry BC hno=>by
    refine H9 k ok hk Ry ?_ hno
    by_cases qJ:j=k
    ·subst qJ;exact Ic
    ·rw[getD_set_ne true qJ]at BC;exact BC
   refine wpOp_mono (λa' w' h3=>⟨λ_=>h3.2.1 wQ,ih (listed.setIfInBounds j true) a' w' Rm (ready_mono hr (Ne.symm lu)) h3.1 (h3.2.1 wQ) ?_⟩) h2;rw[Array.setIfInBounds_comm _ _ lu];exact h3.2.2
theorem qCE(i:Nat){oi:Oper}{v:Value}{fuel:Nat}{listed:Array Bool}{a:Act}{w:World}
 (hs:Region.noSelect ops=true) (hf:Region.free md ops listed i=true) (hr:(Region.ready md ops listed).contains i=true) (hl:waits md ops last i=true) (hS:S w)
 (hi:ops[i]?=some oi) (hwd:Region.wanted oi (yielded ops a.tmps)=true) (hy:∀w,S w->(execOp a.eval oi).run P w=.ok (.value v) w) (hQ:∀c a w,Q (.panic c) (a.put oi.dst v) w->Q (.panic c) a w)
 (h:oD P md ops Q S last fuel (listed.setIfInBounds i true) (a.put oi.dst v) w):oD P md ops Q S last (fuel+1) listed a w:=
 qqX hi (Region.noSelect_spec hs) hQ hl fuel listed a w (Region.free_spec hi hf) (by simpa using hr) (.inl ⟨hwd,hy⟩) hS h
structure M4(P:Program)(md:Region.Mode)(ops:Array Oper)(Q:Exit->Act->World->Prop)(S:World->Prop)(last:Nat)(is:List Nat)(fuel:Nat)(listed:Array Bool)(a:Act)(w:World):Prop where
 out:oD P md ops Q S last fuel listed a w
theorem cB(is:List Nat){fuel:Nat}{listed:Array Bool}{a:Act}{w:World}(h:M4 P md ops Q S last is fuel listed a w):oD P md ops Q S last fuel listed a w:=h.out
theorem cK{fuel:Nat}{listed:Array Bool}{a:Act}{w:World}(h:oD P md ops Q S last fuel listed a w):M4 P md ops Q S last [] fuel listed a w:=⟨h⟩
theorem bZ{i:Nat}{is:List Nat}{oi:Oper}{v:Value}{fuel:Nat}{listed:Array Bool}{a:Act}{w:World}
 (hy:∀w,S w->(execOp a.eval oi).run P w=.ok (.value v) w) (h:M4 P md ops Q S last is fuel (listed.setIfInBounds i true) (a.put oi.dst v) w)
 (hc:(Region.noSelect ops&&Region.free md ops listed i&&(Region.ready md ops listed).contains i&&waits md ops last i)=true:=by kernel_rfl) (hS:S w:=by first|exact ag|exact hHeld)
 (hi:ops[i]?=some oi:=by simp only[fC,fD,fE];rfl) (hwd:Region.wanted oi (yielded ops a.tmps)=true:=by rfl) (hQ:∀c a w,Q (.panic c) (a.put oi.dst v) w->Q (.panic c) a w:=by exactλ_ _ _ h=>h):M4 P md ops Q S last (i::is) (fuel+1) listed a w:=by
 simp only[Bool.and_eq_true]at hc;exact⟨qCE i hc.1.1.1 hc.1.1.2 hc.1.2 hc.2 hS hi hwd hy hQ h.out⟩
theorem aO(i:Nat){o:Oper}{fuel:Nat}{listed:Array Bool}{a:Act}{w:World}
 (h:∀K':Act->World->Prop,Shut (∀a w,(i≠last->S w)->oD P md ops Q S last fuel (listed.setIfInBounds i true) a w->K' a w)->if Region.wanted o (yielded ops a.tmps)=true then Oper.wp P o a w K' Q else K' (a.put o.dst undef) w) (hr:Region.ready md ops listed=[i]:=by kernel_rfl) (ho:ops[i]?=some o:=by simp only[fC,fD,fE];rfl):oD P md ops Q S last (fuel+1) listed a w:=by
 refine⟨λh0=>(by rw[h0]at hr;cases hr),λj hj=>?_⟩;rw[hr]at hj;simp only[List.mem_singleton]at hj;subst hj;exact wpOp_step ho λK' hK=>h K' λa w h1 h2=>hK a w ⟨h1,h2⟩
theorem pI(i j:Nat){oi oj:Oper}{fuel:Nat}{listed:Array Bool}{a:Act}{w:World}(hr:Region.ready md ops listed=[i,j])(hi:ops[i]?=some oi)(hj:ops[j]?=some oj)
 (h:∀K':Act->World->Prop,Shut (∀a w,(i≠last->S w)->oD P md ops Q S last fuel (listed.setIfInBounds i true) a w->K' a w)->if Region.wanted oi (yielded ops a.tmps)=true then Oper.wp P oi a w K' Q else K' (a.put oi.dst undef) w)
 (h':∀K':Act->World->Prop,Shut (∀a w,(j≠last->S w)->oD P md ops Q S last fuel (listed.setIfInBounds j true) a w->K' a w)->if Region.wanted oj (yielded ops a.tmps)=true then Oper.wp P oj a w K' Q else K' (a.put oj.dst undef) w):oD P md ops Q S last (fuel+1) listed a w:=by
 refine⟨λh0=>(by rw[h0]at hr;cases hr),λq hq=>?_⟩;rw[hr]at hq;simp only[List.mem_cons,List.not_mem_nil,or_false]at hq;rcases hq with rfl|rfl
 ·exact wpOp_step hi λK' hK=>h K' λa w h1 h2=>hK a w ⟨h1,h2⟩
 ·exact wpOp_step hj λK' hK=>h' K' λa w h1 h2=>hK a w ⟨h1,h2⟩
theorem dX{listed:Array Bool}{a:Act}{w:World}{fuel:Nat}(h:Q .normal a w)(hr:Region.ready md ops listed=[]:=by kernel_rfl):
 oD P md ops Q S last fuel listed a w:=by
 cases fuel with
 |zero=>exact⟨hr,h⟩
 |succ _=>exact⟨λ_=>h,by rw[hr];simp⟩
theorem gB(S:World->Prop)(last:Nat){id:Nat}{a:Act}{w:World}(hm:P.follows .mixedOrders=true)(hS:S w.drew)
 (h:S w.drew->oD P .any ops Q S last ops.size (Array.replicate ops.size false) a w.drew):(Code.region id ops true).wp P Q a w:=
 wp_region_any hm (qqZ _ _ _ _ (h hS))
end
def EO(_:World):Prop:=True
theorem EO.ext{w:World}(_:EO w)(w':World):EO w':=trivial
theorem eu.take{M:Nat->Prop}{w:World}{b off n c:Nat}{d:Nat->Nat}(h:eu M w (.slice (some ⟨b,off,none⟩) n c) n d)(h0:0<n){k:Nat}(hk:k<=n):eu M w (.slice (some ⟨b,off,none⟩) k c) k d:=by
 obtain⟨h1,h2,h3⟩:=h;refine⟨by omega,λi hi=>h2 i (by omega),?_⟩;rcases h3 with⟨h3,_⟩|⟨b',off',cap,hv,hn,hc,hb,hcell⟩
 ·omega
 ·simp only[Value.slice.injEq,Option.some.injEq,Addr.mk.injEq,and_true]at hv;obtain⟨⟨rfl,rfl⟩,_,rfl⟩:=hv;exact .inr ⟨b,off,c,rfl,by omega,hc,hb,λi hi=>hcell i (by omega)⟩
theorem eu.drop{M:Nat->Prop}{w:World}{b off n c:Nat}{d:Nat->Nat}(h:eu M w (.slice (some ⟨b,off,none⟩) n c) n d)(h0:0<n){k:Nat}(hk:k<=n):eu M w (.slice (some ⟨b,off+k,none⟩) (n-k) (c-k)) (n-k) (λi=>d (k+i)):=by
 obtain⟨h1,h2,h3⟩:=h;refine⟨by omega,λi hi=>h2 _ (by omega),?_⟩;rcases h3 with⟨h3,_⟩|⟨b',off',cap,hv,hn,hc,hb,hcell⟩
 ·omega
 ·simp only[Value.slice.injEq,Option.some.injEq,Addr.mk.injEq,and_true]at hv;obtain⟨⟨rfl,rfl⟩,_,rfl⟩:=hv;exact .inr ⟨b,off+k,c-k,rfl,by omega,by omega,hb,λi hi=>by rw[Nat.add_assoc];exact hcell _ (by omega)⟩
theorem qnV{s s':Nat->Nat}{off N T x:Nat}(hT:T=off+N)(hs:∀i,i<off\/off+N<=i->s' i=s i)(hv:nv (λi=>s' (off+i)) N=nv (λi=>s (off+i)) N+x):nv s' T=nv s T+4294967296^off*x:=by
 subst hT;rw[yh,yh,hv,pE s' s off λi hi=>hs i (.inl hi),Nat.mul_add,Nat.add_assoc]
theorem qnU{s:Nat->Nat}{off N T x:Nat}(hT:T=off+N)(h:nv s T+4294967296^off*x<4294967296^T):nv (λi=>s (off+i)) N+x<4294967296^N:=by
 subst hT;rw[yh,Nat.pow_add]at h
 have h2:4294967296^off*(nv (λi=>s (off+i)) N+x)<4294967296^off*4294967296^N:=by rw[Nat.mul_add];omega
 exact Nat.lt_of_mul_lt_mul_left h2
theorem X9{w:World}{g N:Nat}{s p:Nat->Nat}{off k:Nat}(hB:aG w g 155 N (over (λi=>.int .u32 (s i)) off k (λi=>.int .u32 (p i))))(hs:∀i,i<N->s i<4294967296)(hp:∀i,i<k->p i<4294967296):
 jy w g N (λi=>if off<=i/\i<off+k then p (i-off)else s i):=by
 refine⟨hB.congr λi _=>?_,λi hi=>?_⟩
 ·unfold over;dsimp only;split<;>rfl
 ·dsimp only
  split
  ·exact hp _ (by omega)
  ·exact hs i hi
theorem qpc(k N:Nat)(p:Nat->Nat)(h:k<=N):nv (λi=>if 0<=i/\i<0+k then p (i-0)else 0) N=nv p k:=by
 obtain⟨r,rfl⟩:∃r,N=k+r:=⟨N-k,by omega⟩;rw[yh,pE _ p k (λi hi=>by rw[ai (by omega)];rfl),pE _ (λ_=>0) r (λi _=>by rw[ah (by omega)]),OE];omega
theorem qz5(k r q N:Nat)(p t:Nat->Nat)(hq:q=k)(hN:N=k+r):nv (λi=>if q<=i/\i<q+r then t (i-q)else if 0<=i/\i<0+k then p (i-0)else 0) N=nv p k+4294967296^k*nv t r:=by
 subst hq hN;rw[yh,pE _ p q (λi hi=>by rw[ah (by omega),ai (by omega)];rfl),pE _ t r (λi hi=>by rw[ai (by omega),Nat.add_sub_cancel_left])]
theorem qyE(a0 a1 b0 b1:Nat):a0*b0+a1*b1<=(a0+a1)*(b0+b1)/\(a0+a1)*(b0+b1)-(a0*b0+a1*b1)=a0*b1+a1*b0:=by
 have:(a0+a1)*(b0+b1)=a0*b0+a1*b1+(a0*b1+a1*b0):=by
  rw[Nat.add_mul,Nat.mul_add,Nat.mul_add];omega
 omega
theorem qyF(a0 a1 b0 b1 P:Nat):a0*b0+P*P*(a1*b1)+P*(a0*b1+a1*b0)=(a0+P*a1)*(b0+P*b1):=by
 rw[Nat.add_mul,Nat.mul_add,Nat.mul_add,Nat.mul_add]
 have e1:P*a1*(P*b1)=P*P*(a1*b1):=by rw[Nat.mul_mul_mul_comm]
 have e2:a0*(P*b1)=P*(a0*b1):=by rw[Nat.mul_left_comm]
 have e3:P*a1*b0=P*(a1*b0):=Nat.mul_assoc ..;omega
theorem qwk(n:Nat):(((n:Int)+1)/2)=(((n+1)/2:Nat):Int):=by
 omega
theorem qps(K:Nat)(ih:qij K)(M:Nat->Prop)(sw:Bool)(a1 a2:Option Addr)(c1 c2 n m:Nat)(d e:Nat->Nat)(w:World)(h:eu M w (.slice a1 n c1) n d)(h':eu M w (.slice a2 m c2) m e)(hL:n+m<=1099511627776)(hK:n+m<=K+1)(hs:48<=m)(Bq:m<=n)(hsw:sw=true->m<n)(hM:Mb M w):
 Calls Tryz.prog 159 (if sw then #[.slice a2 m c2,.slice a1 n c1]else #[.slice a1 n c1,.slice a2 m c2]) w (JY w (n+m) (nv d n*nv e m)):=by
 obtain⟨i0,hi,hz0,hz1,hz2⟩:=info_parts Tryz.FU;obtain⟨b1,o1,rfl,hb1,_⟩:=oL h (by omega);obtain⟨b2,o2,rfl,jR,_⟩:=oL h' (by omega);have Ao:=ae h;have xy:=ae h'
 have qlP:n<=c1/\c1<=9223372036854775807:=by
  rcases h.2.2 with⟨h0,_⟩|⟨_,_,_,hv,hn,hc,_⟩
  ·omega
  ·simp only[Value.slice.injEq,true_and]at hv;obtain⟨_,rfl⟩:=hv;unfold maxLen at hc;omega
 have qlQ:m<=c2/\c2<=9223372036854775807:=by
  rcases h'.2.2 with⟨h0,_⟩|⟨_,_,_,hv,hn,hc,_⟩
  ·omega
  ·simp only[Value.slice.injEq,true_and]at hv;obtain⟨_,rfl⟩:=hv;unfold maxLen at hc;omega
 have lU:=ae ih;have eP:=ae hM;obtain⟨fF,qDO⟩:=qlP;obtain⟨fw,qDP⟩:=qlQ;clear h h' ih hM
 have iP:((n:Int)<(m:Int))=False:=by simp;omega
 have qEJ:((m:Int)<48)=False:=by simp;omega
 cases sw
 case' false=>simp only[Bool.false_eq_true,if_false]
 case' true=>
  simp only[if_true]
  have qEW:(m:Int)<(n:Int):=by have:=hsw rfl;omega
 all_goals
  clear hsw
  go_enter Tryz.func159,Tryz.ntmps159
  go_wp2_with (first|(refine wpList_make_full _ rfl _ _ _ rfl w.heap.size 155 i0 (.int .u32 0) 1 Tryz.underlying28 hi hz0 hz1 .i64 .i64 _ _ (n+m) rfl rfl ?c4 ?c5 ?c2 ?c3 ?c6 ?_))
  case c2=>rw[hz2];omega
  case c3=>unfold maxLen;omega
  case c4=>go_num
  case c5=>go_num
  case c6=>simp
  intro w1 hown hgrow;have cO:jy w1 w.heap.size (n+m) (λ_=>0):=⟨aG.BK hown,λ_ _=>(by decide:0<4294967296)⟩;have kG:=ae cO;have aS:=ae (nL hgrow);have DW:=cO.1.lt;clear hown hgrow cO
  by_cases hA:nv d n=0
  ·have HF:Hid (JY w (n+m) (nv d n*nv e m) (.returned (.slice (some ⟨w.heap.size,0,none⟩) (n+m) (n+m))) w1):=⟨_,_,rfl,aI _,kG.out,by rw[OE,hA,Nat.zero_mul],aS.out⟩;have bf:=Le _ (nv d n) w1 ⟨_,_,Ao.out.ext aS.out,rfl⟩;rw[decide_eq_true hA]at bf;have aW:=ae bf;clear bf;go_wp2_with (fail);refine aW.out.mono ?_;rintro e' w' ⟨rfl,rfl⟩;go_wp2;go_ret;exact HF.out
  ·have qbg:=Le _ (nv d n) w1 ⟨_,_,Ao.out.ext aS.out,rfl⟩;rw[decide_eq_false hA]at qbg;have YV:=ae qbg;clear qbg
   by_cases hB:nv e m=0
   ·have HF:Hid (JY w (n+m) (nv d n*nv e m) (.returned (.slice (some ⟨w.heap.size,0,none⟩) (n+m) (n+m))) w1):=⟨_,_,rfl,aI _,kG.out,by rw[OE,hB,Nat.mul_zero],aS.out⟩;have bf:=Le _ (nv e m) w1 ⟨_,_,xy.out.ext aS.out,rfl⟩;rw[decide_eq_true hB]at bf;have aW:=ae bf;clear bf;go_wp2_with (fail);refine YV.out.mono ?_;rintro e' w' ⟨rfl,rfl⟩;go_wp2_with (fail);refine aW.out.mono ?_;rintro e' w' ⟨rfl,rfl⟩;go_wp2;go_ret;exact HF.out
   ·have qbh:=Le _ (nv e m) w1 ⟨_,_,xy.out.ext aS.out,rfl⟩;rw[decide_eq_false hB]at qbh;have qfH:=ae qbh;clear qbh hA hB;go_wp2_with (fail);refine YV.out.mono ?_;rintro e' w' ⟨rfl,rfl⟩;go_wp2_with (fail);refine qfH.out.mono ?_;rintro e' w' ⟨rfl,rfl⟩;clear YV qfH
    go_upto_region 9 with(fail)
    rw[qwk];obtain⟨H,hH⟩:∃H,H=(n+1)/2:=⟨_,rfl⟩;rw[<-hH]
    have hH1:n<=2*H:=by omega
    have hH2:2*H<=n+1:=by omega
    have o9:Mb (Mx M w.heap.size (w.heap.size+1)) w1:=Mx.mb eP.out aS.out.size (by omega);have hA1:=(Ao.out.more (M':=Mx M w.heap.size (w.heap.size+1)) (Mx.more (aI _))).ext aS.out;have Ny:=(xy.out.more (M':=Mx M w.heap.size (w.heap.size+1)) (Mx.more (aI _))).ext aS.out;have Gb:=ae hA1;have rF:=ae Ny
    have HVA:Hid (nv d n=nv d H+4294967296^H*nv (λi=>d (H+i)) (n-H)):=by
     show nv d n=_;rw[<-yh,show H+(n-H)=n by omega]
    clear hA1 Ny hH Ao xy eP;have kY:=ae o9;clear o9
    by_cases hmH:m<=H
    ·have Gj:=ae (lU.out _ _ _ _ _ H m d e w1 (by omega) (Gb.out.take (by omega) (show H<=n by omega)) rF.out (by omega))
     have tmH:(m:Int)<=(H:Int):=by omega
     go_wp2_with (fail);refine Gj.out.mono ?_;rintro q w2 ⟨g2,s2,rfl,jq,dJ,hv2,aJ⟩;have yV:=kG.out.ext aJ;have eG:=ae dJ;have Ar:=ae hv2;have aZ:=ae aJ;clear Gj dJ hv2 aJ
     go_wp2_with (refine TU rfl (.tmp 44) (.tmp 49) _ _ rfl 155 Tryz.underlying28 (by rw[hi];simp[hz1]) _ _ _ _ _ _ rfl rfl w.heap.size 0 155 (n+m) _ yV.1 (H+m) ?k1 (λi=>.int .u32 (s2 i)) ?k2 ?k3 ?k4 ?_)
     case k1=>show _=min _ _;omega
     case k2=>exactλ_=>⟨g2,0,⟨rfl,rfl⟩,λj hj=>by rw[Nat.zero_add];exact eG.out.1.cell hj⟩
     case k3=>omega
     case k4=>exactλj hj=>rfl
     intro w3 jM kQ;have Wi:=X9 jM (λ_ _=>(by decide:0<4294967296)) (λi hi=>eG.out.2 i hi);have hV3:=qpc (H+m) (n+m) s2 (by omega);generalize sj:(λi=>if 0<=i/\i<0+(H+m)then s2 (i-0)else 0)=s3 at Wi hV3;have tN:Kp (Mx M w.heap.size (w.heap.size+1)) w1 w3:=(Kp.kV aZ.out).trans (Kp.grown kQ (λk hk=>by cases hk;exact Mx.at (by omega)));have AZ:Ext w w3:=(aS.out.trans aZ.out).grown kQ (λk hk=>by cases hk;exact aI _);have dM:=ae AZ;have HD3:=ae Wi;have xB:Hid (nv s3 (n+m)=nv d H*nv e m):=hV3.trans Ar.out;have Af:=ae (lU.out _ _ _ _ _ (n-H) m _ e w3.drew (by omega) ((((Gb.out.kp tN).ext (Ext.refl _).drew)).drop (by omega) (show H<=n by omega)) ((rF.out.kp tN).ext (Ext.refl _).drew) (by omega));have PN:Hid (Mb (Mx M w.heap.size (w.heap.size+1)) w3):=kY.out.size tN.1;have zo:=Wi.1.lt;clear jM kQ tN AZ Wi hV3 sj yV aZ Ar eG jq
     have hcH:(H:Int)<=(n:Int)+(m:Int):=by omega
     have qwx:n+m≠H:=by omega
     have qwy:c1≠H:=by omega
     have qwv:(H:Int)<=(n:Int):=by omega
     have qww:(H:Int)<=(c1:Int):=by omega
     go_wp2;refine gB EO 10 (by kernel_rfl) trivial (λhHeld=>?_);(refine cB [0,1,2,3,4,5,6] ?_;(iterate 7 (refine bZ (v:=?_) ?_ ?_;rotate_left 1;(intro wS hSw;obtain Q9:=hSw;go_simp;try with_reducible rfl);(try simp only[Act.put,aB,aC,aD])));refine cK ?_);((refine aO 7 ?_;intro K hK);go_simp;(refine(Af.out).mono ?_);rintro e_ w4 ⟨g4,s4,rfl,nO,kL,Sa,bB⟩;go_wp2_with (fail);(try clear ag);(have ag:=hHeld.ext w4);(refine hK.out _ _ (λ_=>ag) ?_);clear hK K;(try simp only[Act.put,aB,aC,aD]));have qD8:w3.heap.size<=g4:=nO;have bf:=Lf (M:=Mx M w.heap.size (w.heap.size+1)) kL.1 (λhg=>absurd (PN.out _ hg) (by omega)) (by unfold maxLen;omega) kL.2 (by have:=yR _ _ kL.2;omega);rw[Sa]at bf;have aW:=ae bf;have eX:Hid (Ext w3 w4):=((Ext.refl w3).drew).trans bB;clear bf Af kL Sa nO;((refine aO 8 ?_;intro K hK);go_simp;(refine(aW.out).mono ?_);rintro e_ wz ⟨u,rfl,hu,rfl⟩;go_wp2_with (fail);(try clear ag);(have ag:=hHeld.ext w4);(refine hK.out _ _ (λ_=>ag) ?_);clear hK K;(try simp only[Act.put,aB,aC,aD]));obtain⟨X,hX,zh,_⟩:=hu.len;obtain⟨ua,uc,rfl⟩:=lM hX;have GD:=ae zh
     have iC:nv s3 (n+m)+4294967296^H*nv X (aH (nv (λi=>d (H+i)) (n-H)*nv e m))=nv d n*nv e m:=by
      rw[zh,xB.out,HVA.out,Nat.add_mul,Nat.mul_assoc]
     have KE:aH (nv (λi=>d (H+i)) (n-H)*nv e m)<=n+m-H:=by
      have h1:=pQ (nv (λi=>d (H+i)) (n-H)) (nv e m);have h2:=yR (λi=>d (H+i)) (n-H) (λi hi=>Gb.out.2.1 _ (by omega));have h3:=yR e m rF.out.2.1;omega
     have rz:nv d n*nv e m<4294967296^(n+m):=by
      rw[Nat.pow_add];exact Nat.mul_lt_mul'' (qQ d n Gb.out.2.1) (qQ e m rF.out.2.1)
     have O3:=ae (qox w.heap.size H (n+m-H) (n+m-H) (n+m) ua uc _ s3 X w4 (HD3.out.ext eX.out) (by omega) hX (λh0 p hp=>by
      subst hp;obtain⟨b,o,e5,hb,_⟩:=oL hX h0;rcases hX.2.2 with⟨h6,_⟩|⟨b',off',cap',hv,_,_,hb',_⟩
      ·omega
      ·simp only[Value.slice.injEq,true_and,Option.some.injEq]at hv
       rw[hv.1];exactλe6=>hb'.2 ((show b'=w.heap.size from e6) ▸ Mx.at ⟨aI _,Nat.lt_succ_self _⟩)) KE (by omega) (qnU (T:=n+m) (by omega) (by rw[iC];exact rz)))
     have yw:=ae iC;generalize aH (nv (λi=>d (H+i)) (n-H)*nv e m)=xl at*;clear hX zh iC rz hu aW GD;((refine aO 9 ?_;intro K hK);go_simp;(refine(O3.out).mono ?_);rintro e_ w6 ⟨s6,rfl,hD6,KT,BD,fG⟩;go_wp2_with (fail);(try clear ag);(have ag:=hHeld.ext w6);(refine hK.out _ _ (λ_=>ag) ?_);clear hK K;(try simp only[Act.put,aB,aC,aD]));refine dX ?_;have hval:=qnV (T:=n+m) (by omega) KT BD;rw[yw.out]at hval;have HF:Hid (JY w (n+m) (nv d n*nv e m) (.returned (.slice (some ⟨w.heap.size,0,none⟩) (n+m) (n+m))) w6):=⟨_,_,rfl,aI _,hD6,hval,(dM.out.trans eX.out).grown fG (λk hk=>by cases hk;exact aI _)⟩;clear hval hD6 KT BD fG O3 hHeld ag bB;go_wp2;go_ret;exact HF.out
    ·have tmH:¬(m:Int)<=(H:Int):=by omega
     have hcH:(H:Int)<=(n:Int)+(m:Int):=by omega
     have qwv:(H:Int)<=(n:Int):=by omega
     have qww:(H:Int)<=(c1:Int):=by omega
     have qwx:n+m≠H:=by omega
     have qwy:c1≠H:=by omega
     have qDR:(H:Int)<=(m:Int):=by omega
     have qDS:(H:Int)<=(c2:Int):=by omega
     have qDT:c2≠H:=by omega
     have Au:Hid (nv e m=nv e H+4294967296^H*nv (λi=>e (H+i)) (m-H)):=by
      show nv e m=_;rw[<-yh,show H+(m-H)=m by omega]
     have U2:=ae (Gb.out.take (by omega) (show H<=n by omega));have U4:=ae (rF.out.take (by omega) (show H<=m by omega));have Uk:=ae (Gb.out.drop (by omega) (show H<=n by omega));have nZ:=ae (rF.out.drop (by omega) (show H<=m by omega));have Gj:=ae (lU.out _ _ _ _ _ H H d e w1.drew (by omega) (U2.out.ext (Ext.refl _).drew) (U4.out.ext (Ext.refl _).drew) (by omega));go_wp2;refine gB EO 7 (by kernel_rfl) trivial (λhHeld=>?_);(refine cB [0,1,2,3,4,5] ?_;(iterate 6 (refine bZ (v:=?_) ?_ ?_;rotate_left 1;(intro wS hSw;obtain Q9:=hSw;go_simp;try with_reducible rfl);(try simp only[Act.put,aB,aC,aD])));refine cK ?_);((refine aO 6 ?_;intro K hK);go_simp;(refine(Gj.out).mono ?_);rintro e_ w2 ⟨g2,s2,rfl,jq,dJ,hv2,aJ⟩;go_wp2_with (fail);(try clear ag);(have ag:=hHeld.ext w2);(refine hK.out _ _ (λ_=>ag) ?_);clear hK K;(try simp only[Act.put,aB,aC,aD]));((refine aO 7 ?_;intro K hK);go_simp;(refine hK.out _ _ (λh=>absurd rfl h) ?_);clear hK K;refine dX ?_);have eG:=ae dJ;have Ar:=ae hv2;have aZ:Hid (Ext w1 w2):=((Ext.refl w1).drew).trans aJ;have qwH:w1.heap.size<=g2:=jq;clear Gj dJ hv2 aJ hHeld ag jq;have Uv:=ae (lU.out _ _ _ _ _ (n-H) (m-H) _ _ w2.drew (by omega) ((Uk.out.ext aZ.out).ext (Ext.refl _).drew) ((nZ.out.ext aZ.out).ext (Ext.refl _).drew) (by omega));go_wp2;refine gB EO 7 (by kernel_rfl) trivial (λhHeld=>?_)
     (refine cB [0,1,2,3,4,5] ?_;(iterate 6 (refine bZ (v:=?_) ?_ ?_;rotate_left 1;(intro wS hSw;obtain Q9:=hSw;go_simp;try with_reducible rfl);(try simp only[Act.put,aB,aC,aD])));refine cK ?_);((refine aO 6 ?_;intro K hK);go_simp;(refine(Uv.out).mono ?_);rintro e_ w3 ⟨g3,s3,rfl,kQ,jM,IA,bg⟩;go_wp2_with (fail);(try clear ag);(have ag:=hHeld.ext w3);(refine hK.out _ _ (λ_=>ag) ?_);clear hK K;(try simp only[Act.put,aB,aC,aD]));((refine aO 7 ?_;intro K hK);go_simp;(refine hK.out _ _ (λh=>absurd rfl h) ?_);clear hK K;refine dX ?_);have lT:=ae jM;have xB:=ae IA;have dM:Hid (Ext w2 w3):=((Ext.refl w2).drew).trans bg;have qD7:w2.heap.size<=g3:=kQ;clear Uv jM IA bg hHeld ag kQ;have Ae:=ae (aZ.out.trans dM.out);have PN:Hid (Mb (Mx M w.heap.size (w.heap.size+1)) w3.drew):=kY.out.size Ae.out.size;have hxA:=yR d H (λi hi=>U2.out.2.1 i hi);have hxB:=yR e H (λi hi=>U4.out.2.1 i hi);have hyA:=yR (λi=>d (H+i)) (n-H) (λi hi=>Uk.out.2.1 i hi);have hyB:=yR (λi=>e (H+i)) (m-H) (λi hi=>nZ.out.2.1 i hi)
     have rz:nv d n*nv e m<4294967296^(n+m):=by
      rw[Nat.pow_add];exact Nat.mul_lt_mul'' (qQ d n Gb.out.2.1) (qQ e m rF.out.2.1)
     have Gd:=ae rz;have qg2:Hid (gP (Mx M w.heap.size (w.heap.size+1)) w3.drew _ (nv d H)):=⟨_,_,(U2.out.ext Ae.out).ext (Ext.refl _).drew,rfl⟩;have qg3:Hid (gP (Mx M w.heap.size (w.heap.size+1)) w3.drew _ (nv (λi=>d (H+i)) (n-H))):=⟨_,_,(Uk.out.ext Ae.out).ext (Ext.refl _).drew,rfl⟩;have qg4:Hid (gP (Mx M w.heap.size (w.heap.size+1)) w3.drew _ (nv e H)):=⟨_,_,(U4.out.ext Ae.out).ext (Ext.refl _).drew,rfl⟩;have qg5:Hid (gP (Mx M w.heap.size (w.heap.size+1)) w3.drew _ (nv (λi=>e (H+i)) (m-H))):=⟨_,_,(nZ.out.ext Ae.out).ext (Ext.refl _).drew,rfl⟩;clear U2 U4 Uk nZ Gb rF rz;generalize nv d H=A0 at*;generalize nv e H=B0 at*;generalize nv (λi=>d (H+i)) (n-H)=A1 at*;generalize nv (λi=>e (H+i)) (m-H)=B1 at*
     have hzA:aH (A0+A1)<=H+1:=by have:=Nl A0 A1;omega
     have hzB:aH (B0+B1)<=H+1:=by have:=Nl B0 B1;omega
     have UB:=ae (qyE A0 A1 B0 B1)
     have HKS:Hid (A0*B0+4294967296^H*4294967296^H*(A1*B1)+4294967296^H*(A0*B1+A1*B0)=nv d n*nv e m):=by
      show _=_;rw[HVA.out,Au.out];exact qyF A0 A1 B0 B1 _
     have CTA:=ae (XW _ _ A0 A1 w3.drew PN.out qg2.out qg3.out (by omega));clear qg2 qg3 HVA Au;go_wp2;refine gB EO 16 (by kernel_rfl) trivial (λhHeld=>?_);(refine cB [0,1,2,3,4,5,7,8,9,10,11,12] ?_;(iterate 12 (refine bZ (v:=?_) ?_ ?_;rotate_left 1;(intro wS hSw;obtain Q9:=hSw;go_simp;try with_reducible rfl);(try simp only[Act.put,aB,aC,aD])));refine cK ?_);((refine aO 6 ?_;intro K hK);go_simp;(refine(CTA.out).mono ?_);rintro e_ w4 ⟨u6,rfl,hu6,bB⟩;go_wp2_with (fail);(try clear ag);(have ag:=hHeld.ext w4);(refine hK.out _ _ (λ_=>ag) ?_);clear hK K;(try simp only[Act.put,aB,aC,aD]));((refine aO 13 ?_;intro K hK);go_simp;(refine(XW _ _ B0 B1 w4 (PN.out.ext bB) (qg4.out.ext bB) (qg5.out.ext bB) (by omega)).mono ?_);rintro e_ w5 ⟨u13,rfl,qnp,bn⟩;go_wp2_with (fail);(try clear ag);(have ag:=hHeld.ext w5);(refine hK.out _ _ (λ_=>ag) ?_);clear hK K;(try simp only[Act.put,aB,aC,aD]));obtain⟨XA,hXA,qlC,_⟩:=(hu6.ext bn).len;obtain⟨XB,hXB,qlD,_⟩:=qnp.len;obtain⟨uaA,ucA,rfl⟩:=lM hXA;obtain⟨uaB,ucB,rfl⟩:=lM hXB;have bf:=lU.out _ _ _ _ _ _ _ XA XB w5 (by omega) hXA hXB (by omega);rw[qlC,qlD]at bf;have CTP:=ae bf;clear bf hXA hXB qlC qlD hu6 qnp CTA;((refine aO 14 ?_;intro K hK);go_simp;(refine(CTP.out).mono ?_);rintro e_ w6 ⟨g6,s6,rfl,fG,AV,BD,fO⟩;go_wp2_with (fail);(try clear ag);(have ag:=hHeld.ext w6);(refine hK.out _ _ (λ_=>ag) ?_);clear hK K;(try simp only[Act.put,aB,aC,aD]))
     (refine aO 15 ?_;intro K hK);go_simp;refine hK.out _ _ (λ_=>trivial) ?_;clear hK K;(try simp only[Act.put,aB,aC,aD]);refine dX ?_;generalize hlA:aH (A0+A1)=lA at*;generalize hlB:aH (B0+B1)=lB at*;have oU:=ae AV;have sU:=ae BD;have fT:Hid (Ext w3 w6):=((Ext.refl w3).drew).trans ((bB.trans bn).trans fO)
     have qD9:w3.heap.size<=g6:=by have:=((bB.trans bn)).size;exact aR this fG
     have UI:=ae (PN.out.ext ((bB.trans bn).trans fO));clear AV BD bB bn fO hHeld ag fG CTP qg4 qg5 hlA hlB;have sj:=aZ.out.size;have KT:=dM.out.size;have Y8:=ae ((eG.out.ext dM.out).ext fT.out);have Za:=ae (lT.out.ext fT.out);have gH:gP (Mx M w.heap.size (w.heap.size+1)) w6 (.slice (some ⟨g2,0,none⟩) (H+H) (H+H)) (A0*B0):=⟨_,_,eu.I5 Y8.out.1 (λhg=>hg.elim (λh=>absurd (kY.out _ (.inl h)) (by omega)) (λh=>by omega)) _ (aI _) (by omega) (aI _) (by unfold maxLen;omega) (λ_ _=>rfl) Y8.out.2,Ar.out⟩;have hnH:gP (Mx M w.heap.size (w.heap.size+1)) w6 (.slice (some ⟨g3,0,none⟩) (n-H+(m-H)) (n-H+(m-H))) (A1*B1):=⟨_,_,eu.I5 Za.out.1 (λhg=>hg.elim (λh=>absurd (kY.out _ (.inl h)) (by omega)) (λh=>by omega)) _ (aI _) (by omega) (aI _) (by unfold maxLen;omega) (λ_ _=>rfl) Za.out.2,xB.out⟩;have hnM:gP (Mx M w.heap.size (w.heap.size+1)) w6 (.slice (some ⟨g6,0,none⟩) (lA+lB) (lA+lB)) ((A0+A1)*(B0+B1)):=⟨_,_,eu.I5 oU.out.1 (λhg=>hg.elim (λh=>absurd (kY.out _ (.inl h)) (by omega)) (λh=>by omega)) _ (aI _) (by omega) (aI _) (by unfold maxLen;omega) (λ_ _=>rfl) oU.out.2,sU.out⟩;have Co:=ae hnM
     have CTS:=ae (XW _ _ (A0*B0) (A1*B1) w6 UI.out gH hnH (by
      refine aR (jB UB.out.1) ?_;have h1:=hnM.aH
      omega))
     clear gH hnH hnM oU sU hzA hzB;go_wp2_with (fail);refine CTS.out.mono ?_;rintro q w7 ⟨u7,rfl,R9,gX⟩;have bf:=qd8 _ _ ((A0+A1)*(B0+B1)) (A0*B0+A1*B1) w7 (UI.out.ext gX) (Co.out.ext gX) R9.fB UB.out.1;rw[UB.out.2]at bf;have CTU:=ae bf;have ni:=ae (fT.out.trans gX);have qgY:=ae (UI.out.ext gX);clear bf R9 gX CTS Co UB UI;go_wp2_with (fail);refine CTU.out.mono ?_;rintro q w8 ⟨u8,rfl,hu8,nM⟩;have Cg:=ae (ni.out.trans nM);have qDf:=ae (qgY.out.ext nM);obtain⟨X,hX,zh,_⟩:=hu8.len;obtain⟨ua,uc,rfl⟩:=lM hX;have HX:=ae hX;have GD:=ae zh;have yV:=(kG.out.ext Ae.out).ext Cg.out;have Y9:=ae ((eG.out.ext dM.out).ext Cg.out);have Zb:=ae (lT.out.ext Cg.out);clear hX zh hu8 nM CTU ni qgY Y8 Za eG lT;obtain⟨xl,IJ⟩:∃xl,xl=aH (A0*B1+A1*B0):=⟨_,rfl⟩;have HXL:=ae IJ;rw[<-IJ]at HX GD⊢;clear IJ
     go_wp2_with (refine TU rfl (.tmp 99) (.tmp 100) _ _ rfl 155 Tryz.underlying28 (by rw[hi];simp[hz1]) _ _ _ _ _ _ rfl rfl w.heap.size 0 155 (n+m) _ yV.1 (H+H) ?k1 (λi=>.int .u32 (s2 i)) ?k2 ?k3 ?k4 ?_)
     case k1=>show _=min _ _;omega
     case k2=>exactλ_=>⟨g2,0,⟨rfl,rfl⟩,λj hj=>by rw[Nat.zero_add];exact Y9.out.1.cell hj⟩
     case k3=>omega
     case k4=>exactλj hj=>rfl
     intro w9 Nz hg9;have AX:=X9 Nz (λ_ _=>(by decide:0<4294967296)) (λi hi=>Y9.out.2 i hi);obtain⟨s9,hs9⟩:∃s9:Nat->Nat,s9=λi=>if 0<=i/\i<0+(H+H)then s2 (i-0)else 0:=⟨_,rfl⟩;rw[<-hs9]at AX;have HS9:=ae hs9;clear hs9;have qki:jy w9 g3 (n-H+(m-H)) s3:=⟨Zb.out.1.grown hg9 (by intro e5;cases e5;omega),Zb.out.2⟩;have ZB:=ae hg9;have Zc:=ae qki
     have hwz:2*(H:Int)<=(n:Int)+(m:Int):=by omega
     have qFh:((2*(H:Int)).toNat)=2*H:=by omega
     have qFi:n+m≠2*H:=by omega
     clear Nz hg9 yV qki
     go_wp2_with (refine TU rfl (.tmp 105) (.tmp 106) _ _ rfl 155 Tryz.underlying28 (by rw[hi];simp[hz1]) _ _ _ _ _ _ rfl rfl w.heap.size (2*H) 155 (n+m) _ AX.1 (n-H+(m-H)) ?k1 (λi=>.int .u32 (s3 i)) ?k2 ?k3 ?k4 ?_)
     case k1=>show _=min _ _;omega
     case k2=>exactλ_=>⟨g3,0,⟨rfl,rfl⟩,λj hj=>by rw[Nat.zero_add];exact Zc.out.1.cell hj⟩
     case k3=>omega
     case k4=>exactλj hj=>rfl
     intro iT qkh qcR;have Wh:=X9 qkh AX.2 (λi hi=>Zc.out.2 i hi);have Xn:=qz5 (H+H) (n-H+(m-H)) (2*H) (n+m) s2 s3 (by omega) (by omega);rw[HS9.out]at Wh;generalize (λi=>if 2*H<=i/\i<2*H+(n-H+(m-H))then s3 (i-2*H)else if 0<=i/\i<0+(H+H)then s2 (i-0)else 0)=s10 at Wh Xn;rw[Ar.out,xB.out,show H+H=H+H from rfl,Nat.pow_add]at Xn;have qmq:Kp (Mx M w.heap.size (w.heap.size+1)) w8 iT:=(Kp.grown ZB.out (λk hk=>by cases hk;exact Mx.at (by omega))).trans (Kp.grown qcR (λk hk=>by cases hk;exact Mx.at (by omega)));have Fa:Ext w iT:=((((aS.out.trans Ae.out).trans Cg.out).grown ZB.out (λk hk=>by cases hk;exact aI _))).grown qcR (λk hk=>by cases hk;exact aI _);have Qb:=ae (HX.out.kp qmq);have sN:=ae Fa
     have iC:nv s10 (n+m)+4294967296^H*nv X xl=nv d n*nv e m:=by rw[Xn,GD.out];exact HKS.out
     have KE:xl<=n+m-H:=by
      have h1:aH (nv X xl)<=n+m-H:=by
       rw[lZ]
       have h2:4294967296^H*nv X xl<4294967296^H*4294967296^(n+m-H):=by
        rw[<-Nat.pow_add,show H+(n+m-H)=n+m by omega];have:=Gd.out;omega
       exact Nat.lt_of_mul_lt_mul_left h2
      rw[HXL.out];rw[GD.out]at h1;exact h1
     have O3:=ae (qox w.heap.size H (n+m-H) (n+m-H) (n+m) ua uc _ s10 X iT Wh (by omega) Qb.out (λh0 p hp=>by
      subst hp;rcases Qb.out.2.2 with⟨h6,_⟩|⟨b',off',cap',hv,_,_,hb',_⟩
      ·omega
      ·simp only[Value.slice.injEq,true_and,Option.some.injEq]at hv
       rw[hv.1];exactλe6=>hb'.2 ((show b'=w.heap.size from e6) ▸ Mx.at ⟨aI _,Nat.lt_succ_self _⟩)) KE (by omega) (qnU (T:=n+m) (by omega) (by rw[iC];exact Gd.out)))
     have yw:=ae iC;clear qkh qcR Wh Xn qmq Fa iC KE AX HX GD ZB Zc Y9 Zb;go_wp2_with (fail);refine O3.out.mono ?_;rintro q vW ⟨s11,rfl,qkz,RY,qnv,qmc⟩;have hval:=qnV (T:=n+m) (by omega) RY qnv;rw[yw.out]at hval;have HF:Hid (JY w (n+m) (nv d n*nv e m) (.returned (.slice (some ⟨w.heap.size,0,none⟩) (n+m) (n+m))) vW):=⟨_,_,rfl,aI _,qkz,hval,sN.out.grown qmc (λk hk=>by cases hk;exact aI _)⟩;clear hval qkz RY qnv qmc O3;go_wp2;go_ret;exact HF.out
theorem qzp(K:Nat):qij K:=by
 induction K with
 |zero=>intro M a1 a2 c1 c2 n m d e w hK h h' hL;exact qpt a1 a2 c1 c2 n m d e w h h' hL (.inl (by omega))
 |succ K ih=>
  intro M a1 a2 c1 c2 n m d e w hK h h' hL
  by_cases hs:n<48\/m<48
  ·exact qpt a1 a2 c1 c2 n m d e w h h' hL hs
  ·have g:=h.more (M':=λg=>M g/\g<w.heap.size) (λg hg=>.inl hg.1);have g':=h'.more (M':=λg=>M g/\g<w.heap.size) (λg hg=>.inl hg.1)
   by_cases hlt:n<m
   ·have c:=qps K ih _ true a2 a1 c2 c1 m n e d w g' g (by omega) (by omega) (by omega) (by omega) (λ_=>hlt) (λg hg=>hg.2);rw[Nat.add_comm m n,Nat.mul_comm (nv e m)]at c;exact c
   ·exact qps K ih _ false a1 a2 c1 c2 n m d e w g g' hL (by omega) (by omega) (by omega) (λh=>(by cases h)) (λg hg=>hg.2)
theorem qzn{M:Nat->Prop}(v v':Value)(n0 m0:Nat)(d0 e0:Nat->Nat)(w:World)(hM:Mb M w)(h:eu M w v n0 d0)(h':eu M w v' m0 e0)(hL:aH (nv d0 n0)+aH (nv e0 m0)<=1099511627776):
 Calls Tryz.prog 123 #[v,v'] w λq w'=>∃u,q=.returned u/\iX M w' u (nv d0 n0*nv e0 m0)/\Ext w w':=by
 have t1:=YB d0 n0 h.2.1;have t2:=YB e0 m0 h'.2.1;rw[<-t1, <-t2]at hL;clear t1 t2;have E1:Hid (nv d0 (tl d0 n0)=nv d0 n0):=tQ d0 n0;have E2:Hid (nv e0 (tl e0 m0)=nv e0 m0):=tQ e0 m0
 go_enter Tryz.func123,Tryz.ntmps123
 go_wp2_with (fail);refine(wY v n0 d0 w h).mono ?_;rintro e w' ⟨v1,rfl,hv1,rfl⟩;go_wp2_with (fail);refine(wY v' m0 e0 w h').mono ?_;rintro e w' ⟨v2,rfl,hv2,rfl⟩;generalize tl d0 n0=n at*;generalize tl e0 m0=m at*;obtain⟨a1,xH,rfl⟩:=lM hv1;obtain⟨a2,cap2,rfl⟩:=lM hv2;clear h h';go_wp2_with (fail);refine(qzp (n+m) M a1 a2 xH cap2 n m d0 e0 w (aI _) hv1 hv2 (by omega)).mono ?_;rintro e w1 ⟨g,s,rfl,hg,hB,hv,he⟩;have c:=Lf (M:=M) hB.1 (hM.new hg) (by unfold maxLen;omega) hB.2 (by have:=yR _ _ hB.2;omega);rw[hv,E1.out,E2.out]at c;have C:=ae c;clear c hv hB;go_wp2_with (fail);refine C.out.mono ?_;rintro e' w2 ⟨u,rfl,hu,rfl⟩;go_wp2;go_ret;exact⟨u,rfl,hu,he⟩
theorem qzo{M:Nat->Prop}(v v':Value)(x y:Nat)(w:World)(hM:Mb M w)(h:gP M w v x)(h':gP M w v' y)(hL:aH x+aH y<=1099511627776):
 Calls Tryz.prog 123 #[v,v'] w λq w'=>∃u,q=.returned u/\iX M w' u (x*y)/\Ext w w':=by
 obtain⟨n,d,hr,rfl⟩:=h;obtain⟨m,d',Bv,rfl⟩:=h';exact qzn v v' n m d d' w hM hr Bv hL
theorem aA(w:Go.World):Ext w w:=Ext.refl w
end Go.Proofs.YtmcfpnmoklnhoaaGreat
