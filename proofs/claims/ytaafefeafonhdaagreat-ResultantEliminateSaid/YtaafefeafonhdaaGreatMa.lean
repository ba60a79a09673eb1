/- Ma -/
import Derived.Test.YtaafefeafonhdaaGreatRows
import Derived.WalkSpells
import Derived.WalkLawsBesides
import Derived.Lib.Hide
import Derived.Laws.CopyOwn
import Derived.BigQuiet
import Derived.Deep.DeepCutAuto
import Derived.Deep.RegionHeld3
set_option linter.unusedVariables false
set_option maxRecDepth 100000
set_option maxHeartbeats 400000000
set_option linter.unusedSimpArgs false
namespace Go.Proofs.YtaafefeafonhdaaGreat
theorem ae{p:Prop}(h:p):Go.RowKit.Hid p:=Go.Lib.hid h
theorem aA(n:Nat):n<=n:=Nat.le_refl n
theorem aK{n m k:Nat}(h:n<=m)(h2:m<=k):n<=k:=Nat.le_trans h h2
theorem aj{c:Prop}{h:Decidable c}(hn:¬c){α:Sort _}{t e:α}:(if c then t else e)=e:=if_neg hn
theorem av{c:Prop}{h:Decidable c}(hc:c){α:Sort _}{t e:α}:(if c then t else e)=t:=if_pos hc
theorem bB{n m k:Nat}(h:n<m)(h2:m<=k):n<k:=Nat.lt_of_lt_of_le h h2
theorem bu(n:Nat):0<=n:=Nat.zero_le n
theorem gQ{p:Prop}(h:¬p->False):p:=Classical.byContradiction h
theorem fq{n m:Nat}(k:Nat)(h:n<=m):n*k<=m*k:=Nat.mul_le_mul_right k h
theorem jE(n:Nat):(0:Int)<=n:=Int.natCast_nonneg n
theorem dM(w:Go.World)(a:Go.Addr){u:Go.Value}(h:w.cell? a=some u):a.block<w.heap.size:=Go.World.block_lt_of_cell? w a h
theorem aV{P:Go.Program}{fn:Go.Func}{R:Go.Ending->Go.World->Prop}{a:Go.Act}{w:Go.World}{v:Go.Value}(h:(Go.results fn a.tmps).run P w=.ok v w)(hd:a.defers=[])(r:R (.returned v) w):Go.bodyPost P fn R .ret a w:=Go.bodyPost_ret h hd r
def nv(d:Nat->Nat):Nat->Nat
 |0=>0
 |n+1=>nv d n+d n*4294967296^n
def tl(d:Nat->Nat):Nat->Nat
 |0=>0
 |n+1=>if d n=0 then tl d n else n+1
def xE:Nat->Nat->Nat
 |0,_=>0
 |f+1,x=>if x=0 then 0 else xE f (x/4294967296)+1
def aF(x:Nat):Nat:=xE x x
theorem X0(n:Nat):0<4294967296^n:=Nat.pow_pos (by decide)
theorem II(d:Nat->Nat)(n:Nat):tl d n<=n:=by
 induction n with
 |zero=>exact aA _
 |succ n ih=>simp only[tl];split<;>omega
theorem sJ(d:Nat->Nat)(n:Nat):nv d (tl d n)=nv d n:=by
 induction n with
 |zero=>rfl
 |succ n ih=>
  simp only[tl];split
  ·rename_i h;rw[ih];simp[nv,h]
  ·rfl
theorem IG(d:Nat->Nat)(n:Nat):tl d n=0\/d (tl d n-1)≠0:=by
 induction n with
 |zero=>exact .inl rfl
 |succ n ih=>
  simp only[tl];split
  ·exact ih
  ·rename_i h;exact .inr (by simpa using h)
theorem qrq(d:Nat->Nat)(n:Nat):tl d (n+1)=if d n=0 then tl d n else n+1:=rfl
theorem ou(d e:Nat->Nat)(n:Nat)(h:∀i,i<n->d i=e i):nv d n=nv e n:=by
 induction n with
 |zero=>rfl
 |succ n ih=>simp only[nv];rw[ih λi hi=>h i (by omega),h n (by omega)]
theorem qM(d:Nat->Nat)(n:Nat)(h:∀i,i<n->d i<4294967296):nv d n<4294967296^n:=by
 induction n with
 |zero=>simp[nv]
 |succ n ih=>
  have h1:=ih λi hi=>h i (by omega);have h2:=h n (by omega);simp only[nv,Nat.pow_succ];have h3:d n*4294967296^n<=4294967295*4294967296^n:=fq _ (by omega);omega
theorem Tt(d:Nat->Nat)(n:Nat)(h:d n≠0):4294967296^n<=nv d (n+1):=by
 simp only[nv];have:1*4294967296^n<=d n*4294967296^n:=fq _ (by omega);omega
theorem qBe(d:Nat->Nat)(n:Nat):nv d n=0↔tl d n=0:=by
 constructor
 ·intro h;rcases IG d n with h0|h0
  ·exact h0
  ·by_cases hz:tl d n=0
   ·exact hz
   ·exfalso;obtain⟨m,hm⟩:∃m,tl d n=m+1:=⟨tl d n-1,by omega⟩;rw[hm]at h0;have h1:=Tt d m (by simpa using h0);rw[<-hm,sJ]at h1;have:=X0 m;omega
 ·intro h;rw[<-sJ,h];rfl
theorem Tu(d:Nat->Nat)(n:Nat):nv d (n+1)=d 0+4294967296*nv (λi=>d (i+1)) n:=by
 induction n with
 |zero=>simp[nv]
 |succ n ih=>
  rw[nv,ih];show _=d 0+4294967296*(nv (λi=>d (i+1)) n+d (n+1)*4294967296^n);rw[Nat.mul_add,Nat.pow_succ]
  have:d (n+1)*(4294967296^n*4294967296)=4294967296*(d (n+1)*4294967296^n):=by
   rw[<-Nat.mul_assoc,Nat.mul_comm]
  omega
theorem xW(d:Nat->Nat)(m n:Nat):nv d (m+n)=nv d m+4294967296^m*nv (λi=>d (m+i)) n:=by
 induction n with
 |zero=>simp[nv]
 |succ n ih=>
  show nv d (m+n)+d (m+n)*4294967296^(m+n)=nv d m+4294967296^m*(nv (λi=>d (m+i)) n+d (m+n)*4294967296^n);rw[ih,Nat.mul_add,Nat.pow_add]
  have:d (m+n)*(4294967296^m*4294967296^n)=4294967296^m*(d (m+n)*4294967296^n):=by
   rw[<-Nat.mul_assoc,Nat.mul_comm (d (m+n)),Nat.mul_assoc]
  omega
theorem qvd(f x:Nat)(h:x<=f):x<4294967296^(xE f x):=by
 induction f generalizing x with
 |zero=>have:x=0:=by omega
        subst this;simp[xE]
 |succ f ih=>
  simp only[xE];split
  ·rename_i h0;subst h0;simp
  ·rw[Nat.pow_succ];have h1:=ih (x/4294967296) (by omega);omega
theorem qvc(f x:Nat)(h:x<=f)(h0:x≠0):4294967296^(xE f x-1)<=x:=by
 induction f generalizing x with
 |zero=>omega
 |succ f ih=>
  simp only[xE];rw[aj h0]
  by_cases h1:x/4294967296=0
  ·have:xE f (x/4294967296)=0:=by rw[h1];cases f<;>simp[xE]
   rw[this];simp;omega
  ·have h2:=ih (x/4294967296) (by omega) h1
   have h3:xE f (x/4294967296)≠0:=by
    cases f with
    |zero=>omega
    |succ f=>simp[xE,h1]
   obtain⟨k,hk⟩:∃k,xE f (x/4294967296)=k+1:=⟨_,(Nat.succ_pred h3).symm⟩;rw[hk]at h2⊢;simp only[Nat.add_sub_cancel]at h2⊢;rw[Nat.pow_succ];omega
theorem Bp(x:Nat):x<4294967296^aF x:=qvd x x (aA _)
theorem qjM(x:Nat)(h:x≠0):4294967296^(aF x-1)<=x:=qvc x x (aA _) h
theorem qC(x k:Nat):aF x<=k↔x<4294967296^k:=by
 constructor
 ·intro h;exact bB (Bp x) (Nat.pow_le_pow_right (by decide) h)
 ·intro h
  by_cases h0:x=0
  ·subst h0;simp[aF,xE]
  ·have h1:=qjM x h0;have h2:=(Nat.pow_lt_pow_iff_right (by decide:1<4294967296)).1 (Nat.lt_of_le_of_lt h1 h);omega
theorem qjO:aF 0=0:=rfl
theorem fu{x y:Nat}(h:x<=y):aF x<=aF y:=(qC _ _).2 (Nat.lt_of_le_of_lt h (Bp y))
theorem VC(d:Nat->Nat)(n:Nat)(hd:∀i,i<n->d i<4294967296)(h:n=0\/d (n-1)≠0):aF (nv d n)=n:=by
 cases n with
 |zero=>rfl
 |succ n=>
  have h1:=qM d (n+1) hd;have h2:=Tt d n (by simpa using h);have h3:=(qC _ _).2 h1
  by_cases h4:aF (nv d (n+1))<=n
  ·have:=(qC _ _).1 h4;omega
  ·omega
theorem yJ(d:Nat->Nat)(n:Nat)(hd:∀i,i<n->d i<4294967296):aF (nv d n)<=n:=(qC _ _).2 (qM d n hd)
theorem Yj(d:Nat->Nat)(n:Nat)(hd:∀i,i<n->d i<4294967296):tl d n=aF (nv d n):=by
 have h1:=II d n;rw[<-sJ d n,VC d (tl d n) (λi hi=>hd i (by omega)) (IG d n)]
theorem Gt(x y:Nat):aF (x+y)<=max (aF x) (aF y)+1:=by
 rw[qC,Nat.pow_succ];have h1:=Bp x;have h2:=Bp y;have h3:4294967296^aF x<=4294967296^max (aF x) (aF y):=Nat.pow_le_pow_right (by decide) (Nat.le_max_left ..);have h4:4294967296^aF y<=4294967296^max (aF x) (aF y):=Nat.pow_le_pow_right (by decide) (Nat.le_max_right ..);omega
theorem nN(x y:Nat):aF (x*y)<=aF x+aF y:=by
 rw[qC,Nat.pow_add];exact Nat.mul_lt_mul'' (Bp x) (Bp y)
theorem QT{x:Nat}(h:x≠0):0<aF x:=by
 rcases Nat.eq_zero_or_pos (aF x)with h0|h0
 ·have:=Bp x;rw[h0]at this;omega
 ·exact h0
theorem qjL{x:Nat}:aF x=0↔x=0:=by
 constructor
 ·intro h;rcases Nat.eq_zero_or_pos x with h0|h0
  ·exact h0
  ·have:=QT (x:=x) (by omega);omega
 ·intro h;subst h;rfl
def lJ(x y:Nat):Int:=if x<y then-1 else if y<x then 1 else 0
theorem Vv{x y:Nat}(h:x<y):lJ x y= -1:=by unfold lJ;rw[av h]
theorem qjw{x y:Nat}(h:y<x):lJ x y=1:=by unfold lJ;rw[aj (by omega),av h]
theorem quw{x y:Nat}(h:x=y):lJ x y=0:=by unfold lJ;rw[aj (by omega),aj (by omega)]
theorem qfg(d e:Nat->Nat)(n m:Nat)(hd:∀i,i<n->d i<4294967296)(h:n<m)(hm:m=0\/e (m-1)≠0):nv d n<nv e m:=by
 obtain⟨k,rfl⟩:∃k,m=k+1:=⟨m-1,by omega⟩;have h1:=qM d n hd;have h2:=Tt e k (by simpa using hm);have h3:4294967296^n<=4294967296^k:=Nat.pow_le_pow_right (by decide) (by omega);omega
theorem qpM(d e:Nat->Nat)(n i:Nat)(hd:∀j,j<n->d j<4294967296)(hi:i<n)(hs:∀j,i<j->j<n->d j=e j)(hl:d i<e i):nv d n<nv e n:=by
 induction n with
 |zero=>omega
 |succ n ih=>
  simp only[nv]
  by_cases hn:i=n
  ·subst hn;have h1:=qM d i λj hj=>hd j (by omega);have h2:(d i+1)*4294967296^i<=e i*4294967296^i:=fq _ (by omega);rw[Nat.add_mul]at h2;omega
  ·have h1:=ih (λj hj=>hd j (by omega)) (by omega) λj h1 h2=>hs j h1 (by omega);rw[hs n (by omega) (by omega)];omega
def gW(x y c:Nat):Nat:=(x+y+c)%4294967296
def fZ(x y c:Nat):Nat:=(x+y+c)/4294967296
def zD(x y c:Nat):Nat:=(x+4294967296-y-c)%4294967296
def iB(x y:Nat):Nat:=(x*y)%4294967296
def kD(x y:Nat):Nat:=(x*y)/4294967296
def borrow(x y c:Nat):Nat:=if x<y+c then 1 else 0
def cy(d e:Nat->Nat):Nat->Nat
 |0=>0
 |k+1=>(d k+e k+cy d e k)/4294967296
def sd(d e:Nat->Nat)(k:Nat):Nat:=(d k+e k+cy d e k)%4294967296
theorem qjE(d e:Nat->Nat)(n:Nat)(hd:∀i,i<n->d i<4294967296)(he:∀i,i<n->e i<4294967296):cy d e n<=1:=by
 induction n with
 |zero=>simp[cy]
 |succ n ih=>
  have h1:=ih (λi hi=>hd i (by omega)) λi hi=>he i (by omega);have h2:=hd n (by omega);have h3:=he n (by omega);simp only[cy];omega
theorem Ye(d e:Nat->Nat)(k:Nat):sd d e k<4294967296:=Nat.mod_lt _ (by decide)
theorem qpO(d e:Nat->Nat)(n:Nat):nv (sd d e) n+cy d e n*4294967296^n=nv d n+nv e n:=by
 induction n with
 |zero=>simp[nv,cy]
 |succ n ih=>
  simp only[nv,cy,sd];have h:=Nat.div_add_mod (d n+e n+cy d e n) 4294967296
  have h2:(d n+e n+cy d e n)%4294967296*4294967296^n+(d n+e n+cy d e n)/4294967296*4294967296^(n+1)=(d n+e n+cy d e n)*4294967296^n:=by
   rw[Nat.pow_succ]
   conv=>rhs;rw[<-h]
   rw[Nat.add_mul,Nat.mul_comm 4294967296,Nat.mul_assoc,Nat.mul_comm 4294967296 (4294967296^n)];omega
  rw[Nat.add_mul,Nat.add_mul]at h2;omega
def cut(e:Nat->Nat)(m:Nat)(i:Nat):Nat:=if i<m then e i else 0
theorem qA7(e:Nat->Nat)(m k:Nat):nv (cut e m) (m+k)=nv e m:=by
 induction k with
 |zero=>exact ou _ _ _ λi hi=>by unfold cut;rw[av (by simpa using hi)]
 |succ k ih=>rw[<-Nat.add_assoc];simp only[nv];rw[ih];unfold cut;rw[aj (by omega)];simp
theorem XO(e:Nat->Nat)(m n:Nat)(h:m<=n):nv (cut e m) n=nv e m:=by
 obtain⟨k,rfl⟩:∃k,n=m+k:=⟨n-m,by omega⟩;exact qA7 e m k
theorem qbF(e:Nat->Nat)(m:Nat)(he:∀i,i<m->e i<4294967296)(i:Nat):cut e m i<4294967296:=by
 unfold cut;split
 ·exact he i (by assumption)
 ·decide
def FI(d e:Nat->Nat)(n:Nat)(i:Nat):Nat:=if i<n then sd d e i else cy d e n
theorem qBb(d e:Nat->Nat)(n:Nat):nv (FI d e n) (n+1)=nv d n+nv e n:=by
 simp only[nv];rw[ou (FI d e n) (sd d e) n λi hi=>by unfold FI;rw[av hi], <-qpO];unfold FI;rw[aj (by omega)]
def bw(d e:Nat->Nat):Nat->Nat
 |0=>0
 |k+1=>if d k<e k+bw d e k then 1 else 0
def dd(d e:Nat->Nat)(k:Nat):Nat:=(d k+4294967296-e k-bw d e k)%4294967296
theorem qbk(d e:Nat->Nat)(k:Nat):bw d e k<=1:=by
 cases k with
 |zero=>simp[bw]
 |succ k=>simp only[bw];split<;>omega
theorem qbG(d e:Nat->Nat)(k:Nat):dd d e k<4294967296:=Nat.mod_lt _ (by decide)
theorem qA8(d e:Nat->Nat)(n:Nat)(hd:∀i,i<n->d i<4294967296)(he:∀i,i<n->e i<4294967296):nv (dd d e) n+nv e n=nv d n+bw d e n*4294967296^n:=by
 induction n with
 |zero=>simp[nv,bw]
 |succ n ih=>
  have h1:=ih (λi hi=>hd i (by omega)) λi hi=>he i (by omega);have h2:=hd n (by omega);have h3:=he n (by omega);have h4:=qbk d e n
  have h5:dd d e n+e n+bw d e n=d n+bw d e (n+1)*4294967296:=by
   simp only[dd,bw];split<;>omega
  simp only[nv]
  have h6:(dd d e n+e n+bw d e n)*4294967296^n=(d n+bw d e (n+1)*4294967296)*4294967296^n:=by rw[h5]
  have h7:bw d e (n+1)*4294967296*4294967296^n=bw d e (n+1)*4294967296^(n+1):=by
   rw[Nat.mul_assoc,Nat.mul_comm 4294967296 (4294967296^n), <-Nat.pow_succ]
  simp only[Nat.add_mul]at h6;omega
theorem qA9(d e:Nat->Nat)(n:Nat)(hd:∀i,i<n->d i<4294967296)(he:∀i,i<n->e i<4294967296)(h:nv e n<=nv d n):nv (dd d e) n=nv d n-nv e n:=by
 have h1:=qA8 d e n hd he;have h2:=qM (dd d e) n λi _=>qbG d e i;have h3:=qbk d e n
 have h4:bw d e n=0:=by
  rcases Nat.eq_zero_or_pos (bw d e n)with h5|h5
  ·exact h5
  ·have h6:bw d e n=1:=by omega
   rw[h6]at h1;omega
 rw[h4]at h1;omega
def cO(s:Nat->Nat)(k u:Nat):Nat->Nat:=λi=>if i=k then u else s i
theorem qpQ(s:Nat->Nat)(k u N:Nat)(h:k<N):nv (cO s k u) N+s k*4294967296^k=nv s N+u*4294967296^k:=by
 induction N with
 |zero=>omega
 |succ N ih=>
  simp only[nv]
  by_cases hk:k=N
  ·subst hk;rw[ou (cO s k u) s k λi hi=>by unfold cO;rw[aj (by omega)]];unfold cO;rw[av rfl];omega
  ·have:=ih (by omega)
   have h2:cO s k u N=s N:=by unfold cO;rw[aj (by omega)]
   rw[h2];omega
theorem qAt(x y r c:Nat)(hx:x<4294967296)(hy:y<4294967296)(hr:r<4294967296)(hc:c<4294967296):
 kD x y+fZ (iB x y) r 0+fZ (gW (iB x y) r 0) c 0<4294967296/\
 gW (gW (iB x y) r 0) c 0+4294967296*(kD x y+fZ (iB x y) r 0+fZ (gW (iB x y) r 0) c 0)=x*y+r+c:=by
 have h1:x*y<=4294967295*4294967295:=Nat.mul_le_mul (by omega) (by omega);unfold kD iB fZ gW;generalize x*y=p at*;omega
theorem qpb(x y:Nat)(hx:x<4294967296)(hy:y<4294967296):kD x y<4294967296:=by
 have h1:x*y<=4294967295*4294967295:=Nat.mul_le_mul (by omega) (by omega);unfold kD;omega
theorem Tg(x y:Nat):iB x y<4294967296:=Nat.mod_lt _ (by decide)
theorem JU(x y c:Nat):gW x y c<4294967296:=Nat.mod_lt _ (by decide)
theorem qCz(s:Nat->Nat)(N i j x y c c' u V W:Nat)(hk:i+j<N)(h:nv s N+c*4294967296^(i+j)=V+x*W*4294967296^i)
 (hu:u+4294967296*c'=x*y+s (i+j)+c):nv (cO s (i+j) u) N+c'*4294967296^(i+(j+1))=V+x*(W+y*4294967296^j)*4294967296^i:=by
 have h1:=qpQ s (i+j) u N hk
 have h2:(u+4294967296*c')*4294967296^(i+j)=(x*y+s (i+j)+c)*4294967296^(i+j):=by rw[hu]
 have h3:c'*4294967296^(i+(j+1))=4294967296*c'*4294967296^(i+j):=by
  rw[<-Nat.add_assoc,Nat.pow_succ, <-Nat.mul_assoc,Nat.mul_comm, <-Nat.mul_assoc]
 have h4:x*(W+y*4294967296^j)*4294967296^i=x*W*4294967296^i+x*y*4294967296^(i+j):=by
  rw[Nat.mul_add,Nat.add_mul,Nat.pow_add, <-Nat.mul_assoc x y,Nat.mul_assoc (x*y),Nat.mul_comm (4294967296^j)]
 rw[h3,h4];simp only[Nat.add_mul]at h2;omega
def inf(s X:Nat->Nat)(off j:Nat):Nat->Nat:=λq=>if off<=q/\q<off+j then sd (λi=>s (off+i)) X (q-off)else s q
theorem qoC(s X:Nat->Nat)(off j:Nat):cO (inf s X off j) (off+j) (sd (λi=>s (off+i)) X j)=inf s X off (j+1):=by
 funext q;unfold cO inf
 by_cases h:q=off+j
 ·subst h;rw[av rfl,av ⟨by omega,by omega⟩,show off+j-off=j from by omega]
 ·rw[aj h]
  by_cases h2:off<=q/\q<off+j
  ·rw[av h2,av ⟨h2.1,by omega⟩]
  ·rw[aj h2,aj (by omega)]
theorem qoB(s X:Nat->Nat)(off j:Nat):inf s X off j (off+j)=s (off+j):=by unfold inf;rw[aj (by omega)]
theorem qCX(D X:Nat->Nat)(N:Nat)(hD:∀i,i<N->D i<4294967296)(j:Nat)(hc:cy D X j=0)(hX:∀i,j<=i->X i=0)(i:Nat)(hi:j+i<=N):cy D X (j+i)=0/\(j+i<N->sd D X (j+i)=D (j+i)):=by
 induction i with
 |zero=>
  refine⟨hc,λh=>?_⟩;unfold sd;rw[Nat.add_zero,hc,hX j (aA _)];exact Nat.mod_eq_of_lt (by have:=hD j (by omega);omega)
 |succ i ih=>
  obtain⟨h1,h2⟩:=ih (by omega)
  have h3:cy D X (j+i+1)=0:=by
   simp only[cy];rw[h1,hX (j+i) (by omega)];have:=hD (j+i) (by omega);omega
  refine⟨h3,λh=>?_⟩;unfold sd;rw[<-Nat.add_assoc,h3,hX (j+i+1) (by omega)];exact Nat.mod_eq_of_lt (by have:=hD (j+i+1) (by omega);omega)
theorem qoD(s X:Nat->Nat)(off N j:Nat)(hD:∀i,i<N->s (off+i)<4294967296)(hX:∀i,i<N->X i<4294967296)(G5:nv (λi=>s (off+i)) N+nv X N<4294967296^N)(hj:j<=N)
 (h:j=N\/(cy (λi=>s (off+i)) X j=0/\∀i,j<=i->X i=0)):nv (λi=>inf s X off j (off+i)) N=nv (λi=>s (off+i)) N+nv X N:=by
 have h1:=qpO (λi=>s (off+i)) X N
 have h2:cy (λi=>s (off+i)) X N=0:=by
  rcases Nat.eq_zero_or_pos (cy (λi=>s (off+i)) X N)with h5|h5
  ·exact h5
  ·have:1*4294967296^N<=cy (λi=>s (off+i)) X N*4294967296^N:=fq _ h5;omega
 rw[h2]at h1;rw[<-h1,Nat.zero_mul,Nat.add_zero];refine ou _ _ _ λi hi=>?_;unfold inf
 by_cases eD:i<j
 ·rw[av ⟨by omega,by omega⟩,show off+i-off=i from by omega]
 ·rw[aj (by omega)];rcases h with h|⟨h,hx⟩
  ·omega
  ·have:=(qCX (λi=>s (off+i)) X N hD j h hx (i-j) (by omega)).2 (by omega);rw[show j+(i-j)=i from by omega]at this;exact this.symm
theorem qzv(s X:Nat->Nat)(off j T:Nat)(hs:∀i,i<T->s i<4294967296)(i:Nat)(hi:i<T):inf s X off j i<4294967296:=by
 unfold inf;split
 ·exact Ye _ _ _
 ·exact hs i hi
end Go.Proofs.YtaafefeafonhdaaGreat
namespace Go.Proofs.YtaafefeafonhdaaGreat
open Go.RowKit
def Ext(w w':World):Prop:=Below w.heap.size w w'
theorem Ext.refl(w:World):Ext w w:=Below.refl _ _
theorem Ext.size{w w':World}(h:Ext w w'):w.heap.size<=w'.heap.size:=Below.size h
theorem Ext.trans{a b c:World}(h:Ext a b)(k:Ext b c):Ext a c:=Below.trans h (Below.mono k (Ext.size h))
theorem Ext.alloc{a w:World}(h:Ext a w)(o:Obj):Ext a (w.alloc o):=Below.alloc h (Ext.size h) o
theorem Ext.drew{a w:World}(h:Ext a w):Ext a w.drew:=Below.drew h
theorem Ext.drewN{a w:World}(h:Ext a w)(n:Nat):Ext a (w.drewN n):=by
 obtain⟨h1,h2,h3,h4,h5⟩:=h;exact⟨h1,h2,h3,h4,h5⟩
theorem Ext.set{a w:World}(h:Ext a w){p:Addr}(hp:a.heap.size<=p.block)(u:Value):Ext a (w.setCell p u):=Below.setCell h hp u
theorem Ext.grown{a w w':World}{row:Option Nat}(h:Ext a w)(hg:w.grownBy w' row)(hr:∀k,row=some k->a.heap.size<=k):Ext a w':=
 Below.grown h hg (Ext.size h) hr
theorem Ext.cell{w w':World}(h:Ext w w'){b o:Nat}(hb:b<w.heap.size):w'.cell? ⟨b,o,none⟩=w.cell? ⟨b,o,none⟩:=Below.cell h (p:=⟨b,o,none⟩) hb
theorem Ext.frozen{w w':World}(h:Ext w w'){b o:Nat}(hb:b<w.heap.size):w'.frozen? ⟨b,o,none⟩=w.frozen? ⟨b,o,none⟩:=Below.frozen h (p:=⟨b,o,none⟩) hb
theorem Ext.heap{w w':World}(h:Ext w w'){b:Nat}(hb:b<w.heap.size):w'.heap[b]?=w.heap[b]?:=Below.block h b hb
theorem Ext.below{w w':World}(h:Ext w w'):Below w.heap.size w w':=h
theorem ED{W w1:World}(hb:Ext W w1):(∀b o,b<W.heap.size->w1.cell? ⟨b,o,none⟩=W.cell? ⟨b,o,none⟩)/\(∀b o,b<W.heap.size->w1.frozen? ⟨b,o,none⟩=W.frozen? ⟨b,o,none⟩):=
 ⟨λ_ _ h=>hb.cell h,λ_ _ h=>hb.frozen h⟩
def au(w:World)(g:Nat)(t:TypeId)(n:Nat)(f:Nat->Value):Prop:=
 ∃cur:Array Value,w.heap[g]?=some (.cells cur t (0,0))/\cur.size=n/\∀i,i<n->cur[i]?=some (f i)
theorem au.lt{w:World}{g:Nat}{t:TypeId}{n:Nat}{f:Nat->Value}(h:au w g t n f):g<w.heap.size:=by
 obtain⟨cur,hg,_⟩:=h;exact(Array.getElem?_eq_some_iff.1 hg).1
theorem au.cell{w:World}{g:Nat}{t:TypeId}{n:Nat}{f:Nat->Value}(h:au w g t n f){i:Nat}(hi:i<n):w.cell? ⟨g,i,none⟩=some (f i):=by
 obtain⟨cur,hg,_,hc⟩:=h;simp[World.cell?,hg,hc i hi]
theorem au.frozen{w:World}{g:Nat}{t:TypeId}{n:Nat}{f:Nat->Value}(h:au w g t n f)(i:Nat):w.frozen? ⟨g,i,none⟩=false:=by
 obtain⟨cur,hg,_,hc⟩:=h;simp[World.frozen?,hg]
theorem au.of_heap{w w':World}{g:Nat}{t:TypeId}{n:Nat}{f:Nat->Value}(h:au w g t n f)(he:w'.heap[g]?=w.heap[g]?):au w' g t n f:=by
 obtain⟨cur,hg,r⟩:=h;exact⟨cur,he.trans hg,r⟩
theorem au.ext{w w':World}{g:Nat}{t:TypeId}{n:Nat}{f:Nat->Value}(h:au w g t n f)(he:Ext w w'):au w' g t n f:=h.of_heap (he.heap h.lt)
theorem au.alloc{w:World}{g:Nat}{t:TypeId}{n:Nat}{f:Nat->Value}(h:au w g t n f)(o:Obj):au (w.alloc o) g t n f:=h.of_heap (Below.heap_alloc w o g h.lt)
theorem au.kM{w:World}{g:Nat}{t:TypeId}{n:Nat}{f:Nat->Value}(h:au w g t n f){p:Addr}(hp:g≠p.block)(u:Value):au (w.setCell p u) g t n f:=
 h.of_heap (Below.heap_setCell w p u g hp)
def fG(f:Nat->Value)(j:Nat)(u:Value):Nat->Value:=λi=>if i=j then u else f i
theorem au.set{w:World}{g:Nat}{t:TypeId}{n:Nat}{f:Nat->Value}(h:au w g t n f)(j:Nat)(u:Value):au (w.setCell ⟨g,j,none⟩ u) g t n (fG f j u):=by
 obtain⟨cur,hg,hs,hc⟩:=h;refine⟨cur.setIfInBounds j u,heap_setCell_same w g j cur t u hg,by simpa using hs,λi hi=>?_⟩;rw[Array.getElem?_setIfInBounds];unfold fG
 by_cases eD:i=j
 ·subst eD;simp[hs,hi]
 ·rw[aj (by omega),aj eD];exact hc i hi
theorem au.congr{w:World}{g:Nat}{t:TypeId}{n:Nat}{f f':Nat->Value}(h:au w g t n f)(hf:∀i,i<n->f i=f' i):au w g t n f':=by
 obtain⟨cur,hg,hs,hc⟩:=h;exact⟨cur,hg,hs,λi hi=>by rw[hc i hi,hf i hi]⟩
theorem au.qpS{w:World}{base g n:Nat}{e:TypeId}{size:Nat}{xs:List Value}(h:w.ownsRow base e size (.slice (some ⟨g,0,none⟩) n n) n xs)(f:Nat->Value)(hf:∀i,i<n*size->xs[i]?=some (f i)):au w g e (n*size) f:=by
 rcases h.2 with⟨h',_⟩|⟨g',cap',cur,h',_,hg,_,_,hsz,qeA⟩
 ·simp at h'
 ·simp only[Value.slice.injEq,Option.some.injEq,Addr.mk.injEq,and_true,true_and]at h';obtain⟨rfl,rfl⟩:=h';refine⟨cur,hg,hsz,λi hi=>?_⟩;have h1:=hf i hi;rw[<-qeA,List.getElem?_take,av hi]at h1;simpa using h1
theorem au.qfh(w:World)(cs:Array Value)(t:TypeId)(f:Nat->Value)(n:Nat)(hn:cs.size=n)(hf:∀i,i<n->cs[i]?=some (f i)):au (w.alloc (.cells cs t)) w.heap.size t n f:=
 ⟨cs,heap_alloc_new w _,hn,hf⟩
def arr(cs:Array Value):Nat->Value:=λi=>cs.getD i undef
theorem au.aO(w:World)(cs:Array Value)(t:TypeId)(n:Nat)(hn:cs.size=n):au (w.alloc (.cells cs t)) w.heap.size t n (arr cs):=
 ⟨cs,heap_alloc_new w _,hn,λi hi=>by unfold arr;rw[Array.getD_eq_getD_getElem?];simp[hn,hi]⟩
theorem au.OL(w:World)(u:Value)(t:TypeId):au (w.alloc (.cells #[u] t)) w.heap.size t 1 (λ_=>u):=
 au.qfh w #[u] t _ 1 rfl (by
  intro i hi
  have h0:i=0:=by omega
  subst h0;rfl)
def over(f:Nat->Value)(off k:Nat)(src:Nat->Value):Nat->Value:=λi=>if off<=i/\i<off+k then src (i-off)else f i
theorem qBw(f:Nat->Value)(off:Nat)(src:Nat->Value):over f off 0 src=f:=by
 funext i;unfold over;rw[aj (by omega)]
theorem Cn(b o j:Nat):(⟨b,o,none⟩:Addr).add j=⟨b,o+j,none⟩:=by
 unfold Addr.add;split<;>simp_all
theorem VJ(w:World)(r:Option Nat):w.grownBy w r:=⟨rfl,rfl,rfl,aA _,λ_ _ _=>rfl⟩
theorem Q5{a b c:World}{r:Option Nat}(h:a.grownBy b r)(k:b.grownBy c r):a.grownBy c r:=
 ⟨k.os.trans h.os,k.tape.trans h.tape,k.output.trans h.output,aK h.size k.size,λi hi hr=>(k.block i (bB hi h.size) hr).trans (h.block i hi hr)⟩
theorem Ext.grownBy{a w:World}(h:Ext a w)(r:Option Nat):a.grownBy w r:=⟨Below.os h,Below.tape h,Below.output h,h.size,λk hk _=>h.heap hk⟩
theorem au.grown{w w':World}{g:Nat}{t:TypeId}{n:Nat}{f:Nat->Value}{r:Option Nat}(h:au w g t n f)(hg:w.grownBy w' r)(hr:some g≠r):au w' g t n f:=h.of_heap (hg.block g h.lt hr)
theorem au.splice{w:World}{g:Nat}{t:TypeId}{n:Nat}{f:Nat->Value}(h:au w g t n f)(off k:Nat)(src:Nat->Value)(G5:off+k<=n):
 ∃cur:Array Value,w.heap[g]?=some (.cells cur t (0,0))/\cur.size=n/\
  au (w.setRow g (cur.toList.take off++((List.range k).map src++cur.toList.drop (off+((List.range k).map src).length))).toArray) g t n (over f off k src):=by
 obtain⟨cur,hg,hs,hc⟩:=h;refine⟨cur,hg,hs,_,setRow_heap w g _ _ t _ hg,by simp;omega,λi hi=>?_⟩;have hci:=hc i hi;rw[<-Array.getElem?_toList]at hci;simp only[List.length_map,List.length_range,List.getElem?_toArray];unfold over
 by_cases h1:i<off
 ·rw[List.getElem?_append_left (by simp;omega),List.getElem?_take,av h1,aj (by omega)];exact hci
 ·rw[List.getElem?_append_right (by simp;omega)]
  have hl:(cur.toList.take off).length=off:=by simp;omega
  rw[hl]
  by_cases h2:i<off+k
  ·rw[List.getElem?_append_left (by simp;omega),av ⟨by omega,h2⟩];simp only[List.getElem?_map];rw[List.getElem?_range (by omega)];rfl
  ·rw[List.getElem?_append_right (by simp;omega),aj (by omega),List.getElem?_drop, <-hci]
   congr 1
   simp;omega
theorem qb8(w:World)(g:Nat)(cs:Array Value):w.grownBy (w.setRow g cs) (some g):=
 ⟨rfl,rfl,rfl,by simp[World.setRow],λk _ hk=>setRow_other w g k cs (λe=>hk (by rw[e]))⟩
theorem TP{P:Program}{w:World}{ops:Array Oper}{rest:List Oper}{o:Oper}{a:Act}{Q:Exit->Act->World->Prop}(jc:o.guard=none)(d s:Operand)(dT sT:TypeId)
 (ho:o.op=.call {callee:=.builtin .copy,args:= #[d,s],argTypes:= #[dT,sT]}) (elem:TypeId) (hu:P.underlying dT=some (.slice elem)) (hsz:(P.info? elem).map (·.size)=some 1)
 (dp sp:Option Addr) (Gs Cw IB DV:Nat) (hd:a.eval d=.slice dp Gs Cw) (hs:a.eval s=.slice sp IB DV)
 (g off:Nat) (t:TypeId) (N:Nat) (f:Nat->Value) (hB:au w g t N f) (k:Nat) (hk:k=Nat.min IB Gs) (src:Nat->Value)
 (hpos:0<k->dp=some ⟨g,off,none⟩/\∃b q,sp=some ⟨b,q,none⟩/\∀j,j<k->w.cell? ⟨b,q+j,none⟩=some (src j))
 (G5:off+k<=N) (h1:∀j,j<k->(src j).oneCell'=true)
 (h:∀w',au w' g t N (over f off k src)->w.grownBy w' (some g)->wpList P ops Q rest (a.put o.dst (goInt k)) w'):
 wpList P ops Q (o::rest) a w:=by
 by_cases h0:k=0
 ·subst h0;refine wpList_copy_nothing jc d s dT sT ho elem hu hsz dp sp Gs Cw IB DV hd hs hk.symm ?_;exact h w (by rw[qBw];exact hB) (VJ _ _)
 ·obtain⟨rfl,b,q,rfl,Dw⟩:=hpos (by omega);obtain⟨cur,hg,hcs,hb⟩:=hB.splice off k src G5;refine wpList_copy_own jc d s dT sT ho elem hu hsz g off Gs Cw ⟨b,q,none⟩ IB DV hd hs cur t hg ((List.range k).map src) (by simpa using hk) ?_ (by simp;omega) ?_ ?_
  ·intro j v hv;simp only[List.getElem?_map,Option.map_eq_some_iff]at hv;obtain⟨x,hx,rfl⟩:=hv;have hlt:=(List.getElem?_eq_some_iff.1 hx).1;simp only[List.length_range]at hlt;rw[List.getElem?_range hlt]at hx;cases hx;rw[Cn];exact Dw j hlt
  ·intro v hv;simp only[List.mem_map,List.mem_range]at hv;obtain⟨j,hj,rfl⟩:=hv;exact h1 j hj
  ·simp only[List.length_map,List.length_range]at hb⊢;exact h _ hb (qb8 _ _ _)
theorem qAm(u:Value)(n i:Nat)(hi:i<n):(madeCells #[u] n).toList[i]?=some u:=by
 have:i%1=0:=Nat.mod_one i;simp[madeCells,hi,this]
theorem au.Bq{w:World}{base g n:Nat}{e:TypeId}{u:Value}(h:w.ownsRow base e 1 (.slice (some ⟨g,0,none⟩) n n) n (madeCells #[u] n).toList):au w g e n (λ_=>u):=by
 have:=au.qpS h (λ_=>u) (λi hi=>qAm u _ i (by omega));simpa using this
theorem mE{w w':World}(h:w.grownBy w' none):Ext w w':=(Ext.refl w).grown h (by intro k hk;cases hk)
def Mb(M:Nat->Prop)(w:World):Prop:=∀g,M g->g<w.heap.size
theorem Mb.ext{M:Nat->Prop}{w w':World}(h:Mb M w)(he:Ext w w'):Mb M w':=λg hg=>bB (h g hg) he.size
theorem Mb.size{M:Nat->Prop}{w w':World}(h:Mb M w)(he:w.heap.size<=w'.heap.size):Mb M w':=λg hg=>bB (h g hg) he
theorem Mb.new{M:Nat->Prop}{w:World}(h:Mb M w){g:Nat}(hg:w.heap.size<=g):¬M g:=λhm=>by have:=h g hm;omega
def Kp(M:Nat->Prop)(w w':World):Prop:=w.heap.size<=w'.heap.size/\∀b,b<w.heap.size->¬M b->w'.heap[b]?=w.heap[b]?
theorem Kp.gZ{M:Nat->Prop}{w w':World}(h:Ext w w'):Kp M w w':=⟨h.size,λ_ hb _=>h.heap hb⟩
theorem Kp.trans{M:Nat->Prop}{a b c:World}(h:Kp M a b)(k:Kp M b c):Kp M a c:=⟨aK h.1 k.1,λq hq hm=>(k.2 q (bB hq h.1) hm).trans (h.2 q hq hm)⟩
theorem Kp.refl(M:Nat->Prop)(w:World):Kp M w w:=⟨aA _,λ_ _ _=>rfl⟩
theorem Kp.set(M:Nat->Prop)(w:World){p:Addr}(hp:M p.block)(u:Value):Kp M w (w.setCell p u):=
 ⟨by simp[World.setCell],λb _ hb=>Below.heap_setCell _ _ _ _ (λe=>hb (e ▸ hp))⟩
theorem Kp.grown{M:Nat->Prop}{w w':World}{r:Option Nat}(hg:w.grownBy w' r)(hr:∀k,r=some k->M k):Kp M w w':=
 ⟨hg.size,λb hb hm=>hg.block b hb (λe=>hm (hr b e.symm))⟩
theorem Kp.cell{M:Nat->Prop}{w w':World}(h:Kp M w w'){b o:Nat}(hb:b<w.heap.size)(hm:¬M b):w'.cell? ⟨b,o,none⟩=w.cell? ⟨b,o,none⟩:=World.cell?_of_block (w:=w) (h.2 b hb hm)
theorem Kp.mono{M M':Nat->Prop}{w w':World}(h:Kp M w w')(hm:∀b,M b->M' b):Kp M' w w':=⟨h.1,λb hb hn=>h.2 b hb (λk=>hn (hm b k))⟩
def dL(M:Nat->Prop)(w:World)(v:Value)(n:Nat)(d:Nat->Nat):Prop:=
 n<=1099511627776/\(∀i,i<n->d i<4294967296)/\
 ((n=0/\∃a cap,v=.slice a 0 cap/\cap<=maxLen/\(a=none->cap=0))\/∃b off cap,v=.slice (some ⟨b,off,none⟩) n cap/\n<=cap/\cap<=maxLen/\(b<w.heap.size/\¬M b)/\∀i,i<n->w.cell? ⟨b,off+i,none⟩=some (.int .u32 (d i)))
theorem dL.kp{M:Nat->Prop}{w w':World}{v:Value}{n:Nat}{d:Nat->Nat}(h:dL M w v n d)(he:Kp M w w'):dL M w' v n d:=by
 obtain⟨h1,h2,h3⟩:=h;refine⟨h1,h2,?_⟩;rcases h3 with h3|⟨b,off,cap,hv,hn,hc,hb,hcell⟩
 ·exact .inl h3
 ·exact .inr ⟨b,off,cap,hv,hn,hc,⟨bB hb.1 he.1,hb.2⟩,λi hi=>by rw[he.cell hb.1 hb.2];exact hcell i hi⟩
theorem dL.more{M M':Nat->Prop}{w:World}{v:Value}{n:Nat}{d:Nat->Nat}(h:dL M w v n d)(hm:∀g,M' g->M g\/w.heap.size<=g):dL M' w v n d:=by
 obtain⟨h1,h2,h3⟩:=h;refine⟨h1,h2,?_⟩;rcases h3 with h3|⟨b,off,cap,hv,hn,hc,hb,hcell⟩
 ·exact .inl h3
 ·exact .inr ⟨b,off,cap,hv,hn,hc,⟨hb.1,λk=>(hm b k).elim hb.2 (by omega)⟩,hcell⟩
theorem dL.ext{M:Nat->Prop}{w w':World}{v:Value}{n:Nat}{d:Nat->Nat}(h:dL M w v n d)(he:Ext w w'):dL M w' v n d:=h.kp (Kp.gZ he)
def fC(M:Nat->Prop)(w:World)(v:Value)(x:Nat):Prop:=∃n d,dL M w v n d/\nv d n=x
def ic(M:Nat->Prop)(w:World)(v:Value)(x:Nat):Prop:=∃n d,dL M w v n d/\nv d n=x/\(n=0\/d (n-1)≠0)
section
variable{M M':Nat->Prop}{w w':World}{v:Value}{x:Nat}
theorem fC.kp(h:fC M w v x)(he:Kp M w w'):fC M w' v x:=by
 obtain⟨n,d,h1,h2⟩:=h;exact⟨n,d,h1.kp he,h2⟩
theorem ic.kp(h:ic M w v x)(he:Kp M w w'):ic M w' v x:=by
 obtain⟨n,d,h1,h2⟩:=h;exact⟨n,d,h1.kp he,h2⟩
theorem fC.more(h:fC M w v x)(hm:∀g,M' g->M g\/w.heap.size<=g):fC M' w v x:=by
 obtain⟨n,d,h1,h2⟩:=h;exact⟨n,d,h1.more hm,h2⟩
theorem ic.more(h:ic M w v x)(hm:∀g,M' g->M g\/w.heap.size<=g):ic M' w v x:=by
 obtain⟨n,d,h1,h2⟩:=h;exact⟨n,d,h1.more hm,h2⟩
theorem fC.ext(h:fC M w v x)(he:Ext w w'):fC M w' v x:=h.kp (Kp.gZ he)
theorem ic.ext(h:ic M w v x)(he:Ext w w'):ic M w' v x:=h.kp (Kp.gZ he)
theorem ic.dB(h:ic M w v x):fC M w v x:=by
 obtain⟨n,d,h1,h2,_⟩:=h;exact⟨n,d,h1,h2⟩
theorem fC.aF(h:fC M w v x):aF x<=1099511627776:=by
 obtain⟨n,d,h1,rfl⟩:=h;exact aK (yJ d n h1.2.1) h1.1
theorem ic.len(h:ic M w v x):∃d,dL M w v (aF x) d/\nv d (aF x)=x/\(aF x=0\/d (aF x-1)≠0):=by
 obtain⟨n,d,h1,rfl,h3⟩:=h;rw[VC d n h1.2.1 h3];exact⟨d,h1,rfl,h3⟩
end
theorem dL.nil(M:Nat->Prop)(w:World):dL M w (.slice none 0 0) 0 (λ_=>0):=⟨by decide,by intro i hi;omega,.inl ⟨rfl,none,0,rfl,bu _,λ_=>rfl⟩⟩
theorem ic.nil(M:Nat->Prop)(w:World):ic M w (.slice none 0 0) 0:=⟨0,λ_=>0,dL.nil M w,rfl,.inl rfl⟩
theorem dL.Iq{M:Nat->Prop}{w:World}{g:Nat}{t:TypeId}{N n:Nat}{d:Nat->Nat}{f:Nat->Value}(h:au w g t N f)(hM:¬M g)(cap:Nat)(hn:n<=N)(hL:n<=1099511627776)(xL:n<=cap)(hc:cap<=maxLen)
 (hf:∀i,i<n->f i=.int .u32 (d i)) (hd:∀i,i<n->d i<4294967296):dL M w (.slice (some ⟨g,0,none⟩) n cap) n d:=
 ⟨hL,hd,.inr ⟨g,0,cap,rfl,xL,hc,⟨h.lt,hM⟩,λi hi=>by rw[Nat.zero_add,h.cell (by omega),hf i hi]⟩⟩
def Mx(M:Nat->Prop)(n k:Nat):Nat->Prop:=λg=>M g\/(n<=g/\g<k)
theorem Mx.more{M:Nat->Prop}{n k:Nat}{w:World}(hn:w.heap.size<=n):∀g,Mx M n k g->M g\/w.heap.size<=g:=λg hg=>hg.imp id (λh=>by omega)
theorem Mx.less{M:Nat->Prop}{n k:Nat}{w:World}:∀g,M g->Mx M n k g\/w.heap.size<=g:=λg hg=>.inl (.inl hg)
theorem Mx.mb{M:Nat->Prop}{n k:Nat}{w w':World}(h:Mb M w)(hs:w.heap.size<=w'.heap.size)(hk:k<=w'.heap.size):Mb (Mx M n k) w':=λg hg=>hg.elim (λh1=>bB (h g h1) hs) (λh1=>by omega)
theorem Mx.at{M:Nat->Prop}{n k g:Nat}(h:n<=g/\g<k):Mx M n k g:=.inr h
theorem qrt(b off n cap:Nat)(d:Nat->Nat)(w:World)(xL:n<=cap)(hm:cap<=maxLen)
 (hc:∀i,i<n->w.cell? ⟨b,off+i,none⟩=some (.int .u32 (d i))):
 Calls Tryz.prog 108 #[.slice (some ⟨b,off,none⟩) n cap] w λe w'=>e=.returned (.slice (some ⟨b,off,none⟩) (tl d n) cap)/\w=w':=by
 unfold maxLen at hm
 go_enter Tryz.func108,Tryz.ntmps108
 go_wp2
 go_loop [3] (λi=>∃k:Nat,k<=n/\i=.int .i64 k/\tl d k=tl d n) (λi=>(intOf i).toNat)
 case atStart=>exact⟨n,aA _,rfl,rfl⟩
 case round=>
  obtain⟨k,hk,rfl,ht⟩:=hrel;have HT:=ae ht;clear ht
  by_cases h0:k=0
  ·subst h0;go_wp2;go_ret;exact⟨by rw[<-HT.out];rfl,rfl⟩
  ·obtain⟨j,rfl⟩:∃j,k=j+1:=⟨k-1,by omega⟩;have hcell:=hc j (by omega)
   by_cases hz:d j=0
   ·have Dz:(((d j:Nat):Int)==0)=true:=by simp[hz]
    have HZ:=ae hz;clear hz;go_wp2
    go_round
    case rel=>exact⟨j,by omega,rfl,by rw[<-HT.out,qrq,av HZ.out]⟩
    case measure=>simp[intOf]
   ·have Dz:(((d j:Nat):Int)==0)=false:=by simp[hz]
    have HZ:=ae hz;clear hz;go_wp2;go_ret;exact⟨by rw[<-HT.out,qrq,aj HZ.out];rfl,rfl⟩
theorem qEh(a:Option Addr)(cap:Nat)(hc:cap<=maxLen)(hn:a=none->cap=0)(w:World):
 Calls Tryz.prog 108 #[.slice a 0 cap] w λe w'=>e=.returned (.slice a 0 cap)/\w=w':=by
 unfold maxLen at hc
 cases a with
 |none=>
  obtain rfl:=hn rfl;clear hn
  go_enter Tryz.func108,Tryz.ntmps108
  go_wp2;refine wp_loop_rounds 1 ?_;rw[rounds_succ];go_wp2;go_ret;exact⟨rfl,rfl⟩
 |some a=>
  clear hn
  go_enter Tryz.func108,Tryz.ntmps108
  go_wp2;refine wp_loop_rounds 1 ?_;rw[rounds_succ];go_wp2;go_ret;exact⟨rfl,rfl⟩
theorem wL{M:Nat->Prop}(v:Value)(n:Nat)(d:Nat->Nat)(w:World)(h:dL M w v n d):
 Calls Tryz.prog 108 #[v] w λe w'=>∃v',e=.returned v'/\dL M w v' (tl d n) d/\w=w':=by
 obtain⟨h1,h2,h3⟩:=h;have hl:=II d n;rcases h3 with⟨rfl,a,cap,rfl,hc,iN⟩|⟨b,off,cap,rfl,hn,hc,hb,hcell⟩
 ·refine(qEh a cap hc iN w).mono ?_;rintro e w' ⟨rfl,rfl⟩;exact⟨_,rfl,⟨bu _,by intro i hi;simp[tl]at hi,.inl ⟨rfl,a,cap,rfl,hc,iN⟩⟩,rfl⟩
 ·refine(qrt b off n cap d w hn hc hcell).mono ?_;rintro e w' ⟨rfl,rfl⟩;exact⟨_,rfl,⟨by omega,λi hi=>h2 i (by omega),.inr ⟨b,off,cap,rfl,by omega,hc,hb,λi hi=>hcell i (by omega)⟩⟩,rfl⟩
theorem Li{M:Nat->Prop}{w:World}{g:Nat}{t:TypeId}{N:Nat}{s:Nat->Nat}(h:au w g t N (λi=>.int .u32 (s i)))(kH:¬M g)(hN:N<=maxLen)(hs:∀i,i<N->s i<4294967296)(hL:aF (nv s N)<=1099511627776):
 Calls Tryz.prog 108 #[.slice (some ⟨g,0,none⟩) N N] w λe w'=>∃u,e=.returned u/\ic M w u (nv s N)/\w=w':=by
 refine(qrt g 0 N N s w (aA _) hN (λi hi=>by rw[Nat.zero_add];exact h.cell hi)).mono ?_;rintro e w' ⟨rfl,rfl⟩;have hl:=II s N;have hd:=Yj s N hs;exact⟨_,rfl,⟨_,s,dL.Iq h kH N hl (by omega) hl hN (λi _=>rfl) (λi hi=>hs i (by omega)),sJ s N,IG s N⟩,rfl⟩
theorem kW{M:Nat->Prop}{w:World}{v:Value}{n:Nat}{d:Nat->Nat}(h:dL M w v n d):∃a cap,v=.slice a n cap:=by
 obtain⟨_,_,h3⟩:=h;rcases h3 with⟨rfl,a,cap,rfl,_⟩|⟨b,off,cap,rfl,_⟩
 ·exact⟨_,_,rfl⟩
 ·exact⟨_,_,rfl⟩
theorem Il{M:Nat->Prop}(v:Value)(x:Nat)(w:World)(h:fC M w v x):
 Calls Tryz.prog 76 #[v] w λe w'=>e=.returned (.bool (decide (x=0)))/\w=w':=by
 obtain⟨n,d,hr,rfl⟩:=h;have hz:=qBe d n;have HZ:=ae hz;clear hz
 go_enter Tryz.func76,Tryz.ntmps76
 go_wp2_with (fail);refine(wL v n d w hr).mono ?_;rintro e w' ⟨v',rfl,lM,rfl⟩;obtain⟨a,cap,rfl⟩:=kW lM;go_wp2;go_ret;refine⟨?_,rfl⟩
 by_cases h0:tl d n=0
 ·simp[h0,HZ.out]
 ·simp[h0,HZ.out];try omega
theorem Cq(x y c:Nat)(w:World)(hx:x<4294967296)(hy:y<4294967296)(hc:c<4294967296):
 Calls Tryz.prog 143 #[.int .u32 x,.int .u32 y,.int .u32 c] w λe w'=>
  e=.returned (.tuple #[.int .u32 (gW x y c),.int .u32 (fZ x y c)])/\w=w':=by
 go_enter Tryz.func143,Tryz.ntmps143
 go_wp2
 go_ret2
 exact⟨by simp[gW,fZ],rfl⟩
theorem wrap_u32(n:Nat)(h:n<4294967296):IntKind.u32.wrap (n:Int)=n:=by
 exact IntWalk.u32_in _ (by omega)
theorem M3(n:Nat)(h:n<4294967296):(BitVec.ofInt IntKind.u32.bits (n:Int)).toNat=n:=by
 simp[IntKind.bits];omega
theorem qje(a b:Nat)(ha:a<4294967296)(hb:b<4294967296):bits BinOp.and .u32 a b=((a&&& b:Nat):Int):=by
 unfold bits;have h1:=M3 a ha;have h2:=M3 b hb;simp only[BitVec.toNat_and,h1,h2];rw[wrap_u32];exact Nat.lt_of_le_of_lt Nat.and_le_left ha
theorem qjg(a b:Nat)(ha:a<4294967296)(hb:b<4294967296):bits BinOp.or .u32 a b=((a|||b:Nat):Int):=by
 unfold bits;have h1:=M3 a ha;have h2:=M3 b hb;simp only[BitVec.toNat_or,h1,h2];rw[wrap_u32];exact Nat.or_lt_two_pow (n:=32) ha hb
theorem qbj(a b:Nat)(ha:a<4294967296)(hb:b<4294967296):bits BinOp.xor .u32 a b=((a^^^b:Nat):Int):=by
 unfold bits;have h1:=M3 a ha;have h2:=M3 b hb;simp only[BitVec.toNat_xor,h1,h2];rw[wrap_u32];exact Nat.xor_lt_two_pow (n:=32) ha hb
theorem TL(a:Nat)(h:a<4294967296):a.testBit 31=decide (2147483648<=a):=by
 rw[Nat.testBit_eq_decide_div_mod_eq];simp only[decide_eq_decide];omega
theorem qEe(a:Nat)(h:a<4294967296):a/2147483648=(a.testBit 31).toNat:=by
 rw[TL a h]
 by_cases h1:2147483648<=a
 ·simp[h1];omega
 ·simp[h1];omega
theorem qDP(x y c:Nat)(hx:x<4294967296)(hy:y<4294967296)(hc:c<2):
 (((4294967295^^^x)&&& y)|||((4294967295^^^(x^^^y))&&& ((x+4294967296-y-c)%4294967296)))/2147483648=borrow x y c:=by
 have hm:(x+4294967296-y-c)%4294967296<4294967296:=Nat.mod_lt _ (by decide);have Xe:x^^^y<4294967296:=Nat.xor_lt_two_pow (n:=32) hx hy;have l1:((4294967295^^^x)&&& y)<2^32:=Nat.lt_of_le_of_lt Nat.and_le_right hy;have l2:((4294967295^^^(x^^^y))&&& ((x+4294967296-y-c)%4294967296))<2^32:=Nat.lt_of_le_of_lt Nat.and_le_right hm;rw[qEe _ (Nat.or_lt_two_pow (n:=32) l1 l2)];simp only[Nat.testBit_or,Nat.testBit_and,Nat.testBit_xor];rw[TL x hx,TL y hy,TL _ hm,TL 4294967295 (by decide)];unfold borrow
 by_cases h1:2147483648<=x<;>by_cases h2:2147483648<=y<;>by_cases h3:2147483648<=(x+4294967296-y-c)%4294967296<;>by_cases h4:x<y+c<;>simp[h1,h2,h3,h4]<;>omega
theorem Vo(x y:Nat)(w:World)(hx:x<4294967296)(hy:y<4294967296):
 Calls Tryz.prog 156 #[.int .u32 x,.int .u32 y] w λe w'=>
  e=.returned (.tuple #[.int .u32 (kD x y),.int .u32 (iB x y)])/\w=w':=by
 have Xe:x*y<=4294967295*4294967295:=Nat.mul_le_mul (by omega) (by omega)
 have qzj:((x*y:Nat):Int)<=18446744065119617025:=by omega
 rw[Int.natCast_mul]at qzj
 have qG6:(0:Int)<=(x:Int)*(y:Int):=by rw[<-Int.natCast_mul];exact jE _
 have xQ:IntKind.u64.signed=false:=rfl
 go_enter Tryz.func156,Tryz.ntmps156
 go_wp2
 go_ret2
 exact⟨by simp[iB,kD],rfl⟩
theorem qbi(x y c:Nat)(w:World)(hx:x<4294967296)(hy:y<4294967296)(hc:c<2):
 Calls Tryz.prog 145 #[.int .u32 x,.int .u32 y,.int .u32 c] w λe w'=>
  e=.returned (.tuple #[.int .u32 (zD x y c),.int .u32 (borrow x y c)])/\w=w':=by
 have xQ:IntKind.u32.signed=false:=rfl
 go_enter Tryz.func145,Tryz.ntmps145
 go_wp2
 go_ret2
 have hd:((x:Int)-y-c)%4294967296=((x+4294967296-y-c)%4294967296:Nat):=by omega
 have hmax:IntKind.u32.max=((4294967295:Nat):Int):=rfl;have hm:(x+4294967296-y-c)%4294967296<4294967296:=Nat.mod_lt _ (by decide);have Xe:x^^^y<4294967296:=Nat.xor_lt_two_pow (n:=32) hx hy;have hnx:4294967295^^^x<4294967296:=Nat.xor_lt_two_pow (n:=32) (by decide) hx;have qyJ:4294967295^^^(x^^^y)<4294967296:=Nat.xor_lt_two_pow (n:=32) (by decide) Xe;have l1:((4294967295^^^x)&&& y)<4294967296:=Nat.lt_of_le_of_lt Nat.and_le_right hy;have l2:((4294967295^^^(x^^^y))&&& ((x+4294967296-y-c)%4294967296))<4294967296:=Nat.lt_of_le_of_lt Nat.and_le_right hm;have hb:=qDP x y c hx hy hc
 have key:(bits BinOp.or IntKind.u32 (bits BinOp.and IntKind.u32 (bits BinOp.xor IntKind.u32 IntKind.u32.max ↑x) ↑y) (bits BinOp.and IntKind.u32 (bits BinOp.xor IntKind.u32 IntKind.u32.max (bits BinOp.xor IntKind.u32 ↑x ↑y)) (((x:Int)-y-c)%4294967296))/2147483648:Int)=(borrow x y c:Nat):=by
  rw[hd,hmax,qbj x y hx hy,qbj _ _ (by decide) hx,qbj _ _ (by decide) Xe,qje _ _ hnx hy,qje _ _ qyJ hm,qjg _ _ l1 l2, <-hb];simp
 refine⟨?_,rfl⟩;show Ending.returned (.tuple #[.int .u32 ((((x:Int)-y)%4294967296-c)%4294967296),.int .u32 (bits BinOp.or IntKind.u32 (bits BinOp.and IntKind.u32 (bits BinOp.xor IntKind.u32 IntKind.u32.max ↑x) ↑y) (bits BinOp.and IntKind.u32 (bits BinOp.xor IntKind.u32 IntKind.u32.max (bits BinOp.xor IntKind.u32 ↑x ↑y)) (((x:Int)-y-c)%4294967296))/2147483648)])=_;rw[key,show((((x:Int)-y)%4294967296-c)%4294967296)=(zD x y c:Nat)from by unfold zD;omega]
theorem Tryz.Fu:(Tryz.prog.info? 140).map (λi=>(i.zero,i.size,i.bytes))=some (some (.int .u32 0),1,4):=by kernel_rfl
theorem qpn{M:Nat->Prop}(v:Value)(n:Nat)(d:Nat->Nat)(w:World)(hM:Mb M w)(h:dL M w v n d):
 Calls Tryz.prog 104 #[v] w λe w'=>∃v',e=.returned v'/\ic M w' v' (nv d n)/\Ext w w':=by
 obtain⟨i0,hi,hz0,hz1,hz2⟩:=info_parts Tryz.Fu
 go_enter Tryz.func104,Tryz.ntmps104
 go_wp2_with (fail);refine(wL v n d w h).mono ?_;rintro e w' ⟨v',rfl,lM,rfl⟩;have htl:=II d n;have hn:=h.1;generalize hm:tl d n=m at*;have Hm:=ae hm;clear hm;obtain⟨a,cap,rfl⟩:=kW lM
 go_wp2_with (first|(refine wpList_make_full _ rfl _ _ _ rfl w.heap.size 140 i0 (.int .u32 0) 1 Tryz.underlying28 hi hz0 hz1 .i64 .i64 _ _ m rfl rfl rfl rfl ?c2 ?c3 (aA _) ?_))
 case c2=>rw[hz2];omega
 case c3=>unfold maxLen;omega
 intro w1 hown hgrow;have hB:=au.Bq hown;have he:=mE hgrow;clear hown hgrow;obtain⟨hL,hd,h3⟩:=lM
 go_wp2_with (refine TP rfl (.tmp 9) (.tmp 10) _ _ rfl 140 Tryz.underlying28 (by rw[hi];simp[hz1]) _ _ _ _ _ _ rfl rfl w.heap.size 0 140 m _ hB m ?k1 (λi=>.int .u32 (d i)) ?k2 ?k3 ?k4 ?_)
 case k1=>exact(Nat.min_self m).symm
 case k2=>
  intro h0;rcases h3 with⟨hv,ug⟩|⟨b,off,cap',hv,AY,fw,hb1,hcell⟩
  ·omega
  ·simp only[Value.slice.injEq]at hv;exact⟨b,off,hv.1,λj hj=>by rw[he.cell hb1.1];exact hcell j hj⟩
 case k3=>omega
 case k4=>intro j hj;rfl
 intro w2 bJ fE;have az:Ext w w2:=he.grown fE (by intro k hk;cases hk;exact aA _);go_wp2;go_ret;refine⟨_,rfl,⟨m,d,dL.Iq bJ (hM.new (aA _)) m (aA _) hL (aA _) (by unfold maxLen;omega) ?_ hd,?_,?_⟩,az⟩
 ·intro i hi';unfold over;rw[av (by omega)];rfl
 ·rw[<-Hm.out];exact sJ d n
 ·rw[<-Hm.out];exact IG d n
theorem Fv{M:Nat->Prop}(v:Value)(x:Nat)(w:World)(hM:Mb M w)(h:fC M w v x):
 Calls Tryz.prog 104 #[v] w λe w'=>∃v',e=.returned v'/\ic M w' v' x/\Ext w w':=by
 obtain⟨n,d,hr,rfl⟩:=h;exact qpn v n d w hM hr
theorem qpm{M:Nat->Prop}(v v':Value)(n0 m0:Nat)(d d':Nat->Nat)(w:World)(h:dL M w v n0 d)(h':dL M w v' m0 d'):
 Calls Tryz.prog 105 #[v,v'] w λe w'=>e=.returned (.int .i64 (lJ (nv d n0) (nv d' m0)))/\Ext w w':=by
 have e1:=sJ d n0;have e2:=sJ d' m0;have k1:=IG d n0;have k2:=IG d' m0;have ug:Hid (nv d (tl d n0)=nv d n0):=e1;have R6:Hid (nv d' (tl d' m0)=nv d' m0):=e2;clear e1 e2;have kU:Hid (tl d n0=0\/d (tl d n0-1)≠0):=k1;have mH:Hid (tl d' m0=0\/d' (tl d' m0-1)≠0):=k2;clear k1 k2
 go_enter Tryz.func105,Tryz.ntmps105
 go_wp2_with (fail);refine(wL v n0 d w h).mono ?_;rintro e w' ⟨v1,rfl,hv1,rfl⟩;go_wp2_with (fail);refine(wL v' m0 d' w h').mono ?_;rintro e w' ⟨v2,rfl,hv2,rfl⟩;generalize tl d n0=n at*;generalize tl d' m0=m at*;have E1:Hid (nv d n=nv d n0):=ug;have E2:Hid (nv d' m=nv d' m0):=R6;have HK:Hid (n=0\/d (n-1)≠0):=kU;have HK':Hid (m=0\/d' (m-1)≠0):=mH;clear ug R6 kU mH;obtain⟨a1,xA,rfl⟩:=kW hv1;obtain⟨a2,cap2,rfl⟩:=kW hv2;obtain⟨hL,hd,h3⟩:=hv1;obtain⟨si,yX,h3'⟩:=hv2;have HD:=ae hd;have Zg:=ae yX;have H3:=ae h3;have H3':=ae h3';clear hd yX h3 h3' h h';rcases Nat.lt_trichotomy n m with hlt|heq|jT
 ·go_wp2;go_ret;exact⟨by rw[<-E1.out, <-E2.out,Vv (qfg d d' n m HD.out hlt HK'.out)];rfl,Ext.refl _⟩
 ·subst heq
  by_cases iN:n=0
  ·subst iN;go_wp2;refine wp_loop_rounds 1 ?_;rw[rounds_succ];go_wp2;go_ret;exact⟨by rw[<-E1.out, <-E2.out];rfl,Ext.refl _⟩
  ·have hd:=HD.out;have yX:=Zg.out;rcases H3.out with⟨h0,_⟩|⟨b,off,cap,hv,xL,hm,hb,hc⟩
   ·exact absurd h0 iN
   rcases H3'.out with⟨h0,_⟩|⟨b',off',cap',lM,qFN,hm',hb',Ku⟩
   ·exact absurd h0 iN
   simp only[Value.slice.injEq,true_and]at hv lM;obtain⟨rfl,rfl⟩:=hv;obtain⟨rfl,rfl⟩:=lM;clear H3 H3' HD Zg;unfold maxLen at hm hm';go_wp2
   go_loopw [5] (λi wr=>∃k:Nat,k<=n/\i=.int .i64 ((k:Int)-1)/\(∀j,k<=j->j<n->d j=d' j)/\Ext w wr) (λi _=>((intOf i)+1).toNat)
   case atStart=>exact⟨n,aA _,by rfl,by intro j h1 h2;omega,Ext.refl _⟩
   case round=>
    obtain⟨k,hkn,rfl,hs,he⟩:=hrel;have HS:=ae hs;clear hs
    by_cases h0:k=0
    ·subst h0;go_wp2;go_ret;exact⟨by rw[<-E1.out, <-E2.out,quw (ou d d' n λi hi=>HS.out i (by omega) hi)];rfl,he⟩
    ·obtain⟨j,rfl⟩:∃j,k=j+1:=⟨k-1,by omega⟩
     have hcell:wr.cell? ⟨b,off+j,none⟩=some (.int .u32 (d j)):=by rw[he.cell hb.1];exact hc j (by omega)
     have qFP:wr.cell? ⟨b',off'+j,none⟩=some (.int .u32 (d' j)):=by rw[he.cell hb'.1];exact Ku j (by omega)
     have hx:=hd j (by omega);have zk:=yX j (by omega);have HC:=ae hc;have HC':=ae Ku;clear hc Ku;rcases Nat.lt_trichotomy (d j) (d' j)with hlt|heq|jT
     ·have hl:=qpM d d' n j hd (by omega) (λi h1 h2=>HS.out i (by omega) h2) hlt;have HL:=ae hl;clear hl;go_wp2
      go_quiet (fail)
      go_wp2;go_ret;exact⟨by rw[<-E1.out, <-E2.out,Vv HL.out];rfl,by exact he.drewN _⟩
     ·have q1:d j<=d' j:=by omega
      have q2:d' j<=d j:=by omega
      have HE:=ae heq;clear heq;go_wp2
      go_quiet (fail)
      go_wp2
      go_quiet (fail)
      go_wp2
      go_roundw
      case rel=>exact⟨j,by omega,by go_num,λi h1 h2=>if eD:i=j then(by rw[eD];exact HE.out)else HS.out i (by omega) h2,he.drewN _⟩
      case measure=>simp[intOf]
     ·have hl:=qpM d' d n j yX (by omega) (λi h1 h2=>(HS.out i (by omega) h2).symm) jT;have HL:=ae hl;clear hl;go_wp2
      go_quiet (fail)
      go_wp2
      go_quiet (fail)
      go_wp2;go_ret;exact⟨by rw[<-E1.out, <-E2.out,qjw HL.out];rfl,by exact(he.drewN _).drewN _⟩
 ·go_wp2;go_ret;exact⟨by rw[<-E1.out, <-E2.out,qjw (qfg d' d m n Zg.out jT HK.out)];rfl,Ext.refl _⟩
theorem Lh{M:Nat->Prop}(v v':Value)(x y:Nat)(w:World)(h:fC M w v x)(h':fC M w v' y):
 Calls Tryz.prog 105 #[v,v'] w λe w'=>e=.returned (.int .i64 (lJ x y))/\Ext w w':=by
 obtain⟨n,d,hr,rfl⟩:=h;obtain⟨m,d',sG,rfl⟩:=h';exact qpm v v' n m d d' w hr sG
theorem qpk(x y c g:Nat)(t:TypeId)(w:World)(hx:x<4294967296)(hy:y<4294967296)(hc:c<4294967296)(hB:au w g t 1 (λ_=>.int .u32 c)):
 Calls Tryz.prog 142 #[.int .u32 x,.int .u32 y,.pointer (some ⟨g,0,none⟩)] w λe w'=>
  e=.returned (.int .u32 (gW x y c))/\au w' g t 1 (λ_=>.int .u32 (fZ x y c))/\w.grownBy w' (some g):=by
 have h1:=hB.cell (i:=0) (by omega);have h2:=hB.frozen 0
 go_enter Tryz.func142,Tryz.ntmps142
 go_wp2_with (go_at_call 143;refine(Cq x y c _ hx hy hc).mono ?_;rintro e w' ⟨rfl,rfl⟩)
 go_ret;refine⟨rfl,(hB.set 0 _).congr ?_,?_⟩
 ·intro i hi;unfold fG;rw[av (by omega)]
 ·exact⟨rfl,rfl,rfl,by simp[World.setCell],λk _ hk=>Below.heap_setCell _ _ _ _ (λe=>hk (by simp[e]))⟩
theorem qpq(x y c g:Nat)(t:TypeId)(w:World)(hx:x<4294967296)(hy:y<4294967296)(hc:c<2)(hB:au w g t 1 (λ_=>.int .u32 c)):
 Calls Tryz.prog 144 #[.int .u32 x,.int .u32 y,.pointer (some ⟨g,0,none⟩)] w λe w'=>
  e=.returned (.int .u32 (zD x y c))/\au w' g t 1 (λ_=>.int .u32 (borrow x y c))/\w.grownBy w' (some g):=by
 have h1:=hB.cell (i:=0) (by omega);have h2:=hB.frozen 0
 go_enter Tryz.func144,Tryz.ntmps144
 go_wp2_with (go_at_call 145;refine(qbi x y c _ hx hy hc).mono ?_;rintro e w' ⟨rfl,rfl⟩)
 go_ret;refine⟨rfl,(hB.set 0 _).congr ?_,?_⟩
 ·intro i hi;unfold fG;rw[av (by omega)]
 ·exact⟨rfl,rfl,rfl,by simp[World.setCell],λk _ hk=>Below.heap_setCell _ _ _ _ (λe=>hk (by simp[e]))⟩
theorem mZ{M:Nat->Prop}{w:World}{a:Option Addr}{n cap:Nat}{d:Nat->Nat}(h:dL M w (.slice a n cap) n d)(h0:0<n):
 ∃b off,a=some ⟨b,off,none⟩/\b<w.heap.size/\∀i,i<n->w.cell? ⟨b,off+i,none⟩=some (.int .u32 (d i)):=by
 obtain⟨_,_,h3⟩:=h;rcases h3 with⟨_,h4⟩|⟨b,off,cap',hv,_,_,hb,hc⟩
 ·omega
 ·simp only[Value.slice.injEq]at hv;exact⟨b,off,hv.1,hb.1,hc⟩
def JS(d e:Nat->Nat)(k:Nat):Nat->Value:=λi=>.int .u32 ((if i<k then sd d e i else 0:Nat):Int)
theorem qi6(d e:Nat->Nat)(k:Nat):fG (JS d e k) k (.int .u32 (sd d e k:Nat))=JS d e (k+1):=by
 funext i;unfold fG JS
 by_cases h:i=k
 ·subst h;rw[av rfl,av (by omega)]
 ·rw[aj h]
  by_cases h2:i<k
  ·rw[av h2,av (by omega)]
  ·rw[aj h2,aj (by omega)]
theorem qAF{M:Nat->Prop}(v v':Value)(n0 m0:Nat)(d0 e0:Nat->Nat)(w:World)(hM:Mb M w)(h:dL M w v n0 d0)(h':dL M w v' m0 e0)(hL:aF (nv d0 n0+nv e0 m0)<=1099511627776):
 Calls Tryz.prog 112 #[v,v'] w λe w'=>∃u,e=.returned u/\ic M w' u (nv d0 n0+nv e0 m0)/\Ext w w':=by
 obtain⟨i0,hi,hz0,hz1,hz2⟩:=info_parts Tryz.Fu;have Od:∀(fn:Fn)(first cap:Array Value)(w:World),(Instr.makeFunc fn first cap).run Tryz.prog w=.ok (.func fn first cap) w:=λ_ _ _ _=>rfl;have key:∀(a1 a2:Option Addr)(xA cap2 n m:Nat)(d e:Nat->Nat),dL M w (.slice a1 n xA) n d->dL M w (.slice a2 m cap2) m e->m<=n->nv d n+nv e m=nv d0 n0+nv e0 m0->True:=λ_ _ _ _ _ _ _ _ _ _ _ _=>trivial
 go_enter Tryz.func112,Tryz.ntmps112
 go_wp2_with (fail);refine(wL v n0 d0 w h).mono ?_;rintro e w' ⟨v1,rfl,hv1,rfl⟩;go_wp2_with (fail);refine(wL v' m0 e0 w h').mono ?_;rintro e w' ⟨v2,rfl,hv2,rfl⟩;have E1:Hid (nv d0 (tl d0 n0)=nv d0 n0):=sJ d0 n0;have E2:Hid (nv e0 (tl e0 m0)=nv e0 m0):=sJ e0 m0;generalize tl d0 n0=n1 at*;generalize tl e0 m0=m1 at*;obtain⟨a1,xA,rfl⟩:=kW hv1;obtain⟨a2,cap2,rfl⟩:=kW hv2;clear h h' key
 go_upto_if 19 with(fail)
 go_cut [0,1] (λs0 s1 wx=>w=wx/\∃(a b:Option Addr)(c1 c2 n m:Nat)(d e:Nat->Nat),s0=.slice a n c1/\s1=.slice b m c2/\m<=n/\Hid (dL M w s0 n d/\dL M w s1 m e/\nv d n+nv e m=nv d0 n0+nv e0 m0))
 case first=>
  rcases Nat.lt_or_ge n1 m1 with hlt|jy
  ·go_wp2
   go_meet
   exact⟨rfl,a2,a1,cap2,xA,m1,n1,e0,d0,rfl,rfl,by omega,hv2,hv1,by rw[E1.out,E2.out];omega⟩
  ·go_wp2
   go_meet
   exact⟨rfl,a1,a2,xA,cap2,n1,m1,d0,e0,rfl,rfl,by omega,hv1,hv2,by rw[E1.out,E2.out]⟩
 case rest=>
  obtain⟨rfl,a,b,c1,c2,n,m,d,e,rfl,rfl,pR,hR⟩:=hcut;have Ap:=hR.out.1;have dY:=Ap.1;clear Ap
  go_wp2_with (first|(refine wpList_make_full _ rfl _ _ _ rfl (w.heap.size+1) 140 i0 (.int .u32 0) 1 Tryz.underlying28 hi hz0 hz1 .i64 .i64 _ _ (n+1) rfl rfl ?c4 ?c5 ?c2 ?c3 ?c6 ?_))
  case c4=>go_num
  case c5=>go_num
  case c6=>simp
  case c2=>rw[hz2];omega
  case c3=>unfold maxLen;omega
  intro w1 hown hgrow;have hB:=au.Bq hown;have he:=mE hgrow;clear hown hgrow;have hC:au w1 w.heap.size 140 1 (λ_=>.int .u32 (cy d (cut e m) 0:Nat)):=(au.OL w _ _).ext he;have ah:Ext w w1:=((Ext.refl w).alloc _).trans he;obtain⟨hRd,NJ,hRv⟩:=hR.out;have jF:=hRd.2.1;have hel:=NJ.2.1;have nZ:=qbF e m hel;have HD:=ae jF;have HC:=ae nZ;have LP:Hid (∀k,k<=n->cy d (cut e m) k<=1):=λk hk=>qjE d (cut e m) k (λi hi=>jF i (by omega)) λi _=>nZ i;have HV:=ae hRv;have Qd:=ae hRd;have HRe:=ae NJ;clear hRd NJ hRv jF hel nZ hR he;go_wp2
  go_loopw [29] (λi wr=>∃k:Nat,k<=m/\i=.int .i64 k/\au wr (w.heap.size+1) 140 (n+1) (JS d (cut e m) k)/\au wr w.heap.size 140 1 (λ_=>.int .u32 (cy d (cut e m) k))/\Ext w wr) (λi _=>m-(intOf i).toNat)
  case atStart=>exact⟨0,bu _,rfl,hB.congr (by intro i _;simp[JS]),hC,ah⟩
  case round=>
   obtain⟨k,hk,rfl,nO,yO,bT⟩:=hrel
   by_cases hlt:k<m
   ·obtain⟨b1,o1,rfl,hb1,fw⟩:=mZ Qd.out (by omega);obtain⟨b2,o2,rfl,gU,eX⟩:=mZ HRe.out (by omega)
    have g1:wr.cell? ⟨b1,o1+k,none⟩=some (.int .u32 (d k)):=by rw[bT.cell hb1];exact fw k (by omega)
    have g2:wr.cell? ⟨b2,o2+k,none⟩=some (.int .u32 (e k)):=by rw[bT.cell gU];exact eX k (by omega)
    have tY:e k=cut e m k:=by unfold cut;rw[av hlt]
    rw[tY]at g2;clear fw eX tY;go_wp2_with (fail);refine(qpk (d k) (cut e m k) (cy d (cut e m) k) w.heap.size 140 _ (HD.out k (by omega)) (HC.out k) (by have:=LP.out k (by omega);omega) yO).mono ?_;rintro e' w2 ⟨rfl,jM,fE⟩;have bJ:=nO.grown fE (by simp);have az:=bT.grown fE (by intro q hq;cases hq;exact aA _);have q1:=bJ.cell (i:=k) (by omega);have q2:=bJ.frozen k;go_wp2
    go_roundw
    case rel=>exact⟨k+1,by omega,by go_num,qi6 d (cut e m) k ▸ bJ.set k _,jM.kM (by simp) _,az.set (by simp) _⟩
    case measure=>simp[intOf];omega
   ·have:k=m:=by omega
    subst this;clear hlt hk;go_wp2;obtain⟨wo,rfl⟩:∃wo:World,wo=wr:=⟨_,rfl⟩
    go_loopw [10] (λi wr=>∃j:Nat,k<=j/\j<=n/\i=.int .i64 j/\au wr (w.heap.size+1) 140 (n+1) (JS d (cut e k) j)/\au wr w.heap.size 140 1 (λ_=>.int .u32 (cy d (cut e k) j))/\Ext w wr) (λi _=>n-(intOf i).toNat)
    case atStart=>exact⟨k,aA _,pR,rfl,nO,yO,bT⟩
    case round=>
     clear nO yO bT;obtain⟨j,KI,hj,rfl,nO,yO,bT⟩:=hrel
     by_cases hlt:j<n
     ·obtain⟨b1,o1,rfl,hb1,fw⟩:=mZ Qd.out (by omega)
      have g1:wr.cell? ⟨b1,o1+j,none⟩=some (.int .u32 (d j)):=by rw[bT.cell hb1];exact fw j (by omega)
      have tY:cut e k j=0:=by unfold cut;rw[aj (by omega)]
      have aR:=qpk (d j) (cut e k j) (cy d (cut e k) j) w.heap.size 140 wr (HD.out j (by omega)) (HC.out j) (by have:=LP.out j (by omega);omega) yO;have AB:gW (d j) (cut e k j) (cy d (cut e k) j)=sd d (cut e k) j:=rfl;have Az:fZ (d j) (cut e k j) (cy d (cut e k) j)=cy d (cut e k) (j+1):=rfl;rw[AB,Az,tY]at aR;have aJ:=ae aR;clear fw tY aR AB Az;go_wp2_with (fail);refine aJ.out.mono ?_;rintro e' w2 ⟨rfl,jM,fE⟩;have bJ:=nO.grown fE (by simp);have az:=bT.grown fE (by intro q hq;cases hq;exact aA _);have q1:=bJ.cell (i:=j) (by omega);have q2:=bJ.frozen j;go_wp2
      go_roundw
      case rel=>exact⟨j+1,by omega,by omega,by go_num,qi6 d (cut e k) j ▸ bJ.set j _,jM.kM (by simp) _,az.set (by simp) _⟩
      case measure=>simp[intOf];omega
     ·have:j=n:=by omega
      subst this;clear hlt;have q1:=nO.cell (i:=j) (by omega);have q2:=nO.frozen j;have q3:=yO.cell (i:=0) (by omega);have eG:=nO.set j (.int .u32 (cy d (cut e k) j))
      have gY:au (wr.setCell ⟨w.heap.size+1,j,none⟩ (.int .u32 (cy d (cut e k) j))) (w.heap.size+1) 140 (j+1) (λi=>.int .u32 (FI d (cut e k) j i)):=by
       refine eG.congr λi hi=>?_;unfold fG JS FI
       by_cases h1:i=j
       ·subst h1;rw[av rfl,aj (by omega)]
       ·rw[aj h1,av (by omega),av (by omega)]
      have bg:Ext w (wr.setCell ⟨w.heap.size+1,j,none⟩ (.int .u32 (cy d (cut e k) j))):=bT.set (by simp) _
      have hsl:∀i,i<j+1->FI d (cut e k) j i<4294967296:=λi _=>by
       unfold FI;split
       ·exact Ye _ _ _
       ·have:=LP.out j (by omega);omega
      have hval:nv (FI d (cut e k) j) (j+1)=nv d0 n0+nv e0 m0:=by rw[qBb,XO e k j KI];exact HV.out
      have aR:=Li (M:=M) gY (hM.new (by omega)) (by unfold maxLen;omega) hsl (by rw[hval];exact hL);rw[hval]at aR;have aJ:=ae aR;clear aR eG gY hsl hval;go_wp2_with (fail);refine aJ.out.mono ?_;rintro e' w2 ⟨u,rfl,hu,rfl⟩;go_wp2;go_ret;exact⟨u,rfl,hu,bg⟩
theorem XK{M:Nat->Prop}(v v':Value)(x y:Nat)(w:World)(hM:Mb M w)(h:fC M w v x)(h':fC M w v' y)(hL:aF (x+y)<=1099511627776):
 Calls Tryz.prog 112 #[v,v'] w λe w'=>∃u,e=.returned u/\ic M w' u (x+y)/\Ext w w':=by
 obtain⟨n,d,hr,rfl⟩:=h;obtain⟨m,d',sG,rfl⟩:=h';exact qAF v v' n m d d' w hM hr sG hL
def LA(d e:Nat->Nat)(k:Nat):Nat->Value:=λi=>.int .u32 ((if i<k then dd d e i else 0:Nat):Int)
theorem qrj(d e:Nat->Nat)(k:Nat):fG (LA d e k) k (.int .u32 (dd d e k:Nat))=LA d e (k+1):=by
 funext i;unfold fG LA
 by_cases h:i=k
 ·subst h;rw[av rfl,av (by omega)]
 ·rw[aj h]
  by_cases h2:i<k
  ·rw[av h2,av (by omega)]
  ·rw[aj h2,aj (by omega)]
theorem qAL{M:Nat->Prop}(v v':Value)(n0 m0:Nat)(d0 e0:Nat->Nat)(w:World)(hM:Mb M w)(h:dL M w v n0 d0)(h':dL M w v' m0 e0)(jy:nv e0 m0<=nv d0 n0):
 Calls Tryz.prog 113 #[v,v'] w λe w'=>∃u,e=.returned (.tuple #[u,.bool true])/\ic M w' u (nv d0 n0-nv e0 m0)/\Ext w w':=by
 obtain⟨i0,hi,hz0,hz1,hz2⟩:=info_parts Tryz.Fu;have Od:∀(fn:Fn)(first cap:Array Value)(w:World),(Instr.makeFunc fn first cap).run Tryz.prog w=.ok (.func fn first cap) w:=λ_ _ _ _=>rfl;have E1:Hid (nv d0 (tl d0 n0)=nv d0 n0):=sJ d0 n0;have E2:Hid (nv e0 (tl e0 m0)=nv e0 m0):=sJ e0 m0;have E3:Hid (tl d0 n0=0\/d0 (tl d0 n0-1)≠0):=IG d0 n0;have E4:Hid (tl e0 m0=0\/e0 (tl e0 m0-1)≠0):=IG e0 m0;have oG:=ae jy;clear jy
 go_enter Tryz.func113,Tryz.ntmps113
 go_wp2_with (fail);refine(wL v n0 d0 w h).mono ?_;rintro e w' ⟨v1,rfl,hv1,rfl⟩;go_wp2_with (fail);refine(wL v' m0 e0 w h').mono ?_;rintro e w' ⟨v2,rfl,hv2,rfl⟩;generalize tl d0 n0=n at*;generalize tl e0 m0=m at*;go_wp2_with (fail);refine(qpm v1 v2 n m d0 e0 w hv1 hv2).mono ?_;rintro e w1 ⟨rfl,fo⟩
 have hc:¬(lJ (nv d0 n) (nv e0 m)<0):=by
  have:=oG.out;rw[E1.out,E2.out];unfold lJ;rw[aj (by omega)];split<;>omega
 have pR:m<=n:=by
  rcases Nat.lt_or_ge n m with h1|h1
  ·have:=qfg d0 e0 n m hv1.2.1 h1 E4.out;have:=oG.out;rw[<-E1.out, <-E2.out]at this;omega
  ·exact h1
 have Ap:=hv1.ext fo;have EO:=hv2.ext fo;have HX:=ae fo;clear h h' hv1 hv2 fo;obtain⟨a,c1,rfl⟩:=kW Ap;obtain⟨b,c2,rfl⟩:=kW EO;have dY:=Ap.1;have jF:=Ap.2.1;have nZ:=qbF e0 m EO.2.1;have HD:=ae jF;have HC:=ae nZ;have Qd:=ae Ap;have HRe:=ae EO;clear Ap EO jF nZ
 go_wp2_with (first|(refine wpList_make_full _ rfl _ _ _ rfl (w1.heap.size+1) 140 i0 (.int .u32 0) 1 Tryz.underlying28 hi hz0 hz1 .i64 .i64 _ _ n rfl rfl ?c4 ?c5 ?c2 ?c3 ?c6 ?_))
 case c4=>rfl
 case c5=>rfl
 case c6=>simp
 case c2=>rw[hz2];omega
 case c3=>unfold maxLen;omega
 intro w2 hown hgrow;have hB:=au.Bq hown;have he:=mE hgrow;clear hown hgrow;have hC:au w2 w1.heap.size 140 1 (λ_=>.int .u32 (bw d0 (cut e0 m) 0:Nat)):=(au.OL w1 _ _).ext he;have ah:Ext w1 w2:=((Ext.refl w1).alloc _).trans he
 have uz:Hid (∀k,bw d0 (cut e0 m) k<2):=λk=>by have:=qbk d0 (cut e0 m) k;omega
 clear he;go_wp2
 go_loopw [26] (λi wr=>∃k:Nat,k<=m/\i=.int .i64 k/\au wr (w1.heap.size+1) 140 n (LA d0 (cut e0 m) k)/\au wr w1.heap.size 140 1 (λ_=>.int .u32 (bw d0 (cut e0 m) k))/\Ext w1 wr) (λi _=>m-(intOf i).toNat)
 case atStart=>exact⟨0,bu _,rfl,hB.congr (by intro i _;simp[LA]),hC,ah⟩
 case round=>
  obtain⟨k,hk,rfl,nO,yO,bT⟩:=hrel
  by_cases hlt:k<m
  ·obtain⟨b1,o1,rfl,hb1,fw⟩:=mZ Qd.out (by omega);obtain⟨b2,o2,rfl,gU,eX⟩:=mZ HRe.out (by omega)
   have g1:wr.cell? ⟨b1,o1+k,none⟩=some (.int .u32 (d0 k)):=by rw[bT.cell hb1];exact fw k (by omega)
   have g2:wr.cell? ⟨b2,o2+k,none⟩=some (.int .u32 (e0 k)):=by rw[bT.cell gU];exact eX k (by omega)
   have tY:e0 k=cut e0 m k:=by unfold cut;rw[av hlt]
   rw[tY]at g2;clear fw eX tY;go_wp2_with (fail);refine(qpq (d0 k) (cut e0 m k) (bw d0 (cut e0 m) k) w1.heap.size 140 _ (HD.out k (by omega)) (HC.out k) (uz.out k) yO).mono ?_;rintro e' w3 ⟨rfl,jM,fE⟩;have bJ:=nO.grown fE (by simp);have az:=bT.grown fE (by intro q hq;cases hq;exact aA _);have q1:=bJ.cell (i:=k) (by omega);have q2:=bJ.frozen k;go_wp2
   go_roundw
   case rel=>exact⟨k+1,by omega,by go_num,qrj d0 (cut e0 m) k ▸ bJ.set k _,jM.kM (by simp) _,az.set (by simp) _⟩
   case measure=>simp[intOf];omega
  ·have:k=m:=by omega
   subst this;clear hlt hk;go_wp2;obtain⟨wo,rfl⟩:∃wo:World,wo=wr:=⟨_,rfl⟩
   go_loopw [11] (λi wr=>∃j:Nat,k<=j/\j<=n/\i=.int .i64 j/\au wr (w1.heap.size+1) 140 n (LA d0 (cut e0 k) j)/\au wr w1.heap.size 140 1 (λ_=>.int .u32 (bw d0 (cut e0 k) j))/\Ext w1 wr) (λi _=>n-(intOf i).toNat)
   case atStart=>exact⟨k,aA _,pR,rfl,nO,yO,bT⟩
   case round=>
    clear nO yO bT;obtain⟨j,KI,hj,rfl,nO,yO,bT⟩:=hrel
    by_cases hlt:j<n
    ·obtain⟨b1,o1,rfl,hb1,fw⟩:=mZ Qd.out (by omega)
     have g1:wr.cell? ⟨b1,o1+j,none⟩=some (.int .u32 (d0 j)):=by rw[bT.cell hb1];exact fw j (by omega)
     have tY:cut e0 k j=0:=by unfold cut;rw[aj (by omega)]
     have aR:=qpq (d0 j) (cut e0 k j) (bw d0 (cut e0 k) j) w1.heap.size 140 wr (HD.out j (by omega)) (HC.out j) (uz.out j) yO;have AB:zD (d0 j) (cut e0 k j) (bw d0 (cut e0 k) j)=dd d0 (cut e0 k) j:=rfl;have Az:borrow (d0 j) (cut e0 k j) (bw d0 (cut e0 k) j)=bw d0 (cut e0 k) (j+1):=rfl;rw[AB,Az,tY]at aR;have aJ:=ae aR;clear fw tY aR AB Az;go_wp2_with (fail);refine aJ.out.mono ?_;rintro e' w3 ⟨rfl,jM,fE⟩;have bJ:=nO.grown fE (by simp);have az:=bT.grown fE (by intro q hq;cases hq;exact aA _);have q1:=bJ.cell (i:=j) (by omega);have q2:=bJ.frozen j;go_wp2
     go_roundw
     case rel=>exact⟨j+1,by omega,by omega,by go_num,qrj d0 (cut e0 k) j ▸ bJ.set j _,jM.kM (by simp) _,az.set (by simp) _⟩
     case measure=>simp[intOf];omega
    ·have:j=n:=by omega
     subst this;clear hlt
     have gY:au wr (w1.heap.size+1) 140 j (λi=>.int .u32 (dd d0 (cut e0 k) i)):=by
      refine nO.congr λi hi=>?_;unfold LA;rw[av hi]
     have hval:nv (dd d0 (cut e0 k)) j=nv d0 n0-nv e0 m0:=by
      have eX:=XO e0 k j KI;have jy:=oG.out;rw[qA9 d0 (cut e0 k) j HD.out (λi _=>HC.out i) (by rw[eX,E1.out,E2.out];exact jy),eX,E1.out,E2.out]
     have aR:=Li (M:=M) gY (hM.new (by have:=HX.out.size;omega)) (by unfold maxLen;omega) (λi _=>qbG _ _ _) (aK (yJ _ _ λi _=>qbG _ _ _) dY);rw[hval]at aR;have aJ:=ae aR;clear aR gY hval;go_wp2_with (fail);refine aJ.out.mono ?_;rintro e' w2 ⟨u,rfl,hu,rfl⟩;go_wp2
     go_ret2
     exact⟨u,rfl,hu,HX.out.trans bT⟩
theorem qe8{M:Nat->Prop}(v v':Value)(x y:Nat)(w:World)(hM:Mb M w)(h:fC M w v x)(h':fC M w v' y)(jy:y<=x):
 Calls Tryz.prog 113 #[v,v'] w λe w'=>∃u,e=.returned (.tuple #[u,.bool true])/\ic M w' u (x-y)/\Ext w w':=by
 obtain⟨n,d,hr,rfl⟩:=h;obtain⟨m,d',sG,rfl⟩:=h';exact qAL v v' n m d d' w hM hr sG jy
theorem Tk{M:Nat->Prop}(x:Nat)(w:World)(hM:Mb M w)(hx:x<18446744073709551616):
 Calls Tryz.prog 69 #[.int .u64 x] w λe w'=>∃u,e=.returned u/\ic M w' u x/\Ext w w':=by
 have xQ:IntKind.u64.signed=false:=rfl
 have zk:(x:Int)<18446744073709551616:=by omega
 go_enter Tryz.func69,Tryz.ntmps69
 go_wp2_with (fail)
 have hB:au (w.alloc (Obj.cells #[Value.int IntKind.u32 ((x:Int)%4294967296),Value.int IntKind.u32 ((x:Int)/4294967296)] 140)) w.heap.size 140 2 (λi=>.int .u32 ((if i=0 then x%4294967296 else x/4294967296:Nat):Int)):=
  au.qfh w _ _ _ 2 rfl (by
   intro i hi
   have:i=0\/i=1:=by omega
   rcases this with rfl|rfl<;>simp)
 have hN:=dL.Iq (M:=M) (d:=λi=>if i=0 then x%4294967296 else x/4294967296) hB (hM.new (aA _)) 2 (aA _) (by omega) (aA _) (by unfold maxLen;omega) (λi _=>rfl) (by intro i hi;show(if i=0 then x%4294967296 else x/4294967296)<4294967296;split<;>omega)
 have hv:nv (λi=>if i=0 then x%4294967296 else x/4294967296) 2=x:=by simp[nv];omega
 have c:=qpn _ _ _ _ (hM.size (by simp)) hN;rw[hv]at c;refine c.mono ?_;rintro e w1 ⟨u,rfl,hu,he⟩;go_wp2;go_ret;exact⟨u,rfl,hu,((Ext.refl w).alloc _).trans he⟩
def iU(w:World)(g:Nat)(N:Nat)(s:Nat->Nat):Prop:=au w g 140 N (λi=>.int .u32 (s i))/\∀i,i<N->s i<4294967296
theorem iU.set{w:World}{g N:Nat}{s:Nat->Nat}(h:iU w g N s)(k u:Nat)(hu:u<4294967296):iU (w.setCell ⟨g,k,none⟩ (.int .u32 u)) g N (cO s k u):=by
 refine⟨(h.1.set k _).congr λi _=>?_,λi hi=>?_⟩
 ·unfold fG cO;split<;>rfl
 ·unfold cO;split
  ·exact hu
  ·exact h.2 i hi
theorem iU.ext{w w':World}{g N:Nat}{s:Nat->Nat}(h:iU w g N s)(he:Ext w w'):iU w' g N s:=⟨h.1.ext he,h.2⟩
theorem OJ(N:Nat):nv (λ_=>0) N=0:=by
 induction N with
 |zero=>rfl
 |succ N ih=>simp only[nv];rw[ih];simp
theorem qpo{M:Nat->Prop}(a1 a2:Option Addr)(c1 c2 n m:Nat)(d e:Nat->Nat)(w:World)(h:dL M w (.slice a1 n c1) n d)(h':dL M w (.slice a2 m c2) m e)(hL:n+m<=1099511627776):
 Calls Tryz.prog 157 #[.slice a1 n c1,.slice a2 m c2] w λq w'=>∃s,q=.returned (.slice (some ⟨w.heap.size,0,none⟩) (n+m) (n+m))/\
  iU w' w.heap.size (n+m) s/\nv s (n+m)=nv d n*nv e m/\Ext w w':=by
 obtain⟨i0,hi,hz0,hz1,hz2⟩:=info_parts Tryz.Fu;have HD:=ae h.2.1;have HE:=ae h'.2.1;have HR:=ae h;have Z6:=ae h';clear h h'
 go_enter Tryz.func157,Tryz.ntmps157
 go_wp2_with (first|(refine wpList_make_full _ rfl _ _ _ rfl w.heap.size 140 i0 (.int .u32 0) 1 Tryz.underlying28 hi hz0 hz1 .i64 .i64 _ _ (n+m) rfl rfl ?c4 ?c5 ?c2 ?c3 ?c6 ?_))
 case c4=>go_num
 case c5=>go_num
 case c6=>simp
 case c2=>rw[hz2];omega
 case c3=>unfold maxLen;omega
 intro w1 hown hgrow;have hB:iU w1 w.heap.size (n+m) (λ_=>0):=⟨au.Bq hown,λ_ _=>by show 0<4294967296;decide⟩;have he:=mE hgrow;clear hown hgrow;go_wp2
 go_loopw [23] (λi wr=>∃(k:Nat)(s:Nat->Nat),k<=n/\i=.int .i64 k/\iU wr w.heap.size (n+m) s/\nv s (n+m)=nv d k*nv e m/\(∀q,k+m<=q->s q=0)/\Ext w wr) (λi _=>n-(intOf i).toNat)
 case atStart=>exact⟨0,λ_=>0,bu _,rfl,hB,by rw[OJ];simp[nv],λ_ _=>rfl,he⟩
 case round=>
  clear hB he;obtain⟨k,s,hk,rfl,hB,hv,hz,bT⟩:=hrel;have HV:=ae hv;have HZ:=ae hz;clear hv hz
  by_cases hlt:k<n
  ·obtain⟨b1,o1,rfl,hb1,fw⟩:=mZ HR.out (by omega)
   have g1:wr.cell? ⟨b1,o1+k,none⟩=some (.int .u32 (d k)):=by rw[bT.cell hb1];exact fw k (by omega)
   clear fw;have GY:=HD.out k hlt
   by_cases h0:d k=0
   ·have t0:(((d k:Nat):Int)==0)=true:=by simp[h0]
    have H0:=ae h0;clear h0;go_wp2
    go_roundw
    case rel=>exact⟨k+1,s,by omega,by go_num,hB,by rw[HV.out];simp[nv,H0.out],λq hq=>HZ.out q (by omega),bT⟩
    case measure=>simp[intOf];omega
   ·have t0:(((d k:Nat):Int)==0)=false:=by simp[h0]
    clear h0;go_wp2;obtain⟨wo,rfl⟩:∃wo:World,wo=wr:=⟨_,rfl⟩
    go_loopw [35,9] (λi c wr=>∃(j cy:Nat)(s':Nat->Nat),j<=m/\i=.int .i64 j/\c=.int .u32 cy/\cy<4294967296/\iU wr w.heap.size (n+m) s'/\
     Hid (nv s' (n+m)+cy*4294967296^(k+j)=nv s (n+m)+d k*nv e j*4294967296^k)/\Hid (∀q,k+m<=q->s' q=0)/\Ext w wr) (λi _ _=>m-(intOf i).toNat)
    case atStart=>exact⟨0,0,s,bu _,rfl,rfl,by decide,hB,by show _=_;simp[nv],HZ.out,bT⟩
    case round=>
     clear hB bT g1;obtain⟨j,cy,s',hj,rfl,rfl,qF,hB,hv,hz,bT⟩:=hrel
     by_cases hlj:j<m
     ·obtain⟨b2,o2,rfl,gU,eX⟩:=mZ Z6.out (by omega)
      have g2:wr.cell? ⟨b2,o2+j,none⟩=some (.int .u32 (e j)):=by rw[bT.cell gU];exact eX j (by omega)
      have g3:wr.cell? ⟨w.heap.size,k+j,none⟩=some (.int .u32 (s' (k+j))):=hB.1.cell (by omega);have g4:=hB.1.frozen (k+j);have hej:=HE.out j hlj;have wG:=hB.2 (k+j) (by omega);obtain⟨q1,q2⟩:=qAt (d k) (e j) (s' (k+j)) cy GY hej wG qF;have q3:=JU (gW (iB (d k) (e j)) (s' (k+j)) 0) cy 0;have q4:=Tg (d k) (e j);have q5:=JU (iB (d k) (e j)) (s' (k+j)) 0;have Q2:=ae q2;clear q2 eX;go_wp2_with (fail);refine(Vo (d k) (e j) _ GY hej).mono ?_;rintro e' w' ⟨rfl,rfl⟩;go_wp2_with (fail);refine(Cq (iB (d k) (e j)) (s' (k+j)) 0 _ q4 wG (by decide)).mono ?_;rintro e' w' ⟨rfl,rfl⟩;go_wp2_with (fail);refine(Cq (gW (iB (d k) (e j)) (s' (k+j)) 0) cy 0 _ q5 qF (by decide)).mono ?_;rintro e' w' ⟨rfl,rfl⟩;go_wp2
      go_roundw
      case rel=>
       refine⟨j+1,kD (d k) (e j)+fZ (iB (d k) (e j)) (s' (k+j)) 0+fZ (gW (iB (d k) (e j)) (s' (k+j)) 0) cy 0,cO s' (k+j) (gW (gW (iB (d k) (e j)) (s' (k+j)) 0) cy 0),by omega,by go_num,by go_num,q1,hB.set _ _ q3,?_,?_,bT.set (aA _) _⟩
       ·exact qCz s' (n+m) k j (d k) (e j) cy _ _ _ (nv e j) (by omega) hv.out Q2.out
       ·intro q hq;unfold cO;rw[aj (by omega)];exact hz.out q hq
      case measure=>simp[intOf];omega
     ·have:j=m:=by omega
      subst this;clear hlj;have g3:wr.cell? ⟨w.heap.size,k+j,none⟩=some (.int .u32 (s' (k+j))):=hB.1.cell (by omega);have g4:=hB.1.frozen (k+j);go_wp2
      go_roundw
      case rel=>
       refine⟨k+1,cO s' (k+j) cy,by omega,by go_num,hB.set _ _ qF,?_,?_,bT.set (aA _) _⟩
       ·have h1:=qpQ s' (k+j) cy (n+j) (by omega);rw[hz.out (k+j) (by omega)]at h1;have h2:=hv.out;rw[HV.out]at h2;simp only[nv,Nat.add_mul]
        have h3:d k*nv e j*4294967296^k=d k*4294967296^k*nv e j:=by rw[Nat.mul_assoc,Nat.mul_comm (nv e j), <-Nat.mul_assoc]
        omega
       ·intro q hq;unfold cO;rw[aj (by omega)];exact hz.out q (by omega)
      case measure=>simp[intOf];omega
  ·have:k=n:=by omega
   subst this;go_wp2;go_ret;exact⟨s,rfl,hB,HV.out,bT⟩
theorem qb9{w0 w:World}{g k:Nat}(h:w0.grownBy w (some g))(u:Value):w0.grownBy (w.setCell ⟨g,k,none⟩ u) (some g):=
 Q5 h ⟨rfl,rfl,rfl,by simp[World.setCell],λq _ hq=>Below.heap_setCell _ _ _ _ (λe=>hq (by rw[e]))⟩
theorem qpl{M:Nat->Prop}(g off N cz T:Nat)(a2:Option Addr)(c2 m:Nat)(s X:Nat->Nat)(w:World)(hB:iU w g T s)(hT:off+N<=T)(h':dL M w (.slice a2 m c2) m X)(hne:0<m->∀p,a2=some p->p.block≠g)(hm:m<=N)(yT:N<=1099511627776)
 (G5:nv (λi=>s (off+i)) N+nv X m<4294967296^N):
 Calls Tryz.prog 158 #[.slice (some ⟨g,off,none⟩) N cz,.slice a2 m c2] w λq w'=>∃s',q=.returned (.tuple #[])/\iU w' g T s'/\(∀i,i<off\/off+N<=i->s' i=s i)/\
  nv (λi=>s' (off+i)) N=nv (λi=>s (off+i)) N+nv X m/\w.grownBy w' (some g):=by
 have HX:Hid (∀i,cut X m i<4294967296):=qbF X m h'.2.1;have LP:Hid (∀j,j<=N->cy (λi=>s (off+i)) (cut X m) j<=1):=λj hj=>qjE _ _ j (λi hi=>hB.2 _ (by omega)) λi _=>HX.out i;have HS:=ae hB.2;have Z6:=ae h'
 have HF:Hid (nv (λi=>s (off+i)) N+nv (cut X m) N<4294967296^N):=by show _<_;rw[XO X m N hm];exact G5
 have HXv:Hid (nv (cut X m) N=nv X m):=XO X m N hm;have Eo:=ae hne;clear h' G5 hne;have hlg:=hB.1.lt
 go_enter Tryz.func158,Tryz.ntmps158
 go_wp2
 go_loopw [10,4] (λi c wr=>∃j:Nat,j<=m/\i=.int .i64 j/\c=.int .u32 (cy (λi=>s (off+i)) (cut X m) j)/\iU wr g T (inf s (cut X m) off j)/\w.grownBy wr (some g)) (λi _ _=>m-(intOf i).toNat)
 case atStart=>exact⟨0,bu _,rfl,rfl,⟨hB.1.congr (by intro i _;unfold inf;rw[aj (by omega)]),qzv _ _ _ _ _ hB.2⟩,VJ _ _⟩
 case round=>
  clear hB;obtain⟨j,hj,rfl,rfl,hB,hg⟩:=hrel;have qF:=LP.out j (by omega)
  by_cases hlt:j<m
  ·obtain⟨b2,o2,rfl,gU,eX⟩:=mZ Z6.out (by omega);have oP:b2≠g:=Eo.out (by omega) _ rfl
   have g2:wr.cell? ⟨b2,o2+j,none⟩=some (.int .u32 (cut X m j)):=by
    rw[World.cell?_of_block (w:=w) (hg.block b2 gU (by simpa using oP)),eX j hlt];unfold cut;rw[av hlt]
   have g3:wr.cell? ⟨g,off+j,none⟩=some (.int .u32 (s (off+j))):=by rw[hB.1.cell (by omega),qoB]
   have g4:=hB.1.frozen (off+j);clear eX;have aR:=Cq (s (off+j)) (cut X m j) (cy (λi=>s (off+i)) (cut X m) j) wr (HS.out _ (by omega)) (HX.out j) (by omega);have AB:gW (s (off+j)) (cut X m j) (cy (λi=>s (off+i)) (cut X m) j)=sd (λi=>s (off+i)) (cut X m) j:=rfl;have Az:fZ (s (off+j)) (cut X m j) (cy (λi=>s (off+i)) (cut X m) j)=cy (λi=>s (off+i)) (cut X m) (j+1):=rfl;rw[AB,Az]at aR;have aJ:=ae aR;clear aR AB Az;go_wp2_with (fail);refine aJ.out.mono ?_;rintro e' w' ⟨rfl,rfl⟩;go_wp2
   go_roundw
   case rel=>exact⟨j+1,by omega,by go_num,rfl,qoC s (cut X m) off j ▸ hB.set (off+j) _ (Ye _ _ _),qb9 hg _⟩
   case measure=>simp[intOf];omega
  ·have:j=m:=by omega
   subst this;clear hlt;go_wp2;obtain⟨wo,rfl⟩:∃wo:World,wo=wr:=⟨_,rfl⟩
   go_loopw [7,4] (λi c wr=>∃q:Nat,j<=q/\q<=N/\i=.int .i64 q/\c=.int .u32 (cy (λi=>s (off+i)) (cut X j) q)/\iU wr g T (inf s (cut X j) off q)/\w.grownBy wr (some g)) (λi _ _=>N-(intOf i).toNat)
   case atStart=>exact⟨j,aA _,hm,rfl,rfl,hB,hg⟩
   case round=>
    clear hB hg qF;obtain⟨q,hjq,hq,rfl,rfl,hB,hg⟩:=hrel;have qF:=LP.out q (by omega)
    have kr:Hid (∀i,q<=i->cut X j i=0):=λi hi=>by unfold cut;rw[aj (by omega)]
    by_cases lY:cy (λi=>s (off+i)) (cut X j) q=0
    ·have t0:(((cy (λi=>s (off+i)) (cut X j) q:Nat):Int)==0)=true:=by simp[lY]
     have t1:(((cy (λi=>s (off+i)) (cut X j) q:Nat):Int)!=0)=false:=by simp[lY]
     have wR:=ae lY;clear lY;go_wp2
     go_end0
     refine⟨_,rfl,hB,λi hi=>?_,?_,hg⟩
     ·unfold inf;rw[aj (by omega)]
     ·rw[<-HXv.out];exact qoD s (cut X j) off N q (λi hi=>HS.out _ (by omega)) (λi _=>HX.out i) HF.out hq (.inr ⟨wR.out,kr.out⟩)
    ·have t0:(((cy (λi=>s (off+i)) (cut X j) q:Nat):Int)==0)=false:=by simp[lY]
     have t1:(((cy (λi=>s (off+i)) (cut X j) q:Nat):Int)!=0)=true:=by simp[lY]
     clear lY
     by_cases hlt:q<N
     ·have g3:wr.cell? ⟨g,off+q,none⟩=some (.int .u32 (s (off+q))):=by rw[hB.1.cell (by omega),qoB]
      have g4:=hB.1.frozen (off+q);have aR:=Cq (s (off+q)) (cut X j q) (cy (λi=>s (off+i)) (cut X j) q) wr (HS.out _ (by omega)) (HX.out q) (by omega);have AB:gW (s (off+q)) (cut X j q) (cy (λi=>s (off+i)) (cut X j) q)=sd (λi=>s (off+i)) (cut X j) q:=rfl;have Az:fZ (s (off+q)) (cut X j q) (cy (λi=>s (off+i)) (cut X j) q)=cy (λi=>s (off+i)) (cut X j) (q+1):=rfl;rw[AB,Az,kr.out q (aA _)]at aR;have aJ:=ae aR;clear aR AB Az;go_wp2_with (fail);refine aJ.out.mono ?_;rintro e' w' ⟨rfl,rfl⟩;go_wp2
      go_roundw
      case rel=>exact⟨q+1,by omega,by omega,by go_num,rfl,qoC s (cut X j) off q ▸ hB.set (off+q) _ (Ye _ _ _),qb9 hg _⟩
      case measure=>simp[intOf];omega
     ·have:q=N:=by omega
      subst this;go_wp2
      go_end0
      refine⟨_,rfl,hB,λi hi=>?_,?_,hg⟩
      ·unfold inf;rw[aj (by omega)]
      ·rw[<-HXv.out];exact qoD s (cut X j) off q q (λi hi=>HS.out _ (by omega)) (λi _=>HX.out i) HF.out hq (.inl rfl)
def JE(w:World)(N x:Nat)(q:Ending)(w':World):Prop:=∃g s,q=.returned (.slice (some ⟨g,0,none⟩) N N)/\w.heap.size<=g/\iU w' g N s/\nv s N=x/\Ext w w'
def qiO(K:Nat):Prop:=∀(M:Nat->Prop)(a1 a2:Option Addr)(c1 c2 n m:Nat)(d e:Nat->Nat)(w:World),n+m<=K->dL M w (.slice a1 n c1) n d->dL M w (.slice a2 m c2) m e->n+m<=1099511627776->
 Calls Tryz.prog 141 #[.slice a1 n c1,.slice a2 m c2] w (JE w (n+m) (nv d n*nv e m))
theorem qqg{M:Nat->Prop}(a1 a2:Option Addr)(c1 c2 n m:Nat)(d e:Nat->Nat)(w:World)(h:dL M w (.slice a1 n c1) n d)(h':dL M w (.slice a2 m c2) m e)(hL:n+m<=1099511627776)(hs:n<48\/m<48):
 Calls Tryz.prog 141 #[.slice a1 n c1,.slice a2 m c2] w (JE w (n+m) (nv d n*nv e m)):=by
 rcases Nat.lt_or_ge n m with hlt|jy
 ·have lD:n<48:=by omega
  have c:=qpo a1 a2 c1 c2 n m d e w h h' hL;have C:=ae c;clear c h h'
  go_enter Tryz.func141,Tryz.ntmps141
  go_wp2_with (fail);refine C.out.mono ?_;rintro e' w' ⟨s,rfl,hB,hv,he⟩;have HV:=ae hv;clear hv;go_wp2;go_ret;exact⟨_,s,rfl,aA _,hB,HV.out,he⟩
 ·have lD:m<48:=by omega
  have c:=qpo a2 a1 c2 c1 m n e d w h' h (by omega);rw[Nat.mul_comm,Nat.add_comm m n]at c;have C:=ae c;clear c h h'
  go_enter Tryz.func141,Tryz.ntmps141
  go_wp2_with (fail);refine C.out.mono ?_;rintro e' w' ⟨s,rfl,hB,hv,he⟩;have HV:=ae hv;clear hv;go_wp2;go_ret;exact⟨_,s,rfl,aA _,hB,HV.out,he⟩
theorem sO{α:Type _}{xs:List α}{i:Nat}:xs.toArray[i]?=xs[i]?:=List.getElem?_toArray
theorem sP{α:Type _}{a:α}{l:List α}{i:Nat}:(a::l)[i+1]?=l[i]?:=List.getElem?_cons_succ
theorem sQ{α:Type _}{a:α}{l:List α}:(a::l)[0]?=some a:=List.getElem?_cons_zero
theorem eO{α:Type _}{l:List α}{i:Nat}{a:α}:l.toArray.setIfInBounds i a=(l.set i a).toArray:=List.setIfInBounds_toArray ..
theorem eQ{α:Type _}{x:α}{xs:List α}{a:α}:(x::xs).set 0 a=a::xs:=List.set_cons_zero ..
theorem eT{α:Type _}{x:α}{xs:List α}{n:Nat}{a:α}:(x::xs).set (n+1) a=x::xs.set n a:=List.set_cons_succ ..
section
variable{P:Program}{ops:Array Oper}{Q:Exit->Act->World->Prop}{md:Region.Mode}{S:World->Prop}{last:Nat}
def lZ(P:Program)(md:Region.Mode)(ops:Array Oper)(Q:Exit->Act->World->Prop)(S:World->Prop)(last:Nat):Nat->Array Bool->Act->World->Prop
 |0,listed,a,w=>Region.ready md ops listed=[]/\Q .normal a w
 |fuel+1,listed,a,w=>
  (Region.ready md ops listed=[]->Q .normal a w)/\
  ∀i∈Region.ready md ops listed,wpOp P ops Q i (λa' w'=>(i≠last->S w')/\lZ P md ops Q S last fuel (listed.setIfInBounds i true) a' w') a w
theorem qrM:∀(fuel:Nat)(listed:Array Bool)(a:Act)(w:World),lZ P md ops Q S last fuel listed a w->wpAny P md ops Q fuel listed a w
 |0,_,_,_,h=>h
 |fuel+1,_,_,_,h=>⟨h.1,λi hi=>wpOp_mono (λa' w' h'=>qrM fuel _ a' w' h'.2) (h.2 i hi)⟩
def waits(md:Region.Mode)(ops:Array Oper)(last i:Nat):Bool:=decide (ops.size<=last)||((ops[last]?).map λo=>o.after.any λe=>Region.binds md e&&e.on==i).getD false
theorem qpE{i:Nat}{listed:Array Bool}(hw:waits md ops last i=true)(hr:i∈Region.ready md ops listed):last∉Region.ready md ops listed:=by
 intro hl;obtain⟨_,o,ho,kI⟩:=mem_ready.1 hl;unfold waits at hw
 have hlt:¬ops.size<=last:=by
  have:=(Array.getElem?_eq_some_iff.1 ho).1;omega
 rw[ho,decide_eq_false hlt,Bool.false_or]at hw;simp only[Option.map_some,Option.getD_some,Array.any_eq_true,Bool.and_eq_true,beq_iff_eq]at hw;obtain⟨k,hk,hb,he⟩:=hw;have h1:=kI _ (Array.getElem_mem hk) hb;have h0:=(mem_ready.1 hr).1;rw[he]at h1;rcases Nat.lt_or_ge i listed.size with h'|h'
 ·simp[h']at h0 h1;rw[h0]at h1;cases h1
 ·simp[Array.getElem?_eq_none h']at h1
theorem qrJ{i:Nat}{oi:Oper}{v:Value}(hi:ops[i]?=some oi)(Bb:∀(j:Nat)(o:Oper) cs b,ops[j]?=some o->o.op≠ .select cs b)
 (hQ:∀c a w,Q (.panic c) (a.put oi.dst v) w->Q (.panic c) a w) (hw:waits md ops last i=true):
 ∀(fuel:Nat)(listed:Array Bool)(a:Act)(w:World),
  (∀j oj,ops[j]?=some oj->j≠i->listed.getD j true=false->(∀e∈oj.after,Region.binds md e=true->e.on≠i)->oi.apart ops oj=true)->
  i∈Region.ready md ops listed->YieldsIf P ops S oi v a->S w->
  lZ P md ops Q S last fuel (listed.setIfInBounds i true) (a.put oi.dst v) w->lZ P md ops Q S last (fuel+1) listed a w:=by
 intro fuel
 induction fuel with
 |zero=>
  intro listed a w _ hr hy hS H;refine⟨λh=>(by rw[h]at hr;cases hr),λj hj=>?_⟩
  by_cases iR:j=i
  ·subst iR;exact hy.wpOp hi hS ⟨λ_=>hS,H⟩
  ·have:=ready_mono hj iR;rw[H.1]at this;cases this
 |succ fuel ih=>
  intro listed a w AP hr hy hS H;refine⟨λh=>(by rw[h]at hr;cases hr),λj hj=>?_⟩
  by_cases iR:j=i
  ·subst iR;exact hy.wpOp hi hS ⟨λ_=>hS,H⟩
  ·have h1:=H.2 j (ready_mono hj iR);have tZ:j≠last:=λe=>qpE hw hr (e ▸ hj);obtain⟨AV,oj,uX,kI⟩:=mem_ready.1 hj
   have KR:∀e∈oj.after,Region.binds md e=true->e.on≠i:=λe he hb heq=>by
    have h1:=kI e he hb;have h0:=(mem_ready.1 hr).1;rw[heq]at h1;rcases Nat.lt_or_ge i listed.size with h'|h'
    ·simp[h']at h0 h1;rw[h0]at h1;cases h1
    ·simp[Array.getElem?_eq_none h']at h1
   have h2:=wpOp_putIf uX (AP j oj uX iR AV KR) (λcs b=>Bb i oi cs b hi) (λcs b=>Bb j oj cs b uX) hQ hy h1
   have KD:∀k ok,ops[k]?=some ok->k≠i->(listed.setIfInBounds j true).getD k true=false->
    (∀e∈ok.after,Region.binds md e=true->e.on≠i)->oi.apart ops ok=true:=λk ok hk KH Bf hno=>by
    refine AP k ok hk KH ?_ hno
    by_cases lC:j=k
    ·subst lC;exact AV
    ·rw[getD_set_ne true lC]at Bf;exact Bf
   refine wpOp_mono (λa' w' h3=>⟨λ_=>h3.2.1 tZ,ih (listed.setIfInBounds j true) a' w' KD (ready_mono hr (Ne.symm iR)) h3.1 (h3.2.1 tZ) ?_⟩) h2;rw[Array.setIfInBounds_comm _ _ iR];exact h3.2.2
theorem qED(i:Nat){oi:Oper}{v:Value}{fuel:Nat}{listed:Array Bool}{a:Act}{w:World}
 (hs:Region.noSelect ops=true) (hf:Region.free md ops listed i=true) (hr:(Region.ready md ops listed).contains i=true) (hl:waits md ops last i=true) (hS:S w)
 (hi:ops[i]?=some oi) (hwd:Region.wanted oi (yielded ops a.tmps)=true) (hy:∀w,S w->(execOp a.eval oi).run P w=.ok (.value v) w) (hQ:∀c a w,Q (.panic c) (a.put oi.dst v) w->Q (.panic c) a w)
 (h:lZ P md ops Q S last fuel (listed.setIfInBounds i true) (a.put oi.dst v) w):lZ P md ops Q S last (fuel+1) listed a w:=
 qrJ hi (Region.noSelect_spec hs) hQ hl fuel listed a w (Region.free_spec hi hf) (by simpa using hr) (.inl ⟨hwd,hy⟩) hS h
structure MU(P:Program)(md:Region.Mode)(ops:Array Oper)(Q:Exit->Act->World->Prop)(S:World->Prop)(last:Nat)(is:List Nat)(fuel:Nat)(listed:Array Bool)(a:Act)(w:World):Prop where
 out:lZ P md ops Q S last fuel listed a w
theorem bH(is:List Nat){fuel:Nat}{listed:Array Bool}{a:Act}{w:World}(h:MU P md ops Q S last is fuel listed a w):lZ P md ops Q S last fuel listed a w:=h.out
theorem bI{fuel:Nat}{listed:Array Bool}{a:Act}{w:World}(h:lZ P md ops Q S last fuel listed a w):MU P md ops Q S last [] fuel listed a w:=⟨h⟩
theorem bG{i:Nat}{is:List Nat}{oi:Oper}{v:Value}{fuel:Nat}{listed:Array Bool}{a a':Act}{w:World}
 (h:MU P md ops Q S last is fuel (listed.setIfInBounds i true) a' w)
 (hc:(Region.noSelect ops&&Region.free md ops listed i&&(Region.ready md ops listed).contains i&&waits md ops last i)=true:=by kernel_rfl) (hS:S w:=by first|exact ak|exact hHeld)
 (hi:ops[i]?=some oi:=by simp only[sO,sP,sQ];rfl) (hwd:Region.wanted oi (yielded ops a.tmps)=true:=by rfl) (hQ:∀c a w v,Q (.panic c) (a.put oi.dst v) w->Q (.panic c) a w:=by exactλ_ _ _ _ h=>h)
 (hy:∀w,S w->(execOp a.eval oi).run P w=.ok (.value v) w:=by intro wS hSw;(first|obtain⟨S0,⟨A1,A2,A3,A4⟩,⟨A5,A6,A7,A8⟩,A9,A10,A11,A12⟩:=hSw|obtain⟨⟨A1,A2,A3,A4⟩,⟨A5,A6,A7,A8⟩,⟨A9,A10,A11,A12⟩,S1,S2,S3⟩:=hSw|obtain⟨⟨A1,A2,A3,A4⟩,⟨A5,A6,A7,A8⟩,A9,A10,A11,A12⟩:=hSw|obtain⟨S0,⟨S1,S2,S3,S4⟩,S5,S6,S7,S8⟩:=hSw|obtain⟨⟨S1,S2,S3,S4⟩,S5,S6,S7,S8⟩:=hSw|obtain⟨S1,S2,S3,S4⟩:=hSw|obtain⟨S1,S2⟩:=hSw|skip);go_simp;try with_reducible rfl)
 (ha:a.put oi.dst v=a':=by(try simp only[Act.put,eO,eQ,eT])<;>exact rfl):MU P md ops Q S last (i::is) (fuel+1) listed a w:=by
 subst ha;simp only[Bool.and_eq_true]at hc;exact⟨qED i hc.1.1.1 hc.1.1.2 hc.1.2 hc.2 hS hi hwd hy (λc a w=>hQ c a w v) h.out⟩
theorem nx{W K:Act->World->Prop}{i l:Nat}{S:World->Prop}(hK:Shut (∀a w,(i≠l->S w)->W a w->K a w)){a a':Act}{w:World}(hS:S w)(h:W a' w)(ha:a=a':=by(try simp only[Act.put,eO,eQ,eT])<;>exact rfl):K a w:=by
 subst ha;exact hK.out _ _ (λ_=>hS) h
theorem ny{W K:Act->World->Prop}{i l:Nat}{S:World->Prop}(hK:Shut (∀a w,(i≠l->S w)->W a w->K a w)){a a':Act}{w:World}(hS:S w)(h:S w->W a' w)(ha:a=a':=by(try simp only[Act.put,eO,eQ,eT])<;>exact rfl):K a w:=by
 subst ha;exact hK.out _ _ (λ_=>hS) (h hS)
theorem aI(i:Nat){o:Oper}{fuel:Nat}{listed:Array Bool}{a:Act}{w:World}
 (h:∀K':Act->World->Prop,Shut (∀a w,(i≠last->S w)->lZ P md ops Q S last fuel (listed.setIfInBounds i true) a w->K' a w)->if Region.wanted o (yielded ops a.tmps)=true then Oper.wp P o a w K' Q else K' (a.put o.dst undef) w) (hr:Region.ready md ops listed=[i]:=by kernel_rfl) (ho:ops[i]?=some o:=by simp only[sO,sP,sQ];rfl):lZ P md ops Q S last (fuel+1) listed a w:=by
 refine⟨λh0=>(by rw[h0]at hr;cases hr),λj hj=>?_⟩;rw[hr]at hj;simp only[List.mem_singleton]at hj;subst hj;exact wpOp_step ho λK' hK=>h K' λa w h1 h2=>hK a w ⟨h1,h2⟩
theorem oC(i j:Nat){oi oj:Oper}{fuel:Nat}{listed:Array Bool}{a:Act}{w:World}
 (h:∀K':Act->World->Prop,Shut (∀a w,(i≠last->S w)->lZ P md ops Q S last fuel (listed.setIfInBounds i true) a w->K' a w)->if Region.wanted oi (yielded ops a.tmps)=true then Oper.wp P oi a w K' Q else K' (a.put oi.dst undef) w)
 (h':∀K':Act->World->Prop,Shut (∀a w,(j≠last->S w)->lZ P md ops Q S last fuel (listed.setIfInBounds j true) a w->K' a w)->if Region.wanted oj (yielded ops a.tmps)=true then Oper.wp P oj a w K' Q else K' (a.put oj.dst undef) w) (hr:Region.ready md ops listed=[i,j]:=by kernel_rfl) (hi:ops[i]?=some oi:=by simp only[sO,sP,sQ];rfl) (hj:ops[j]?=some oj:=by simp only[sO,sP,sQ];rfl):lZ P md ops Q S last (fuel+1) listed a w:=by
 refine⟨λh0=>(by rw[h0]at hr;cases hr),λq hq=>?_⟩;rw[hr]at hq;simp only[List.mem_cons,List.not_mem_nil,or_false]at hq;rcases hq with rfl|rfl
 ·exact wpOp_step hi λK' hK=>h K' λa w h1 h2=>hK a w ⟨h1,h2⟩
 ·exact wpOp_step hj λK' hK=>h' K' λa w h1 h2=>hK a w ⟨h1,h2⟩
theorem kP{listed:Array Bool}{a:Act}{w:World}{fuel:Nat}(h:Q .normal a w)(hr:Region.ready md ops listed=[]:=by kernel_rfl):
 lZ P md ops Q S last fuel listed a w:=by
 cases fuel with
 |zero=>exact⟨hr,h⟩
 |succ _=>exact⟨λ_=>h,by rw[hr];simp⟩
theorem fz{listed:Array Bool}{K:Act->World->Prop}{a a':Act}{w:World}{fuel i l:Nat}{S':World->Prop}(hK:Shut (∀a w,(i≠l->S' w)->lZ P md ops Q S last fuel listed a w->K a w))(h:Q .normal a' w)(hr:Region.ready md ops listed=[]:=by kernel_rfl)(hl:i=l:=by rfl)(ha:a=a':=by(try simp only[Act.put,eO,eQ,eT])<;>exact rfl):K a w:=by
 subst ha;exact hK.out _ _ (λh=>absurd hl h) (kP h hr)
theorem fB(S:World->Prop)(last:Nat){id:Nat}{a:Act}{w:World}(hS:S w.drew)
 (h:S w.drew->lZ P .any ops Q S last ops.size (Array.replicate ops.size false) a w.drew) (hm:P.follows .mixedOrders=true:=by kernel_rfl):(Code.region id ops true).wp P Q a w:=
 wp_region_any hm (qrM _ _ _ _ (h hS))
end
def EC(_:World):Prop:=True
theorem EC.ext{w:World}(_:EC w)(w':World):EC w':=trivial
theorem dL.take{M:Nat->Prop}{w:World}{b off n c:Nat}{d:Nat->Nat}(h:dL M w (.slice (some ⟨b,off,none⟩) n c) n d)(h0:0<n){k:Nat}(hk:k<=n):dL M w (.slice (some ⟨b,off,none⟩) k c) k d:=by
 obtain⟨h1,h2,h3⟩:=h;refine⟨by omega,λi hi=>h2 i (by omega),?_⟩;rcases h3 with⟨h3,_⟩|⟨b',off',cap,hv,hn,hc,hb,hcell⟩
 ·omega
 ·simp only[Value.slice.injEq,Option.some.injEq,Addr.mk.injEq,and_true]at hv;obtain⟨⟨rfl,rfl⟩,_,rfl⟩:=hv;exact .inr ⟨b,off,c,rfl,by omega,hc,hb,λi hi=>hcell i (by omega)⟩
theorem dL.drop{M:Nat->Prop}{w:World}{b off n c:Nat}{d:Nat->Nat}(h:dL M w (.slice (some ⟨b,off,none⟩) n c) n d)(h0:0<n){k:Nat}(hk:k<=n):dL M w (.slice (some ⟨b,off+k,none⟩) (n-k) (c-k)) (n-k) (λi=>d (k+i)):=by
 obtain⟨h1,h2,h3⟩:=h;refine⟨by omega,λi hi=>h2 _ (by omega),?_⟩;rcases h3 with⟨h3,_⟩|⟨b',off',cap,hv,hn,hc,hb,hcell⟩
 ·omega
 ·simp only[Value.slice.injEq,Option.some.injEq,Addr.mk.injEq,and_true]at hv;obtain⟨⟨rfl,rfl⟩,_,rfl⟩:=hv;exact .inr ⟨b,off+k,c-k,rfl,by omega,by omega,hb,λi hi=>by rw[Nat.add_assoc];exact hcell _ (by omega)⟩
theorem qoL{s s':Nat->Nat}{off N T x:Nat}(hT:T=off+N)(hs:∀i,i<off\/off+N<=i->s' i=s i)(hv:nv (λi=>s' (off+i)) N=nv (λi=>s (off+i)) N+x):nv s' T=nv s T+4294967296^off*x:=by
 subst hT;rw[xW,xW,hv,ou s' s off λi hi=>hs i (.inl hi),Nat.mul_add,Nat.add_assoc]
theorem qoK{s:Nat->Nat}{off N T x:Nat}(hT:T=off+N)(h:nv s T+4294967296^off*x<4294967296^T):nv (λi=>s (off+i)) N+x<4294967296^N:=by
 subst hT;rw[xW,Nat.pow_add]at h
 have h2:4294967296^off*(nv (λi=>s (off+i)) N+x)<4294967296^off*4294967296^N:=by rw[Nat.mul_add];omega
 exact Nat.lt_of_mul_lt_mul_left h2
theorem XR{w:World}{g N:Nat}{s p:Nat->Nat}{off k:Nat}(hB:au w g 140 N (over (λi=>.int .u32 (s i)) off k (λi=>.int .u32 (p i))))(hs:∀i,i<N->s i<4294967296)(hp:∀i,i<k->p i<4294967296):
 iU w g N (λi=>if off<=i/\i<off+k then p (i-off)else s i):=by
 refine⟨hB.congr λi _=>?_,λi hi=>?_⟩
 ·unfold over;dsimp only;split<;>rfl
 ·dsimp only
  split
  ·exact hp _ (by omega)
  ·exact hs i hi
theorem qpX(k N:Nat)(p:Nat->Nat)(h:k<=N):nv (λi=>if 0<=i/\i<0+k then p (i-0)else 0) N=nv p k:=by
 obtain⟨r,rfl⟩:∃r,N=k+r:=⟨N-k,by omega⟩;rw[xW,ou _ p k (λi hi=>by rw[av (by omega)];rfl),ou _ (λ_=>0) r (λi _=>by rw[aj (by omega)]),OJ];omega
theorem qBx(k r q N:Nat)(p t:Nat->Nat)(hq:q=k)(hN:N=k+r):nv (λi=>if q<=i/\i<q+r then t (i-q)else if 0<=i/\i<0+k then p (i-0)else 0) N=nv p k+4294967296^k*nv t r:=by
 subst hq hN;rw[xW,ou _ p q (λi hi=>by rw[aj (by omega),av (by omega)];rfl),ou _ t r (λi hi=>by rw[av (by omega),Nat.add_sub_cancel_left])]
theorem qzQ(a0 a1 b0 b1:Nat):a0*b0+a1*b1<=(a0+a1)*(b0+b1)/\(a0+a1)*(b0+b1)-(a0*b0+a1*b1)=a0*b1+a1*b0:=by
 have:(a0+a1)*(b0+b1)=a0*b0+a1*b1+(a0*b1+a1*b0):=by
  rw[Nat.add_mul,Nat.mul_add,Nat.mul_add];omega
 omega
theorem qzR(a0 a1 b0 b1 P:Nat):a0*b0+P*P*(a1*b1)+P*(a0*b1+a1*b0)=(a0+P*a1)*(b0+P*b1):=by
 rw[Nat.add_mul,Nat.mul_add,Nat.mul_add,Nat.mul_add]
 have e1:P*a1*(P*b1)=P*P*(a1*b1):=by rw[Nat.mul_mul_mul_comm]
 have e2:a0*(P*b1)=P*(a0*b1):=by rw[Nat.mul_left_comm]
 have e3:P*a1*b0=P*(a1*b0):=Nat.mul_assoc ..;omega
theorem qxs(n:Nat):(((n:Int)+1)/2)=(((n+1)/2:Nat):Int):=by
 omega
theorem qqf(K:Nat)(ih:qiO K)(M:Nat->Prop)(sw:Bool)(a1 a2:Option Addr)(c1 c2 n m:Nat)(d e:Nat->Nat)(w:World)(h:dL M w (.slice a1 n c1) n d)(h':dL M w (.slice a2 m c2) m e)(hL:n+m<=1099511627776)(hK:n+m<=K+1)(hs:48<=m)(pR:m<=n)(hsw:sw=true->m<n)(hM:Mb M w):
 Calls Tryz.prog 141 (if sw then #[.slice a2 m c2,.slice a1 n c1]else #[.slice a1 n c1,.slice a2 m c2]) w (JE w (n+m) (nv d n*nv e m)):=by
 obtain⟨i0,hi,hz0,hz1,hz2⟩:=info_parts Tryz.Fu;obtain⟨b1,o1,rfl,hb1,_⟩:=mZ h (by omega);obtain⟨b2,o2,rfl,gU,_⟩:=mZ h' (by omega);have uE:=ae h;have xh:=ae h'
 have qme:n<=c1/\c1<=9223372036854775807:=by
  rcases h.2.2 with⟨h0,_⟩|⟨_,_,_,hv,hn,hc,_⟩
  ·omega
  ·simp only[Value.slice.injEq,true_and]at hv;obtain⟨_,rfl⟩:=hv;unfold maxLen at hc;omega
 have qmf:m<=c2/\c2<=9223372036854775807:=by
  rcases h'.2.2 with⟨h0,_⟩|⟨_,_,_,hv,hn,hc,_⟩
  ·omega
  ·simp only[Value.slice.injEq,true_and]at hv;obtain⟨_,rfl⟩:=hv;unfold maxLen at hc;omega
 have pE:=ae ih;have dQ:=ae hM;obtain⟨fw,qFI⟩:=qme;obtain⟨eX,qFJ⟩:=qmf;clear h h' ih hM
 have yY:((n:Int)<(m:Int))=False:=by simp;omega
 have qGt:((m:Int)<48)=False:=by simp;omega
 cases sw
 case' false=>simp only[Bool.false_eq_true,if_false]
 case' true=>
  simp only[if_true]
  have qGC:(m:Int)<(n:Int):=by have:=hsw rfl;omega
 all_goals
  clear hsw
  go_enter Tryz.func141,Tryz.ntmps141
  go_wp2_with (first|(refine wpList_make_full _ rfl _ _ _ rfl w.heap.size 140 i0 (.int .u32 0) 1 Tryz.underlying28 hi hz0 hz1 .i64 .i64 _ _ (n+m) rfl rfl ?c4 ?c5 ?c2 ?c3 ?c6 ?_))
  case c2=>rw[hz2];omega
  case c3=>unfold maxLen;omega
  case c4=>go_num
  case c5=>go_num
  case c6=>simp
  intro w1 hown hgrow;have bR:iU w1 w.heap.size (n+m) (λ_=>0):=⟨au.Bq hown,λ_ _=>(by decide:0<4294967296)⟩;have tu:=ae bR;have aP:=ae (mE hgrow);have Dl:=bR.1.lt;clear hown hgrow bR
  by_cases hA:nv d n=0
  ·have HF:Hid (JE w (n+m) (nv d n*nv e m) (.returned (.slice (some ⟨w.heap.size,0,none⟩) (n+m) (n+m))) w1):=⟨_,_,rfl,aA _,tu.out,by rw[OJ,hA,Nat.zero_mul],aP.out⟩;have aR:=Il _ (nv d n) w1 ⟨_,_,uE.out.ext aP.out,rfl⟩;rw[decide_eq_true hA]at aR;have aJ:=ae aR;clear aR;go_wp2_with (fail);refine aJ.out.mono ?_;rintro e' w' ⟨rfl,rfl⟩;go_wp2;go_ret;exact HF.out
  ·have qbD:=Il _ (nv d n) w1 ⟨_,_,uE.out.ext aP.out,rfl⟩;rw[decide_eq_false hA]at qbD;have YF:=ae qbD;clear qbD
   by_cases hB:nv e m=0
   ·have HF:Hid (JE w (n+m) (nv d n*nv e m) (.returned (.slice (some ⟨w.heap.size,0,none⟩) (n+m) (n+m))) w1):=⟨_,_,rfl,aA _,tu.out,by rw[OJ,hB,Nat.mul_zero],aP.out⟩;have aR:=Il _ (nv e m) w1 ⟨_,_,xh.out.ext aP.out,rfl⟩;rw[decide_eq_true hB]at aR;have aJ:=ae aR;clear aR;go_wp2_with (fail);refine YF.out.mono ?_;rintro e' w' ⟨rfl,rfl⟩;go_wp2_with (fail);refine aJ.out.mono ?_;rintro e' w' ⟨rfl,rfl⟩;go_wp2;go_ret;exact HF.out
   ·have qbE:=Il _ (nv e m) w1 ⟨_,_,xh.out.ext aP.out,rfl⟩;rw[decide_eq_false hB]at qbE;have qgw:=ae qbE;clear qbE hA hB;go_wp2_with (fail);refine YF.out.mono ?_;rintro e' w' ⟨rfl,rfl⟩;go_wp2_with (fail);refine qgw.out.mono ?_;rintro e' w' ⟨rfl,rfl⟩;clear YF qgw
    go_upto_region 9 with(fail)
    rw[qxs];obtain⟨H,hH⟩:∃H,H=(n+1)/2:=⟨_,rfl⟩;rw[<-hH]
    have hH1:n<=2*H:=by omega
    have hH2:2*H<=n+1:=by omega
    have kH:Mb (Mx M w.heap.size (w.heap.size+1)) w1:=Mx.mb dQ.out aP.out.size (by omega);have VK:=(uE.out.more (M':=Mx M w.heap.size (w.heap.size+1)) (Mx.more (aA _))).ext aP.out;have J7:=(xh.out.more (M':=Mx M w.heap.size (w.heap.size+1)) (Mx.more (aA _))).ext aP.out;have FN:=ae VK;have nu:=ae J7
    have Ew:Hid (nv d n=nv d H+4294967296^H*nv (λi=>d (H+i)) (n-H)):=by
     show nv d n=_;rw[<-xW,show H+(n-H)=n by omega]
    clear VK J7 hH uE xh dQ;have jm:=ae kH;clear kH
    by_cases hmH:m<=H
    ·have rR:=ae (pE.out _ _ _ _ _ H m d e w1 (by omega) (FN.out.take (by omega) (show H<=n by omega)) nu.out (by omega))
     have tmH:(m:Int)<=(H:Int):=by omega
     go_wp2_with (fail);refine rR.out.mono ?_;rintro q w2 ⟨g2,s2,rfl,fE,bJ,hv2,az⟩;have yQ:=tu.out.ext az;have cK:=ae bJ;have Qi:=ae hv2;have aZ:=ae az;clear rR bJ hv2 az
     go_wp2_with (refine TP rfl (.tmp 44) (.tmp 49) _ _ rfl 140 Tryz.underlying28 (by rw[hi];simp[hz1]) _ _ _ _ _ _ rfl rfl w.heap.size 0 140 (n+m) _ yQ.1 (H+m) ?k1 (λi=>.int .u32 (s2 i)) ?k2 ?k3 ?k4 ?_)
     case k1=>show _=min _ _;omega
     case k2=>exactλ_=>⟨g2,0,⟨rfl,rfl⟩,λj hj=>by rw[Nat.zero_add];exact cK.out.1.cell hj⟩
     case k3=>omega
     case k4=>exactλj hj=>rfl
     intro w3 eG iM;have VQ:=XR eG (λ_ _=>(by decide:0<4294967296)) (λi hi=>cK.out.2 i hi);have hV3:=qpX (H+m) (n+m) s2 (by omega);generalize mJ:(λi=>if 0<=i/\i<0+(H+m)then s2 (i-0)else 0)=s3 at VQ hV3;have qJ:Kp (Mx M w.heap.size (w.heap.size+1)) w1 w3:=(Kp.gZ aZ.out).trans (Kp.grown iM (λk hk=>by cases hk;exact Mx.at (by omega)));have Nt:Ext w w3:=(aP.out.trans aZ.out).grown iM (λk hk=>by cases hk;exact aA _);have dK:=ae Nt;have HD3:=ae VQ;have BZ:Hid (nv s3 (n+m)=nv d H*nv e m):=hV3.trans Qi.out;have wX:=ae (pE.out _ _ _ _ _ (n-H) m _ e w3.drew (by omega) ((((FN.out.kp qJ).ext (Ext.refl _).drew)).drop (by omega) (show H<=n by omega)) ((nu.out.kp qJ).ext (Ext.refl _).drew) (by omega));have PV:Hid (Mb (Mx M w.heap.size (w.heap.size+1)) w3):=jm.out.size qJ.1;have Ff:=VQ.1.lt;clear eG iM qJ Nt VQ hV3 mJ yQ aZ Qi cK fE
     have hcH:(H:Int)<=(n:Int)+(m:Int):=by omega
     have qxC:n+m≠H:=by omega
     have qxD:c1≠H:=by omega
     have qxA:(H:Int)<=(n:Int):=by omega
     have qxB:(H:Int)<=(c1:Int):=by omega
     go_wp2;refine fB EC 10 trivial λhHeld=>?_;refine bH [0,1,2,3,4,5,6] ?_;(iterate 7 refine bG ?_);refine bI ?_
     (refine aI 7 λK hK=>?_);go_simp;(refine(wX.out).mono ?_);rintro e_ w4 ⟨g4,s4,rfl,jh,gY,Sm,bg⟩;go_wp2_with (fail);(try clear ak);(refine ny hK (hHeld.ext w4) λak=>?_);clear hK K
     have qFZ:w3.heap.size<=g4:=jh;have aR:=Li (M:=Mx M w.heap.size (w.heap.size+1)) gY.1 (λhg=>absurd (PV.out _ hg) (by omega)) (by unfold maxLen;omega) gY.2 (by have:=yJ _ _ gY.2;omega);rw[Sm]at aR;have aJ:=ae aR;have jl:Hid (Ext w3 w4):=((Ext.refl w3).drew).trans bg;clear aR wX gY Sm jh
     (refine aI 8 λK hK=>?_);go_simp;(refine(aJ.out).mono ?_);rintro e_ wz ⟨u,rfl,hu,rfl⟩;go_wp2_with (fail);(try clear ak);(refine ny hK (hHeld.ext w4) λak=>?_);clear hK K
     obtain⟨X,hX,Db,_⟩:=hu.len;obtain⟨ua,uc,rfl⟩:=kW hX;have Gb:=ae Db
     have gV:nv s3 (n+m)+4294967296^H*nv X (aF (nv (λi=>d (H+i)) (n-H)*nv e m))=nv d n*nv e m:=by
      rw[Db,BZ.out,Ew.out,Nat.add_mul,Nat.mul_assoc]
     have Ko:aF (nv (λi=>d (H+i)) (n-H)*nv e m)<=n+m-H:=by
      have h1:=nN (nv (λi=>d (H+i)) (n-H)) (nv e m);have h2:=yJ (λi=>d (H+i)) (n-H) (λi hi=>FN.out.2.1 _ (by omega));have h3:=yJ e m nu.out.2.1;omega
     have GQ:nv d n*nv e m<4294967296^(n+m):=by
      rw[Nat.pow_add];exact Nat.mul_lt_mul'' (qM d n FN.out.2.1) (qM e m nu.out.2.1)
     have O6:=ae (qpl w.heap.size H (n+m-H) (n+m-H) (n+m) ua uc _ s3 X w4 (HD3.out.ext jl.out) (by omega) hX (λh0 p hp=>by
      subst hp;obtain⟨b,o,e5,hb,_⟩:=mZ hX h0;rcases hX.2.2 with⟨h6,_⟩|⟨b',off',cap',hv,_,_,hb',_⟩
      ·omega
      ·simp only[Value.slice.injEq,true_and,Option.some.injEq]at hv
       rw[hv.1];exactλe6=>hb'.2 ((show b'=w.heap.size from e6) ▸ Mx.at ⟨aA _,Nat.lt_succ_self _⟩)) Ko (by omega) (qoK (T:=n+m) (by omega) (by rw[gV];exact GQ)))
     have vL:=ae gV;generalize aF (nv (λi=>d (H+i)) (n-H)*nv e m)=xl at*;clear hX Db gV GQ hu aJ Gb
     (refine aI 9 λK hK=>?_);go_simp;(refine(O6.out).mono ?_);rintro e_ w6 ⟨s6,rfl,hD6,KX,H8,bK⟩;go_wp2_with (fail);(try clear ak);(refine ny hK (hHeld.ext w6) λak=>?_);clear hK K
     refine kP ?_;have hval:=qoL (T:=n+m) (by omega) KX H8;rw[vL.out]at hval;have HF:Hid (JE w (n+m) (nv d n*nv e m) (.returned (.slice (some ⟨w.heap.size,0,none⟩) (n+m) (n+m))) w6):=⟨_,_,rfl,aA _,hD6,hval,(dK.out.trans jl.out).grown bK (λk hk=>by cases hk;exact aA _)⟩;clear hval hD6 KX H8 bK O6 hHeld ak bg;go_wp2;go_ret;exact HF.out
    ·have tmH:¬(m:Int)<=(H:Int):=by omega
     have hcH:(H:Int)<=(n:Int)+(m:Int):=by omega
     have qxA:(H:Int)<=(n:Int):=by omega
     have qxB:(H:Int)<=(c1:Int):=by omega
     have qxC:n+m≠H:=by omega
     have qxD:c1≠H:=by omega
     have qFK:(H:Int)<=(m:Int):=by omega
     have qFL:(H:Int)<=(c2:Int):=by omega
     have qFM:c2≠H:=by omega
     have Js:Hid (nv e m=nv e H+4294967296^H*nv (λi=>e (H+i)) (m-H)):=by
      show nv e m=_;rw[<-xW,show H+(m-H)=m by omega]
     have UR:=ae (FN.out.take (by omega) (show H<=n by omega));have UT:=ae (nu.out.take (by omega) (show H<=m by omega));have Uj:=ae (FN.out.drop (by omega) (show H<=n by omega));have l5:=ae (nu.out.drop (by omega) (show H<=m by omega));have rR:=ae (pE.out _ _ _ _ _ H H d e w1.drew (by omega) (UR.out.ext (Ext.refl _).drew) (UT.out.ext (Ext.refl _).drew) (by omega));go_wp2;refine fB EC 7 trivial λhHeld=>?_;refine bH [0,1,2,3,4,5] ?_;(iterate 6 refine bG ?_);refine bI ?_
     (refine aI 6 λK hK=>?_);go_simp;(refine(rR.out).mono ?_);rintro e_ w2 ⟨g2,s2,rfl,fE,bJ,hv2,az⟩;go_wp2_with (fail);(try clear ak);(refine ny hK (hHeld.ext w2) λak=>?_);clear hK K
     (refine aI 7 λK hK=>?_);go_simp;(refine fz hK ?_);clear hK K
     have cK:=ae bJ;have Qi:=ae hv2;have aZ:Hid (Ext w1 w2):=((Ext.refl w1).drew).trans az;have qxP:w1.heap.size<=g2:=fE;clear rR bJ hv2 az hHeld ak fE;have Us:=ae (pE.out _ _ _ _ _ (n-H) (m-H) _ _ w2.drew (by omega) ((Uj.out.ext aZ.out).ext (Ext.refl _).drew) ((l5.out.ext aZ.out).ext (Ext.refl _).drew) (by omega));go_wp2;refine fB EC 7 trivial λhHeld=>?_;refine bH [0,1,2,3,4,5] ?_;(iterate 6 refine bG ?_);refine bI ?_
     (refine aI 6 λK hK=>?_);go_simp;(refine(Us.out).mono ?_);rintro e_ w3 ⟨g3,s3,rfl,iM,eG,Sl,aN⟩;go_wp2_with (fail);(try clear ak);(refine ny hK (hHeld.ext w3) λak=>?_);clear hK K
     (refine aI 7 λK hK=>?_);go_simp;(refine fz hK ?_);clear hK K
     have sW:=ae eG;have BZ:=ae Sl;have dK:Hid (Ext w2 w3):=((Ext.refl w2).drew).trans aN;have qFY:w2.heap.size<=g3:=iM;clear Us eG Sl aN hHeld ak iM;have IY:=ae (aZ.out.trans dK.out);have PV:Hid (Mb (Mx M w.heap.size (w.heap.size+1)) w3.drew):=jm.out.size IY.out.size;have hxA:=yJ d H (λi hi=>UR.out.2.1 i hi);have hxB:=yJ e H (λi hi=>UT.out.2.1 i hi);have hyA:=yJ (λi=>d (H+i)) (n-H) (λi hi=>Uj.out.2.1 i hi);have hyB:=yJ (λi=>e (H+i)) (m-H) (λi hi=>l5.out.2.1 i hi)
     have GQ:nv d n*nv e m<4294967296^(n+m):=by
      rw[Nat.pow_add];exact Nat.mul_lt_mul'' (qM d n FN.out.2.1) (qM e m nu.out.2.1)
     have sZ:=ae GQ;have qhR:Hid (fC (Mx M w.heap.size (w.heap.size+1)) w3.drew _ (nv d H)):=⟨_,_,(UR.out.ext IY.out).ext (Ext.refl _).drew,rfl⟩;have qhS:Hid (fC (Mx M w.heap.size (w.heap.size+1)) w3.drew _ (nv (λi=>d (H+i)) (n-H))):=⟨_,_,(Uj.out.ext IY.out).ext (Ext.refl _).drew,rfl⟩;have qhT:Hid (fC (Mx M w.heap.size (w.heap.size+1)) w3.drew _ (nv e H)):=⟨_,_,(UT.out.ext IY.out).ext (Ext.refl _).drew,rfl⟩;have qhU:Hid (fC (Mx M w.heap.size (w.heap.size+1)) w3.drew _ (nv (λi=>e (H+i)) (m-H))):=⟨_,_,(l5.out.ext IY.out).ext (Ext.refl _).drew,rfl⟩;clear UR UT Uj l5 FN nu GQ;generalize nv d H=A0 at*;generalize nv e H=B0 at*;generalize nv (λi=>d (H+i)) (n-H)=A1 at*;generalize nv (λi=>e (H+i)) (m-H)=B1 at*
     have hzA:aF (A0+A1)<=H+1:=by have:=Gt A0 A1;omega
     have hzB:aF (B0+B1)<=H+1:=by have:=Gt B0 B1;omega
     have Ux:=ae (qzQ A0 A1 B0 B1)
     have HKS:Hid (A0*B0+4294967296^H*4294967296^H*(A1*B1)+4294967296^H*(A0*B1+A1*B0)=nv d n*nv e m):=by
      show _=_;rw[Ew.out,Js.out];exact qzR A0 A1 B0 B1 _
     have CTA:=ae (XK _ _ A0 A1 w3.drew PV.out qhR.out qhS.out (by omega));clear qhR qhS Ew Js;go_wp2;refine fB EC 16 trivial λhHeld=>?_;refine bH [0,1,2,3,4,5,7,8,9,10,11,12] ?_;(iterate 12 refine bG ?_);refine bI ?_
     (refine aI 6 λK hK=>?_);go_simp;(refine(CTA.out).mono ?_);rintro e_ w4 ⟨u6,rfl,hu6,bg⟩;go_wp2_with (fail);(try clear ak);(refine ny hK (hHeld.ext w4) λak=>?_);clear hK K
     (refine aI 13 λK hK=>?_);go_simp;(refine(XK _ _ B0 B1 w4 (PV.out.ext bg) (qhT.out.ext bg) (qhU.out.ext bg) (by omega)).mono ?_);rintro e_ w5 ⟨u13,rfl,qn3,aU⟩;go_wp2_with (fail);(try clear ak);(refine ny hK (hHeld.ext w5) λak=>?_);clear hK K
     obtain⟨XA,hXA,ql3,_⟩:=(hu6.ext aU).len;obtain⟨XB,hXB,ql4,_⟩:=qn3.len;obtain⟨uaA,ucA,rfl⟩:=kW hXA;obtain⟨uaB,ucB,rfl⟩:=kW hXB;have aR:=pE.out _ _ _ _ _ _ _ XA XB w5 (by omega) hXA hXB (by omega);rw[ql3,ql4]at aR;have CTP:=ae aR;clear aR hXA hXB ql3 ql4 hu6 qn3 CTA
     (refine aI 14 λK hK=>?_);go_simp;(refine(CTP.out).mono ?_);rintro e_ w6 ⟨g6,s6,rfl,bK,vR,H8,fM⟩;go_wp2_with (fail);(try clear ak);(refine ny hK (hHeld.ext w6) λak=>?_);clear hK K
     refine aI 15 λK hK=>?_;go_simp;refine nx hK trivial ?_;clear hK K;refine kP ?_;generalize hlA:aF (A0+A1)=lA at*;generalize RX:aF (B0+B1)=lB at*;have vJ:=ae vR;have Qk:=ae H8;have kZ:Hid (Ext w3 w6):=((Ext.refl w3).drew).trans ((bg.trans aU).trans fM)
     have qF0:w3.heap.size<=g6:=by have:=((bg.trans aU)).size;exact aK this bK
     have UB:=ae (PV.out.ext ((bg.trans aU).trans fM));clear vR H8 bg aU fM hHeld ak bK CTP qhT qhU hlA RX;have mJ:=aZ.out.size;have KX:=dK.out.size;have YW:=ae ((cK.out.ext dK.out).ext kZ.out);have YY:=ae (sW.out.ext kZ.out);have dY:fC (Mx M w.heap.size (w.heap.size+1)) w6 (.slice (some ⟨g2,0,none⟩) (H+H) (H+H)) (A0*B0):=⟨_,_,dL.Iq YW.out.1 (λhg=>hg.elim (λh=>absurd (jm.out _ (.inl h)) (by omega)) (λh=>by omega)) _ (aA _) (by omega) (aA _) (by unfold maxLen;omega) (λ_ _=>rfl) YW.out.2,Qi.out⟩;have hnH:fC (Mx M w.heap.size (w.heap.size+1)) w6 (.slice (some ⟨g3,0,none⟩) (n-H+(m-H)) (n-H+(m-H))) (A1*B1):=⟨_,_,dL.Iq YY.out.1 (λhg=>hg.elim (λh=>absurd (jm.out _ (.inl h)) (by omega)) (λh=>by omega)) _ (aA _) (by omega) (aA _) (by unfold maxLen;omega) (λ_ _=>rfl) YY.out.2,BZ.out⟩;have hnM:fC (Mx M w.heap.size (w.heap.size+1)) w6 (.slice (some ⟨g6,0,none⟩) (lA+lB) (lA+lB)) ((A0+A1)*(B0+B1)):=⟨_,_,dL.Iq vJ.out.1 (λhg=>hg.elim (λh=>absurd (jm.out _ (.inl h)) (by omega)) (λh=>by omega)) _ (aA _) (by omega) (aA _) (by unfold maxLen;omega) (λ_ _=>rfl) vJ.out.2,Qk.out⟩;have yo:=ae hnM
     have CTS:=ae (XK _ _ (A0*B0) (A1*B1) w6 UB.out dY hnH (by
      refine aK (fu Ux.out.1) ?_;have h1:=hnM.aF
      omega))
     clear dY hnH hnM vJ Qk hzA hzB;go_wp2_with (fail);refine CTS.out.mono ?_;rintro q w7 ⟨u7,rfl,Sj,mF⟩;have aR:=qe8 _ _ ((A0+A1)*(B0+B1)) (A0*B0+A1*B1) w7 (UB.out.ext mF) (yo.out.ext mF) Sj.dB Ux.out.1;rw[Ux.out.2]at aR;have CTU:=ae aR;have rP:=ae (kZ.out.trans mF);have qhN:=ae (UB.out.ext mF);clear aR Sj mF CTS yo Ux UB;go_wp2_with (fail);refine CTU.out.mono ?_;rintro q w8 ⟨u8,rfl,hu8,kJ⟩;have IZ:=ae (rP.out.trans kJ);have qE5:=ae (qhN.out.ext kJ);obtain⟨X,hX,Db,_⟩:=hu8.len;obtain⟨ua,uc,rfl⟩:=kW hX;have HX:=ae hX;have Gb:=ae Db;have yQ:=(tu.out.ext IY.out).ext IZ.out;have YX:=ae ((cK.out.ext dK.out).ext IZ.out);have YZ:=ae (sW.out.ext IZ.out);clear hX Db hu8 kJ CTU rP qhN YW YY cK sW;obtain⟨xl,Bh⟩:∃xl,xl=aF (A0*B1+A1*B0):=⟨_,rfl⟩;have UZ:=ae Bh;rw[<-Bh]at HX Gb⊢;clear Bh
     go_wp2_with (refine TP rfl (.tmp 99) (.tmp 100) _ _ rfl 140 Tryz.underlying28 (by rw[hi];simp[hz1]) _ _ _ _ _ _ rfl rfl w.heap.size 0 140 (n+m) _ yQ.1 (H+H) ?k1 (λi=>.int .u32 (s2 i)) ?k2 ?k3 ?k4 ?_)
     case k1=>show _=min _ _;omega
     case k2=>exactλ_=>⟨g2,0,⟨rfl,rfl⟩,λj hj=>by rw[Nat.zero_add];exact YX.out.1.cell hj⟩
     case k3=>omega
     case k4=>exactλj hj=>rfl
     intro w9 Nr hg9;have VR:=XR Nr (λ_ _=>(by decide:0<4294967296)) (λi hi=>YX.out.2 i hi);obtain⟨s9,hs9⟩:∃s9:Nat->Nat,s9=λi=>if 0<=i/\i<0+(H+H)then s2 (i-0)else 0:=⟨_,rfl⟩;rw[<-hs9]at VR;have HS9:=ae hs9;clear hs9;have qkB:iU w9 g3 (n-H+(m-H)) s3:=⟨YZ.out.1.grown hg9 (by intro e5;cases e5;omega),YZ.out.2⟩;have Zv:=ae hg9;have Y1:=ae qkB
     have hwz:2*(H:Int)<=(n:Int)+(m:Int):=by omega
     have qGZ:((2*(H:Int)).toNat)=2*H:=by omega
     have qG0:n+m≠2*H:=by omega
     clear Nr hg9 yQ qkB
     go_wp2_with (refine TP rfl (.tmp 105) (.tmp 106) _ _ rfl 140 Tryz.underlying28 (by rw[hi];simp[hz1]) _ _ _ _ _ _ rfl rfl w.heap.size (2*H) 140 (n+m) _ VR.1 (n-H+(m-H)) ?k1 (λi=>.int .u32 (s3 i)) ?k2 ?k3 ?k4 ?_)
     case k1=>show _=min _ _;omega
     case k2=>exactλ_=>⟨g3,0,⟨rfl,rfl⟩,λj hj=>by rw[Nat.zero_add];exact Y1.out.1.cell hj⟩
     case k3=>omega
     case k4=>exactλj hj=>rfl
     intro BA qkA G6;have VP:=XR qkA VR.2 (λi hi=>Y1.out.2 i hi);have WZ:=qBx (H+H) (n-H+(m-H)) (2*H) (n+m) s2 s3 (by omega) (by omega);rw[HS9.out]at VP;generalize (λi=>if 2*H<=i/\i<2*H+(n-H+(m-H))then s3 (i-2*H)else if 0<=i/\i<0+(H+H)then s2 (i-0)else 0)=s10 at VP WZ;rw[Qi.out,BZ.out,show H+H=H+H from rfl,Nat.pow_add]at WZ;have qm0:Kp (Mx M w.heap.size (w.heap.size+1)) w8 BA:=(Kp.grown Zv.out (λk hk=>by cases hk;exact Mx.at (by omega))).trans (Kp.grown G6 (λk hk=>by cases hk;exact Mx.at (by omega)));have qkW:Ext w BA:=((((aP.out.trans IY.out).trans IZ.out).grown Zv.out (λk hk=>by cases hk;exact aA _))).grown G6 (λk hk=>by cases hk;exact aA _);have qiz:=ae (HX.out.kp qm0);have qsi:=ae qkW
     have gV:nv s10 (n+m)+4294967296^H*nv X xl=nv d n*nv e m:=by rw[WZ,Gb.out];exact HKS.out
     have Ko:xl<=n+m-H:=by
      have h1:aF (nv X xl)<=n+m-H:=by
       rw[qC]
       have h2:4294967296^H*nv X xl<4294967296^H*4294967296^(n+m-H):=by
        rw[<-Nat.pow_add,show H+(n+m-H)=n+m by omega];have:=sZ.out;omega
       exact Nat.lt_of_mul_lt_mul_left h2
      rw[UZ.out];rw[Gb.out]at h1;exact h1
     have O6:=ae (qpl w.heap.size H (n+m-H) (n+m-H) (n+m) ua uc _ s10 X BA VP (by omega) qiz.out (λh0 p hp=>by
      subst hp;rcases qiz.out.2.2 with⟨h6,_⟩|⟨b',off',cap',hv,_,_,hb',_⟩
      ·omega
      ·simp only[Value.slice.injEq,true_and,Option.some.injEq]at hv
       rw[hv.1];exactλe6=>hb'.2 ((show b'=w.heap.size from e6) ▸ Mx.at ⟨aA _,Nat.lt_succ_self _⟩)) Ko (by omega) (qoK (T:=n+m) (by omega) (by rw[gV];exact sZ.out)))
     have vL:=ae gV;clear qkA G6 VP WZ qm0 qkW gV Ko VR HX Gb Zv Y1 YX YZ;go_wp2_with (fail);refine O6.out.mono ?_;rintro q w11 ⟨s11,rfl,qkQ,qnP,qn8,qmC⟩;have hval:=qoL (T:=n+m) (by omega) qnP qn8;rw[vL.out]at hval;have HF:Hid (JE w (n+m) (nv d n*nv e m) (.returned (.slice (some ⟨w.heap.size,0,none⟩) (n+m) (n+m))) w11):=⟨_,_,rfl,aA _,qkQ,hval,qsi.out.grown qmC (λk hk=>by cases hk;exact aA _)⟩;clear hval qkQ qnP qn8 qmC O6;go_wp2;go_ret;exact HF.out
theorem qAJ(K:Nat):qiO K:=by
 induction K with
 |zero=>intro M a1 a2 c1 c2 n m d e w hK h h' hL;exact qqg a1 a2 c1 c2 n m d e w h h' hL (.inl (by omega))
 |succ K ih=>
  intro M a1 a2 c1 c2 n m d e w hK h h' hL
  by_cases hs:n<48\/m<48
  ·exact qqg a1 a2 c1 c2 n m d e w h h' hL hs
  ·have g:=h.more (M':=λg=>M g/\g<w.heap.size) (λg hg=>.inl hg.1);have g':=h'.more (M':=λg=>M g/\g<w.heap.size) (λg hg=>.inl hg.1)
   by_cases hlt:n<m
   ·have c:=qqf K ih _ true a2 a1 c2 c1 m n e d w g' g (by omega) (by omega) (by omega) (by omega) (λ_=>hlt) (λg hg=>hg.2);rw[Nat.add_comm m n,Nat.mul_comm (nv e m)]at c;exact c
   ·exact qqf K ih _ false a1 a2 c1 c2 n m d e w g g' hL (by omega) (by omega) (by omega) (λh=>(by cases h)) (λg hg=>hg.2)
theorem qAH{M:Nat->Prop}(v v':Value)(n0 m0:Nat)(d0 e0:Nat->Nat)(w:World)(hM:Mb M w)(h:dL M w v n0 d0)(h':dL M w v' m0 e0)(hL:aF (nv d0 n0)+aF (nv e0 m0)<=1099511627776):
 Calls Tryz.prog 111 #[v,v'] w λq w'=>∃u,q=.returned u/\ic M w' u (nv d0 n0*nv e0 m0)/\Ext w w':=by
 have t1:=Yj d0 n0 h.2.1;have t2:=Yj e0 m0 h'.2.1;rw[<-t1, <-t2]at hL;clear t1 t2;have E1:Hid (nv d0 (tl d0 n0)=nv d0 n0):=sJ d0 n0;have E2:Hid (nv e0 (tl e0 m0)=nv e0 m0):=sJ e0 m0
 go_enter Tryz.func111,Tryz.ntmps111
 go_wp2_with (fail);refine(wL v n0 d0 w h).mono ?_;rintro e w' ⟨v1,rfl,hv1,rfl⟩;go_wp2_with (fail);refine(wL v' m0 e0 w h').mono ?_;rintro e w' ⟨v2,rfl,hv2,rfl⟩;generalize tl d0 n0=n at*;generalize tl e0 m0=m at*;obtain⟨a1,xA,rfl⟩:=kW hv1;obtain⟨a2,cap2,rfl⟩:=kW hv2;clear h h';go_wp2_with (fail);refine(qAJ (n+m) M a1 a2 xA cap2 n m d0 e0 w (aA _) hv1 hv2 (by omega)).mono ?_;rintro e w1 ⟨g,s,rfl,hg,hB,hv,he⟩;have c:=Li (M:=M) hB.1 (hM.new hg) (by unfold maxLen;omega) hB.2 (by have:=yJ _ _ hB.2;omega);rw[hv,E1.out,E2.out]at c;have C:=ae c;clear c hv hB;go_wp2_with (fail);refine C.out.mono ?_;rintro e' w2 ⟨u,rfl,hu,rfl⟩;go_wp2;go_ret;exact⟨u,rfl,hu,he⟩
theorem qAI{M:Nat->Prop}(v v':Value)(x y:Nat)(w:World)(hM:Mb M w)(h:fC M w v x)(h':fC M w v' y)(hL:aF x+aF y<=1099511627776):
 Calls Tryz.prog 111 #[v,v'] w λq w'=>∃u,q=.returned u/\ic M w' u (x*y)/\Ext w w':=by
 obtain⟨n,d,hr,rfl⟩:=h;obtain⟨m,d',sG,rfl⟩:=h';exact qAH v v' n m d d' w hM hr sG hL
theorem ai(w:Go.World):Ext w w:=Ext.refl w
end Go.Proofs.YtaafefeafonhdaaGreat
