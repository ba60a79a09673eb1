/- Rc -/
import Derived.Test.YtmcfpnmoklnhoaaGreatEc
import Derived.Test.YtmcfpnmoklnhoaaGreatQc
set_option linter.unusedVariables false
set_option linter.unusedSimpArgs false
namespace Go.Proofs.YtmcfpnmoklnhoaaGreat
def eM(x:Nat->Int)(m:Mo):Int:=if m.nn=true then x 0^m.a.toNat*x 1^m.b.toNat*x 2^m.c.toNat*x 3^m.d.toNat else 0
def ev(x:Nat->Int):List Tm->Int
 |[]=>0
 |t::l=>t.1*eM x t.2+ev x l
theorem lW(x:Nat->Int)(l r:List Tm):ev x (l++r)=ev x l+ev x r:=by
 induction l with
 |nil=>simp[ev]
 |cons t l ih=>simp only[List.cons_append,ev,ih,Int.add_assoc]
theorem ze(x:Nat->Int)(c:Int)(l:List Tm):ev x (smul c l)=c*ev x l:=by
 induction l with
 |nil=>simp[smul,ev]
 |cons t l ih=>
  show c*t.1*eM x t.2+ev x (smul c l)=_;rw[ih];simp only[ev]
  grind
theorem qsH(x:Nat->Int)(c:Int)(m:Mo)(l:List Tm):ev x (ins c m l)=c*eM x m+ev x l:=by
 induction l with
 |nil=>
  simp only[ins];split
  ·rename_i h;subst h;simp[ev]
  ·simp[ev]
 |cons s r ih=>
  simp only[ins]
  split
  ·rename_i h1;subst h1
   split
   ·rename_i h2;simp only[ev];generalize eM x s.2=p;generalize ev x r=u
    have e3:(s.1+c)*p=0:=by rw[h2,Int.zero_mul]
    grind
   ·simp only[ev];generalize eM x s.2=p;generalize ev x r=u
    grind
  ·split
   ·split
    ·rename_i h;subst h;simp
    ·simp only[ev]
   ·simp only[ev,ih];generalize ev x r=u;generalize s.1*eM x s.2=v;generalize c*eM x m=y
    grind
theorem IQ(x:Nat->Int):∀l:List Tm,ev x (norm l)=ev x l
 |[]=>rfl
 |t::l=>by
  have ih:=IQ x l;simp only[norm]
  split
  ·rw[qsH,ih];rfl
  ·rename_i h;show _=t.1*eM x t.2+ev x l;rw[ih,eM,if_neg h];simp
theorem eT(x:Nat->Int){l r:List Tm}(h:ae l r):ev x l=ev x r:=by
 rw[<-IQ x l, <-IQ x r,h.norm]
theorem qsA(x:Nat->Int)(p q:Mo)(hp:p.nn=true)(hq:q.nn=true):eM x (Mo.add p q)=eM x p*eM x q:=by
 obtain⟨x1,x2,x3,x4⟩:=(Mo.Ap p).1 hp;obtain⟨y1,y2,y3,y4⟩:=(Mo.Ap q).1 hq
 have h:(Mo.add p q).nn=true:=by rw[Mo.Ap];unfold Mo.add;refine⟨?_,?_,?_,?_⟩<;>simp only<;>omega
 unfold eM;rw[if_pos hp,if_pos hq,if_pos h];unfold Mo.add;simp only;rw[Int.toNat_add x1 y1,Int.toNat_add x2 y2,Int.toNat_add x3 y3,Int.toNat_add x4 y4,Int.pow_add,Int.pow_add,Int.pow_add,Int.pow_add];generalize x 0^p.a.toNat=p1;generalize x 0^q.a.toNat=q1;generalize x 1^p.b.toNat=p2;generalize x 1^q.b.toNat=q2;generalize x 2^p.c.toNat=p3;generalize x 2^q.c.toNat=q3;generalize x 3^p.d.toNat=p4;generalize x 3^q.d.toNat=q4
 grind
theorem qsK(x:Nat->Int)(k:Mo)(hk:k.nn=true)(l:List Tm)(hl:∀t∈l,t.2.nn=true):ev x (shift k l)=eM x k*ev x l:=by
 induction l with
 |nil=>show ev x []=_;simp[ev]
 |cons t l ih=>
  show t.1*eM x (Mo.add t.2 k)+ev x (shift k l)=_;rw[ih λs hs=>hl s (List.mem_cons_of_mem _ hs),qsA x _ _ (hl t (List.mem_cons_self ..)) hk];simp only[ev];generalize eM x t.2=p;generalize eM x k=q;generalize ev x l=r
  grind
theorem Uk(x:Nat->Int)(k:Mo)(hk:k.nn=true){l:List Tm}(hl:NN l):ev x (shift k l)=eM x k*ev x l:=by
 rw[<-IQ x l, <-qsK x k hk _ (Br l)];exact eT x ((l7 hl).symm.shift k)
theorem qhY(x:Nat->Int)(r:List Tm)(hr:NN r):∀l:List Tm,(∀t∈l,t.2.nn=true)->ev x (ai l r)=ev x l*ev x r
 |[],_=>by show ev x []=_;simp[ev]
 |s::l,hl=>by
  show ev x (shift s.2 (smul s.1 r)++ai l r)=_;rw[lW,qhY x r hr l λt ht=>hl t (List.mem_cons_of_mem _ ht),Uk x _ (hl s List.mem_cons_self) (λm hm=>by rw[iD,hr m hm];simp),ze];simp only[ev];generalize eM x s.2=p;generalize ev x r=q;generalize ev x l=u
  grind
theorem bQ(x:Nat->Int){l r:List Tm}(hl:NN l)(hr:NN r):ev x (ai l r)=ev x l*ev x r:=by
 rw[<-IQ x l, <-qhY x r hr _ (Br l)];exact eT x ((l7 hl).symm.mY r)
theorem qm(x:Nat->Int)(z:Int):ev x [(z,Mo.zero)]=z:=by
 have h:Mo.zero.nn=true:=by decide
 have e:eM x Mo.zero=1:=by unfold eM;rw[if_pos h];simp[Mo.zero]
 simp[ev,e]
def Au(t:Int)(c:Nat->Int):Nat->Int
 |0=>0
 |n+1=>Au t c n+c n*t^n
theorem qdc(t:Int)(c:Nat->Int):∀n,Au t c (n+1)=c 0+t*Au t (λi=>c (i+1)) n
 |0=>by simp[Au]
 |n+1=>by
  have ih:=qdc t c n;show Au t c (n+1)+c (n+1)*t^(n+1)=c 0+t*(Au t (λi=>c (i+1)) n+c (n+1)*t^n);rw[ih,Int.pow_succ];generalize Au t (λi=>c (i+1)) n=p;generalize t^n=q
  grind
theorem qns:∀(n:Nat)(c:Nat->Int),(∀t:Int,t≠0->Au t c n=0)->∀i,i<n->c i=0
 |0,_,_,i,hi=>absurd hi (Nat.not_lt_zero _)
 |n+1,c,h,i,hi=>by
  have h0:c 0=0:=by
   have h1:=h ((c 0).natAbs+1) (by omega);rw[qdc]at h1;have h2:(((c 0).natAbs:Int)+1)∣c 0:=⟨-Au (((c 0).natAbs:Int)+1) (λi=>c (i+1)) n,by rw[Int.mul_neg];omega⟩;exact Int.eq_zero_of_dvd_of_natAbs_lt_natAbs h2 (by omega)
  have h3:∀t:Int,t≠0->Au t (λi=>c (i+1)) n=0:=λt ht=>by
   have h1:=h t ht;rw[qdc,h0,Int.zero_add]at h1;rcases Int.mul_eq_zero.1 h1 with h2|h2
   ·exact absurd h2 ht
   ·exact h2
  cases i with
  |zero=>exact h0
  |succ i=>exact qns n _ h3 i (by omega)
theorem WG(L i:Nat):(xp L (i:Int)).nn=true:=by
 rw[Mo.Ap];unfold xp;simp only;refine⟨?_,?_,?_,?_⟩<;>split<;>omega
theorem qaq(x:Nat->Int)(L i:Nat)(h1:1<=L)(h4:L<=4):eM x (xp L (i:Int))=x (L-1)^i:=by
 unfold eM;rw[if_pos (WG L i)];rcases ME h1 h4 with rfl|rfl|rfl|rfl<;>simp[xp]
theorem qsI(x:Nat->Int)(L n:Nat)(P:Nat->List Tm)(h1:1<=L)(h4:L<=4)(hP:∀i,i<n->NN (P i)):ev x (aJ L n P)=Au (x (L-1)) (λi=>ev x (P i)) n:=by
 induction n with
 |zero=>rfl
 |succ n ih=>
  rw[fK,lW,ih λi hi=>hP i (by omega),Uk x _ (WG L n) (hP n (by omega)),qaq x L n h1 h4,Int.mul_comm];rfl
theorem qsL(x y:Nat->Int){l:List Tm}(hl:NN l)(h:∀k,1<=k->k<=4->x (k-1)≠y (k-1)->∀m,aB l m≠0->m.get k=0):ev x l=ev y l:=by
 rw[<-IQ x l, <-IQ y l];have hc:=qZ l
 have hk:∀t∈norm l,∀k,1<=k->k<=4->x (k-1)≠y (k-1)->t.2.get k=0:=λt ht k h1 h4 hne=>h k h1 h4 hne t.2 (by
  rw[<-l7 hl t.2]
  exact IP hc ht)
 clear hc;generalize norm l=r at*;clear hl h
 induction r with
 |nil=>rfl
 |cons t r ih=>
  show t.1*eM x t.2+ev x r=t.1*eM y t.2+ev y r;rw[ih λs hs=>hk s (List.mem_cons_of_mem _ hs)]
  congr 2
  unfold eM
  split
  ·have e:∀k,1<=k->k<=4->x (k-1)^(t.2.get k).toNat=y (k-1)^(t.2.get k).toNat:=λk h1 h4=>by
    by_cases hne:x (k-1)=y (k-1)
    ·rw[hne]
    ·rw[hk t List.mem_cons_self k h1 h4 hne];simp
   have e1:=e 1 (by omega) (by omega);have e2:=e 2 (by omega) (by omega);have e3:=e 3 (by omega) (by omega);have e4:=e 4 (by omega) (by omega);simp only[Mo.get]at e1 e2 e3 e4;simp at e1 e2 e3 e4;rw[e1,e2,e3,e4]
  ·rfl
theorem BC:∀l:List Tm,∃B:Nat,∀m,aB l m≠0->∀k,m.get k<=B
 |[]=>⟨0,λm hm=>absurd rfl hm⟩
 |t::l=>by
  obtain⟨B,hB⟩:=BC l;refine⟨B+t.2.a.natAbs+t.2.b.natAbs+t.2.c.natAbs+t.2.d.natAbs,λm hm k=>?_⟩
  by_cases h0:aB l m=0
  ·have ht:t.2=m:=Classical.byContradiction λhc=>hm (by simp only[aB];rw[if_neg hc,h0];rfl);subst ht;unfold Mo.get
   (repeat' split)<;>omega
  ·have:=hB m h0 k;omega
theorem qhX:∀(L:Nat),L<=4->∀l:List Tm,NN l->(∀m,aB l m≠0->∀k,L<k->k<=4->m.get k=0)->¬ae l []->∃x,ev x l≠0
 |0,_,l,hl,h,hz=>by
  obtain⟨m,hm⟩:=MK hz
  have h0:∀m,aB l m≠0->m=Mo.zero:=λm hm=>Mo.ext_get λk h1 h4=>by rw[h m hm k (by omega) h4,ve]
  obtain rfl:=h0 m hm
  have hs:ae l [(aB l Mo.zero,Mo.zero)]:=λq=>by
   simp only[aB]
   by_cases hq:Mo.zero=q
   ·subst hq;simp
   ·rw[if_neg hq];refine Classical.byContradiction λhc=>hq (h0 q (λe=>hc (by rw[e];rfl))).symm
  exact⟨λ_=>0,by rw[eT _ hs,qm];exact hm⟩
 |L+1,h4,l,hl,h,hz=>by
  obtain⟨m,hm⟩:=MK hz;have jm:m.nn=true:=Classical.byContradiction λhc=>hm (hl m (by simpa using hc));obtain⟨e,he⟩:∃e:Nat,m.get (L+1)=(e:Int):=⟨(m.get (L+1)).toNat,by have:=vL jm (L+1);omega⟩;have hc:=DT (k:=L+1) (by omega) h4 hm;rw[he]at hc
  have qkj:∀(i:Nat) m,aB (ck (L+1) (i:Int) l) m≠0->∀k,L<k->k<=4->m.get k=0:=λi m hm k hk ll=>by
   rw[mE (by omega) h4]at hm
   split at hm
   ·rename_i h0
    by_cases UX:k=L+1
    ·subst UX;exact h0
    ·have:=h _ hm k (by omega) ll;rw[gL,dX _ _ _ (by omega) h4,if_neg UX]at this;omega
   ·exact absurd rfl hm
  obtain⟨x,hx⟩:=qhX L (by omega) _ (eQ (by omega) h4 hl) (qkj e) hc;obtain⟨B,hB⟩:=BC l
  have hB':∀m,aB l m≠0->m.get (L+1)<((B+1+e:Nat):Int):=λm hm=>by have:=hB m hm (L+1);omega
  have hp:=OI (N:=B+1+e) (by omega) h4 hl hB';refine Classical.byContradiction λqt5=>?_;have oG:∀y,ev y l=0:=λy=>Classical.byContradiction λhc=>qt5 ⟨y,hc⟩
  have hz:=qns (B+1+e) (λi=>ev x (ck (L+1) (i:Int) l)) (λt _=>by
   have h1:=oG (λk=>if k=L then t else x k);rw[<-eT _ hp,qsI _ _ _ _ (by omega) h4 λi _=>eQ (by omega) h4 hl]at h1
   rw[show(λi:Nat=>ev x (ck (L+1) (i:Int) l))=λi:Nat=>ev (λk=>if k=L then t else x k) (ck (L+1) (i:Int) l)from funext λi=>qsL _ _ (eQ (by omega) h4 hl) λk h1 ll hne m hm=>by
    by_cases hk:k-1=L
    ·exact qkj i m hm k (by omega) ll
    ·rw[if_neg hk]at hne;exact absurd rfl hne]
   simpa using h1) e (by omega)
  exact hx hz
theorem qoc{l:List Tm}(hl:NN l)(h:∀x,ev x l=0):ae l []:=Classical.byContradiction λhc=>by
 obtain⟨x,hx⟩:=qhX 4 (Nat.le_refl _) l hl (λm _ k h1 h4=>by omega) hc;exact hx (h x)
theorem vM{l r:List Tm}(hl:NN l)(hr:NN r)(h:∀x,ev x l=ev x r):ae l r:=by
 have h1:ae (l++smul (-1) r) []:=qoc (λm hm=>by rw[gW,iD,hl m hm,hr m hm];rfl) λx=>by
  rw[lW,ze,h x];omega
 intro m;have:=h1 m;rw[gW,iD]at this;have e:aB ([]:List Tm) m=0:=rfl;omega
def mZ(c:Nat):Int:=if c%2=0 then 1 else-1
def Ct(P:Nat->Nat->List Tm)(c:Nat):Nat->Nat->List Tm:=λr k=>P (r+1) (if k<c then k else k+1)
def BF(D:(Nat->Nat->List Tm)->List Tm)(P:Nat->Nat->List Tm):Nat->List Tm
 |0=>[]
 |c+1=>BF D P c++smul (mZ c) (ai (P 0 c) (D (Ct P c)))
def lV:Nat->(Nat->Nat->List Tm)->List Tm
 |0,_=>[(1,Mo.zero)]
 |n+1,P=>BF (lV n) P (n+1)
def iJ(a:Nat->Nat->Int)(c:Nat):Nat->Nat->Int:=λr k=>a (r+1) (if k<c then k else k+1)
def jY(D:(Nat->Nat->Int)->Int)(a:Nat->Nat->Int):Nat->Int
 |0=>0
 |c+1=>jY D a c+mZ c*(a 0 c*D (iJ a c))
def jN:Nat->(Nat->Nat->Int)->Int
 |0,_=>1
 |n+1,a=>jY (jN n) a (n+1)
theorem qw1{l:List Tm}(h:NN l)(c:Int):NN (smul c l):=λm hm=>by rw[iD,h m hm];simp
theorem qW(z:Int):NN [(z,Mo.zero)]:=Aq λt ht=>by
 simp only[List.mem_singleton]at ht;subst ht;rfl
theorem qmI{D:(Nat->Nat->List Tm)->List Tm}{P:Nat->Nat->List Tm}(hD:∀c,NN (D (Ct P c)))(hP:∀i j,NN (P i j)):∀c,NN (BF D P c)
 |0=>NN.nil
 |c+1=>(qmI hD hP c).append (qw1 (Ar (hP 0 c) (hD c)) _)
theorem QW:∀(n:Nat)(P:Nat->Nat->List Tm),(∀i j,NN (P i j))->NN (lV n P)
 |0,_,_=>qW 1
 |n+1,_,h=>qmI (λc=>QW n _ λi j=>h _ _) h _
theorem qhW(x:Nat->Int){D:(Nat->Nat->List Tm)->List Tm}{DI:(Nat->Nat->Int)->Int}{P:Nat->Nat->List Tm}(hN:∀c,NN (D (Ct P c)))(hD:∀c,ev x (D (Ct P c))=DI (iJ (λi j=>ev x (P i j)) c))(hP:∀i j,NN (P i j)):∀c,ev x (BF D P c)=jY DI (λi j=>ev x (P i j)) c
 |0=>rfl
 |c+1=>by
  show ev x (BF D P c++smul (mZ c) (ai (P 0 c) (D (Ct P c))))=_;rw[lW,qhW x hN hD hP c,ze,bQ x (hP 0 c) (hN c),hD c];rfl
theorem OP(x:Nat->Int):∀(n:Nat)(P:Nat->Nat->List Tm),(∀i j,NN (P i j))->ev x (lV n P)=jN n (λi j=>ev x (P i j))
 |0,_,_=>qm x 1
 |n+1,P,h=>qhW x (λc=>QW n _ λi j=>h _ _) (λc=>OP x n _ λi j=>h _ _) h _
def Lj:Nat->Nat
 |0=>1
 |n+1=>(n+1)*Lj n
theorem qmP{D:(Nat->Nat->List Tm)->List Tm}{P:Nat->Nat->List Tm}{N R:Nat}(hD:∀c,aC (D (Ct P c))<=R)(hP:∀i j,aC (P i j)<=N):∀c,aC (BF D P c)<=c*(N*R)
 |0=>by simp[BF,aC]
 |c+1=>by
  show aC (BF D P c++smul (mZ c) (ai (P 0 c) (D (Ct P c))))<=_;rw[kT,qmU,Cu];have h1:=qmP hD hP c
  have h2:(mZ c).natAbs=1:=by unfold mZ;split<;>rfl
  have h3:aC (P 0 c)*aC (D (Ct P c))<=N*R:=Nat.mul_le_mul (hP 0 c) (hD c);rw[h2,Nat.add_mul];omega
theorem qmO{N:Nat}:∀(n:Nat)(P:Nat->Nat->List Tm),(∀i j,aC (P i j)<=N)->aC (lV n P)<=Lj n*N^n
 |0,_,_=>by simp[lV,aC,Lj]
 |n+1,P,h=>by
  have:=qmP (D:=lV n) (P:=P) (R:=Lj n*N^n) (λc=>qmO n _ λi j=>h _ _) h (n+1);refine Nat.le_trans this (Nat.le_of_eq ?_);simp only[Lj,Nat.pow_succ]
  grind
theorem qrU{B:Nat}{l:List Tm}(h:bn B l)(c:Int):bn B (smul c l):=λm hm k=>h m (λh0=>hm (by rw[iD,h0,Int.mul_zero])) k
structure Nq(P:Nat->Nat->List Tm):Prop where
 nn:∀i j,NN (P i j)
 Lc:∀i j,bn 3 (P i j)
 dl:∀i j,az (aC (P i j))<=5
def OC(k i j:Nat)(P:Nat->Nat->List Tm):Nat->Nat->List Tm:=λr c=>P (if r<k then r else i) (if c<k then c else j)
def xN(k i j:Nat)(a:Nat->Nat->Int):Nat->Nat->Int:=λr c=>a (if r<k then r else i) (if c<k then c else j)
theorem Nq.OC{P:Nat->Nat->List Tm}(h:Nq P)(k i j:Nat):Nq (OC k i j P):=⟨λ_ _=>h.nn _ _,λ_ _=>h.Lc _ _,λ_ _=>h.dl _ _⟩
theorem qsG(x:Nat->Int){P:Nat->Nat->List Tm}(h:Nq P)(n k i j:Nat):ev x (lV n (OC k i j P))=jN n (xN k i j λi j=>ev x (P i j)):=OP x n _ (h.OC k i j).nn
theorem qAz(a:Nat->Nat->Int)(n k:Nat)(hn:n<=4)(hk:k<n)(h:∀i,k<=i->i<n->jN (k+1) (xN k i k a)=0):jN k a*(jN k a*jN n a)=0:=by
 have hc:(k=0/\n=1)\/(k=0/\n=2)\/(k=0/\n=3)\/(k=0/\n=4)\/(k=1/\n=2)\/(k=1/\n=3)\/(k=1/\n=4)\/(k=2/\n=3)\/(k=2/\n=4)\/(k=3/\n=4):=by omega
 rcases hc with⟨rfl,rfl⟩|⟨rfl,rfl⟩|⟨rfl,rfl⟩|⟨rfl,rfl⟩|⟨rfl,rfl⟩|⟨rfl,rfl⟩|⟨rfl,rfl⟩|⟨rfl,rfl⟩|⟨rfl,rfl⟩|⟨rfl,rfl⟩
 ·have h0:=h 0 (by omega) (by omega);simp[jN,jY,xN,iJ,mZ]at h0⊢
  grind
 ·have h0:=h 0 (by omega) (by omega);have h1:=h 1 (by omega) (by omega);simp[jN,jY,xN,iJ,mZ]at h0 h1⊢
  grind
 ·have h0:=h 0 (by omega) (by omega);have h1:=h 1 (by omega) (by omega);have h2:=h 2 (by omega) (by omega);simp[jN,jY,xN,iJ,mZ]at h0 h1 h2⊢
  grind
 ·have h0:=h 0 (by omega) (by omega);have h1:=h 1 (by omega) (by omega);have h2:=h 2 (by omega) (by omega);have h3:=h 3 (by omega) (by omega);simp[jN,jY,xN,iJ,mZ]at h0 h1 h2 h3⊢
  grind
 ·have h1:=h 1 (by omega) (by omega);simp[jN,jY,xN,iJ,mZ]at h1⊢
  grind
 ·have h1:=h 1 (by omega) (by omega);have h2:=h 2 (by omega) (by omega);simp[jN,jY,xN,iJ,mZ]at h1 h2⊢
  grind
 ·have h1:=h 1 (by omega) (by omega);have h2:=h 2 (by omega) (by omega);have h3:=h 3 (by omega) (by omega);simp[jN,jY,xN,iJ,mZ]at h1 h2 h3⊢
  grind
 ·have h2:=h 2 (by omega) (by omega);simp[jN,jY,xN,iJ,mZ]at h2⊢
  grind
 ·have h2:=h 2 (by omega) (by omega);have h3:=h 3 (by omega) (by omega);simp[jN,jY,xN,iJ,mZ]at h2 h3⊢
  grind
 ·have h3:=h 3 (by omega) (by omega);simp[jN,jY,xN,iJ,mZ]at h3⊢
  grind
structure qdP(n:Nat)(P Q:Nat->Nat->List Tm)(k:Nat)(neg:Bool)(W:Nat->Nat->List Tm)(b:List Tm):Prop where
 qK:Nq Q
 w:∀i j,k<=i->i<n->k<=j->j<n->ae (W i j) (lV (k+1) (OC k i j Q))
 bb:ae b (lV k Q)
 nz:¬ae b []
 d:ae (lV n P) (smul (if neg=true then-1 else 1) (lV n Q))
theorem qdP.zero{n:Nat}{P Q:Nat->Nat->List Tm}{k:Nat}{neg:Bool}{W:Nat->Nat->List Tm}{b:List Tm}(h:qdP n P Q k neg W b)(hn:n<=4)(hk:k<n)(hz:∀i,k<=i->i<n->ae (W i k) []):ae (lV n P) []:=by
 have hN:=QW n Q h.qK.nn;have hK:=QW k Q h.qK.nn;have hb:¬ae (lV k Q) []:=λhs=>h.nz (h.bb.trans hs)
 have h1:ae (ai (lV k Q) (ai (lV k Q) (lV n Q))) []:=qoc (Ar hK (Ar hK hN)) λx=>by
  rw[bQ x hK (Ar hK hN),bQ x hK hN,OP x k _ h.qK.nn,OP x n _ h.qK.nn];refine qAz (λi j=>ev x (Q i j)) n k hn hk λi hi lQ=>?_;rw[<-qsG x h.qK, <-eT x (h.w i k hi lQ (by omega) hk),eT x (hz i hi lQ)];rfl
 have h2:ae (ai (lV k Q) (lV n Q)) []:=Classical.byContradiction λhc=>lT hK (Ar hK hN) hb hc h1;have h3:ae (lV n Q) []:=Classical.byContradiction λhc=>lT hK hN hb hc h2;exact h.d.trans (h3.smul _)
end Go.Proofs.YtmcfpnmoklnhoaaGreat
namespace Go.Proofs.YtmcfpnmoklnhoaaGreat
open Go.RowKit
def zx(c:Nat->Nat)(P:Nat->Nat->List Tm):Nat->Nat->List Tm:=λi j=>if j<c i then P i j else[]
def Y8(M:Nat->Prop)(w:World)(v:Value)(S:Nat)(c:Nat->Nat)(P:Nat->Nat->List Tm):Prop:=∃(a:Option Addr)(cap:Nat)(rv:Nat->Value),v=.slice a S cap/\∀k,k<S->∃g,a=some ⟨g,0,none⟩/\g<w.heap.size/\¬M g/\w.cell? ⟨g,k,none⟩=some (rv k)/\dV M w 4 (rv k) (c k) (P k)
theorem Y8.ext{M:Nat->Prop}{w w':World}{v:Value}{S:Nat}{c:Nat->Nat}{P:Nat->Nat->List Tm}(h:Y8 M w v S c P)(he:Ext w w'):Y8 M w' v S c P:=by
 obtain⟨a,cap,rv,rfl,h⟩:=h;refine⟨a,cap,rv,rfl,λk hk=>?_⟩;obtain⟨g,h1,h2,h3,h4,h5⟩:=h k hk;exact⟨g,h1,Nat.lt_of_lt_of_le h2 he.size,h3,by rw[he.cell h2];exact h4,h5.ext he⟩
def cnt(k t:Nat):Nat:=if t<=k then t else t-1
structure WM(MW:Nat->Prop)(w:World)(g S i n:Nat)(gs:Nat->Nat)(W:Nat->Nat->List Tm):Prop where
 blk:ak w g 31 S (λk=>if k<i then .slice (some ⟨gs k,0,none⟩) n n else .slice none 0 0)
 mg:MW g
 row:∀k,k<i->gs k≠g/\MW (gs k)/\Kids MW w 4 (gs k) n (W k)
 inj:∀k l,k<i->l<i->gs k=gs l->k=l
theorem WM.ext{MW:Nat->Prop}{w w':World}{g S i n:Nat}{gs:Nat->Nat}{W:Nat->Nat->List Tm}(h:WM MW w g S i n gs W)(he:Ext w w'):WM MW w' g S i n gs W:=
 ⟨h.blk.ext he,h.mg,λk hk=>⟨(h.row k hk).1,(h.row k hk).2.1,(h.row k hk).2.2.ext he⟩,h.inj⟩
theorem WM.put{MW:Nat->Prop}{w w':World}{g S i n:Nat}{gs:Nat->Nat}{W:Nat->Nat->List Tm}(h:WM MW w g S i n gs W){k:Nat}(hk:k<i){P:Nat->List Tm}(hg:w.grownBy w' (some (gs k)))(hK:Kids MW w' 4 (gs k) n P):WM MW w' g S i n gs (λr=>if r=k then P else W r):=by
 have hr:=h.row k hk
 have aZ:Kp MW w w':=Kp.grown hg λb hb=>by cases hb;exact hr.2.1
 have hh:∀b,b<w.heap.size->b≠gs k->w'.heap[b]?=w.heap[b]?:=λb hb hne=>hg.block b hb λe=>hne (by cases e;rfl);refine⟨h.blk.of_heap (hh g h.blk.lt λe=>hr.1 e.symm),h.mg,λr wR=>⟨(h.row r wR).1,(h.row r wR).2.1,?_⟩,h.inj⟩
 by_cases hrk:r=k
 ·subst hrk;rw[if_pos rfl];exact hK
 ·rw[if_neg hrk];exact(h.row r wR).2.2.kp (hh _ (h.row r wR).2.2.lt λe=>hrk (h.inj r k wR hk e)) aZ
def ZE(g i:Nat)(r:Nat)(n:Nat)(o:Nat)(y:PE)(w:World):Prop:=(w.cell? ⟨g,i,none⟩=some (.slice (some ⟨r,0,none⟩) n n)/\g<w.heap.size)/\eX w r o y/\r<w.heap.size
theorem ZE.ext{g i r n o:Nat}{y:PE}{w w':World}(h:ZE g i r n o y w)(he:Ext w w'):ZE g i r n o y w':=⟨⟨by rw[he.cell h.1.2];exact h.1.1,Nat.lt_of_lt_of_le h.1.2 he.size⟩,h.2.1.ext h.2.2 he,Nat.lt_of_lt_of_le h.2.2 he.size⟩
end Go.Proofs.YtmcfpnmoklnhoaaGreat
