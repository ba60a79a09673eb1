/- Qc -/
import Derived.Test.YtmcfpnmoklnhoaaGreatQb
import Derived.Laws.AppendOwnNone
import Derived.Deep.Upon
import Derived.Deep.AppendLies
import Derived.Test.YtmcfpnmoklnhoaaGreatEc
set_option linter.unusedVariables false
set_option linter.unusedSimpArgs false
namespace Go.Proofs.YtmcfpnmoklnhoaaGreat
open Go.RowKit
end Go.Proofs.YtmcfpnmoklnhoaaGreat
namespace Go.Proofs.YtmcfpnmoklnhoaaGreat
def eM(x:Nat->Int)(m:Mo):Int:=if m.nn=true then x 0^m.a.toNat*x 1^m.b.toNat*x 2^m.c.toNat*x 3^m.d.toNat else 0
def ev(x:Nat->Int):List Tm->Int
 |[]=>0
 |t::l=>t.1*eM x t.2+ev x l
theorem om(x:Nat->Int)(l r:List Tm):ev x (l++r)=ev x l+ev x r:=by
 induction l with
 |nil=>simp[ev]
 |cons t l ih=>simp only[List.cons_append,ev,ih,Int.add_assoc]
theorem yS(x:Nat->Int)(c:Int)(l:List Tm):ev x (smul c l)=c*ev x l:=by
 induction l with
 |nil=>simp[smul,ev]
 |cons t l ih=>
  show c*t.1*eM x t.2+ev x (smul c l)=_;rw[ih];simp only[ev]
  grind
theorem qu8(x:Nat->Int)(c:Int)(m:Mo)(l:List Tm):ev x (ins c m l)=c*eM x m+ev x l:=by
 induction l with
 |nil=>
  simp only[ins];split
  ·rename_i h;subst h;simp[ev]
  ·simp[ev]
 |cons s r ih=>
  simp only[ins]
  split
  ·rename_i h1;subst h1
   split
   ·rename_i h2;simp only[ev];generalize eM x s.2=p;generalize ev x r=u
    have e3:(s.1+c)*p=0:=by rw[h2,Int.zero_mul]
    grind
   ·simp only[ev];generalize eM x s.2=p;generalize ev x r=u
    grind
  ·split
   ·split
    ·rename_i h;subst h;simp
    ·simp only[ev]
   ·simp only[ev,ih];generalize ev x r=u;generalize s.1*eM x s.2=v;generalize c*eM x m=y
    grind
theorem Ki(x:Nat->Int):∀l:List Tm,ev x (norm l)=ev x l
 |[]=>rfl
 |t::l=>by
  have ih:=Ki x l;simp only[norm]
  split
  ·rw[qu8,ih];rfl
  ·rename_i h;show _=t.1*eM x t.2+ev x l;rw[ih,eM,ah h];simp
theorem fe(x:Nat->Int){l r:List Tm}(h:af l r):ev x l=ev x r:=by
 rw[<-Ki x l, <-Ki x r,h.norm]
theorem quZ(x:Nat->Int)(p q:Mo)(hp:p.nn=true)(hq:q.nn=true):eM x (Mo.add p q)=eM x p*eM x q:=by
 obtain⟨x1,x2,x3,x4⟩:=(Mo.BN p).1 hp;obtain⟨y1,y2,y3,y4⟩:=(Mo.BN q).1 hq
 have h:(Mo.add p q).nn=true:=by rw[Mo.BN];unfold Mo.add;refine⟨?_,?_,?_,?_⟩<;>simp only<;>omega
 unfold eM;rw[ai hp,ai hq,ai h];unfold Mo.add;simp only;rw[Int.toNat_add x1 y1,Int.toNat_add x2 y2,Int.toNat_add x3 y3,Int.toNat_add x4 y4,Int.pow_add,Int.pow_add,Int.pow_add,Int.pow_add];generalize x 0^p.a.toNat=p1;generalize x 0^q.a.toNat=q1;generalize x 1^p.b.toNat=p2;generalize x 1^q.b.toNat=q2;generalize x 2^p.c.toNat=p3;generalize x 2^q.c.toNat=q3;generalize x 3^p.d.toNat=p4;generalize x 3^q.d.toNat=q4
 grind
theorem qvb(x:Nat->Int)(k:Mo)(hk:k.nn=true)(l:List Tm)(hl:∀t∈l,t.2.nn=true):ev x (shift k l)=eM x k*ev x l:=by
 induction l with
 |nil=>show ev x []=_;simp[ev]
 |cons t l ih=>
  show t.1*eM x (Mo.add t.2 k)+ev x (shift k l)=_;rw[ih λs hs=>hl s (List.mem_cons_of_mem _ hs),quZ x _ _ (hl t (List.mem_cons_self ..)) hk];simp only[ev];generalize eM x t.2=p;generalize eM x k=q;generalize ev x l=r
  grind
theorem V3(x:Nat->Int)(k:Mo)(hk:k.nn=true){l:List Tm}(hl:NN l):ev x (shift k l)=eM x k*ev x l:=by
 rw[<-Ki x l, <-qvb x k hk _ (Df l)];exact fe x ((ow hl).symm.shift k)
theorem qjP(x:Nat->Int)(r:List Tm)(hr:NN r):∀l:List Tm,(∀t∈l,t.2.nn=true)->ev x (aF l r)=ev x l*ev x r
 |[],_=>by show ev x []=_;simp[ev]
 |s::l,hl=>by
  show ev x (shift s.2 (smul s.1 r)++aF l r)=_;rw[om,qjP x r hr l λt ht=>hl t (List.mem_cons_of_mem _ ht),V3 x _ (hl s List.mem_cons_self) (λm hm=>by rw[iM,hr m hm];simp),yS];simp only[ev];generalize eM x s.2=p;generalize ev x r=q;generalize ev x l=u
  grind
theorem di(x:Nat->Int){l r:List Tm}(hl:NN l)(hr:NN r):ev x (aF l r)=ev x l*ev x r:=by
 rw[<-Ki x l, <-qjP x r hr _ (Df l)];exact fe x ((ow hl).symm.oC r)
theorem nK(x:Nat->Int)(z:Int):ev x [(z,Mo.zero)]=z:=by
 have h:Mo.zero.nn=true:=by decide
 have e:eM x Mo.zero=1:=by unfold eM;rw[ai h];simp[Mo.zero]
 simp[ev,e]
def gZ(t:Int)(c:Nat->Int):Nat->Int
 |0=>0
 |n+1=>gZ t c n+c n*t^n
theorem qev(t:Int)(c:Nat->Int):∀n,gZ t c (n+1)=c 0+t*gZ t (λi=>c (i+1)) n
 |0=>by simp[gZ]
 |n+1=>by
  have ih:=qev t c n;show gZ t c (n+1)+c (n+1)*t^(n+1)=c 0+t*(gZ t (λi=>c (i+1)) n+c (n+1)*t^n);rw[ih,Int.pow_succ];generalize gZ t (λi=>c (i+1)) n=p;generalize t^n=q
  grind
theorem qpv:∀(n:Nat)(c:Nat->Int),(∀t:Int,t≠0->gZ t c n=0)->∀i,i<n->c i=0
 |0,_,_,i,hi=>absurd hi (Nat.not_lt_zero _)
 |n+1,c,h,i,hi=>by
  have h0:c 0=0:=by
   have h1:=h ((c 0).natAbs+1) (by omega);rw[qev]at h1;have h2:(((c 0).natAbs:Int)+1)∣c 0:=⟨-gZ (((c 0).natAbs:Int)+1) (λi=>c (i+1)) n,by rw[Int.mul_neg];omega⟩;exact Int.eq_zero_of_dvd_of_natAbs_lt_natAbs h2 (by omega)
  have h3:∀t:Int,t≠0->gZ t (λi=>c (i+1)) n=0:=λt ht=>by
   have h1:=h t ht;rw[qev,h0,Int.zero_add]at h1;rcases Int.mul_eq_zero.1 h1 with h2|h2
   ·exact absurd h2 ht
   ·exact h2
  cases i with
  |zero=>exact h0
  |succ i=>exact qpv n _ h3 i (by omega)
theorem YL(L i:Nat):(xp L (i:Int)).nn=true:=by
 rw[Mo.BN];unfold xp;simp only;refine⟨?_,?_,?_,?_⟩<;>split<;>omega
theorem qbB(x:Nat->Int)(L i:Nat)(h1:1<=L)(h4:L<=4):eM x (xp L (i:Int))=x (L-1)^i:=by
 unfold eM;rw[ai (YL L i)];rcases Ow h1 h4 with rfl|rfl|rfl|rfl<;>simp[xp]
theorem qjQ(x:Nat->Int)(L n:Nat)(P:Nat->List Tm)(h1:1<=L)(h4:L<=4)(hP:∀i,i<n->NN (P i)):ev x (aQ L n P)=gZ (x (L-1)) (λi=>ev x (P i)) n:=by
 induction n with
 |zero=>rfl
 |succ n ih=>
  rw[gT,om,ih λi hi=>hP i (by omega),V3 x _ (YL L n) (hP n (by omega)),qbB x L n h1 h4,Int.mul_comm];rfl
theorem qvc(x y:Nat->Int){l:List Tm}(hl:NN l)(h:∀k,1<=k->k<=4->x (k-1)≠y (k-1)->∀m,aL l m≠0->m.get k=0):ev x l=ev y l:=by
 rw[<-Ki x l, <-Ki y l];have hc:=sF l
 have hk:∀t∈norm l,∀k,1<=k->k<=4->x (k-1)≠y (k-1)->t.2.get k=0:=λt ht k h1 h4 hne=>h k h1 h4 hne t.2 (by
  rw[<-ow hl t.2]
  exact Ke hc ht)
 clear hc;generalize norm l=r at*;clear hl h
 induction r with
 |nil=>rfl
 |cons t r ih=>
  show t.1*eM x t.2+ev x r=t.1*eM y t.2+ev y r;rw[ih λs hs=>hk s (List.mem_cons_of_mem _ hs)]
  congr 2
  unfold eM
  split
  ·have e:∀k,1<=k->k<=4->x (k-1)^(t.2.get k).toNat=y (k-1)^(t.2.get k).toNat:=λk h1 h4=>by
    by_cases hne:x (k-1)=y (k-1)
    ·rw[hne]
    ·rw[hk t List.mem_cons_self k h1 h4 hne];simp
   have e1:=e 1 (by omega) (by omega);have e2:=e 2 (by omega) (by omega);have e3:=e 3 (by omega) (by omega);have e4:=e 4 (by omega) (by omega);simp only[Mo.get]at e1 e2 e3 e4;simp at e1 e2 e3 e4;rw[e1,e2,e3,e4]
  ·rfl
theorem Dn:∀l:List Tm,∃B:Nat,∀m,aL l m≠0->∀k,m.get k<=B
 |[]=>⟨0,λm hm=>absurd rfl hm⟩
 |t::l=>by
  obtain⟨B,hB⟩:=Dn l;refine⟨B+t.2.a.natAbs+t.2.b.natAbs+t.2.c.natAbs+t.2.d.natAbs,λm hm k=>?_⟩
  by_cases h0:aL l m=0
  ·have ht:t.2=m:=eF λhc=>hm (by simp only[aL];rw[ah hc,h0];rfl);subst ht;unfold Mo.get
   (repeat' split)<;>omega
  ·have:=hB m h0 k;omega
theorem qjO:∀(L:Nat),L<=4->∀l:List Tm,NN l->(∀m,aL l m≠0->∀k,L<k->k<=4->m.get k=0)->¬af l []->∃x,ev x l≠0
 |0,_,l,hl,h,hz=>by
  obtain⟨m,hm⟩:=OD hz
  have h0:∀m,aL l m≠0->m=Mo.zero:=λm hm=>Mo.ext_get λk h1 h4=>by rw[h m hm k (by omega) h4,uw]
  obtain rfl:=h0 m hm
  have hs:af l [(aL l Mo.zero,Mo.zero)]:=λq=>by
   simp only[aL]
   by_cases hq:Mo.zero=q
   ·subst hq;simp
   ·rw[ah hq];refine eF λhc=>hq (h0 q (λe=>hc (by rw[e];rfl))).symm
  exact⟨λ_=>0,by rw[fe _ hs,nK];exact hm⟩
 |L+1,h4,l,hl,h,hz=>by
  obtain⟨m,hm⟩:=OD hz;have j6:m.nn=true:=eF λhc=>hm (hl m (by simpa using hc));obtain⟨e,he⟩:∃e:Nat,m.get (L+1)=(e:Int):=⟨(m.get (L+1)).toNat,by have:=wZ j6 (L+1);omega⟩;have hc:=ET (k:=L+1) (by omega) h4 hm;rw[he]at hc
  have qma:∀(i:Nat) m,aL (ck (L+1) (i:Int) l) m≠0->∀k,L<k->k<=4->m.get k=0:=λi m hm k hk mI=>by
   rw[oh (by omega) h4]at hm
   split at hm
   ·rename_i h0
    by_cases WR:k=L+1
    ·subst WR;exact h0
    ·have:=h _ hm k (by omega) mI;rw[iH,eQ _ _ _ (by omega) h4,ah WR]at this;omega
   ·exact absurd rfl hm
  obtain⟨x,hx⟩:=qjO L (by omega) _ (fK (by omega) h4 hl) (qma e) hc;obtain⟨B,hB⟩:=Dn l
  have hB':∀m,aL l m≠0->m.get (L+1)<((B+1+e:Nat):Int):=λm hm=>by have:=hB m hm (L+1);omega
  have hp:=Ng (N:=B+1+e) (by omega) h4 hl hB';refine eF λqwA=>?_;have qE:∀y,ev y l=0:=λy=>eF λhc=>qwA ⟨y,hc⟩
  have hz:=qpv (B+1+e) (λi=>ev x (ck (L+1) (i:Int) l)) (λt _=>by
   have h1:=qE (λk=>if k=L then t else x k);rw[<-fe _ hp,qjQ _ _ _ _ (by omega) h4 λi _=>fK (by omega) h4 hl]at h1
   rw[show(λi:Nat=>ev x (ck (L+1) (i:Int) l))=λi:Nat=>ev (λk=>if k=L then t else x k) (ck (L+1) (i:Int) l)from funext λi=>qvc _ _ (fK (by omega) h4 hl) λk h1 mI hne m hm=>by
    by_cases hk:k-1=L
    ·exact qma i m hm k (by omega) mI
    ·rw[ah hk]at hne;exact absurd rfl hne]
   simpa using h1) e (by omega)
  exact hx hz
theorem qqm{l:List Tm}(hl:NN l)(h:∀x,ev x l=0):af l []:=eF λhc=>by
 obtain⟨x,hx⟩:=qjO 4 (aI _) l hl (λm _ k h1 h4=>by omega) hc;exact hx (h x)
theorem tY{l r:List Tm}(hl:NN l)(hr:NN r)(h:∀x,ev x l=ev x r):af l r:=by
 have h1:af (l++smul (-1) r) []:=qqm (λm hm=>by rw[iZ,iM,hl m hm,hr m hm];rfl) λx=>by
  rw[om,yS,h x];omega
 intro m;have:=h1 m;rw[iZ,iM]at this;have e:aL ([]:List Tm) m=0:=rfl;omega
def mV(c:Nat):Int:=if c%2=0 then 1 else-1
def Ef(P:Nat->Nat->List Tm)(c:Nat):Nat->Nat->List Tm:=λr k=>P (r+1) (if k<c then k else k+1)
def Dq(D:(Nat->Nat->List Tm)->List Tm)(P:Nat->Nat->List Tm):Nat->List Tm
 |0=>[]
 |c+1=>Dq D P c++smul (mV c) (aF (P 0 c) (D (Ef P c)))
def nJ:Nat->(Nat->Nat->List Tm)->List Tm
 |0,_=>[(1,Mo.zero)]
 |n+1,P=>Dq (nJ n) P (n+1)
def dW(a:Nat->Nat->Int)(c:Nat):Nat->Nat->Int:=λr k=>a (r+1) (if k<c then k else k+1)
def gF(D:(Nat->Nat->Int)->Int)(a:Nat->Nat->Int):Nat->Int
 |0=>0
 |c+1=>gF D a c+mV c*(a 0 c*D (dW a c))
def dR:Nat->(Nat->Nat->Int)->Int
 |0,_=>1
 |n+1,a=>gF (dR n) a (n+1)
theorem qoM{l:List Tm}(h:NN l)(c:Int):NN (smul c l):=λm hm=>by rw[iM,h m hm];simp
theorem oM(z:Int):NN [(z,Mo.zero)]:=xe λt ht=>by
 simp only[List.mem_singleton]at ht;subst ht;rfl
theorem qoH{D:(Nat->Nat->List Tm)->List Tm}{P:Nat->Nat->List Tm}(hD:∀c,NN (D (Ef P c)))(hP:∀i j,NN (P i j)):∀c,NN (Dq D P c)
 |0=>NN.nil
 |c+1=>(qoH hD hP c).append (qoM (BO (hP 0 c) (hD c)) _)
theorem OA:∀(n:Nat)(P:Nat->Nat->List Tm),(∀i j,NN (P i j))->NN (nJ n P)
 |0,_,_=>oM 1
 |n+1,_,h=>qoH (λc=>OA n _ λi j=>h _ _) h _
theorem qjN(x:Nat->Int){D:(Nat->Nat->List Tm)->List Tm}{DI:(Nat->Nat->Int)->Int}{P:Nat->Nat->List Tm}(hN:∀c,NN (D (Ef P c)))(hD:∀c,ev x (D (Ef P c))=DI (dW (λi j=>ev x (P i j)) c))(hP:∀i j,NN (P i j)):∀c,ev x (Dq D P c)=gF DI (λi j=>ev x (P i j)) c
 |0=>rfl
 |c+1=>by
  show ev x (Dq D P c++smul (mV c) (aF (P 0 c) (D (Ef P c))))=_;rw[om,qjN x hN hD hP c,yS,di x (hP 0 c) (hN c),hD c];rfl
theorem Kh(x:Nat->Int):∀(n:Nat)(P:Nat->Nat->List Tm),(∀i j,NN (P i j))->ev x (nJ n P)=dR n (λi j=>ev x (P i j))
 |0,_,_=>nK x 1
 |n+1,P,h=>qjN x (λc=>OA n _ λi j=>h _ _) (λc=>Kh x n _ λi j=>h _ _) h _
def Nt:Nat->Nat
 |0=>1
 |n+1=>(n+1)*Nt n
theorem qoR{D:(Nat->Nat->List Tm)->List Tm}{P:Nat->Nat->List Tm}{N R:Nat}(hD:∀c,aK (D (Ef P c))<=R)(hP:∀i j,aK (P i j)<=N):∀c,aK (Dq D P c)<=c*(N*R)
 |0=>by simp[Dq,aK]
 |c+1=>by
  show aK (Dq D P c++smul (mV c) (aF (P 0 c) (D (Ef P c))))<=_;rw[lN,qeh,zL];have h1:=qoR hD hP c
  have h2:(mV c).natAbs=1:=by unfold mV;split<;>rfl
  have h3:aK (P 0 c)*aK (D (Ef P c))<=N*R:=Nat.mul_le_mul (hP 0 c) (hD c);rw[h2,Nat.add_mul];omega
theorem qeg{N:Nat}:∀(n:Nat)(P:Nat->Nat->List Tm),(∀i j,aK (P i j)<=N)->aK (nJ n P)<=Nt n*N^n
 |0,_,_=>by simp[nJ,aK,Nt]
 |n+1,P,h=>by
  have:=qoR (D:=nJ n) (P:=P) (R:=Nt n*N^n) (λc=>qeg n _ λi j=>h _ _) h (n+1);refine aR this (Nat.le_of_eq ?_);simp only[Nt,Nat.pow_succ]
  grind
theorem qt8{B:Nat}{l:List Tm}(h:bH B l)(c:Int):bH B (smul c l):=λm hm k=>h m (λh0=>hm (by rw[iM,h0,Int.mul_zero])) k
structure Pd(P:Nat->Nat->List Tm):Prop where
 nn:∀i j,NN (P i j)
 Qw:∀i j,bH 3 (P i j)
 dl:∀i j,aH (aK (P i j))<=5
def Qn(k i j:Nat)(P:Nat->Nat->List Tm):Nat->Nat->List Tm:=λr c=>P (if r<k then r else i) (if c<k then c else j)
def yM(k i j:Nat)(a:Nat->Nat->Int):Nat->Nat->Int:=λr c=>a (if r<k then r else i) (if c<k then c else j)
theorem Pd.Qn{P:Nat->Nat->List Tm}(h:Pd P)(k i j:Nat):Pd (Qn k i j P):=⟨λ_ _=>h.nn _ _,λ_ _=>h.Qw _ _,λ_ _=>h.dl _ _⟩
theorem qu5(x:Nat->Int){P:Nat->Nat->List Tm}(h:Pd P)(n k i j:Nat):ev x (nJ n (Qn k i j P))=dR n (yM k i j λi j=>ev x (P i j)):=Kh x n _ (h.Qn k i j).nn
theorem qC8(a:Nat->Nat->Int)(n k:Nat)(hn:n<=4)(hk:k<n)(h:∀i,k<=i->i<n->dR (k+1) (yM k i k a)=0):dR k a*(dR k a*dR n a)=0:=by
 have hc:(k=0/\n=1)\/(k=0/\n=2)\/(k=0/\n=3)\/(k=0/\n=4)\/(k=1/\n=2)\/(k=1/\n=3)\/(k=1/\n=4)\/(k=2/\n=3)\/(k=2/\n=4)\/(k=3/\n=4):=by omega
 rcases hc with⟨rfl,rfl⟩|⟨rfl,rfl⟩|⟨rfl,rfl⟩|⟨rfl,rfl⟩|⟨rfl,rfl⟩|⟨rfl,rfl⟩|⟨rfl,rfl⟩|⟨rfl,rfl⟩|⟨rfl,rfl⟩|⟨rfl,rfl⟩
 ·have h0:=h 0 (by omega) (by omega);simp[dR,gF,yM,dW,mV]at h0⊢
  grind
 ·have h0:=h 0 (by omega) (by omega);have h1:=h 1 (by omega) (by omega);simp[dR,gF,yM,dW,mV]at h0 h1⊢
  grind
 ·have h0:=h 0 (by omega) (by omega);have h1:=h 1 (by omega) (by omega);have h2:=h 2 (by omega) (by omega);simp[dR,gF,yM,dW,mV]at h0 h1 h2⊢
  grind
 ·have h0:=h 0 (by omega) (by omega);have h1:=h 1 (by omega) (by omega);have h2:=h 2 (by omega) (by omega);have h3:=h 3 (by omega) (by omega);simp[dR,gF,yM,dW,mV]at h0 h1 h2 h3⊢
  grind
 ·have h1:=h 1 (by omega) (by omega);simp[dR,gF,yM,dW,mV]at h1⊢
  grind
 ·have h1:=h 1 (by omega) (by omega);have h2:=h 2 (by omega) (by omega);simp[dR,gF,yM,dW,mV]at h1 h2⊢
  grind
 ·have h1:=h 1 (by omega) (by omega);have h2:=h 2 (by omega) (by omega);have h3:=h 3 (by omega) (by omega);simp[dR,gF,yM,dW,mV]at h1 h2 h3⊢
  grind
 ·have h2:=h 2 (by omega) (by omega);simp[dR,gF,yM,dW,mV]at h2⊢
  grind
 ·have h2:=h 2 (by omega) (by omega);have h3:=h 3 (by omega) (by omega);simp[dR,gF,yM,dW,mV]at h2 h3⊢
  grind
 ·have h3:=h 3 (by omega) (by omega);simp[dR,gF,yM,dW,mV]at h3⊢
  grind
structure qfn(n:Nat)(P Q:Nat->Nat->List Tm)(k:Nat)(neg:Bool)(W:Nat->Nat->List Tm)(b:List Tm):Prop where
 rR:Pd Q
 w:∀i j,k<=i->i<n->k<=j->j<n->af (W i j) (nJ (k+1) (Qn k i j Q))
 bb:af b (nJ k Q)
 nz:¬af b []
 d:af (nJ n P) (smul (if neg=true then-1 else 1) (nJ n Q))
theorem qfn.zero{n:Nat}{P Q:Nat->Nat->List Tm}{k:Nat}{neg:Bool}{W:Nat->Nat->List Tm}{b:List Tm}(h:qfn n P Q k neg W b)(hn:n<=4)(hk:k<n)(hz:∀i,k<=i->i<n->af (W i k) []):af (nJ n P) []:=by
 have hN:=OA n Q h.rR.nn;have hK:=OA k Q h.rR.nn;have hb:¬af (nJ k Q) []:=λhs=>h.nz (h.bb.trans hs)
 have h1:af (aF (nJ k Q) (aF (nJ k Q) (nJ n Q))) []:=qqm (BO hK (BO hK hN)) λx=>by
  rw[di x hK (BO hK hN),di x hK hN,Kh x k _ h.rR.nn,Kh x n _ h.rR.nn];refine qC8 (λi j=>ev x (Q i j)) n k hn hk λi hi qI=>?_;rw[<-qu5 x h.rR, <-fe x (h.w i k hi qI (by omega) hk),fe x (hz i hi qI)];rfl
 have h2:af (aF (nJ k Q) (nJ n Q)) []:=eF λhc=>nV hK (BO hK hN) hb hc h1;have h3:af (nJ n Q) []:=eF λhc=>nV hK hN hb hc h2;exact h.d.trans (h3.smul _)
end Go.Proofs.YtmcfpnmoklnhoaaGreat
namespace Go.Proofs.YtmcfpnmoklnhoaaGreat
open Go.RowKit
def zx(c:Nat->Nat)(P:Nat->Nat->List Tm):Nat->Nat->List Tm:=λi j=>if j<c i then P i j else[]
def cnt(k t:Nat):Nat:=if t<=k then t else t-1
structure qin(M':Nat->Prop)(wd W:World)(a:Nat)(x:PE)(l:List Tm):Prop where
 f:wd.heap.size<=a
 e:Ext wd W
 p:P4 W a x
 x:aN M' W 4 x l
theorem S9.BQ{M':Nat->Prop}{wd wk:World}{a:Nat}{x:PE}{l:List Tm}(h:S9 M' wd wk (some a) none)(hx:aN (M9 M' (some a) none) wk 4 x l):
 ∃W1,W1=aM wk a 0 (.int .i64 x.lv) (.bool x.b) (.slice x.a x.n x.p) (.slice x.ka x.kn x.kp)/\Z4 wk a/\LM wk a/\qin M' wd W1 a x l:=by
 obtain⟨hB,hw⟩:=h.a a rfl;refine⟨_,rfl,hB.z4,hB.Nu,hw,h.e.aM hw _ _ _ _ _,(Ka hB x).p4,(hx.kp (Kp.aM (.inr (.inl rfl)) _ _ _ _ _)).more λg hg=>.inl (.inl hg)⟩
theorem dO.dh{M:Nat->Prop}{w w':World}{L:Nat}{l r:List Tm}{e:Ending}(h:dO M w L l e w')(hs:af l r):dO M w L r e w':=by
 obtain⟨y',e,h1,h2⟩:=h;exact⟨y',e,h1.dh hs,h2⟩
def qrg(M6:Nat->Prop)(l:List Tm)(wd:World)(Tw:Value)(wx:World):Prop:=∃(a:Nat)(v:PE),Tw=.pointer (some ⟨a,0,none⟩)/\qin M6 wd wx a v l
end Go.Proofs.YtmcfpnmoklnhoaaGreat
