/- Polynomials are equal if their values at all integers are. Determinants, plain: expansion along the first row; elimination without fractions. Elimination without fractions, plain: the invariant. cylinderref25.At; matrices with rows of any length. cylinderref25.Determinant. The matrix that elimination works on, in memory. subresultant.square. subresultant.pivot. -/
import Derived.Test.YtmcfpnmoklnhoaaGreatEc
import Derived.Test.YtmcfpnmoklnhoaaGreatQc
set_option linter.unusedVariables false
set_option linter.unusedSimpArgs false

namespace Go.Proofs.YtmcfpnmoklnhoaaGreat

def eM (x:Nat->Int) (m:Mo):Int:=if m.nn=true then x 0 ^ m.a.toNat*x 1 ^ m.b.toNat*x 2 ^ m.c.toNat*x 3 ^ m.d.toNat else 0
def ev (x:Nat->Int):List Tm->Int
 | []=>0
 | t :: l=>t.1*eM x t.2+ev x l
theorem qbW (x:Nat->Int) (l r:List Tm):ev x (l ++ r)=ev x l+ev x r:=by
 induction l with
 | nil=>simp [ev]
 | cons t l ih=>simp only [List.cons_append,ev,ih,Int.add_assoc]
theorem qgP (x:Nat->Int) (c:Int) (l:List Tm):ev x (smul c l)=c*ev x l:=by
 induction l with
 | nil=>simp [smul,ev]
 | cons t l ih=>
  show c*t.1*eM x t.2+ev x (smul c l)=_;rw [ih];simp only [ev]
  grind
theorem qsD (x:Nat->Int) (c:Int) (m:Mo) (l:List Tm):ev x (ins c m l)=c*eM x m+ev x l:=by
 induction l with
 | nil=>
  simp only [ins];split
  ·rename_i h;subst h;simp [ev]
  ·simp [ev]
 | cons s r ih=>
  simp only [ins]
  split
  ·rename_i h1;subst h1
   split
   ·rename_i h2;simp only [ev];generalize eM x s.2=p;generalize ev x r=u
    have e3:(s.1+c)*p=0:=by rw [h2,Int.zero_mul]
    grind
   ·simp only [ev];generalize eM x s.2=p;generalize ev x r=u
    grind
  ·split
   ·split
    ·rename_i h;subst h;simp
    ·simp only [ev]
   ·simp only [ev,ih];generalize ev x r=u;generalize s.1*eM x s.2=v;generalize c*eM x m=y
    grind
theorem qdy (x:Nat->Int) : ∀ l:List Tm,ev x (norm l)=ev x l
 | []=>rfl
 | t :: l=>by
  have ih:=qdy x l;simp only [norm]
  split
  ·rw [qsD,ih];rfl
  ·rename_i h;show _=t.1*eM x t.2+ev x l;rw [ih,eM,if_neg h];simp
theorem qbd (x:Nat->Int) {l r:List Tm} (h:Sim l r):ev x l=ev x r:=by
 rw [<- qdy x l,<- qdy x r,h.norm]
theorem qsJ (x:Nat->Int) (p q:Mo) (hp:p.nn=true) (hq:q.nn=true):eM x (Mo.add p q)=eM x p*eM x q:=by
 obtain ⟨x1,x2,x3,x4⟩:=(Mo.nn_iff p).1 hp;obtain ⟨y1,y2,y3,y4⟩:=(Mo.nn_iff q).1 hq
 have h:(Mo.add p q).nn=true:=by rw [Mo.nn_iff];unfold Mo.add;refine ⟨?_,?_,?_,?_⟩ <;> simp only <;> omega
 unfold eM;rw [if_pos hp,if_pos hq,if_pos h];unfold Mo.add;simp only;rw [Int.toNat_add x1 y1,Int.toNat_add x2 y2,Int.toNat_add x3 y3,Int.toNat_add x4 y4,Int.pow_add,Int.pow_add,Int.pow_add,Int.pow_add];generalize x 0 ^ p.a.toNat=p1;generalize x 0 ^ q.a.toNat=q1;generalize x 1 ^ p.b.toNat=p2;generalize x 1 ^ q.b.toNat=q2;generalize x 2 ^ p.c.toNat=p3;generalize x 2 ^ q.c.toNat=q3;generalize x 3 ^ p.d.toNat=p4;generalize x 3 ^ q.d.toNat=q4
 grind
theorem qmM (x:Nat->Int) (k:Mo) (hk:k.nn=true) (l:List Tm) (hl : ∀ t ∈ l,t.2.nn=true):ev x (shift k l)=eM x k*ev x l:=by
 induction l with
 | nil=>show ev x []=_;simp [ev]
 | cons t l ih=>
  show t.1*eM x (Mo.add t.2 k)+ev x (shift k l)=_;rw [ih fun s hs=>hl s (List.mem_cons_of_mem _ hs),qsJ x _ _ (hl t (List.mem_cons_self ..)) hk];simp only [ev];generalize eM x t.2=p;generalize eM x k=q;generalize ev x l=r
  grind
theorem qeN (x:Nat->Int) (k:Mo) (hk:k.nn=true) {l:List Tm} (hl:NN l):ev x (shift k l)=eM x k*ev x l:=by
 rw [<- qdy x l,<- qmM x k hk _ (qaW l)];exact qbd x ((qam hl).symm.shift k)
theorem qjU (x:Nat->Int) (r:List Tm) (hr:NN r) : ∀ l:List Tm,(∀ t ∈ l,t.2.nn=true)->ev x (pmul l r)=ev x l*ev x r
 | [],_=>by show ev x []=_;simp [ev]
 | s :: l,hl=>by
  show ev x (shift s.2 (smul s.1 r) ++ pmul l r)=_;rw [qbW,qjU x r hr l fun t ht=>hl t (List.mem_cons_of_mem _ ht),qeN x _ (hl s List.mem_cons_self) (fun m hm=>by rw [qao,hr m hm];simp),qgP];simp only [ev];generalize eM x s.2=p;generalize ev x r=q;generalize ev x l=u
  grind
theorem qbH (x:Nat->Int) {l r:List Tm} (hl:NN l) (hr:NN r):ev x (pmul l r)=ev x l*ev x r:=by
 rw [<- qdy x l,<- qjU x r hr _ (qaW l)];exact qbd x ((qam hl).symm.pmul_left r)
theorem qdp (x:Nat->Int) (z:Int):ev x [(z,Mo.zero)]=z:=by
 have h:Mo.zero.nn=true:=by decide
 have e:eM x Mo.zero=1:=by unfold eM;rw [if_pos h];simp [Mo.zero]
 simp [ev,e]
def psI (t:Int) (c:Nat->Int):Nat->Int
 | 0=>0
 | n+1=>psI t c n+c n*t ^ n
theorem qgr (t:Int) (c:Nat->Int) : ∀ n,psI t c (n+1)=c 0+t*psI t (fun i=>c (i+1)) n
 | 0=>by simp [psI]
 | n+1=>by
  have ih:=qgr t c n;show psI t c (n+1)+c (n+1)*t ^ (n+1)=c 0+t*(psI t (fun i=>c (i+1)) n+c (n+1)*t ^ n);rw [ih,Int.pow_succ];generalize psI t (fun i=>c (i+1)) n=p;generalize t ^ n=q
  grind
theorem qjm : ∀ (n:Nat) (c:Nat->Int),(∀ t:Int,t≠0->psI t c n=0) -> ∀ i,i<n->c i=0
 | 0,_,_,i,hi=>absurd hi (Nat.not_lt_zero _)
 | n+1,c,h,i,hi=>by
  have h0:c 0=0:=by
   have h1:=h ((c 0).natAbs+1) (by omega);rw [qgr] at h1;have h2:(((c 0).natAbs:Int)+1) ∣ c 0:=⟨-psI (((c 0).natAbs:Int)+1) (fun i=>c (i+1)) n,by rw [Int.mul_neg];omega⟩;exact Int.eq_zero_of_dvd_of_natAbs_lt_natAbs h2 (by omega)
  have h3 : ∀ t:Int,t≠0->psI t (fun i=>c (i+1)) n=0:=fun t ht=>by
   have h1:=h t ht;rw [qgr,h0,Int.zero_add] at h1;rcases Int.mul_eq_zero.1 h1 with h2 | h2
   ·exact absurd h2 ht
   ·exact h2
  cases i with
  | zero=>exact h0
  | succ i=>exact qjm n _ h3 i (by omega)
theorem qi6 (L i:Nat):(xp L (i:Int)).nn=true:=by
 rw [Mo.nn_iff];unfold xp;simp only;refine ⟨?_,?_,?_,?_⟩ <;> split <;> omega
theorem qqU (x:Nat->Int) (L i:Nat) (h1:1<=L) (h4:L<=4):eM x (xp L (i:Int))=x (L - 1) ^ i:=by
 unfold eM;rw [if_pos (qi6 L i)];rcases qcz h1 h4 with rfl | rfl | rfl | rfl <;> simp [xp]
theorem qmN (x:Nat->Int) (L n:Nat) (P:Nat->List Tm) (h1:1<=L) (h4:L<=4) (hP : ∀ i,i<n->NN (P i)):ev x (poly L n P)=psI (x (L - 1)) (fun i=>ev x (P i)) n:=by
 induction n with
 | zero=>rfl
 | succ n ih=>
  rw [qaf,qbW,ih fun i hi=>hP i (by omega),qeN x _ (qi6 L n) (hP n (by omega)),qqU x L n h1 h4,Int.mul_comm];rfl
theorem qsA (x y:Nat->Int) {l:List Tm} (hl:NN l) (h : ∀ k,1<=k->k<=4->x (k - 1)≠y (k - 1) -> ∀ m,qab l m≠0->m.get k=0):ev x l=ev y l:=by
 rw [<- qdy x l,<- qdy y l];have hc:=qaH l
 have hk : ∀ t ∈ norm l,∀ k,1<=k->k<=4->x (k - 1)≠y (k - 1)->t.2.get k=0:=fun t ht k h1 h4 hne=>h k h1 h4 hne t.2 (by
  rw [<- qam hl t.2]
  exact qa1 hc ht)
 clear hc;generalize norm l=r at *;clear hl h
 induction r with
 | nil=>rfl
 | cons t r ih=>
  show t.1*eM x t.2+ev x r=t.1*eM y t.2+ev y r;rw [ih fun s hs=>hk s (List.mem_cons_of_mem _ hs)]
  congr 2
  unfold eM
  split
  ·have e : ∀ k, 1 <= k -> k <= 4 -> x (k - 1) ^ (t.2.get k).toNat = y (k - 1) ^ (t.2.get k).toNat := fun k h1 h4 => by
    by_cases hne:x (k - 1)=y (k - 1)
    ·rw [hne]
    ·rw [hk t List.mem_cons_self k h1 h4 hne];simp
   have e1:=e 1 (by omega) (by omega);have e2:=e 2 (by omega) (by omega);have e3:=e 3 (by omega) (by omega);have e4:=e 4 (by omega) (by omega);simp only [Mo.get] at e1 e2 e3 e4;simp at e1 e2 e3 e4;rw [e1,e2,e3,e4]
  ·rfl
theorem qgX : ∀ l:List Tm,∃ B:Nat,∀ m,qab l m≠0 -> ∀ k,m.get k<=B
 | []=>⟨0,fun m hm=>absurd rfl hm⟩
 | t :: l=>by
  obtain ⟨B,hB⟩:=qgX l;refine ⟨B+t.2.a.natAbs+t.2.b.natAbs+t.2.c.natAbs+t.2.d.natAbs,fun m hm k=>?_⟩
  by_cases h0:qab l m=0
  ·have ht:t.2=m:=Classical.byContradiction fun hc=>hm (by simp only [qab];rw [if_neg hc,h0];rfl);subst ht;unfold Mo.get
   (repeat' split) <;> omega
  ·have:=hB m h0 k;omega
theorem qsC : ∀ (L:Nat),L<=4 -> ∀ l:List Tm,NN l->(∀ m,qab l m≠0 -> ∀ k,L<k->k<=4->m.get k=0) -> ¬ Sim l [] -> ∃ x,ev x l≠0
 | 0,_,l,hl,h,hz=>by
  obtain ⟨m,hm⟩:=qbM hz
  have h0 : ∀ m,qab l m≠0->m=Mo.zero:=fun m hm=>Mo.ext_get fun k h1 h4=>by rw [h m hm k (by omega) h4,qbc]
  obtain rfl:=h0 m hm
  have hs:Sim l [(qab l Mo.zero,Mo.zero)]:=fun q=>by
   simp only [qab]
   by_cases hq:Mo.zero=q
   ·subst hq;simp
   ·rw [if_neg hq];refine Classical.byContradiction fun hc=>hq (h0 q (fun e=>hc (by rw [e];rfl))).symm
  exact ⟨fun _=>0,by rw [qbd _ hs,qdp];exact hm⟩
 | L+1,h4,l,hl,h,hz=>by
  obtain ⟨m,hm⟩:=qbM hz;have hnn:m.nn=true:=Classical.byContradiction fun hc=>hm (hl m (by simpa using hc));obtain ⟨e,he⟩ : ∃ e:Nat,m.get (L+1)=(e:Int):=⟨(m.get (L+1)).toNat,by have:=qcw hnn (L+1);omega⟩;have hc:=qg7 (k:=L+1) (by omega) h4 hm;rw [he] at hc
  have hfre : ∀ (i:Nat) m,qab (ck (L+1) (i:Int) l) m≠0 -> ∀ k,L<k->k<=4->m.get k=0:=fun i m hm k hk hk4=>by
   rw [qaQ (by omega) h4] at hm
   split at hm
   ·rename_i h0
    by_cases hkL:k=L+1
    ·subst hkL;exact h0
    ·have:=h _ hm k (by omega) hk4;rw [qas,qat _ _ _ (by omega) h4,if_neg hkL] at this;omega
   ·exact absurd rfl hm
  obtain ⟨x,hx⟩:=qsC L (by omega) _ (qb2 (by omega) h4 hl) (hfre e) hc;obtain ⟨B,hB⟩:=qgX l
  have hB' : ∀ m,qab l m≠0->m.get (L+1)<((B+1+e:Nat):Int):=fun m hm=>by have:=hB m hm (L+1);omega
  have hp:=qf3 (N:=B+1+e) (by omega) h4 hl hB';refine Classical.byContradiction fun hcon=>?_;have hall : ∀ y,ev y l=0:=fun y=>Classical.byContradiction fun hc=>hcon ⟨y,hc⟩
  have hz:=qjm (B+1+e) (fun i=>ev x (ck (L+1) (i:Int) l)) (fun t _=>by
   have h1:=hall (fun k=>if k=L then t else x k);rw [<- qbd _ hp,qmN _ _ _ _ (by omega) h4 fun i _=>qb2 (by omega) h4 hl] at h1
   rw [show (fun i:Nat=>ev x (ck (L+1) (i:Int) l))=fun i:Nat=>ev (fun k=>if k=L then t else x k) (ck (L+1) (i:Int) l) from funext fun i=>qsA _ _ (qb2 (by omega) h4 hl) fun k h1 hk4 hne m hm=>by
    by_cases hk:k - 1=L
    ·exact hfre i m hm k (by omega) hk4
    ·rw [if_neg hk] at hne;exact absurd rfl hne]
   simpa using h1) e (by omega)
  exact hx hz
theorem qks {l:List Tm} (hl:NN l) (h : ∀ x,ev x l=0):Sim l []:=Classical.byContradiction fun hc=>by
 obtain ⟨x,hx⟩:=qsC 4 (Nat.le_refl _) l hl (fun m _ k h1 h4=>by omega) hc;exact hx (h x)
theorem qe8 {l r:List Tm} (hl:NN l) (hr:NN r) (h : ∀ x,ev x l=ev x r):Sim l r:=by
 have h1:Sim (l ++ smul (-1) r) []:=qks (fun m hm=>by rw [qae,qao,hl m hm,hr m hm];rfl) fun x=>by
  rw [qbW,qgP,h x];omega
 intro m;have:=h1 m;rw [qae,qao] at this;have e:qab ([]:List Tm) m=0:=rfl;omega


def sg1 (c:Nat):Int:=if c % 2=0 then 1 else -1
def mnP (P:Nat->Nat->List Tm) (c:Nat):Nat->Nat->List Tm:=fun r k=>P (r+1) (if k<c then k else k+1)
def qoK (D:(Nat->Nat->List Tm)->List Tm) (P:Nat->Nat->List Tm):Nat->List Tm
 | 0=>[]
 | c+1=>qoK D P c ++ smul (sg1 c) (pmul (P 0 c) (D (mnP P c)))
def qnG:Nat->(Nat->Nat->List Tm)->List Tm
 | 0,_=>[(1,Mo.zero)]
 | n+1,P=>qoK (qnG n) P (n+1)
def mnI (a:Nat->Nat->Int) (c:Nat):Nat->Nat->Int:=fun r k=>a (r+1) (if k<c then k else k+1)
def qaP (D:(Nat->Nat->Int)->Int) (a:Nat->Nat->Int):Nat->Int
 | 0=>0
 | c+1=>qaP D a c+sg1 c*(a 0 c*D (mnI a c))
def qbo:Nat->(Nat->Nat->Int)->Int
 | 0,_=>1
 | n+1,a=>qaP (qbo n) a (n+1)
theorem qjw {l:List Tm} (h:NN l) (c:Int):NN (smul c l):=fun m hm=>by rw [qao,h m hm];simp
theorem qdn (z:Int):NN [(z,Mo.zero)]:=qaT fun t ht=>by
 simp only [List.mem_singleton] at ht;subst ht;rfl
theorem qma {D:(Nat->Nat->List Tm)->List Tm} {P:Nat->Nat->List Tm} (hD : ∀ c,NN (D (mnP P c))) (hP : ∀ i j,NN (P i j)) : ∀ c,NN (qoK D P c)
 | 0=>NN.nil
 | c+1=>(qma hD hP c).append (qjw (qiE (hP 0 c) (hD c)) _)
theorem qgD : ∀ (n:Nat) (P:Nat->Nat->List Tm),(∀ i j,NN (P i j))->NN (qnG n P)
 | 0,_,_=>qdn 1
 | n+1,_,h=>qma (fun c=>qgD n _ fun i j=>h _ _) h _
theorem qmO (x:Nat->Int) {D:(Nat->Nat->List Tm)->List Tm} {DI:(Nat->Nat->Int)->Int} {P:Nat->Nat->List Tm} (hN : ∀ c,NN (D (mnP P c))) (hD : ∀ c,ev x (D (mnP P c))=DI (mnI (fun i j=>ev x (P i j)) c)) (hP : ∀ i j,NN (P i j)) : ∀ c,ev x (qoK D P c)=qaP DI (fun i j=>ev x (P i j)) c
 | 0=>rfl
 | c+1=>by
  show ev x (qoK D P c ++ smul (sg1 c) (pmul (P 0 c) (D (mnP P c))))=_;rw [qbW,qmO x hN hD hP c,qgP,qbH x (hP 0 c) (hN c),hD c];rfl
theorem qgQ (x:Nat->Int) : ∀ (n:Nat) (P:Nat->Nat->List Tm),(∀ i j,NN (P i j))->ev x (qnG n P)=qbo n (fun i j=>ev x (P i j))
 | 0,_,_=>qdp x 1
 | n+1,P,h=>qmO x (fun c=>qgD n _ fun i j=>h _ _) (fun c=>qgQ x n _ fun i j=>h _ _) h _
def fct:Nat->Nat
 | 0=>1
 | n+1=>(n+1)*fct n
theorem qju {D:(Nat->Nat->List Tm)->List Tm} {P:Nat->Nat->List Tm} {N R:Nat} (hD : ∀ c,nrm (D (mnP P c))<=R) (hP : ∀ i j,nrm (P i j)<=N) : ∀ c,nrm (qoK D P c)<=c*(N*R)
 | 0=>by simp [qoK,nrm]
 | c+1=>by
  show nrm (qoK D P c ++ smul (sg1 c) (pmul (P 0 c) (D (mnP P c))))<=_;rw [qai,qgB,qbb];have h1:=qju hD hP c
  have h2:(sg1 c).natAbs=1:=by unfold sg1;split <;> rfl
  have h3:nrm (P 0 c)*nrm (D (mnP P c))<=N*R:=Nat.mul_le_mul (hP 0 c) (hD c);rw [h2,Nat.add_mul];omega
theorem qgC {N:Nat} : ∀ (n:Nat) (P:Nat->Nat->List Tm),(∀ i j,nrm (P i j)<=N)->nrm (qnG n P)<=fct n*N ^ n
 | 0,_,_=>by simp [qnG,nrm,fct]
 | n+1,P,h=>by
  have:=qju (D:=qnG n) (P:=P) (R:=fct n*N ^ n) (fun c=>qgC n _ fun i j=>h _ _) h (n+1);refine Nat.le_trans this (Nat.le_of_eq ?_);simp only [fct,Nat.pow_succ]
  grind
theorem qm6 {B:Nat} {l:List Tm} (h:Deg B l) (c:Int):Deg B (smul c l):=fun m hm k=>h m (fun h0=>hm (by rw [qao,h0,Int.mul_zero])) k


end Go.Proofs.YtmcfpnmoklnhoaaGreat

namespace Go.Proofs.YtmcfpnmoklnhoaaGreat
open Go.RowKit

def zx (c:Nat->Nat) (P:Nat->Nat->List Tm):Nat->Nat->List Tm:=fun i j=>if j<c i then P i j else []


def cnt (k t:Nat):Nat:=if t<=k then t else t - 1






end Go.Proofs.YtmcfpnmoklnhoaaGreat
