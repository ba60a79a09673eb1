/- Polynomials are equal if their values at all integers are. Determinants, plain: expansion along the first row; elimination without fractions. Elimination without fractions, plain: the invariant. cylinderref25.At; matrices with rows of any length. cylinderref25.Determinant. The matrix that elimination works on, in memory. subresultant.square. subresultant.pivot. -/
import Derived.Test.YtmcfpnmoklnhoaaGreatEc
import Derived.Test.YtmcfpnmoklnhoaaGreatQe
set_option linter.unusedVariables false
set_option linter.unusedSimpArgs false

namespace Go.Proofs.YtmcfpnmoklnhoaaGreat

def eM (x:Nat->Int) (m:Mo):Int:=if m.nn=true then x 0 ^ m.a.toNat*x 1 ^ m.b.toNat*x 2 ^ m.c.toNat*x 3 ^ m.d.toNat else 0
def ev (x:Nat->Int):List Tm->Int
 | []=>0
 | t :: l=>t.1*eM x t.2+ev x l
theorem qaN (x:Nat->Int) (l r:List Tm):ev x (l ++ r)=ev x l+ev x r:=by
 induction l with
 | nil=>simp [ev]
 | cons t l ih=>simp only [List.cons_append,ev,ih,Int.add_assoc]
theorem qda (x:Nat->Int) (c:Int) (l:List Tm):ev x (smul c l)=c*ev x l:=by
 induction l with
 | nil=>simp [smul,ev]
 | cons t l ih=>
  show c*t.1*eM x t.2+ev x (smul c l)=_;rw [ih];simp only [ev]
  grind
theorem qvr (x:Nat->Int) (c:Int) (m:Mo) (l:List Tm):ev x (ins c m l)=c*eM x m+ev x l:=by
 induction l with
 | nil=>
  simp only [ins];split
  ·rename_i h;subst h;simp [ev]
  ·simp [ev]
 | cons s r ih=>
  simp only [ins]
  split
  ·rename_i h1;subst h1
   split
   ·rename_i h2;simp only [ev];generalize eM x s.2=p;generalize ev x r=u
    have e3:(s.1+c)*p=0:=by rw [h2,Int.zero_mul]
    grind
   ·simp only [ev];generalize eM x s.2=p;generalize ev x r=u
    grind
  ·split
   ·split
    ·rename_i h;subst h;simp
    ·simp only [ev]
   ·simp only [ev,ih];generalize ev x r=u;generalize s.1*eM x s.2=v;generalize c*eM x m=y
    grind
theorem qeE (x:Nat->Int) : ∀ l:List Tm,ev x (norm l)=ev x l
 | []=>rfl
 | t :: l=>by
  have ih:=qeE x l;simp only [norm]
  split
  ·rw [qvr,ih];rfl
  ·rename_i h;show _=t.1*eM x t.2+ev x l;rw [ih,eM,if_neg h];simp
theorem qaU (x:Nat->Int) {l r:List Tm} (h:Sim l r):ev x l=ev x r:=by
 rw [<- qeE x l,<- qeE x r,h.norm]
theorem qvw (x:Nat->Int) (p q:Mo) (hp:p.nn=true) (hq:q.nn=true):eM x (Mo.add p q)=eM x p*eM x q:=by
 obtain ⟨x1,x2,x3,x4⟩:=(Mo.nn_iff p).1 hp;obtain ⟨y1,y2,y3,y4⟩:=(Mo.nn_iff q).1 hq
 have h:(Mo.add p q).nn=true:=by rw [Mo.nn_iff];unfold Mo.add;refine ⟨?_,?_,?_,?_⟩ <;> simp only <;> omega
 unfold eM;rw [if_pos hp,if_pos hq,if_pos h];unfold Mo.add;simp only;rw [Int.toNat_add x1 y1,Int.toNat_add x2 y2,Int.toNat_add x3 y3,Int.toNat_add x4 y4,Int.pow_add,Int.pow_add,Int.pow_add,Int.pow_add];generalize x 0 ^ p.a.toNat=p1;generalize x 0 ^ q.a.toNat=q1;generalize x 1 ^ p.b.toNat=p2;generalize x 1 ^ q.b.toNat=q2;generalize x 2 ^ p.c.toNat=p3;generalize x 2 ^ q.c.toNat=q3;generalize x 3 ^ p.d.toNat=p4;generalize x 3 ^ q.d.toNat=q4
 grind
theorem qoG (x:Nat->Int) (k:Mo) (hk:k.nn=true) (l:List Tm) (hl : ∀ t ∈ l,t.2.nn=true):ev x (shift k l)=eM x k*ev x l:=by
 induction l with
 | nil=>show ev x []=_;simp [ev]
 | cons t l ih=>
  show t.1*eM x (Mo.add t.2 k)+ev x (shift k l)=_;rw [ih fun s hs=>hl s (List.mem_cons_of_mem _ hs),qvw x _ _ (hl t (List.mem_cons_self ..)) hk];simp only [ev];generalize eM x t.2=p;generalize eM x k=q;generalize ev x l=r
  grind
theorem qf3 (x:Nat->Int) (k:Mo) (hk:k.nn=true) {l:List Tm} (hl:NN l):ev x (shift k l)=eM x k*ev x l:=by
 rw [<- qeE x l,<- qoG x k hk _ (qaG l)];exact qaU x ((qai hl).symm.shift k)
theorem qlD (x:Nat->Int) (r:List Tm) (hr:NN r) : ∀ l:List Tm,(∀ t ∈ l,t.2.nn=true)->ev x (pmul l r)=ev x l*ev x r
 | [],_=>by show ev x []=_;simp [ev]
 | s :: l,hl=>by
  show ev x (shift s.2 (smul s.1 r) ++ pmul l r)=_;rw [qaN,qlD x r hr l fun t ht=>hl t (List.mem_cons_of_mem _ ht),qf3 x _ (hl s List.mem_cons_self) (fun m hm=>by rw [qag,hr m hm];simp),qda];simp only [ev];generalize eM x s.2=p;generalize ev x r=q;generalize ev x l=u
  grind
theorem qaj (x:Nat->Int) {l r:List Tm} (hl:NN l) (hr:NN r):ev x (pmul l r)=ev x l*ev x r:=by
 rw [<- qeE x l,<- qlD x r hr _ (qaG l)];exact qaU x ((qai hl).symm.pmul_left r)
theorem qgN (x:Nat->Int) (z:Int):ev x [(z,Mo.zero)]=z:=by
 have h:Mo.zero.nn=true:=by decide
 have e:eM x Mo.zero=1:=by unfold eM;rw [if_pos h];simp [Mo.zero]
 simp [ev,e]
def psI (t:Int) (c:Nat->Int):Nat->Int
 | 0=>0
 | n+1=>psI t c n+c n*t ^ n
theorem qhW (t:Int) (c:Nat->Int) : ∀ n,psI t c (n+1)=c 0+t*psI t (fun i=>c (i+1)) n
 | 0=>by simp [psI]
 | n+1=>by
  have ih:=qhW t c n;show psI t c (n+1)+c (n+1)*t ^ (n+1)=c 0+t*(psI t (fun i=>c (i+1)) n+c (n+1)*t ^ n);rw [ih,Int.pow_succ];generalize psI t (fun i=>c (i+1)) n=p;generalize t ^ n=q
  grind
theorem qhV : ∀ (n:Nat) (c:Nat->Int),(∀ t:Int,t≠0->psI t c n=0) -> ∀ i,i<n->c i=0
 | 0,_,_,i,hi=>absurd hi (Nat.not_lt_zero _)
 | n+1,c,h,i,hi=>by
  have h0:c 0=0:=by
   have h1:=h ((c 0).natAbs+1) (by omega);rw [qhW] at h1;have h2:(((c 0).natAbs:Int)+1) ∣ c 0:=⟨-psI (((c 0).natAbs:Int)+1) (fun i=>c (i+1)) n,by rw [Int.mul_neg];omega⟩;exact Int.eq_zero_of_dvd_of_natAbs_lt_natAbs h2 (by omega)
  have h3 : ∀ t:Int,t≠0->psI t (fun i=>c (i+1)) n=0:=fun t ht=>by
   have h1:=h t ht;rw [qhW,h0,Int.zero_add] at h1;rcases Int.mul_eq_zero.1 h1 with h2 | h2
   ·exact absurd h2 ht
   ·exact h2
  cases i with
  | zero=>exact h0
  | succ i=>exact qhV n _ h3 i (by omega)
theorem qkH (L i:Nat):(xp L (i:Int)).nn=true:=by
 rw [Mo.nn_iff];unfold xp;simp only;refine ⟨?_,?_,?_,?_⟩ <;> split <;> omega
theorem qtB (x:Nat->Int) (L i:Nat) (h1:1<=L) (h4:L<=4):eM x (xp L (i:Int))=x (L - 1) ^ i:=by
 unfold eM;rw [if_pos (qkH L i)];rcases qcJ h1 h4 with rfl | rfl | rfl | rfl <;> simp [xp]
theorem qoH (x:Nat->Int) (L n:Nat) (P:Nat->List Tm) (h1:1<=L) (h4:L<=4) (hP : ∀ i,i<n->NN (P i)):ev x (poly L n P)=psI (x (L - 1)) (fun i=>ev x (P i)) n:=by
 induction n with
 | zero=>rfl
 | succ n ih=>
  rw [qal,qaN,ih fun i hi=>hP i (by omega),qf3 x _ (qkH L n) (hP n (by omega)),qtB x L n h1 h4,Int.mul_comm];rfl
theorem qvp (x y:Nat->Int) {l:List Tm} (hl:NN l) (h : ∀ k,1<=k->k<=4->x (k - 1)≠y (k - 1) -> ∀ m,qab l m≠0->m.get k=0):ev x l=ev y l:=by
 rw [<- qeE x l,<- qeE y l];have hc:=qan l
 have hk : ∀ t ∈ norm l,∀ k,1<=k->k<=4->x (k - 1)≠y (k - 1)->t.2.get k=0:=fun t ht k h1 h4 hne=>h k h1 h4 hne t.2 (by
  rw [<- qai hl t.2]
  exact qa5 hc ht)
 clear hc;generalize norm l=r at *;clear hl h
 induction r with
 | nil=>rfl
 | cons t r ih=>
  show t.1*eM x t.2+ev x r=t.1*eM y t.2+ev y r;rw [ih fun s hs=>hk s (List.mem_cons_of_mem _ hs)]
  congr 2
  unfold eM
  split
  ·have e : ∀ k, 1 <= k -> k <= 4 -> x (k - 1) ^ (t.2.get k).toNat = y (k - 1) ^ (t.2.get k).toNat := fun k h1 h4 => by
    by_cases hne:x (k - 1)=y (k - 1)
    ·rw [hne]
    ·rw [hk t List.mem_cons_self k h1 h4 hne];simp
   have e1:=e 1 (by omega) (by omega);have e2:=e 2 (by omega) (by omega);have e3:=e 3 (by omega) (by omega);have e4:=e 4 (by omega) (by omega);simp only [Mo.get] at e1 e2 e3 e4;simp at e1 e2 e3 e4;rw [e1,e2,e3,e4]
  ·rfl
theorem qeG : ∀ l:List Tm,∃ B:Nat,∀ m,qab l m≠0 -> ∀ k,m.get k<=B
 | []=>⟨0,fun m hm=>absurd rfl hm⟩
 | t :: l=>by
  obtain ⟨B,hB⟩:=qeG l;refine ⟨B+t.2.a.natAbs+t.2.b.natAbs+t.2.c.natAbs+t.2.d.natAbs,fun m hm k=>?_⟩
  by_cases h0:qab l m=0
  ·have ht:t.2=m:=Classical.byContradiction fun hc=>hm (by simp only [qab];rw [if_neg hc,h0];rfl);subst ht;unfold Mo.get
   (repeat' split) <;> omega
  ·have:=hB m h0 k;omega
theorem qvq : ∀ (L:Nat),L<=4 -> ∀ l:List Tm,NN l->(∀ m,qab l m≠0 -> ∀ k,L<k->k<=4->m.get k=0) -> ¬ Sim l [] -> ∃ x,ev x l≠0
 | 0,_,l,hl,h,hz=>by
  obtain ⟨m,hm⟩:=qbB hz
  have h0 : ∀ m,qab l m≠0->m=Mo.zero:=fun m hm=>Mo.ext_get fun k h1 h4=>by rw [h m hm k (by omega) h4,qbl]
  obtain rfl:=h0 m hm
  have hs:Sim l [(qab l Mo.zero,Mo.zero)]:=fun q=>by
   simp only [qab]
   by_cases hq:Mo.zero=q
   ·subst hq;simp
   ·rw [if_neg hq];refine Classical.byContradiction fun hc=>hq (h0 q (fun e=>hc (by rw [e];rfl))).symm
  exact ⟨fun _=>0,by rw [qaU _ hs,qgN];exact hm⟩
 | L+1,h4,l,hl,h,hz=>by
  obtain ⟨m,hm⟩:=qbB hz;have hnn:m.nn=true:=Classical.byContradiction fun hc=>hm (hl m (by simpa using hc));obtain ⟨e,he⟩ : ∃ e:Nat,m.get (L+1)=(e:Int):=⟨(m.get (L+1)).toNat,by have:=qcZ hnn (L+1);omega⟩;have hc:=qgV (k:=L+1) (by omega) h4 hm;rw [he] at hc
  have hfre : ∀ (i:Nat) m,qab (ck (L+1) (i:Int) l) m≠0 -> ∀ k,L<k->k<=4->m.get k=0:=fun i m hm k hk hk4=>by
   rw [qbc (by omega) h4] at hm
   split at hm
   ·rename_i h0
    by_cases hkL:k=L+1
    ·subst hkL;exact h0
    ·have:=h _ hm k (by omega) hk4;rw [qax,qaB _ _ _ (by omega) h4,if_neg hkL] at this;omega
   ·exact absurd rfl hm
  obtain ⟨x,hx⟩:=qvq L (by omega) _ (qbg (by omega) h4 hl) (hfre e) hc;obtain ⟨B,hB⟩:=qeG l
  have hB' : ∀ m,qab l m≠0->m.get (L+1)<((B+1+e:Nat):Int):=fun m hm=>by have:=hB m hm (L+1);omega
  have hp:=qjw (N:=B+1+e) (by omega) h4 hl hB';refine Classical.byContradiction fun hcon=>?_;have hall : ∀ y,ev y l=0:=fun y=>Classical.byContradiction fun hc=>hcon ⟨y,hc⟩
  have hz:=qhV (B+1+e) (fun i=>ev x (ck (L+1) (i:Int) l)) (fun t _=>by
   have h1:=hall (fun k=>if k=L then t else x k);rw [<- qaU _ hp,qoH _ _ _ _ (by omega) h4 fun i _=>qbg (by omega) h4 hl] at h1
   rw [show (fun i:Nat=>ev x (ck (L+1) (i:Int) l))=fun i:Nat=>ev (fun k=>if k=L then t else x k) (ck (L+1) (i:Int) l) from funext fun i=>qvp _ _ (qbg (by omega) h4 hl) fun k h1 hk4 hne m hm=>by
    by_cases hk:k - 1=L
    ·exact hfre i m hm k (by omega) hk4
    ·rw [if_neg hk] at hne;exact absurd rfl hne]
   simpa using h1) e (by omega)
  exact hx hz
theorem qhf {l:List Tm} (hl:NN l) (h : ∀ x,ev x l=0):Sim l []:=Classical.byContradiction fun hc=>by
 obtain ⟨x,hx⟩:=qvq 4 (Nat.le_refl _) l hl (fun m _ k h1 h4=>by omega) hc;exact hx (h x)
theorem qcs {l r:List Tm} (hl:NN l) (hr:NN r) (h : ∀ x,ev x l=ev x r):Sim l r:=by
 have h1:Sim (l ++ smul (-1) r) []:=qhf (fun m hm=>by rw [qad,qag,hl m hm,hr m hm];rfl) fun x=>by
  rw [qaN,qda,h x];omega
 intro m;have:=h1 m;rw [qad,qag] at this;have e:qab ([]:List Tm) m=0:=rfl;omega


def sg1 (c:Nat):Int:=if c % 2=0 then 1 else -1
def mnP (P:Nat->Nat->List Tm) (c:Nat):Nat->Nat->List Tm:=fun r k=>P (r+1) (if k<c then k else k+1)
def qmH (D:(Nat->Nat->List Tm)->List Tm) (P:Nat->Nat->List Tm):Nat->List Tm
 | 0=>[]
 | c+1=>qmH D P c ++ smul (sg1 c) (pmul (P 0 c) (D (mnP P c)))
def qeF:Nat->(Nat->Nat->List Tm)->List Tm
 | 0,_=>[(1,Mo.zero)]
 | n+1,P=>qmH (qeF n) P (n+1)
def mnI (a:Nat->Nat->Int) (c:Nat):Nat->Nat->Int:=fun r k=>a (r+1) (if k<c then k else k+1)
def qbF (D:(Nat->Nat->Int)->Int) (a:Nat->Nat->Int):Nat->Int
 | 0=>0
 | c+1=>qbF D a c+sg1 c*(a 0 c*D (mnI a c))
def qc4:Nat->(Nat->Nat->Int)->Int
 | 0,_=>1
 | n+1,a=>qbF (qc4 n) a (n+1)
theorem qia {l:List Tm} (h:NN l) (c:Int):NN (smul c l):=fun m hm=>by rw [qag,h m hm];simp
theorem qct (z:Int):NN [(z,Mo.zero)]:=qaM fun t ht=>by
 simp only [List.mem_singleton] at ht;subst ht;rfl
theorem qn7 {D:(Nat->Nat->List Tm)->List Tm} {P:Nat->Nat->List Tm} (hD : ∀ c,NN (D (mnP P c))) (hP : ∀ i j,NN (P i j)) : ∀ c,NN (qmH D P c)
 | 0=>NN.nil
 | c+1=>(qn7 hD hP c).append (qia (qbG (hP 0 c) (hD c)) _)
theorem qcH : ∀ (n:Nat) (P:Nat->Nat->List Tm),(∀ i j,NN (P i j))->NN (qeF n P)
 | 0,_,_=>qct 1
 | n+1,_,h=>qn7 (fun c=>qcH n _ fun i j=>h _ _) h _
theorem qoI (x:Nat->Int) {D:(Nat->Nat->List Tm)->List Tm} {DI:(Nat->Nat->Int)->Int} {P:Nat->Nat->List Tm} (hN : ∀ c,NN (D (mnP P c))) (hD : ∀ c,ev x (D (mnP P c))=DI (mnI (fun i j=>ev x (P i j)) c)) (hP : ∀ i j,NN (P i j)) : ∀ c,ev x (qmH D P c)=qbF DI (fun i j=>ev x (P i j)) c
 | 0=>rfl
 | c+1=>by
  show ev x (qmH D P c ++ smul (sg1 c) (pmul (P 0 c) (D (mnP P c))))=_;rw [qaN,qoI x hN hD hP c,qda,qaj x (hP 0 c) (hN c),hD c];rfl
theorem qdw (x:Nat->Int) : ∀ (n:Nat) (P:Nat->Nat->List Tm),(∀ i j,NN (P i j))->ev x (qeF n P)=qc4 n (fun i j=>ev x (P i j))
 | 0,_,_=>qgN x 1
 | n+1,P,h=>qoI x (fun c=>qcH n _ fun i j=>h _ _) (fun c=>qdw x n _ fun i j=>h _ _) h _
def fct:Nat->Nat
 | 0=>1
 | n+1=>(n+1)*fct n
theorem qlc {D:(Nat->Nat->List Tm)->List Tm} {P:Nat->Nat->List Tm} {N R:Nat} (hD : ∀ c,nrm (D (mnP P c))<=R) (hP : ∀ i j,nrm (P i j)<=N) : ∀ c,nrm (qmH D P c)<=c*(N*R)
 | 0=>by simp [qmH,nrm]
 | c+1=>by
  show nrm (qmH D P c ++ smul (sg1 c) (pmul (P 0 c) (D (mnP P c))))<=_;rw [qas,qlb,qbD];have h1:=qlc hD hP c
  have h2:(sg1 c).natAbs=1:=by unfold sg1;split <;> rfl
  have h3:nrm (P 0 c)*nrm (D (mnP P c))<=N*R:=Nat.mul_le_mul (hP 0 c) (hD c);rw [h2,Nat.add_mul];omega
theorem qld {N:Nat} : ∀ (n:Nat) (P:Nat->Nat->List Tm),(∀ i j,nrm (P i j)<=N)->nrm (qeF n P)<=fct n*N ^ n
 | 0,_,_=>by simp [qeF,nrm,fct]
 | n+1,P,h=>by
  have:=qlc (D:=qeF n) (P:=P) (R:=fct n*N ^ n) (fun c=>qld n _ fun i j=>h _ _) h (n+1);refine Nat.le_trans this (Nat.le_of_eq ?_);simp only [fct,Nat.pow_succ]
  grind
theorem qo3 {B:Nat} {l:List Tm} (h:Deg B l) (c:Int):Deg B (smul c l):=fun m hm k=>h m (fun h0=>hm (by rw [qag,h0,Int.mul_zero])) k
structure qri (P:Nat->Nat->List Tm):Prop where
 nn : ∀ i j,NN (P i j)
 deg : ∀ i j,Deg 3 (P i j)
 dl : ∀ i j,dlen (nrm (P i j))<=5
def bord (k i j:Nat) (P:Nat->Nat->List Tm):Nat->Nat->List Tm:=fun r c=>P (if r<k then r else i) (if c<k then c else j)
def qdo (k i j:Nat) (a:Nat->Nat->Int):Nat->Nat->Int:=fun r c=>a (if r<k then r else i) (if c<k then c else j)
theorem qri.bord {P:Nat->Nat->List Tm} (h:qri P) (k i j:Nat):qri (bord k i j P):=⟨fun _ _=>h.nn _ _,fun _ _=>h.deg _ _,fun _ _=>h.dl _ _⟩
theorem qfj (x:Nat->Int) {P:Nat->Nat->List Tm} (h:qri P) (n k i j:Nat):ev x (qeF n (bord k i j P))=qc4 n (qdo k i j fun i j=>ev x (P i j)):=qdw x n _ (h.bord k i j).nn
theorem qwv (a:Nat->Nat->Int) (k i j:Nat) (hk:k<=2):qc4 (k+1) (qdo k i j a)*qc4 (k+1) (qdo k k k a) - qc4 (k+1) (qdo k i k a)*qc4 (k+1) (qdo k k j a)=qc4 k a*qc4 (k+2) (qdo (k+1) i j a):=by
 have hc:k=0∨k=1∨k=2:=by omega
 rcases hc with rfl | rfl | rfl
 ·simp [qc4,qbF,qdo,mnI,sg1]
  grind
 ·simp [qc4,qbF,qdo,mnI,sg1]
  grind
 ·simp [qc4,qbF,qdo,mnI,sg1]
  grind


theorem qgR {D:(Nat->Nat->List Tm)->List Tm} {P Q:Nat->Nat->List Tm} : ∀ c,(∀ d,d<c->D (mnP P d)=D (mnP Q d))->(∀ d,d<c->P 0 d=Q 0 d)->qmH D P c=qmH D Q c
 | 0,_,_=>rfl
 | c+1,hD,h=>by
  show qmH D P c ++ smul (sg1 c) (pmul (P 0 c) (D (mnP P c)))=qmH D Q c ++ smul (sg1 c) (pmul (Q 0 c) (D (mnP Q c)));rw [qgR c (fun d hd=>hD d (by omega)) (fun d hd=>h d (by omega)),hD c (by omega),h c (by omega)]
theorem qfn : ∀ (n:Nat) (P Q:Nat->Nat->List Tm),(∀ i j,i<n->j<n->P i j=Q i j)->qeF n P=qeF n Q
 | 0,_,_,_=>rfl
 | n+1,P,Q,h=>qgR (n+1) (fun d hd=>qfn n _ _ fun i j hi hj=>h _ _ (by omega) (by split <;> omega)) fun d hd=>h _ _ (by omega) hd
theorem qri.row {P:Nat->Nat->List Tm} (h:qri P) (σ:Nat->Nat):qri (fun i j=>P (σ i) j):=⟨fun _ _=>h.nn _ _,fun _ _=>h.deg _ _,fun _ _=>h.dl _ _⟩
def xch (k p i:Nat):Nat:=if i=k then p else if i=p then k else i
theorem qww (a:Nat->Nat->Int) (n k p:Nat) (hn:n<=4) (hkp:k<p) (hp:p<n):qc4 n (fun i j=>a (xch k p i) j) = -1*qc4 n a:=by
 have hc:(n=2/\k=0/\p=1)∨(n=3/\k=0/\p=1)∨(n=3/\k=0/\p=2)∨(n=3/\k=1/\p=2)∨(n=4/\k=0/\p=1)∨(n=4/\k=0/\p=2)∨(n=4/\k=0/\p=3)∨(n=4/\k=1/\p=2)∨(n=4/\k=1/\p=3)∨(n=4/\k=2/\p=3):=by omega
 rcases hc with ⟨rfl,rfl,rfl⟩ | ⟨rfl,rfl,rfl⟩ | ⟨rfl,rfl,rfl⟩ | ⟨rfl,rfl,rfl⟩ | ⟨rfl,rfl,rfl⟩ | ⟨rfl,rfl,rfl⟩ | ⟨rfl,rfl,rfl⟩ | ⟨rfl,rfl,rfl⟩ | ⟨rfl,rfl,rfl⟩ | ⟨rfl,rfl,rfl⟩ <;> simp [qc4,qbF,mnI,sg1,xch] <;> grind
theorem qwj (a:Nat->Nat->Int) (n k:Nat) (hn:n<=4) (hk:k<n) (h : ∀ i,k<=i->i<n->qc4 (k+1) (qdo k i k a)=0):qc4 k a*(qc4 k a*qc4 n a)=0:=by
 have hc:(k=0/\n=1)∨(k=0/\n=2)∨(k=0/\n=3)∨(k=0/\n=4)∨(k=1/\n=2)∨(k=1/\n=3)∨(k=1/\n=4)∨(k=2/\n=3)∨(k=2/\n=4)∨(k=3/\n=4):=by omega
 rcases hc with ⟨rfl,rfl⟩ | ⟨rfl,rfl⟩ | ⟨rfl,rfl⟩ | ⟨rfl,rfl⟩ | ⟨rfl,rfl⟩ | ⟨rfl,rfl⟩ | ⟨rfl,rfl⟩ | ⟨rfl,rfl⟩ | ⟨rfl,rfl⟩ | ⟨rfl,rfl⟩
 ·have h0:=h 0 (by omega) (by omega);simp [qc4,qbF,qdo,mnI,sg1] at h0 ⊢
  grind
 ·have h0:=h 0 (by omega) (by omega);have h1:=h 1 (by omega) (by omega);simp [qc4,qbF,qdo,mnI,sg1] at h0 h1 ⊢
  grind
 ·have h0:=h 0 (by omega) (by omega);have h1:=h 1 (by omega) (by omega);have h2:=h 2 (by omega) (by omega);simp [qc4,qbF,qdo,mnI,sg1] at h0 h1 h2 ⊢
  grind
 ·have h0:=h 0 (by omega) (by omega);have h1:=h 1 (by omega) (by omega);have h2:=h 2 (by omega) (by omega);have h3:=h 3 (by omega) (by omega);simp [qc4,qbF,qdo,mnI,sg1] at h0 h1 h2 h3 ⊢
  grind
 ·have h1:=h 1 (by omega) (by omega);simp [qc4,qbF,qdo,mnI,sg1] at h1 ⊢
  grind
 ·have h1:=h 1 (by omega) (by omega);have h2:=h 2 (by omega) (by omega);simp [qc4,qbF,qdo,mnI,sg1] at h1 h2 ⊢
  grind
 ·have h1:=h 1 (by omega) (by omega);have h2:=h 2 (by omega) (by omega);have h3:=h 3 (by omega) (by omega);simp [qc4,qbF,qdo,mnI,sg1] at h1 h2 h3 ⊢
  grind
 ·have h2:=h 2 (by omega) (by omega);simp [qc4,qbF,qdo,mnI,sg1] at h2 ⊢
  grind
 ·have h2:=h 2 (by omega) (by omega);have h3:=h 3 (by omega) (by omega);simp [qc4,qbF,qdo,mnI,sg1] at h2 h3 ⊢
  grind
 ·have h3:=h 3 (by omega) (by omega);simp [qc4,qbF,qdo,mnI,sg1] at h3 ⊢
  grind
structure ql5 (n:Nat) (P Q:Nat->Nat->List Tm) (k:Nat) (neg:Bool) (W:Nat->Nat->List Tm) (b:List Tm):Prop where
 ent:qri Q
 w : ∀ i j,k<=i->i<n->k<=j->j<n->Sim (W i j) (qeF (k+1) (bord k i j Q))
 bb:Sim b (qeF k Q)
 nz : ¬ Sim b []
 d:Sim (qeF n P) (smul (if neg=true then -1 else 1) (qeF n Q))
theorem qpl (i j:Nat) (Q:Nat->Nat->List Tm) (hN : ∀ i j,NN (Q i j)):Sim (Q i j) (qeF 1 (bord 0 i j Q)):=by
 refine qcs (hN i j) (qcH 1 _ fun _ _=>hN _ _) fun x=>?_;rw [qdw x 1 (bord 0 i j Q) fun _ _=>hN _ _];simp [qc4,qbF,sg1,bord]
theorem ql5.start {n:Nat} {P:Nat->Nat->List Tm} (h:qri P):ql5 n P P 0 false P [(1,Mo.zero)] where
 ent:=h
 w:=fun i j _ _ _ _=>qpl i j P h.nn
 bb:=Sim.refl _
 nz:=fun hs=>by
  have:=hs Mo.zero;simp [qab] at this
 d:=fun m=>by rw [qag];simp
theorem qrn {k p i:Nat} (hk:k<p) (hi:i<k):xch k p i=i:=by
 unfold xch;rw [if_neg (by omega),if_neg (by omega)]
theorem qux {k p i n:Nat} (hk:k<p) (hp:p<n) (hi:k<=i) (hn:i<n):k<=xch k p i/\xch k p i<n:=by
 unfold xch;split
 ·omega
 ·split <;> omega
theorem ql5.swap {n:Nat} {P Q:Nat->Nat->List Tm} {k p:Nat} {neg:Bool} {W:Nat->Nat->List Tm} {b:List Tm} (h:ql5 n P Q k neg W b) (hn:n<=4) (hkp:k<p) (hp:p<n):ql5 n P (fun i j=>Q (xch k p i) j) k (!neg) (fun i j=>W (xch k p i) j) b where
 ent:=h.ent.row _
 w:=fun i j hi hin hj hjn=>by
  have h1:=qux hkp hp hi hin;refine (h.w (xch k p i) j h1.1 h1.2 hj hjn).trans ?_
  rw [show bord k i j (fun i j=>Q (xch k p i) j)=bord k (xch k p i) j Q from funext fun r=>funext fun c=>by
   show Q (xch k p (if r<k then r else i)) _=Q (if r<k then r else xch k p i) _
   by_cases hr:r<k
   ·rw [if_pos hr,if_pos hr,qrn hkp hr]
   ·rw [if_neg hr,if_neg hr]]
  exact Sim.refl _
 bb:=by
  rw [qfn k (fun i j=>Q (xch k p i) j) Q fun i j hi _=>by rw [qrn hkp hi]];exact h.bb
 nz:=h.nz
 d:=by
  refine h.d.trans (qcs (qia (qcH n _ h.ent.nn) _) (qia (qcH n _ fun i j=>h.ent.nn _ _) _) fun x=>?_);rw [qda,qda,qdw x n _ h.ent.nn,qdw x n _ fun i j=>h.ent.nn _ _,qww (fun i j=>ev x (Q i j)) n k p hn hkp hp];cases neg <;> simp
theorem ql5.exact {n : Nat} {P Q : Nat -> Nat -> List Tm} {k i j : Nat} {neg : Bool} {W : Nat -> Nat -> List Tm} {b : List Tm} (h : ql5 n P Q k neg W b) (hn : n <= 4) (hi : k < i) (hin : i < n) (hj : k < j) (hjn : j < n) :
  Sim (pmul (W i j) (W k k) ++ pmul (pmul (W i k) (W k j)) [(-1,Mo.zero)]) (pmul (qeF (k+2) (bord (k+1) i j Q)) b):=by
 have nb : ∀ m k i j,NN (qeF m (bord k i j Q)):=fun m k i j=>qcH m _ (h.ent.bord k i j).nn;refine (Sim.append ((h.w i j (by omega) hin (by omega) hjn).pmul (h.w k k (by omega) (by omega) (by omega) (by omega))) (Sim.pmul_left ((h.w i k (by omega) hin (by omega) (by omega)).pmul (h.w k j (by omega) (by omega) (by omega) hjn)) _)).trans (Sim.trans ?_ (h.bb.symm.pmul_right _));refine qcs (NN.append (qbG (nb _ _ _ _) (nb _ _ _ _)) (qbG (qbG (nb _ _ _ _) (nb _ _ _ _)) (qct _))) (qbG (nb _ _ _ _) (qcH k _ h.ent.nn)) fun x=>?_;rw [qaN,qaj x (nb _ _ _ _) (nb _ _ _ _),qaj x (qbG (nb _ _ _ _) (nb _ _ _ _)) (qct _),qaj x (nb _ _ _ _) (nb _ _ _ _),qaj x (nb _ _ _ _) (qcH k _ h.ent.nn),qgN,qfj x h.ent,qfj x h.ent,qfj x h.ent,qfj x h.ent,qfj x h.ent,qdw x k _ h.ent.nn];have:=qwv (fun i j=>ev x (Q i j)) k i j (by omega)
 grind
theorem ql5.next {n:Nat} {P Q:Nat->Nat->List Tm} {k:Nat} {neg:Bool} {W W':Nat->Nat->List Tm} {b:List Tm} (h:ql5 n P Q k neg W b) (hk:k<n) (hz : ¬ Sim (W k k) []) (hW : ∀ i j,k<i->i<n->k<j->j<n->Sim (W' i j) (qeF (k+2) (bord (k+1) i j Q))):ql5 n P Q (k+1) neg W' (W k k) where
 ent:=h.ent
 w:=fun i j hi hin hj hjn=>hW i j (by omega) hin (by omega) hjn
 bb:=by
  refine (h.w k k (by omega) hk (by omega) hk).trans ?_
  rw [qfn (k+1) (bord k k k Q) Q fun i j hi hj=>by
   unfold bord
   rw [show (if i<k then i else k)=i by split <;> omega,show (if j<k then j else k)=j by split <;> omega]]
  exact Sim.refl _
 nz:=hz
 d:=h.d
theorem ql5.zero {n:Nat} {P Q:Nat->Nat->List Tm} {k:Nat} {neg:Bool} {W:Nat->Nat->List Tm} {b:List Tm} (h:ql5 n P Q k neg W b) (hn:n<=4) (hk:k<n) (hz : ∀ i,k<=i->i<n->Sim (W i k) []):Sim (qeF n P) []:=by
 have hN:=qcH n Q h.ent.nn;have hK:=qcH k Q h.ent.nn;have hb : ¬ Sim (qeF k Q) []:=fun hs=>h.nz (h.bb.trans hs)
 have h1:Sim (pmul (qeF k Q) (pmul (qeF k Q) (qeF n Q))) []:=qhf (qbG hK (qbG hK hN)) fun x=>by
  rw [qaj x hK (qbG hK hN),qaj x hK hN,qdw x k _ h.ent.nn,qdw x n _ h.ent.nn];refine qwj (fun i j=>ev x (Q i j)) n k hn hk fun i hi hin=>?_;rw [<- qfj x h.ent,<- qaU x (h.w i k hi hin (by omega) hk),qaU x (hz i hi hin)];rfl
 have h2:Sim (pmul (qeF k Q) (qeF n Q)) []:=Classical.byContradiction fun hc=>qaT hK (qbG hK hN) hb hc h1;have h3:Sim (qeF n Q) []:=Classical.byContradiction fun hc=>qaT hK hN hb hc h2;exact h.d.trans (h3.smul _)
theorem ql5.fin {n:Nat} {P Q:Nat->Nat->List Tm} {neg:Bool} {W:Nat->Nat->List Tm} {b:List Tm} (h:ql5 n P Q n neg W b):Sim (qeF n P) (smul (if neg=true then -1 else 1) b):=h.d.trans (h.bb.symm.smul _)
end Go.Proofs.YtmcfpnmoklnhoaaGreat

namespace Go.Proofs.YtmcfpnmoklnhoaaGreat
open Go.RowKit

def zx (c:Nat->Nat) (P:Nat->Nat->List Tm):Nat->Nat->List Tm:=fun i j=>if j<c i then P i j else []
def qrg (M:Nat->Prop) (w:World) (v:Value) (S:Nat) (c:Nat->Nat) (P:Nat->Nat->List Tm):Prop:=∃ (a:Option Addr) (cap:Nat) (rv:Nat->Value),v = .slice a S cap /\ ∀ k,k<S -> ∃ g,a=some ⟨g,0,none⟩/\g<w.heap.size /\ ¬ M g/\w.cell? ⟨g,k,none⟩=some (rv k)/\qa7 M w 4 (rv k) (c k) (P k)
theorem qrg.ext {M:Nat->Prop} {w w':World} {v:Value} {S:Nat} {c:Nat->Nat} {P:Nat->Nat->List Tm} (h:qrg M w v S c P) (he:Ext w w'):qrg M w' v S c P:=by
 obtain ⟨a,cap,rv,rfl,h⟩:=h;refine ⟨a,cap,rv,rfl,fun k hk=>?_⟩;obtain ⟨g,h1,h2,h3,h4,h5⟩:=h k hk;exact ⟨g,h1,Nat.lt_of_lt_of_le h2 he.size,h3,by rw [he.cell h2];exact h4,h5.ext he⟩
theorem qrg.more {M M':Nat->Prop} {w:World} {v:Value} {S:Nat} {c:Nat->Nat} {P:Nat->Nat->List Tm} (h:qrg M w v S c P) (hm : ∀ g,M' g->M g∨w.heap.size<=g):qrg M' w v S c P:=by
 obtain ⟨a,cap,rv,rfl,h⟩:=h;refine ⟨a,cap,rv,rfl,fun k hk=>?_⟩;obtain ⟨g,h1,h2,h3,h4,h5⟩:=h k hk;exact ⟨g,h1,h2,fun hg=>(hm g hg).elim h3 (by omega),h4,h5.more hm⟩
theorem qrg.kp {M:Nat->Prop} {w w':World} {v:Value} {S:Nat} {c:Nat->Nat} {P:Nat->Nat->List Tm} (h:qrg M w v S c P) (he:Kp M w w'):qrg M w' v S c P:=by
 obtain ⟨a,cap,rv,rfl,h⟩:=h;refine ⟨a,cap,rv,rfl,fun k hk=>?_⟩;obtain ⟨g,h1,h2,h3,h4,h5⟩:=h k hk;exact ⟨g,h1,Nat.lt_of_lt_of_le h2 he.1,h3,by rw [he.cell h2 h3];exact h4,h5.kp he⟩
theorem qft.krow {M M':Nat->Prop} {w:World} {g N c:Nat} {P:Nat->List Tm} (h:qft M w g N c P) (hm : ∀ b,M' b->M b∨w.heap.size<=b) (hg : ¬ M' g) (hN:N<=1099511627776):qa7 M' w 4 (.slice (some ⟨g,0,none⟩) N c) N P:=by
 obtain ⟨⟨h0,hc⟩,f,h1,h2⟩:=h;refine ⟨hN,.inr ⟨g,0,c,rfl,h0,hc,⟨h1.lt,hg⟩,fun i hi=>?_⟩⟩;rw [Nat.zero_add];exact ⟨_,_,_,_,h1.cell (by omega),h1.cell (by omega),h1.cell (by omega),h1.cell (by omega),(h2 i hi).more hm⟩


def cnt (k t:Nat):Nat:=if t<=k then t else t - 1


structure WM (MW:Nat->Prop) (w:World) (g S i n:Nat) (gs:Nat->Nat) (W:Nat->Nat->List Tm):Prop where
 blk:Blk w g 31 S (fun k=>if k<i then .slice (some ⟨gs k,0,none⟩) n n else .slice none 0 0)
 mg:MW g
 row : ∀ k,k<i->gs k≠g/\MW (gs k)/\qaz MW w 4 (gs k) n (W k)
 inj : ∀ k l,k<i->l<i->gs k=gs l->k=l
theorem WM.ext {MW:Nat->Prop} {w w':World} {g S i n:Nat} {gs:Nat->Nat} {W:Nat->Nat->List Tm} (h:WM MW w g S i n gs W) (he:Ext w w'):WM MW w' g S i n gs W:=
 ⟨h.blk.ext he,h.mg,fun k hk=>⟨(h.row k hk).1,(h.row k hk).2.1,(h.row k hk).2.2.ext he⟩,h.inj⟩
theorem WM.congr {MW:Nat->Prop} {w:World} {g S i n:Nat} {gs:Nat->Nat} {W V:Nat->Nat->List Tm} (h:WM MW w g S i n gs W) (hv : ∀ k j,k<i->j<n->Sim (W k j) (V k j)):WM MW w g S i n gs V:=
 ⟨h.blk,h.mg,fun k hk=>⟨(h.row k hk).1,(h.row k hk).2.1,(h.row k hk).2.2.congr fun j hj=>hv k j hk hj⟩,h.inj⟩
theorem WM.more {MW MW':Nat->Prop} {w:World} {g S i n:Nat} {gs:Nat->Nat} {W:Nat->Nat->List Tm} (h:WM MW w g S i n gs W) (hs : ∀ b,MW b->MW' b) (hm : ∀ b,MW' b->MW b∨w.heap.size<=b):WM MW' w g S i n gs W:=
 ⟨h.blk,hs _ h.mg,fun k hk=>⟨(h.row k hk).1,hs _ (h.row k hk).2.1,(h.row k hk).2.2.more hm⟩,h.inj⟩
theorem WM.set {MW:Nat->Prop} {w:World} {g S i n:Nat} {gs:Nat->Nat} {W:Nat->Nat->List Tm} (h:WM MW w g S i n gs W) {k j:Nat} (hk:k<i) (hj:j<n) {e0 e1 e2 e3:Value} {l:List Tm} (hc:CR MW w 4 e0 e1 e2 e3 l):WM MW (set4 w (gs k) (j*4) e0 e1 e2 e3) g S i n gs (fun r c=>if r=k/\c=j then l else W r c):=by
 have hr:=h.row k hk;have hkp:Kp MW w (set4 w (gs k) (j*4) e0 e1 e2 e3):=Kp.set4 hr.2.1 _ _ _ _ _;refine ⟨h.blk.of_heap (qaf _ _ _ _ _ _ _ _ (fun e=>hr.1 e.symm)),h.mg,fun r hr2=>⟨(h.row r hr2).1,(h.row r hr2).2.1,?_⟩,h.inj⟩
 by_cases hrk:r=k
 ·subst hrk;refine (hr.2.2.set hr.2.1 j hj hc).congr fun c _=>?_
  by_cases hcj:c=j
  ·rw [if_pos hcj,if_pos ⟨rfl,hcj⟩];exact Sim.refl _
  ·rw [if_neg hcj,if_neg fun e=>hcj e.2];exact Sim.refl _
 ·refine ((h.row r hr2).2.2.kp (qaf _ _ _ _ _ _ _ _ fun e=>hrk (h.inj r k hr2 hk e)) hkp).congr fun c _=>?_;rw [if_neg fun e=>hrk e.1];exact Sim.refl _
theorem WM.put {MW:Nat->Prop} {w w':World} {g S i n:Nat} {gs:Nat->Nat} {W:Nat->Nat->List Tm} (h:WM MW w g S i n gs W) {k:Nat} (hk:k<i) {P:Nat->List Tm} (hg:w.grownBy w' (some (gs k))) (hK:qaz MW w' 4 (gs k) n P):WM MW w' g S i n gs (fun r=>if r=k then P else W r):=by
 have hr:=h.row k hk
 have hkp:Kp MW w w':=Kp.grown hg fun b hb=>by cases hb;exact hr.2.1
 have hh : ∀ b,b<w.heap.size->b≠gs k->w'.heap[b]? = w.heap[b]?:=fun b hb hne=>hg.block b hb fun e=>hne (by cases e;rfl);refine ⟨h.blk.of_heap (hh g h.blk.lt fun e=>hr.1 e.symm),h.mg,fun r hr2=>⟨(h.row r hr2).1,(h.row r hr2).2.1,?_⟩,h.inj⟩
 by_cases hrk:r=k
 ·subst hrk;rw [if_pos rfl];exact hK
 ·rw [if_neg hrk];exact (h.row r hr2).2.2.kp (hh _ (h.row r hr2).2.2.lt fun e=>hrk (h.inj r k hr2 hk e)) hkp
theorem WM.cel {MW:Nat->Prop} {w:World} {g S i n:Nat} {gs:Nat->Nat} {W:Nat->Nat->List Tm} (h:WM MW w g S i n gs W) {k j:Nat} (hk:k<i) (hi:i<=S) (hj:j<n):w.cell? ⟨g,k,none⟩=some (.slice (some ⟨gs k,0,none⟩) n n) /\ ∃ y,qaI w (gs k) (j*4) y/\CRx MW w 4 y (W k j):=by
 refine ⟨?_,(h.row k hk).2.2.cells j hj⟩;rw [h.blk.cell (by omega),if_pos hk]
theorem qaz.of_copy {M : Nat -> Prop} {w : World} {g n k : Nat} {xx : Nat -> PE} {P : Nat -> List Tm} (hB : Blk w g 33 (n * 4) (qfP zc4 0 (k * 4) (px xx))) (hk : k <= n)
  (h : ∀ i,i<k->CRx M w 4 (xx i) (P i)):qaz M w 4 g n (fun i=>if i<k then P i else []):=by
 refine ⟨_,hB,fun i hi=>?_⟩
 by_cases hik:i<k
 ·have e : ∀ r,r<4->qfP zc4 0 (k*4) (px xx) (i*4+r)=px xx (i*4+r):=fun r hr=>by unfold qfP;rw [if_pos ⟨by omega,by omega⟩,Nat.sub_zero]
  have e0:=e 0 (by omega);rw [Nat.add_zero] at e0;rw [e0,e 1 (by omega),e 2 (by omega),e 3 (by omega),px0,px1,px2,px3];simp only [if_pos hik];exact h i hik
 ·have e : ∀ r,r<4->qfP zc4 0 (k*4) (px xx) (i*4+r)=zc4 (i*4+r):=fun r hr=>by unfold qfP;rw [if_neg (by omega)]
  have e0:=e 0 (by omega);rw [Nat.add_zero] at e0
  have h0:zc4 (i*4) = .int .i64 0:=by unfold zc4;rw [if_pos (by omega)]
  have h1:zc4 (i*4+1) = .bool false:=by unfold zc4;rw [if_neg (by omega),if_pos (by omega)]
  have h2:zc4 (i*4+2) = .slice none 0 0:=by unfold zc4;rw [if_neg (by omega),if_neg (by omega)]
  have h3:zc4 (i*4+3) = .slice none 0 0:=by unfold zc4;rw [if_neg (by omega),if_neg (by omega)]
  rw [e0,e 1 (by omega),e 2 (by omega),e 3 (by omega),h0,h1,h2,h3];simp only [if_neg hik];exact CR.zero _ _ _
theorem WM.swap {MW:Nat->Prop} {w:World} {g S n:Nat} {gs:Nat->Nat} {W:Nat->Nat->List Tm} (h:WM MW w g S S n gs W) {k p:Nat} (hk:k<S) (hp:p<S):WM MW ((w.setCell ⟨g,p,none⟩ (.slice (some ⟨gs k,0,none⟩) n n)).setCell ⟨g,k,none⟩ (.slice (some ⟨gs p,0,none⟩) n n)) g S S n (fun r=>gs (xch k p r)) (fun r=>W (xch k p r)):=by
 have hx : ∀ r,r<S->xch k p r<S:=fun r hr=>by unfold xch;split <;> (try split) <;> omega
 have hkp1:Kp MW w (w.setCell ⟨g,p,none⟩ (.slice (some ⟨gs k,0,none⟩) n n)):=Kp.set _ _ (p:=⟨g,p,none⟩) h.mg _;have hkp2:Kp MW (w.setCell ⟨g,p,none⟩ (.slice (some ⟨gs k,0,none⟩) n n)) ((w.setCell ⟨g,p,none⟩ (.slice (some ⟨gs k,0,none⟩) n n)).setCell ⟨g,k,none⟩ (.slice (some ⟨gs p,0,none⟩) n n)):=Kp.set _ _ (p:=⟨g,k,none⟩) h.mg _;have hh : ∀ b,b≠g->((w.setCell ⟨g,p,none⟩ (.slice (some ⟨gs k,0,none⟩) n n)).setCell ⟨g,k,none⟩ (.slice (some ⟨gs p,0,none⟩) n n)).heap[b]? = w.heap[b]?:=fun b hb=>(Below.heap_setCell _ _ _ _ hb).trans (Below.heap_setCell _ _ _ _ hb);refine ⟨((h.blk.set p (.slice (some ⟨gs k,0,none⟩) n n)).set k (.slice (some ⟨gs p,0,none⟩) n n)).congr fun j hj=>?_,h.mg,fun r hr=>?_,fun r l hr hl e=>?_⟩
 ·unfold upd xch
  dsimp only
  by_cases h1:j=k
  ·rw [if_pos h1,if_pos hj,if_pos h1]
  ·rw [if_neg h1,if_neg h1]
   by_cases h2:j=p
   ·rw [if_pos h2,if_pos hj,if_pos h2]
   ·rw [if_neg h2,if_neg h2]
 ·have h3:=h.row (xch k p r) (hx r hr);exact ⟨h3.1,h3.2.1,h3.2.2.kp (hh _ h3.1) (hkp1.trans hkp2)⟩
 ·have h4:=h.inj _ _ (hx r hr) (hx l hl) e;unfold xch at h4
  (repeat' split at h4) <;> omega
def mx (c:Nat->Nat):Nat->Nat
 | 0=>0
 | k+1=>max (mx c k) (c k)


def qyf (M:Nat->Prop) (w:World) (S:Nat) (c:Nat->Nat) (P:Nat->Nat->List Tm) (e:Ending) (w':World):Prop:=
 (mx c S≠S/\e = .returned (.tuple #[.slice none 0 0,.bool false])/\Ext w w') ∨
 (mx c S=S /\ ∃ (g:Nat) (gs:Nat->Nat) (MW:Nat->Prop),e = .returned (.tuple #[.slice (some ⟨g,0,none⟩) S S,.bool true])/\WM MW w' g S S S gs (zx c P)/\(∀ b,M b->MW b)/\(∀ b,MW b->M b∨w.heap.size<=b)/\Mb MW w'/\(∀ r,r<S->w.heap.size<=gs r)/\w.heap.size<=g/\Ext w w')
def SRq (g i:Nat) (r:Nat) (n:Nat) (o:Nat) (y:PE) (w:World):Prop:=(w.cell? ⟨g,i,none⟩=some (.slice (some ⟨r,0,none⟩) n n)/\g<w.heap.size)/\qaI w r o y/\r<w.heap.size
theorem SRq.ext {g i r n o:Nat} {y:PE} {w w':World} (h:SRq g i r n o y w) (he:Ext w w'):SRq g i r n o y w':=⟨⟨by rw [he.cell h.1.2];exact h.1.1,Nat.lt_of_lt_of_le h.1.2 he.size⟩,h.2.1.ext h.2.2 he,Nat.lt_of_lt_of_le h.2.2 he.size⟩


def qyE (g:Nat) (w w':World):Prop:=Kp (fun b=>b=g) w w'
def qyk (MW:Nat->Prop) (w:World) (g S k:Nat) (gs:Nat->Nat) (W:Nat->Nat->List Tm) (e:Ending) (w':World):Prop:=
 (∃ (p:Nat) (x:Bool),k<=p/\p<S /\ ¬ Sim (W p k) []/\(x=true↔p≠k)/\e = .returned (.tuple #[.bool true,.bool x])/\WM MW w' g S S S (fun r=>gs (xch k p r)) (fun r=>W (xch k p r))/\qyE g w w' /\ ∀ w0,Ext w0 w->w0.heap.size<=g->Ext w0 w') ∨
 ((∀ i,k<=i->i<S->Sim (W i k) [])/\e = .returned (.tuple #[.bool false,.bool false])/\Ext w w')
def SPv (g i k:Nat) (u v:Value) (w:World):Prop:=w.cell? ⟨g,i,none⟩=some u/\w.cell? ⟨g,k,none⟩=some v
end Go.Proofs.YtmcfpnmoklnhoaaGreat
