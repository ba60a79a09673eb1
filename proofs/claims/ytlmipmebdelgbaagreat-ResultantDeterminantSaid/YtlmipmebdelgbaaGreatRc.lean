/- Polynomials are equal if their values at all integers are. Determinants, plain: expansion along the first row; elimination without fractions. Elimination without fractions, plain: the invariant. cylinderref25.At; matrices with rows of any length. cylinderref25.Determinant. The matrix that elimination works on, in memory. subresultant.square. subresultant.pivot. -/
import Derived.Test.YtlmipmebdelgbaaGreatEc
import Derived.Test.YtlmipmebdelgbaaGreatQe
set_option linter.unusedVariables false
set_option linter.unusedSimpArgs false

namespace Go.Proofs.YtlmipmebdelgbaaGreat

def eM (x:Nat->Int) (m:Mo):Int:=if m.nn=true then x 0 ^ m.a.toNat*x 1 ^ m.b.toNat*x 2 ^ m.c.toNat*x 3 ^ m.d.toNat else 0
def ev (x:Nat->Int):List Tm->Int
 | []=>0
 | t :: l=>t.1*eM x t.2+ev x l
theorem qbU (x:Nat->Int) (l r:List Tm):ev x (l ++ r)=ev x l+ev x r:=by
 induction l with
 | nil=>simp [ev]
 | cons t l ih=>simp only [List.cons_append,ev,ih,Int.add_assoc]
theorem qgt (x:Nat->Int) (c:Int) (l:List Tm):ev x (smul c l)=c*ev x l:=by
 induction l with
 | nil=>simp [smul,ev]
 | cons t l ih=>
  show c*t.1*eM x t.2+ev x (smul c l)=_
  rw [ih]
  simp only [ev]
  grind
theorem qru (x:Nat->Int) (c:Int) (m:Mo) (l:List Tm):ev x (ins c m l)=c*eM x m+ev x l:=by
 induction l with
 | nil=>
  simp only [ins];split
  ·rename_i h;subst h;simp [ev]
  ·simp [ev]
 | cons s r ih=>
  simp only [ins]
  split
  ·rename_i h1
   subst h1
   split
   ·rename_i h2
    simp only [ev]
    generalize eM x s.2=p
    generalize ev x r=u
    have e3:(s.1+c)*p=0:=by rw [h2,Int.zero_mul]
    grind
   ·simp only [ev]
    generalize eM x s.2=p
    generalize ev x r=u
    grind
  ·split
   ·split
    ·rename_i h;subst h;simp
    ·simp only [ev]
   ·simp only [ev,ih]
    generalize ev x r=u
    generalize s.1*eM x s.2=v
    generalize c*eM x m=y
    grind
theorem qdv (x:Nat->Int) : ∀ l:List Tm,ev x (norm l)=ev x l
 | []=>rfl
 | t :: l=>by
  have ih:=qdv x l
  simp only [norm]
  split
  ·rw [qru,ih];rfl
  ·rename_i h
   show _=t.1*eM x t.2+ev x l
   rw [ih,eM,if_neg h];simp
theorem qaO (x:Nat->Int) {l r:List Tm} (h:Sim l r):ev x l=ev x r:=by
 rw [<- qdv x l,<- qdv x r,h.norm]
theorem qrA (x:Nat->Int) (p q:Mo) (hp:p.nn=true) (hq:q.nn=true):eM x (Mo.add p q)=eM x p*eM x q:=by
 obtain ⟨x1,x2,x3,x4⟩:=(Mo.nn_iff p).1 hp
 obtain ⟨y1,y2,y3,y4⟩:=(Mo.nn_iff q).1 hq
 have h:(Mo.add p q).nn=true:=by rw [Mo.nn_iff];unfold Mo.add;refine ⟨?_,?_,?_,?_⟩ <;> simp only <;> omega
 unfold eM
 rw [if_pos hp,if_pos hq,if_pos h]
 unfold Mo.add
 simp only
 rw [Int.toNat_add x1 y1,Int.toNat_add x2 y2,Int.toNat_add x3 y3,Int.toNat_add x4 y4,Int.pow_add,Int.pow_add,Int.pow_add,Int.pow_add]
 generalize x 0 ^ p.a.toNat=p1
 generalize x 0 ^ q.a.toNat=q1
 generalize x 1 ^ p.b.toNat=p2
 generalize x 1 ^ q.b.toNat=q2
 generalize x 2 ^ p.c.toNat=p3
 generalize x 2 ^ q.c.toNat=q3
 generalize x 3 ^ p.d.toNat=p4
 generalize x 3 ^ q.d.toNat=q4
 grind
theorem ql3 (x:Nat->Int) (k:Mo) (hk:k.nn=true) (l:List Tm) (hl : ∀ t ∈ l,t.2.nn=true):ev x (shift k l)=eM x k*ev x l:=by
 induction l with
 | nil=>show ev x []=_;simp [ev]
 | cons t l ih=>
  show t.1*eM x (Mo.add t.2 k)+ev x (shift k l)=_
  rw [ih fun s hs=>hl s (List.mem_cons_of_mem _ hs),qrA x _ _ (hl t (List.mem_cons_self ..)) hk]
  simp only [ev]
  generalize eM x t.2=p
  generalize eM x k=q
  generalize ev x l=r
  grind
theorem qeD (x:Nat->Int) (k:Mo) (hk:k.nn=true) {l:List Tm} (hl:NN l):ev x (shift k l)=eM x k*ev x l:=by
 rw [<- qdv x l,<- ql3 x k hk _ (qa2 l)]
 exact qaO x ((qan hl).symm.shift k)
theorem qjq (x:Nat->Int) (r:List Tm) (hr:NN r) : ∀ l:List Tm,(∀ t ∈ l,t.2.nn=true)->ev x (pmul l r)=ev x l*ev x r
 | [],_=>by show ev x []=_;simp [ev]
 | s :: l,hl=>by
  show ev x (shift s.2 (smul s.1 r) ++ pmul l r)=_
  rw [qbU,qjq x r hr l fun t ht=>hl t (List.mem_cons_of_mem _ ht),qeD x _ (hl s List.mem_cons_self) (fun m hm=>by rw [qai,hr m hm];simp),qgt]
  simp only [ev]
  generalize eM x s.2=p
  generalize ev x r=q
  generalize ev x l=u
  grind
theorem qaC (x:Nat->Int) {l r:List Tm} (hl:NN l) (hr:NN r):ev x (pmul l r)=ev x l*ev x r:=by
 rw [<- qdv x l,<- qjq x r hr _ (qa2 l)]
 exact qaO x ((qan hl).symm.pmul_left r)
theorem qfe (x:Nat->Int) (z:Int):ev x [(z,Mo.zero)]=z:=by
 have h:Mo.zero.nn=true:=by decide
 have e:eM x Mo.zero=1:=by unfold eM;rw [if_pos h];simp [Mo.zero]
 simp [ev,e]
def psI (t:Int) (c:Nat->Int):Nat->Int
 | 0=>0
 | n+1=>psI t c n+c n*t ^ n
theorem qga (t:Int) (c:Nat->Int) : ∀ n,psI t c (n+1)=c 0+t*psI t (fun i=>c (i+1)) n
 | 0=>by simp [psI]
 | n+1=>by
  have ih:=qga t c n
  show psI t c (n+1)+c (n+1)*t ^ (n+1)=c 0+t*(psI t (fun i=>c (i+1)) n+c (n+1)*t ^ n)
  rw [ih,Int.pow_succ]
  generalize psI t (fun i=>c (i+1)) n=p
  generalize t ^ n=q
  grind
theorem qiQ : ∀ (n:Nat) (c:Nat->Int),(∀ t:Int,t≠0->psI t c n=0) -> ∀ i,i<n->c i=0
 | 0,_,_,i,hi=>absurd hi (Nat.not_lt_zero _)
 | n+1,c,h,i,hi=>by
  have h0:c 0=0:=by
   have h1:=h ((c 0).natAbs+1) (by omega)
   rw [qga] at h1
   have h2:(((c 0).natAbs:Int)+1) ∣ c 0:=⟨-psI (((c 0).natAbs:Int)+1) (fun i=>c (i+1)) n,by rw [Int.mul_neg];omega⟩
   exact Int.eq_zero_of_dvd_of_natAbs_lt_natAbs h2 (by omega)
  have h3 : ∀ t:Int,t≠0->psI t (fun i=>c (i+1)) n=0:=fun t ht=>by
   have h1:=h t ht
   rw [qga,h0,Int.zero_add] at h1
   rcases Int.mul_eq_zero.1 h1 with h2 | h2
   ·exact absurd h2 ht
   ·exact h2
  cases i with
  | zero=>exact h0
  | succ i=>exact qiQ n _ h3 i (by omega)
theorem qiB (L i:Nat):(xp L (i:Int)).nn=true:=by
 rw [Mo.nn_iff];unfold xp;simp only
 refine ⟨?_,?_,?_,?_⟩ <;> split <;> omega
theorem qp5 (x:Nat->Int) (L i:Nat) (h1:1<=L) (h4:L<=4):eM x (xp L (i:Int))=x (L - 1) ^ i:=by
 unfold eM
 rw [if_pos (qiB L i)]
 rcases qdK h1 h4 with rfl | rfl | rfl | rfl <;> simp [xp]
theorem qp4 (x:Nat->Int) (L n:Nat) (P:Nat->List Tm) (h1:1<=L) (h4:L<=4) (hP : ∀ i,i<n->NN (P i)):ev x (poly L n P)=psI (x (L - 1)) (fun i=>ev x (P i)) n:=by
 induction n with
 | zero=>rfl
 | succ n ih=>
  rw [qaf,qbU,ih fun i hi=>hP i (by omega),qeD x _ (qiB L n) (hP n (by omega)),qp5 x L n h1 h4,Int.mul_comm];rfl
theorem qrr (x y:Nat->Int) {l:List Tm} (hl:NN l) (h : ∀ k,1<=k->k<=4->x (k - 1)≠y (k - 1) -> ∀ m,qab l m≠0->m.get k=0):ev x l=ev y l:=by
 rw [<- qdv x l,<- qdv y l]
 have hc:=qaH l
 have hk : ∀ t ∈ norm l,∀ k,1<=k->k<=4->x (k - 1)≠y (k - 1)->t.2.get k=0:=fun t ht k h1 h4 hne=>h k h1 h4 hne t.2 (by
  rw [<- qan hl t.2]
  exact qa9 hc ht)
 clear hc
 generalize norm l=r at *
 clear hl h
 induction r with
 | nil=>rfl
 | cons t r ih=>
  show t.1*eM x t.2+ev x r=t.1*eM y t.2+ev y r
  rw [ih fun s hs=>hk s (List.mem_cons_of_mem _ hs)]
  congr 2
  unfold eM
  split
  ·have e : ∀ k, 1 <= k -> k <= 4 -> x (k - 1) ^ (t.2.get k).toNat = y (k - 1) ^ (t.2.get k).toNat := fun k h1 h4 => by
    by_cases hne:x (k - 1)=y (k - 1)
    ·rw [hne]
    ·rw [hk t List.mem_cons_self k h1 h4 hne];simp
   have e1:=e 1 (by omega) (by omega)
   have e2:=e 2 (by omega) (by omega)
   have e3:=e 3 (by omega) (by omega)
   have e4:=e 4 (by omega) (by omega)
   simp only [Mo.get] at e1 e2 e3 e4
   simp at e1 e2 e3 e4
   rw [e1,e2,e3,e4]
  ·rfl
theorem qgy : ∀ l:List Tm,∃ B:Nat,∀ m,qab l m≠0 -> ∀ k,m.get k<=B
 | []=>⟨0,fun m hm=>absurd rfl hm⟩
 | t :: l=>by
  obtain ⟨B,hB⟩:=qgy l
  refine ⟨B+t.2.a.natAbs+t.2.b.natAbs+t.2.c.natAbs+t.2.d.natAbs,fun m hm k=>?_⟩
  by_cases h0:qab l m=0
  ·have ht:t.2=m:=Classical.byContradiction fun hc=>hm (by simp only [qab];rw [if_neg hc,h0];rfl)
   subst ht
   unfold Mo.get
   (repeat' split) <;> omega
  ·have:=hB m h0 k
   omega
theorem qrt : ∀ (L:Nat),L<=4 -> ∀ l:List Tm,NN l->(∀ m,qab l m≠0 -> ∀ k,L<k->k<=4->m.get k=0) -> ¬ Sim l [] -> ∃ x,ev x l≠0
 | 0,_,l,hl,h,hz=>by
  obtain ⟨m,hm⟩:=qbL hz
  have h0 : ∀ m,qab l m≠0->m=Mo.zero:=fun m hm=>Mo.ext_get fun k h1 h4=>by rw [h m hm k (by omega) h4,qbr]
  obtain rfl:=h0 m hm
  have hs:Sim l [(qab l Mo.zero,Mo.zero)]:=fun q=>by
   simp only [qab]
   by_cases hq:Mo.zero=q
   ·subst hq;simp
   ·rw [if_neg hq]
    refine Classical.byContradiction fun hc=>hq (h0 q (fun e=>hc (by rw [e];rfl))).symm
  exact ⟨fun _=>0,by rw [qaO _ hs,qfe];exact hm⟩
 | L+1,h4,l,hl,h,hz=>by
  obtain ⟨m,hm⟩:=qbL hz
  have hnn:m.nn=true:=Classical.byContradiction fun hc=>hm (hl m (by simpa using hc))
  obtain ⟨e,he⟩ : ∃ e:Nat,m.get (L+1)=(e:Int):=⟨(m.get (L+1)).toNat,by have:=qci hnn (L+1);omega⟩
  have hc:=qgD (k:=L+1) (by omega) h4 hm
  rw [he] at hc
  have hfre : ∀ (i:Nat) m,qab (ck (L+1) (i:Int) l) m≠0 -> ∀ k,L<k->k<=4->m.get k=0:=fun i m hm k hk hk4=>by
   rw [qaR (by omega) h4] at hm
   split at hm
   ·rename_i h0
    by_cases hkL:k=L+1
    ·subst hkL;exact h0
    ·have:=h _ hm k (by omega) hk4
     rw [qap,qas _ _ _ (by omega) h4,if_neg hkL] at this
     omega
   ·exact absurd rfl hm
  obtain ⟨x,hx⟩:=qrt L (by omega) _ (qaY (by omega) h4 hl) (hfre e) hc
  obtain ⟨B,hB⟩:=qgy l
  have hB' : ∀ m,qab l m≠0->m.get (L+1)<((B+1+e:Nat):Int):=fun m hm=>by have:=hB m hm (L+1);omega
  have hp:=qfS (N:=B+1+e) (by omega) h4 hl hB'
  refine Classical.byContradiction fun hcon=>?_
  have hall : ∀ y,ev y l=0:=fun y=>Classical.byContradiction fun hc=>hcon ⟨y,hc⟩
  have hz:=qiQ (B+1+e) (fun i=>ev x (ck (L+1) (i:Int) l)) (fun t _=>by
   have h1:=hall (fun k=>if k=L then t else x k)
   rw [<- qaO _ hp,qp4 _ _ _ _ (by omega) h4 fun i _=>qaY (by omega) h4 hl] at h1
   rw [show (fun i:Nat=>ev x (ck (L+1) (i:Int) l))=fun i:Nat=>ev (fun k=>if k=L then t else x k) (ck (L+1) (i:Int) l) from funext fun i=>qrr _ _ (qaY (by omega) h4 hl) fun k h1 hk4 hne m hm=>by
    by_cases hk:k - 1=L
    ·exact hfre i m hm k (by omega) hk4
    ·rw [if_neg hk] at hne;exact absurd rfl hne]
   simpa using h1) e (by omega)
  exact hx hz
theorem qjZ {l:List Tm} (hl:NN l) (h : ∀ x,ev x l=0):Sim l []:=Classical.byContradiction fun hc=>by
 obtain ⟨x,hx⟩:=qrt 4 (Nat.le_refl _) l hl (fun m _ k h1 h4=>by omega) hc
 exact hx (h x)
theorem qeU {l r:List Tm} (hl:NN l) (hr:NN r) (h : ∀ x,ev x l=ev x r):Sim l r:=by
 have h1:Sim (l ++ smul (-1) r) []:=qjZ (fun m hm=>by rw [qad,qai,hl m hm,hr m hm];rfl) fun x=>by
  rw [qbU,qgt,h x];omega
 intro m
 have:=h1 m
 rw [qad,qai] at this
 have e:qab ([]:List Tm) m=0:=rfl
 omega


def sg1 (c:Nat):Int:=if c % 2=0 then 1 else -1
def mnP (P:Nat->Nat->List Tm) (c:Nat):Nat->Nat->List Tm:=fun r k=>P (r+1) (if k<c then k else k+1)
def qd7 (D:(Nat->Nat->List Tm)->List Tm) (P:Nat->Nat->List Tm):Nat->List Tm
 | 0=>[]
 | c+1=>qd7 D P c ++ smul (sg1 c) (pmul (P 0 c) (D (mnP P c)))
def qcp:Nat->(Nat->Nat->List Tm)->List Tm
 | 0,_=>[(1,Mo.zero)]
 | n+1,P=>qd7 (qcp n) P (n+1)
def mnI (a:Nat->Nat->Int) (c:Nat):Nat->Nat->Int:=fun r k=>a (r+1) (if k<c then k else k+1)
def qbN (D:(Nat->Nat->Int)->Int) (a:Nat->Nat->Int):Nat->Int
 | 0=>0
 | c+1=>qbN D a c+sg1 c*(a 0 c*D (mnI a c))
def qek:Nat->(Nat->Nat->Int)->Int
 | 0,_=>1
 | n+1,a=>qbN (qek n) a (n+1)
theorem qi3 {l:List Tm} (h:NN l) (c:Int):NN (smul c l):=fun m hm=>by rw [qai,h m hm];simp
theorem qdk (z:Int):NN [(z,Mo.zero)]:=qaW fun t ht=>by
 simp only [List.mem_singleton] at ht;subst ht;rfl
theorem qly {D:(Nat->Nat->List Tm)->List Tm} {P:Nat->Nat->List Tm} (hD : ∀ c,NN (D (mnP P c))) (hP : ∀ i j,NN (P i j)) : ∀ c,NN (qd7 D P c)
 | 0=>NN.nil
 | c+1=>(qly hD hP c).append (qi3 (qh5 (hP 0 c) (hD c)) _)
theorem qe4 : ∀ (n:Nat) (P:Nat->Nat->List Tm),(∀ i j,NN (P i j))->NN (qcp n P)
 | 0,_,_=>qdk 1
 | n+1,_,h=>qly (fun c=>qe4 n _ fun i j=>h _ _) h _
theorem ql4 (x:Nat->Int) {D:(Nat->Nat->List Tm)->List Tm} {DI:(Nat->Nat->Int)->Int} {P:Nat->Nat->List Tm} (hN : ∀ c,NN (D (mnP P c))) (hD : ∀ c,ev x (D (mnP P c))=DI (mnI (fun i j=>ev x (P i j)) c)) (hP : ∀ i j,NN (P i j)) : ∀ c,ev x (qd7 D P c)=qbN DI (fun i j=>ev x (P i j)) c
 | 0=>rfl
 | c+1=>by
  show ev x (qd7 D P c ++ smul (sg1 c) (pmul (P 0 c) (D (mnP P c))))=_
  rw [qbU,ql4 x hN hD hP c,qgt,qaC x (hP 0 c) (hN c),hD c]
  rfl
theorem qff (x:Nat->Int) : ∀ (n:Nat) (P:Nat->Nat->List Tm),(∀ i j,NN (P i j))->ev x (qcp n P)=qek n (fun i j=>ev x (P i j))
 | 0,_,_=>qfe x 1
 | n+1,P,h=>ql4 x (fun c=>qe4 n _ fun i j=>h _ _) (fun c=>qff x n _ fun i j=>h _ _) h _
def fct:Nat->Nat
 | 0=>1
 | n+1=>(n+1)*fct n
theorem qgh {D:(Nat->Nat->List Tm)->List Tm} {P:Nat->Nat->List Tm} {N R:Nat} (hD : ∀ c,nrm (D (mnP P c))<=R) (hP : ∀ i j,nrm (P i j)<=N) : ∀ c,nrm (qd7 D P c)<=c*(N*R)
 | 0=>by simp [qd7,nrm]
 | c+1=>by
  show nrm (qd7 D P c ++ smul (sg1 c) (pmul (P 0 c) (D (mnP P c))))<=_
  rw [qak,qgg,qbf]
  have h1:=qgh hD hP c
  have h2:(sg1 c).natAbs=1:=by unfold sg1;split <;> rfl
  have h3:nrm (P 0 c)*nrm (D (mnP P c))<=N*R:=Nat.mul_le_mul (hP 0 c) (hD c)
  rw [h2,Nat.add_mul];omega
theorem qdI {N:Nat} : ∀ (n:Nat) (P:Nat->Nat->List Tm),(∀ i j,nrm (P i j)<=N)->nrm (qcp n P)<=fct n*N ^ n
 | 0,_,_=>by simp [qcp,nrm,fct]
 | n+1,P,h=>by
  have:=qgh (D:=qcp n) (P:=P) (R:=fct n*N ^ n) (fun c=>qdI n _ fun i j=>h _ _) h (n+1)
  refine Nat.le_trans this (Nat.le_of_eq ?_)
  simp only [fct,Nat.pow_succ]
  grind
theorem qhA {B:Nat} {l:List Tm} (h:Deg B l) (c:Int):Deg B (smul c l):=fun m hm k=>h m (fun h0=>hm (by rw [qai,h0,Int.mul_zero])) k
theorem qjB {D:(Nat->Nat->List Tm)->List Tm} {P:Nat->Nat->List Tm} {B C:Nat} (hD : ∀ c,Deg C (D (mnP P c))) (hP : ∀ i j,Deg B (P i j)) (hN : ∀ i j,NN (P i j)) : ∀ c,Deg (B+C) (qd7 D P c)
 | 0=>fun m hm=>absurd rfl hm
 | c+1=>(qjB hD hP hN c).append (qhA ((hP 0 c).pmul (hD c) (hN 0 c)) _)
theorem qjD {B:Nat} : ∀ (n:Nat) (P:Nat->Nat->List Tm),(∀ i j,Deg B (P i j))->(∀ i j,NN (P i j))->Deg (n*B) (qcp n P)
 | 0,_,_,_=>fun m hm k=>by
  have:Mo.zero=m:=Classical.byContradiction fun h=>hm (by show (if Mo.zero=m then (1:Int) else 0)+0=0;rw [if_neg h];rfl)
  subst this
  rw [qbr];omega
 | n+1,P,h,hN=>by
  have:=qjB (D:=qcp n) (P:=P) (C:=n*B) (fun c=>qjD n _ (fun i j=>h _ _) fun i j=>hN _ _) h hN (n+1)
  rw [Nat.add_mul,Nat.one_mul,Nat.add_comm];exact this
structure qmJ (P:Nat->Nat->List Tm):Prop where
 nn : ∀ i j,NN (P i j)
 deg : ∀ i j,Deg 3 (P i j)
 dl : ∀ i j,dlen (nrm (P i j))<=5
theorem qrI {P:Nat->Nat->List Tm} (h:qmJ P) (n:Nat) (hn:n<=4):dlen (nrm (qcp n P))<=5*n+1:=by
 have h1:=qdI (N:=4294967296 ^ 5) n P (fun i j=>Nat.le_of_lt ((qaj _ _).1 (h.dl i j)))
 rw [qaj]
 refine Nat.lt_of_le_of_lt h1 ?_
 have hc:n=0∨n=1∨n=2∨n=3∨n=4:=by omega
 rcases hc with rfl | rfl | rfl | rfl | rfl <;> decide


theorem qfi {D:(Nat->Nat->List Tm)->List Tm} {P Q:Nat->Nat->List Tm} : ∀ c,(∀ d,d<c->D (mnP P d)=D (mnP Q d))->(∀ d,d<c->P 0 d=Q 0 d)->qd7 D P c=qd7 D Q c
 | 0,_,_=>rfl
 | c+1,hD,h=>by
  show qd7 D P c ++ smul (sg1 c) (pmul (P 0 c) (D (mnP P c)))=qd7 D Q c ++ smul (sg1 c) (pmul (Q 0 c) (D (mnP Q c)))
  rw [qfi c (fun d hd=>hD d (by omega)) (fun d hd=>h d (by omega)),hD c (by omega),h c (by omega)]
theorem qfP : ∀ (n:Nat) (P Q:Nat->Nat->List Tm),(∀ i j,i<n->j<n->P i j=Q i j)->qcp n P=qcp n Q
 | 0,_,_,_=>rfl
 | n+1,P,Q,h=>qfi (n+1) (fun d hd=>qfP n _ _ fun i j hi hj=>h _ _ (by omega) (by split <;> omega)) fun d hd=>h _ _ (by omega) hd
theorem qmJ.row {P:Nat->Nat->List Tm} (h:qmJ P) (σ:Nat->Nat):qmJ (fun i j=>P (σ i) j):=⟨fun _ _=>h.nn _ _,fun _ _=>h.deg _ _,fun _ _=>h.dl _ _⟩
end Go.Proofs.YtlmipmebdelgbaaGreat

namespace Go.Proofs.YtlmipmebdelgbaaGreat
open Go.RowKit

def zx (c:Nat->Nat) (P:Nat->Nat->List Tm):Nat->Nat->List Tm:=fun i j=>if j<c i then P i j else []
def qmI (M:Nat->Prop) (w:World) (v:Value) (S:Nat) (c:Nat->Nat) (P:Nat->Nat->List Tm):Prop:=∃ (a:Option Addr) (cap:Nat) (rv:Nat->Value),v = .slice a S cap /\ ∀ k,k<S -> ∃ g,a=some ⟨g,0,none⟩/\g<w.heap.size /\ ¬ M g/\w.cell? ⟨g,k,none⟩=some (rv k)/\qbh M w 4 (rv k) (c k) (P k)
theorem qmI.ext {M:Nat->Prop} {w w':World} {v:Value} {S:Nat} {c:Nat->Nat} {P:Nat->Nat->List Tm} (h:qmI M w v S c P) (he:Ext w w'):qmI M w' v S c P:=by
 obtain ⟨a,cap,rv,rfl,h⟩:=h
 refine ⟨a,cap,rv,rfl,fun k hk=>?_⟩
 obtain ⟨g,h1,h2,h3,h4,h5⟩:=h k hk
 exact ⟨g,h1,Nat.lt_of_lt_of_le h2 he.size,h3,by rw [he.cell h2];exact h4,h5.ext he⟩
theorem qmI.more {M M':Nat->Prop} {w:World} {v:Value} {S:Nat} {c:Nat->Nat} {P:Nat->Nat->List Tm} (h:qmI M w v S c P) (hm : ∀ g,M' g->M g∨w.heap.size<=g):qmI M' w v S c P:=by
 obtain ⟨a,cap,rv,rfl,h⟩:=h
 refine ⟨a,cap,rv,rfl,fun k hk=>?_⟩
 obtain ⟨g,h1,h2,h3,h4,h5⟩:=h k hk
 exact ⟨g,h1,h2,fun hg=>(hm g hg).elim h3 (by omega),h4,h5.more hm⟩
theorem qmI.kp {M:Nat->Prop} {w w':World} {v:Value} {S:Nat} {c:Nat->Nat} {P:Nat->Nat->List Tm} (h:qmI M w v S c P) (he:Kp M w w'):qmI M w' v S c P:=by
 obtain ⟨a,cap,rv,rfl,h⟩:=h
 refine ⟨a,cap,rv,rfl,fun k hk=>?_⟩
 obtain ⟨g,h1,h2,h3,h4,h5⟩:=h k hk
 exact ⟨g,h1,Nat.lt_of_lt_of_le h2 he.1,h3,by rw [he.cell h2 h3];exact h4,h5.kp he⟩
theorem qdV.krow {M M':Nat->Prop} {w:World} {g N c:Nat} {P:Nat->List Tm} (h:qdV M w g N c P) (hm : ∀ b,M' b->M b∨w.heap.size<=b) (hg : ¬ M' g) (hN:N<=1099511627776):qbh M' w 4 (.slice (some ⟨g,0,none⟩) N c) N P:=by
 obtain ⟨⟨h0,hc⟩,f,h1,h2⟩:=h
 refine ⟨hN,.inr ⟨g,0,c,rfl,h0,hc,⟨h1.lt,hg⟩,fun i hi=>?_⟩⟩
 rw [Nat.zero_add]
 exact ⟨_,_,_,_,h1.cell (by omega),h1.cell (by omega),h1.cell (by omega),h1.cell (by omega),(h2 i hi).more hm⟩
theorem Mat.mrow {M:Nat->Prop} {w:World} {base:Nat} {v:Value} {S N:Nat} {P:Nat->Nat->List Tm} (h:Mat M w base v S N P) (hM : ∀ b,M b->b<base) (hN:N<=1099511627776):qmI M w v S (fun _=>N) P:=by
 obtain ⟨gs,cs,hO,h0,h2⟩:=h
 rcases hO with ⟨rfl,rfl⟩ | ⟨g,cap,F,rfl,h3,h4,h5,h6,h7⟩
 ·exact ⟨none,0,fun _=>.slice none 0 0,rfl,fun k hk=>absurd hk (Nat.not_lt_zero _)⟩
 ·refine ⟨_,cap,rwf gs cs N,rfl,fun k hk=>⟨g,rfl,h4.lt,fun hg=>?_,?_,?_⟩⟩
  ·have:=hM g hg;omega
  ·rw [h4.cell (by omega),h7 k (by omega)]
  ·exact (h2 k hk).2.2.krow (fun b hb=>.inl (.inl hb)) (fun hb=>by have:=hM _ hb;have:=(h2 k hk).1;omega) hN
set_option maxRecDepth 100000 in
set_option maxHeartbeats 8000000 in
theorem qq5 (M:Nat->Prop) (v:Value) (c:Nat) (k:Nat) (P:Nat->List Tm) (w:World) (hM:Mb M w) (h:qbh M w 4 v c P) (hk:k<=1000000):Calls Tryz.prog 60 #[v,.int .i64 (k:Int)] w (qa3 M w 4 (if k<c then P k else [])):=by
 obtain ⟨ra,cap,rfl⟩:=h.form
 have hE:=(Ext.refl w).alloc (.cells zA 33)
 have hB:=Blk.of_arr w zA 33 4 rfl
 have hM2:Mb (Mx M w.heap.size (w.heap.size+1)) (w.alloc (.cells zA 33)):=Mx.mb hM (by simp) (by simp)
 have h2:=(h.more (M':=Mx M w.heap.size (w.heap.size+1)) (Mx.more (Nat.le_refl _))).ext hE
 have hcL:c<=1099511627776:=h.1
 have hk0:(0:Int)<=(k:Int):=Int.natCast_nonneg _
 clear hM h
 go_enter Tryz.func60,Tryz.ntmps60
 go_upto_region 1 with (fail)
 generalize hW:w.alloc (.cells zA 33)=W at *
 obtain ⟨g0,hg0⟩ : ∃ g0,g0=w.heap.size:=⟨_,rfl⟩
 rw [<- hg0] at hB hM2 h2 ⊢
 have HG:Hid (w.heap.size<=g0):=by show w.heap.size<=g0;omega
 clear hg0 hW
 have HE:=Lib.hid hE
 have HM:=Lib.hid hM2
 clear hM2
 by_cases hlt:k<c
 ·obtain ⟨b,off,rfl,_,_,hb,_,e0,e1,e2,e3,c0,c1,c2,c3,hc⟩:=h2.at k hlt
  obtain ⟨y,rfl,rfl,rfl,rfl,hy,_⟩:=CR.pe hc
  have hltI:(k:Int)<(c:Int):=by omega
  rw [if_pos hlt]
  obtain ⟨⟨q0,q1,q2,q3⟩,⟨f0,f1,f2,f3⟩,⟨r0,r1,r2,r3⟩,HF⟩:=qbT (M:=M) (w:=w) (L:=4) (l:=P k) (y:=y) hB (Mx.at (by omega)) HG.out HE.out hy Mx.sub
  have HF2:=Lib.hid HF.out
  clear HF hB hc hy h2 hE HE HM HG hlt
  go_wp2
  exact bodyPost_ret (v:=.agg (peA y)) (by simp [results,Tryz.results60,go_sem,r0,r1,r2,r3]) rfl HF2.out
 ·have hltI : ¬ (k:Int)<(c:Int):=by omega
  rw [if_neg hlt]
  have HB:=Lib.hid hB
  clear h2 hlt hB
  go_wp2_with (fail)
  refine (qdl (M:=Mx M g0 (g0+1)) 0 W HM.out (by omega) (by omega)).mono ?_
  rintro e w1 ⟨z0,z1,rfl,hI,e1⟩
  obtain ⟨ib,ia,ik,ip,rfl,rfl⟩:=hI.form
  have CC:=Lib.hid (qcB (Mx M g0 (g0+1)) ib ia ik ip 0 w1 (HM.out.ext e1) hI.toV)
  have HE1:=Lib.hid (HE.out.trans e1)
  have HB1:=Lib.hid (HB.out.ext e1)
  clear hI e1 HM HE HB hE
  go_wp2_with (fail)
  refine CC.out.mono ?_
  rintro e w2 ⟨y,rfl,hy,e2⟩
  obtain ⟨⟨q0,q1,q2,q3⟩,⟨f0,f1,f2,f3⟩,⟨r0,r1,r2,r3⟩,HF⟩:=qbT (M:=M) (w:=w) (L:=4) (l:=[]) (y:=y) (HB1.out.ext e2) (Mx.at (by omega)) HG.out (HE1.out.trans e2) ((hy.up (by omega)).sim (fun m=>by simp [qab])) Mx.sub
  have HF2:=Lib.hid HF.out
  clear HF hy e2 HB1 HE1 CC HG
  go_wp2
  exact bodyPost_ret (v:=.agg (peA y)) (by simp [results,Tryz.results60,go_sem,r0,r1,r2,r3]) rfl HF2.out


def qr6 (n:Nat):Prop:=∀ (M:Nat->Prop) (w:World) (v:Value) (c:Nat->Nat) (P:Nat->Nat->List Tm),Mb M w->qmI M w v n c P->qmJ (zx c P)->Calls Tryz.prog 30 #[v] w (qa3 M w 4 (qcp n (zx c P)))
theorem qmJ.mn {Z:Nat->Nat->List Tm} (h:qmJ Z) (n k:Nat):qmJ (zx (fun _=>n) (mnP Z k)):=by
 have e : ∀ i j,NN (zx (fun _=>n) (mnP Z k) i j)/\Deg 3 (zx (fun _=>n) (mnP Z k) i j)/\dlen (nrm (zx (fun _=>n) (mnP Z k) i j))<=5:=fun i j=>by
  show NN (if j<n then mnP Z k i j else [])/\Deg 3 (if j<n then mnP Z k i j else [])/\dlen (nrm (if j<n then mnP Z k i j else []))<=5
  split
  ·exact ⟨h.nn _ _,h.deg _ _,h.dl _ _⟩
  ·exact ⟨NN.nil,fun m hm=>absurd rfl hm,Nat.zero_le _⟩
 exact ⟨fun i j=>(e i j).1,fun i j=>(e i j).2.1,fun i j=>(e i j).2.2⟩
theorem qqg {Z:Nat->Nat->List Tm} (h:qmJ Z) (n:Nat) (hn:n<=3) (k:Nat) (hk:k<=4):dlen (nrm (qd7 (qcp n) Z k))<=22:=by
 have h1:=qgh (D:=qcp n) (P:=Z) (N:=4294967296 ^ 5) (R:=fct n*(4294967296 ^ 5) ^ n) (fun c=>qdI (N:=4294967296 ^ 5) n _ fun i j=>Nat.le_of_lt ((qaj _ _).1 (h.dl _ _))) (fun i j=>Nat.le_of_lt ((qaj _ _).1 (h.dl i j))) k
 have h2:=Nat.mul_le_mul_right (4294967296 ^ 5*(fct n*(4294967296 ^ 5) ^ n)) hk
 refine Nat.le_trans (qaq (Nat.le_trans h1 h2)) ?_
 rw [qaj]
 have hc:n=0∨n=1∨n=2∨n=3:=by omega
 rcases hc with rfl | rfl | rfl | rfl <;> decide
def cnt (k t:Nat):Nat:=if t<=k then t else t - 1
set_option maxRecDepth 100000 in
set_option maxHeartbeats 16000000 in
theorem qpl:qr6 0:=by
 intro M w v c P hM h hE
 obtain ⟨a,cap,rv,rfl,_⟩:=h
 have hE:=(Ext.refl w).alloc (.cells zA 33)
 have hB:=Blk.of_arr w zA 33 4 rfl
 have hM2:Mb (Mx M w.heap.size (w.heap.size+1)) (w.alloc (.cells zA 33)):=Mx.mb hM (by simp) (by simp)
 clear hM
 go_enter Tryz.func30,Tryz.ntmps30
 go_upto_region 1 with (fail)
 generalize hW:w.alloc (.cells zA 33)=W at *
 obtain ⟨g0,hg0⟩ : ∃ g0,g0=w.heap.size:=⟨_,rfl⟩
 rw [<- hg0] at hB hM2 ⊢
 have HG:Hid (w.heap.size<=g0):=by show w.heap.size<=g0;omega
 have HE:=Lib.hid hE
 have HM:=Lib.hid hM2
 have HB:=Lib.hid hB
 clear hg0 hW hM2 hE hB
 go_wp2_with (fail)
 refine (qdl (M:=Mx M g0 (g0+1)) 1 W HM.out (by omega) (by omega)).mono ?_
 rintro e w1 ⟨z0,z1,rfl,hI,e1⟩
 obtain ⟨ib,ia,ik,ip,rfl,rfl⟩:=hI.form
 have CC:=Lib.hid (qcB (Mx M g0 (g0+1)) ib ia ik ip 1 w1 (HM.out.ext e1) hI.toV)
 have HE1:=Lib.hid (HE.out.trans e1)
 have HB1:=Lib.hid (HB.out.ext e1)
 clear hI e1 HM HE HB
 go_wp2_with (fail)
 refine CC.out.mono ?_
 rintro e w2 ⟨y,rfl,hy,e2⟩
 obtain ⟨⟨q0,q1,q2,q3⟩,⟨f0,f1,f2,f3⟩,⟨r0,r1,r2,r3⟩,HF⟩:=qbT (M:=M) (w:=w) (L:=4) (l:=[(1,Mo.zero)]) (y:=y) (HB1.out.ext e2) (Mx.at (by omega)) HG.out (HE1.out.trans e2) (hy.up (by omega)) Mx.sub
 have HF2:=Lib.hid HF.out
 clear HF hy e2 HB1 HE1 CC HG
 go_wp2
 exact bodyPost_ret (v:=.agg (peA y)) (by simp [results,Tryz.results30,go_sem,r0,r1,r2,r3]) rfl HF2.out
set_option maxRecDepth 100000 in
set_option maxHeartbeats 16000000 in
theorem qhV (n:Nat) (hn:n<=3) (ih:qr6 n):qr6 (n+1):=by
 intro M w v c P hM h hEnt
 obtain ⟨i0,hi,hz0,hz1,hz2⟩:=info_parts Tryz.info33
 obtain ⟨j0,ji,jz0,jz1,jz2⟩:=info_parts Tryz.info31
 obtain ⟨N,hN⟩ : ∃ N,N=n+1:=⟨_,rfl⟩
 rw [<- hN] at h ⊢
 obtain ⟨a,cap,rv,rfl,hrow⟩:=h
 obtain ⟨gm,rfl,hgm0⟩:=hrow 0 (by omega)
 clear hgm0
 have HROW:Hid (∀ k,k<N->gm<w.heap.size/\w.cell? ⟨gm,k,none⟩=some (rv k)/\qbh M w 4 (rv k) (c k) (P k)):=fun k hk=>by
  obtain ⟨g,e,h1,h2,h3,h4⟩:=hrow k hk
  cases e
  exact ⟨h1,h3,h4⟩
 obtain ⟨Z,hZ⟩ : ∃ Z,Z=zx c P:=⟨_,rfl⟩
 rw [<- hZ] at hEnt ⊢
 have HZ:Hid (∀ i j,(if j<c i then P i j else [])=Z i j):=fun i j=>by rw [hZ];rfl
 have HN:Hid (N=n+1/\n<=3):=⟨hN,hn⟩
 have HDT:Hid (qcp N Z=qd7 (qcp n) Z N):=by rw [hN];rfl
 have HENT:=Lib.hid hEnt
 have IH:=Lib.hid ih
 have hNI:(N:Int)<=4:=by omega
 have hN0:(0:Int)<(N:Int):=by omega
 have hEb:=(Ext.refl w).alloc (.cells zA 33)
 have hB:=Blk.of_arr w zA 33 4 rfl
 have hM2:Mb (Mx M w.heap.size (w.heap.size+1)) (w.alloc (.cells zA 33)):=Mx.mb hM (by simp) (by simp)
 clear hM hrow hZ hN hn hEnt ih
 go_enter Tryz.func30,Tryz.ntmps30
 go_upto_region 1 with (fail)
 generalize hW:w.alloc (.cells zA 33)=W at *
 obtain ⟨g0,hg0⟩ : ∃ g0,g0=w.heap.size:=⟨_,rfl⟩
 rw [<- hg0] at hB hM2 ⊢
 have HG:Hid (w.heap.size<=g0):=by show w.heap.size<=g0;omega
 have HE:=Lib.hid hEb
 have HM:=Lib.hid hM2
 have HB:=Lib.hid hB
 clear hg0 hW hM2 hEb hB
 have hNe:((N:Int) == 0)=false:=by simp;omega
 go_wp2_with (fail)
 refine (qdl (M:=Mx M g0 (g0+1)) 0 W HM.out (by omega) (by omega)).mono ?_
 rintro e w1 ⟨z0,z1,rfl,hI,e1⟩
 obtain ⟨ib,ia,ik,ip,rfl,rfl⟩:=hI.form
 have CC:=Lib.hid (qcB (Mx M g0 (g0+1)) ib ia ik ip 0 w1 (HM.out.ext e1) hI.toV)
 have HE1:=Lib.hid (HE.out.trans e1)
 have HB1:=Lib.hid (HB.out.ext e1)
 have HM1:=Lib.hid (HM.out.ext e1)
 clear hI e1 HM HE HB
 go_wp2_with (fail)
 refine CC.out.mono ?_
 rintro e w2 ⟨s,rfl,hs,e2⟩
 have hE3:Ext w (w2.alloc (.cells #[.int .i64 s.lv,.bool s.b,.slice s.a s.n s.p,.slice s.ka s.kn s.kp] 33)):=(HE1.out.trans e2).alloc _
 have hB3:Blk (w2.alloc (.cells #[.int .i64 s.lv,.bool s.b,.slice s.a s.n s.p,.slice s.ka s.kn s.kp] 33)) g0 33 4 (arr zA):=(HB1.out.ext e2).alloc _
 have hB4:Blk (w2.alloc (.cells #[.int .i64 s.lv,.bool s.b,.slice s.a s.n s.p,.slice s.ka s.kn s.kp] 33)) w2.heap.size 33 4 (arr (peA s)):=Blk.of_arr w2 (peA s) 33 4 rfl
 have hM3:Mb (fun b=>Mx M g0 (g0+1) b∨b=w2.heap.size) (w2.alloc (.cells #[.int .i64 s.lv,.bool s.b,.slice s.a s.n s.p,.slice s.ka s.kn s.kp] 33)):=qdJ ((HM1.out.ext e2).ext ((Ext.refl w2).alloc _)) hB4.lt
 have hS3:CRx (fun b=>Mx M g0 (g0+1) b∨b=w2.heap.size) (w2.alloc (.cells #[.int .i64 s.lv,.bool s.b,.slice s.a s.n s.p,.slice s.ka s.kn s.kp] 33)) 4 s (qd7 (qcp n) Z 0):=(((hs.up (by omega)).sim (fun m=>by simp [qab,qd7])).more fun b hb=>hb.imp id fun h=>by omega).ext ((Ext.refl w2).alloc _)
 have hsz:w.heap.size<=w2.heap.size:=(HE1.out.trans e2).size
 have hne:g0≠w2.heap.size:=by have:=(HB1.out.ext e2).lt;omega
 go_upto_region 5 with (fail)
 obtain ⟨W3,hW3⟩ : ∃ W3,W3=w2.alloc (.cells #[.int .i64 s.lv,.bool s.b,.slice s.a s.n s.p,.slice s.ka s.kn s.kp] 33):=⟨_,rfl⟩
 rw [<- hW3] at hE3 hB3 hB4 hM3 hS3 ⊢
 obtain ⟨g4,hg4⟩ : ∃ g4,g4=w2.heap.size:=⟨_,rfl⟩
 rw [<- hg4] at hB4 hM3 hS3 hsz hne ⊢
 obtain ⟨M4,hM4⟩ : ∃ M4:Nat->Prop,M4=fun b=>Mx M g0 (g0+1) b∨b=g4:=⟨_,rfl⟩
 rw [<- hM4] at hM3 hS3
 have HG4:Hid (M4 g4/\w.heap.size<=g4):=⟨by rw [hM4];exact .inr rfl,hsz⟩
 have HM4w:Hid (∀ b,M4 b->M b∨w.heap.size<=b):=fun b hb=>by
  rw [hM4] at hb
  rcases hb with (hb | hb) | hb
  ·exact .inl hb
  ·exact .inr (by have:=HG.out;omega)
  ·exact .inr (by omega)
 have HM4s:Hid (∀ b,Mx M g0 (g0+1) b->M4 b):=fun b hb=>by rw [hM4];exact .inl hb
 have HNE:Hid (g0≠g4):=hne
 have HE3:=Lib.hid hE3
 have HB3:=Lib.hid hB3
 have HB4:=Lib.hid hB4
 have HM3:=Lib.hid hM3
 have HS3:=Lib.hid hS3
 clear hW3 hg4 hM4 hE3 hB3 hB4 hM3 hS3 hsz hne hs e2 HB1 HE1 HM1 CC
 go_wp2
 go_loopw [5] (fun iv wr=>∃ (k:Nat) (s:PE),k<=N/\iv = .int .i64 (k:Int)/\Hid (Blk wr g4 33 4 (arr (peA s)))/\Hid (CRx M4 wr 4 s (qd7 (qcp n) Z k))/\Hid (Blk wr g0 33 4 (arr zA))/\Hid (Mb M4 wr)/\Hid (Ext w wr)) (fun iv _=>N - (intOf iv).toNat)
 case atStart=>exact ⟨0,s,Nat.zero_le _,rfl,HB4.out,HS3.out,HB3.out,HM3.out,HE3.out⟩
 case round=>
  clear HB4 HS3 HB3 HM3 HE3
  obtain ⟨k,s,hk,rfl,HBS,HCS,HB0,HMB,HER⟩:=hrel
  have hk0:(0:Int)<=(k:Int):=Int.natCast_nonneg _
  by_cases hlt:k<N
  ·have hltI:(k:Int)<(N:Int):=by omega
   have HLT:=Lib.hid hlt
   have HMN:Hid (qmJ (mnP Z k)):=⟨fun _ _=>HENT.out.nn _ _,fun _ _=>HENT.out.deg _ _,fun _ _=>HENT.out.dl _ _⟩
   clear hlt hk
   obtain ⟨wo,rfl⟩ : ∃ wo,wo=wr:=⟨_,rfl⟩
   go_wp2
   go_loopw [7,6] (fun rv v wi=>∃ q:Nat,q+1<=N/\rv = .int .i64 ((q:Int)+1)/\Hid (Mat M4 wi wo.heap.size v q n (mnP Z k))/\Hid (Ext wo wi)) (fun iv _ _=>N - (intOf iv).toNat)
   case atStart=>exact ⟨0,by omega,by simp,Mat.nil _ _ _ _ _,Ext.refl _⟩
   case round=>
    obtain ⟨q,hq,rfl,HMt,HEI⟩:=hrel
    obtain ⟨gs,cs,hO,hnil,hGG⟩:=HMt.out
    obtain ⟨va,vc,rfl⟩:=hO.form
    have hq0:(0:Int)<=(q:Int):=Int.natCast_nonneg _
    by_cases hql:q+1<N
    ·have hqI:(q:Int)+1<(N:Int):=by omega
     obtain ⟨m1,m2,m3⟩:=HROW.out (q+1) hql
     have HQL:=Lib.hid hql
     have HKR:=Lib.hid m3
     have HO:=Lib.hid hO
     have HGG:Hid (qrZ M4 wr wo.heap.size (.slice va q vc) q n (mnP Z k) gs cs):=hGG
     have hcell:wr.cell? ⟨gm,q+1,none⟩=some (rv (q+1)):=by rw [(HER.out.trans HEI.out).cell m1];exact m2
     obtain ⟨ra,rcap,hrv⟩:=HKR.out.form
     rw [hrv] at hcell
     have HKR2:Hid (qbh M w 4 (.slice ra (c (q+1)) rcap) (c (q+1)) (P (q+1))):=hrv ▸ HKR.out
     obtain ⟨cq,hcq⟩ : ∃ cq,cq=c (q+1):=⟨_,rfl⟩
     rw [<- hcq] at hcell HKR2
     have HCQ:=Lib.hid hcq
     have HMA:Hid (Mb (MR M4 (.slice va q vc)) wr):=qi7 (HMB.out.ext HEI.out) (Ext.refl wr) hO
     have HGM:Hid (gm<wr.heap.size):=Nat.lt_of_lt_of_le m1 (HER.out.trans HEI.out).size
     have HCL:=Lib.hid hcell
     clear hO hnil hGG m1 m2 m3 hrv hcq HKR hql hq hcell HMt
     obtain ⟨wp,rfl⟩ : ∃ wp,wp=wr:=⟨_,rfl⟩
     go_wp2
     go_loopw [9,8] (fun iv v wi=>∃ t:Nat,t<=N/\iv = .int .i64 (t:Int)/\Hid (qcT (MR M4 (.slice va q vc)) wp.heap.size wi v (cnt k t) (mnP Z k q))/\Hid (Ext wp wi)) (fun iv _ _=>N - (intOf iv).toNat)
     case atStart=>exact ⟨0,Nat.zero_le _,rfl,qcT.nil _ _ _ _,Ext.refl _⟩
     case round=>
      obtain ⟨t,ht,rfl,HT,HEJ⟩:=hrel
      have ht0:(0:Int)<=(t:Int):=Int.natCast_nonneg _
      obtain ⟨xx,hTO,hTX⟩:=HT.out
      obtain ⟨ct,hct⟩ : ∃ ct,ct=cnt k t:=⟨_,rfl⟩
      rw [<- hct] at hTO hTX
      obtain ⟨ra2,rc2,rfl⟩:=hTO.form
      have HCT:=Lib.hid hct
      have HTO:=Lib.hid hTO
      have HTX:=Lib.hid hTX
      clear hct hTO hTX HT
      by_cases htl:t<N
      ·have htI:(t:Int)<(N:Int):=by omega
       have HTL:=Lib.hid htl
       by_cases htk:t=k
       ·have hne2:((t:Int) == (k:Int))=true:=by simp;omega
        have HF:Hid (qcT (MR M4 (.slice va q vc)) wp.heap.size wr (.slice ra2 ct rc2) (cnt k (t+1)) (mnP Z k q)):=by
         have:cnt k (t+1)=ct:=by rw [HCT.out];unfold cnt;rw [if_neg (by omega),if_pos (by omega)];omega
         rw [this]
         exact ⟨xx,HTO.out,HTX.out⟩
        clear htl ht htk HTO HTX HCT
        go_wp2
        go_roundw
        case rel=>exact ⟨t+1,HTL.out,by go_num,HF,HEJ⟩
        case measure=>have:=HTL.out;simp [intOf];omega
       ·have hne2:((t:Int) == (k:Int))=false:=by simp;omega
        have HTK:=Lib.hid htk
        have hct4:ct<=4:=by rw [HCT.out];have:=HN.out;unfold cnt;split <;> omega
        have HM5:Hid (Mb (MR (MR M4 (.slice va q vc)) (.slice ra2 ct rc2)) wr):=qi7 (HMA.out.ext HEJ.out) (Ext.refl wr) HTO.out
        have HK5:Hid (qbh (MR (MR M4 (.slice va q vc)) (.slice ra2 ct rc2)) wr 4 (.slice ra cq rcap) cq (P (q+1))):=(HKR2.out.more (M':=MR (MR M4 (.slice va q vc)) (.slice ra2 ct rc2)) fun b hb=>by
         rcases hb with (hb | hb) | hb
         ·exact HM4w.out b hb
         ·exact .inr (Nat.le_trans HER.out.size (HO.out.lt b hb).1)
         ·exact .inr (Nat.le_trans (HER.out.trans HEI.out).size (HTO.out.lt b hb).1)).ext (HER.out.trans (HEI.out.trans HEJ.out))
        have CAt:=Lib.hid (qq5 _ _ cq t (P (q+1)) wr HM5.out HK5.out (by omega))
        have HVL:Hid ((if t<cq then P (q+1) t else [])=mnP Z k q ct):=by
         show _=Z (q+1) (if ct<k then ct else ct+1)
         rw [HCQ.out,HZ.out,HCT.out]
         congr 1
         unfold cnt
         have:=HTK.out
         by_cases h1:t<=k
         ·rw [if_pos h1,if_pos (by omega)]
         ·rw [if_neg h1,if_neg (by omega)];omega
        have hcell2:wr.cell? ⟨gm,q+1,none⟩=some (.slice ra cq rcap):=by rw [HEJ.out.cell HGM.out];exact HCL.out
        clear htl ht htk HM5 HK5
        go_wp2_with (fail)
        refine CAt.out.mono ?_
        rintro e w8 ⟨u,rfl,hu,e8⟩
        have hEA:Ext wr (w8.alloc (.cells (peA u) 33)):=e8.alloc _
        have hO5:=HTO.out.ext hEA
        have hB5:=Blk.of_arr w8 (peA u) 33 4 rfl
        have HONE:Hid (∀ j,j<4->(arr (peA u) j).oneCell'=true):=qe1 u
        have hsz5:wp.heap.size<=(w8.alloc (.cells (peA u) 33)).heap.size:=(HEJ.out.trans hEA).size
        have HU:=Lib.hid (hu.ext ((Ext.refl w8).alloc (.cells (peA u) 33)))
        have HEA:=Lib.hid hEA
        have HSZ5:=Lib.hid hsz5
        clear hu e8 CAt hcell2 hEA hsz5
        go_wp2_with (at_builtin;refine qaE _ rfl (.tmp 37) (.tmp 44) _ rfl wp.heap.size 33 i0 _ 4 64 Tryz.underlying31 hi hz0 hz1 hz2 rfl (by omega) (.slice ra2 ct rc2) ct (px xx) rfl hO5 w8.heap.size 33 1 (arr (peA u)) rfl hB5 HONE.out ?s1 ?s2 ?s3 ?_)
        case s1=>unfold maxLen;omega
        case s2=>omega
        case s3=>exact HSZ5.out
        intro gg cap2 w9 hO6 hg6 hat hlt6
        replace hat:(Value.slice ra2 ct rc2).ownBlock=some gg∨(w8.alloc (.cells (peA u) 33)).heap.size<=gg:=by rw [World.size_alloc];exact hat
        have HF:Hid (qcT (MR M4 (.slice va q vc)) wp.heap.size w9 (.slice (some ⟨gg,0,none⟩) (ct+1) cap2) (cnt k (t+1)) (mnP Z k q)/\Ext wp w9):=by
         have:cnt k (t+1)=ct+1:=by
          rw [HCT.out];unfold cnt
          have:=HTK.out
          by_cases h1:t<=k
          ·rw [if_pos h1,if_pos (by omega)]
          ·rw [if_neg h1,if_neg (by omega)];omega
         rw [this]
         exact ⟨qcT.push (fun j hj=>(HTX.out j hj).ext HEA.out) (by rw [<- HVL.out];exact HU.out) hO6 hg6 hat,(HEJ.out.trans HEA.out).grown hg6 fun q hq=>(HTO.out.lt q hq).1⟩
        clear hO6 hg6 hat hO5 hB5 HU HEA HSZ5 HTO HTX HONE hlt6
        go_wp2
        go_roundw
        case rel=>exact ⟨t+1,HTL.out,by go_num,HF.out.1,HF.out.2⟩
        case measure=>have:=HTL.out;simp [intOf];omega
      ·obtain rfl:t=N:=by omega
       have hge2 : ¬ (t:Int)<(t:Int):=by omega
       have hcn:ct=n:=by have:=HCT.out;have:=HN.out;have:=HLT.out;unfold cnt at *;rw [if_neg (by omega)] at *;omega
       have h0n:0<n:=by have:=HN.out;have:=HQL.out;omega
       have hPR:qcT (MR M4 (.slice va q vc)) wp.heap.size wr (.slice ra2 ct rc2) ct (mnP Z k q):=⟨xx,HTO.out,HTX.out⟩
       rw [hcn] at hPR
       obtain ⟨gr,c',hv,hgr,hKC⟩:=hPR.kidC h0n
       obtain ⟨rfl,rfl,rfl⟩:ra2=some ⟨gr,0,none⟩/\ct=n/\rc2=c':=by
        rw [<- hcn] at hv
        simp only [Value.slice.injEq,true_and] at hv
        exact ⟨hv.1,hcn,hv.2⟩
       have HKC:=Lib.hid hKC
       have HGRB:Hid (wp.heap.size<=gr):=hgr
       clear hPR hKC hgr hv h0n hcn HTO HTX HCT
       have HEA:=Lib.hid ((Ext.refl wr).alloc (.cells #[.slice (some ⟨gr,0,none⟩) ct rc2] 31))
       have hO5:=(HO.out.ext HEJ.out).ext HEA.out
       have hB5:=Blk.of_arr wr #[.slice (some ⟨gr,0,none⟩) ct rc2] 31 1 rfl
       have HONE:=Lib.hid (qiY gr ct rc2)
       have HLK:=Lib.hid (HO.out.lt)
       have HVN:Hid ((Value.slice va q vc).ownBlock≠some gr):=fun h=>by have:=(HO.out.lt gr h).2;have:=HGRB.out;omega
       have HGB:Hid (wo.heap.size<=gr):=by have:=HEI.out.size;have:=HGRB.out;show wo.heap.size<=gr;omega
       have HKK:Hid (qdV (MR M4 (.slice va q vc)) (wr.alloc (.cells #[.slice (some ⟨gr,0,none⟩) ct rc2] 31)) gr ct rc2 (mnP Z k q)):=HKC.out.ext HEA.out
       have HGG2:Hid (qrZ M4 (wr.alloc (.cells #[.slice (some ⟨gr,0,none⟩) ct rc2] 31)) wo.heap.size (.slice va q vc) q ct (mnP Z k) gs cs):=fun z hz=>⟨(HGG.out z hz).1,(HGG.out z hz).2.1,((HGG.out z hz).2.2.ext HEJ.out).ext HEA.out⟩
       have HEW:=Lib.hid (HEI.out.trans (HEJ.out.trans HEA.out))
       have hbase:wo.heap.size<=(wr.alloc (.cells #[.slice (some ⟨gr,0,none⟩) ct rc2] 31)).heap.size:=HEW.out.size
       have hqn:q<=4:=by have:=HQL.out;omega
       clear HEJ HKC HGG
       go_wp2_with (at_builtin;refine qaE _ rfl (.tmp 46) (.tmp 48) _ rfl wo.heap.size 31 j0 _ 1 24 Tryz.underlying54 ji jz0 jz1 jz2 rfl (by omega) (.slice va q vc) q (rwf gs cs ct) rfl hO5 wr.heap.size 31 1 (arr #[.slice (some ⟨gr,0,none⟩) ct rc2]) rfl hB5 HONE.out ?s1 ?s2 ?s3 ?_)
       case s1=>unfold maxLen;omega
       case s2=>omega
       case s3=>first | exact hbase | simpa using hbase
       intro gg cap2 w6 hO6 hg6 hat hlt6
       replace hat:(Value.slice va q vc).ownBlock=some gg∨(wr.alloc (.cells #[.slice (some ⟨gr,0,none⟩) ct rc2] 31)).heap.size<=gg:=by rw [World.size_alloc];exact hat
       have HF:Hid (Mat M4 w6 wo.heap.size (.slice (some ⟨gg,0,none⟩) (q+1) cap2) (q+1) ct (mnP Z k)/\Ext wo w6):=⟨Mat.push HGG2.out hO6 HKK.out HVN.out HGB.out hg6 hat,HEW.out.grown hg6 fun z hz=>(HLK.out z hz).1⟩
       clear hO6 hg6 hat hO5 hB5 HKK HGG2 HEW hbase HONE hlt6
       go_wp2
       go_roundw
       case rel=>exact ⟨q+1,HQL.out,by go_num,HF.out.1,HF.out.2⟩
       case measure=>have:=HQL.out;simp [intOf];omega
    ·have hqn:q=n:=by have:=HN.out;omega
     have hge2 : ¬ (q:Int)+1<(N:Int):=by omega
     subst hqn
     have hMR:=Mat.mrow ⟨gs,cs,hO,hnil,hGG⟩ (fun b hb=>HMB.out b hb) (by have:=HN.out;show q<=1099511627776;omega)
     have HMR:=Lib.hid hMR
     obtain ⟨m1,m2,m3⟩:=HROW.out 0 (by omega)
     have hcell:wr.cell? ⟨gm,0,none⟩=some (rv 0):=by rw [(HER.out.trans HEI.out).cell m1];exact m2
     obtain ⟨ra,rcap,hrv⟩:=m3.form
     rw [hrv] at hcell m3
     obtain ⟨cq,hcq⟩ : ∃ cq,cq=c 0:=⟨_,rfl⟩
     rw [<- hcq] at hcell m3
     have HMB2:=Lib.hid (HMB.out.ext HEI.out)
     have HBS2:=Lib.hid (HBS.out.ext HEI.out)
     have HB02:=Lib.hid (HB0.out.ext HEI.out)
     have HCS2:=Lib.hid (HCS.out.ext HEI.out)
     have HER2:=Lib.hid (HER.out.trans HEI.out)
     have CAt:=Lib.hid (qq5 M4 _ cq k (P 0) wr HMB2.out ((m3.more (M':=M4) HM4w.out).ext HER2.out) (by have:=HLT.out;have:=HN.out;omega))
     have HVL:Hid ((if k<cq then P 0 k else [])=Z 0 k):=by rw [hcq];exact HZ.out 0 k
     clear hO hnil hGG hMR m1 m2 m3 hrv hcq HMt HEI HMB HBS HB0 HCS HER
     go_wp2_with (fail)
     refine CAt.out.mono ?_
     rintro e w5 ⟨x1,rfl,hx1,e5⟩
     rw [HVL.out] at hx1
     have CD:=Lib.hid (IH.out M4 w5 (.slice va q vc) (fun _=>q) (mnP Z k) (HMB2.out.ext e5) (HMR.out.ext e5) (HENT.out.mn q k))
     have HX1:=Lib.hid hx1
     have HE5:=Lib.hid e5
     clear hx1 e5 CAt hcell HMR
     go_wp2_with (fail)
     refine CD.out.mono ?_
     rintro e w6 ⟨x2,rfl,hx2,e6⟩
     have hx2':CRx M4 w6 4 x2 (qcp q (mnP Z k)):=by
      rw [qfP q (mnP Z k) (zx (fun _=>q) (mnP Z k)) fun i j hi hj=>by show _=(if j<q then mnP Z k i j else []);rw [if_pos hj]]
      exact hx2
     have hdl2:dlen (nrm (qcp q (mnP Z k)))<=16:=Nat.le_trans (qrI HMN.out q (by have:=HN.out;omega)) (by have:=HN.out;omega)
     have hdg2:Deg 9 (qcp q (mnP Z k)):=(qjD q _ HMN.out.deg HMN.out.nn).mono (by have:=HN.out;omega)
     have CM:=Lib.hid (qfB M4 x1 x2 _ _ 3 9 w6 ((HMB2.out.ext HE5.out).ext e6) (HX1.out.ext e6).pi hx2'.pi (Nat.le_trans (Nat.add_le_add (HENT.out.dl 0 k) hdl2) (by decide)) (HENT.out.deg 0 k) hdg2 (by decide))
     have HE6:=Lib.hid (HE5.out.trans e6)
     have HPD:Hid (Deg 12 (pmul (Z 0 k) (qcp q (mnP Z k)))/\dlen (nrm (pmul (Z 0 k) (qcp q (mnP Z k))))<=21):=⟨(HENT.out.deg 0 k).pmul hdg2 (HENT.out.nn 0 k),by rw [qbf];exact Nat.le_trans (qbs _ _) (Nat.le_trans (Nat.add_le_add (HENT.out.dl 0 k) hdl2) (by decide))⟩
     clear hx2 hx2' e6 CD HX1 HE5 hdl2 hdg2
     go_wp2_with (fail)
     refine CM.out.mono ?_
     rintro e w7 ⟨x3,rfl,hx3,e7⟩
     have hEA:Ext wr (w7.alloc (.cells #[.int .i64 x3.lv,.bool x3.b,.slice x3.a x3.n x3.p,.slice x3.ka x3.kn x3.kp] 33)):=(HE6.out.trans e7).alloc _
     have hB7:P4 (w7.alloc (.cells #[.int .i64 x3.lv,.bool x3.b,.slice x3.a x3.n x3.p,.slice x3.ka x3.kn x3.kp] 33)) w7.heap.size x3:=(Blk.of_arr w7 (peA x3) 33 4 rfl).p4
     have hx3':CRx M4 (w7.alloc (.cells #[.int .i64 x3.lv,.bool x3.b,.slice x3.a x3.n x3.p,.slice x3.ka x3.kn x3.kp] 33)) 4 x3 (pmul (Z 0 k) (qcp q (mnP Z k))):=hx3.ext ((Ext.refl w7).alloc _)
     go_upto_region 20 with (fail)
     obtain ⟨W7,hW7⟩ : ∃ W7,W7=w7.alloc (.cells #[.int .i64 x3.lv,.bool x3.b,.slice x3.a x3.n x3.p,.slice x3.ka x3.kn x3.kp] 33):=⟨_,rfl⟩
     rw [<- hW7] at hEA hB7 hx3' ⊢
     obtain ⟨g7,hg7⟩ : ∃ g7,g7=w7.heap.size:=⟨_,rfl⟩
     rw [<- hg7] at hB7 ⊢
     have HX3:=Lib.hid hx3'
     have HB7:=Lib.hid hB7
     have HBS7:=Lib.hid (HBS2.out.ext hEA)
     have HB07:=Lib.hid (HB02.out.ext hEA)
     have HCS7:=Lib.hid (HCS2.out.ext hEA)
     have HER7:=Lib.hid (HER2.out.trans hEA)
     have HMB7:=Lib.hid (HMB2.out.ext hEA)
     clear hW7 hg7 hEA hB7 hx3' hx3 e7 CM HE6 HMB2 HBS2 HB02 HCS2 HER2
     have hdlS:Hid (dlen (nrm (qd7 (qcp q) Z k))<=22):=qqg HENT.out q HN.out.2 k (by have:=HLT.out;have:=HN.out;omega)
     by_cases hpar:k % 2=0
     ·have hpI:(k:Int) % 2=0:=by omega
      have htm:(k:Int).tmod 2=0:=by rw [Int.tmod_eq_emod_of_nonneg hk0];exact hpI
      obtain ⟨x0,x1',x2',x3'⟩:=HBS7.out.p4
      obtain ⟨y0,y1,y2,y3⟩:=HB7.out
      have CA:=Lib.hid (qk7 M4 s x3 _ _ W7 HMB7.out HCS7.out.pi HX3.out.pi (by rw [qak];refine Nat.le_trans (qdb _ _) ?_;have h1:=hdlS.out;have h2:=HPD.out.2;show _<=1099511627776;omega))
      go_wp2_with (fail)
      refine CA.out.mono ?_
      rintro e w8 ⟨s2,rfl,hs2,e8⟩
      have hB8:=HBS7.out.ext e8
      have hB08:=HB07.out.ext e8
      have hB9:=qcO hB8 s2
      have hE9:=(HER7.out.trans e8).set4 (g:=g4) HG4.out.2 0 (.int .i64 s2.lv) (.bool s2.b) (.slice s2.a s2.n s2.p) (.slice s2.ka s2.kn s2.kp)
      have hK9:Kp M4 w8 (set4 w8 g4 0 (.int .i64 s2.lv) (.bool s2.b) (.slice s2.a s2.n s2.p) (.slice s2.ka s2.kn s2.kp)):=Kp.set4 HG4.out.1 _ _ _ _ _
      have hB09:=hB08.of_heap (qag w8 g4 0 (.int .i64 s2.lv) (.bool s2.b) (.slice s2.a s2.n s2.p) (.slice s2.ka s2.kn s2.kp) g0 HNE.out)
      have hM9:=(HMB7.out.ext e8).size hK9.1
      have hc9:CRx M4 (set4 w8 g4 0 (.int .i64 s2.lv) (.bool s2.b) (.slice s2.a s2.n s2.p) (.slice s2.ka s2.kn s2.kp)) 4 s2 (qd7 (qcp q) Z (k+1)):=(hs2.sim (by show Sim _ (qd7 (qcp q) Z k ++ smul (sg1 k) (pmul (Z 0 k) (qcp q (mnP Z k))));unfold sg1;rw [if_pos hpar];exact Sim.append (Sim.refl _) fun m=>by rw [qai];omega)).kp hK9
      obtain ⟨⟨q0,q1,q2,q3⟩,f0,f1,f2,f3⟩:P4 w8 g4 s/\Fz4 w8 g4:=⟨hB8.p4,hB8.fz4⟩
      obtain ⟨W9,hW9⟩ : ∃ W9,W9=set4 w8 g4 0 (.int .i64 s2.lv) (.bool s2.b) (.slice s2.a s2.n s2.p) (.slice s2.ka s2.kn s2.kp):=⟨_,rfl⟩
      rw [<- hW9] at hB9 hE9 hB09 hM9 hc9
      unfold set4 at hW9
      have HW9:=Lib.hid hW9
      have HF:Hid (Blk W9 g4 33 4 (arr (peA s2))/\CRx M4 W9 4 s2 (qd7 (qcp q) Z (k+1))/\Blk W9 g0 33 4 (arr zA)/\Mb M4 W9/\Ext w W9):=⟨hB9,hc9,hB09,hM9,hE9⟩
      clear hB8 hB08 hB9 hE9 hK9 hB09 hM9 hc9 hW9 hs2 e8 CA HBS7 HB07 HCS7 HER7 HMB7 HX3 HB7 x0 x1' x2' x3' y0 y1 y2 y3 hdlS
      go_wp2
      rw [<- HW9.out]
      clear HW9 q0 q1 q2 q3 f0 f1 f2 f3
      go_roundw
      case rel=>exact ⟨k+1,s2,HLT.out,by go_num,HF.out.1,HF.out.2.1,HF.out.2.2.1,HF.out.2.2.2.1,HF.out.2.2.2.2⟩
      case measure=>have:=HLT.out;simp [intOf];omega
     ·have hpI : ¬ (k:Int) % 2=0:=by omega
      have htm:(k:Int).tmod 2=1:=by rw [Int.tmod_eq_emod_of_nonneg hk0];omega
      obtain ⟨x0,x1',x2',x3'⟩:=HBS7.out.p4
      obtain ⟨y0,y1,y2,y3⟩:=HB7.out
      have CA:=Lib.hid (qiL M4 s x3 _ _ 12 W7 HMB7.out HCS7.out.pi HX3.out.pi (by rw [qak];refine Nat.le_trans (qdb _ _) ?_;have h1:=hdlS.out;have h2:=HPD.out.2;have h3:=qbs (nrm (pmul (Z 0 k) (qcp q (mnP Z k)))) (nrm [((-1:Int),Mo.zero)]);rw [<- qbf] at h3;have h4:dlen (nrm [((-1:Int),Mo.zero)])=1:=rfl;show _<=1099511627776;omega) (by have h2:=HPD.out.2;exact Nat.le_trans (Nat.succ_le_succ h2) (by decide)) HPD.out.1 (by decide))
      go_wp2_with (fail)
      refine CA.out.mono ?_
      rintro e w8 ⟨s2,rfl,hs2,e8⟩
      have hB8:=HBS7.out.ext e8
      have hB08:=HB07.out.ext e8
      have hB9:=qcO hB8 s2
      have hE9:=(HER7.out.trans e8).set4 (g:=g4) HG4.out.2 0 (.int .i64 s2.lv) (.bool s2.b) (.slice s2.a s2.n s2.p) (.slice s2.ka s2.kn s2.kp)
      have hK9:Kp M4 w8 (set4 w8 g4 0 (.int .i64 s2.lv) (.bool s2.b) (.slice s2.a s2.n s2.p) (.slice s2.ka s2.kn s2.kp)):=Kp.set4 HG4.out.1 _ _ _ _ _
      have hB09:=hB08.of_heap (qag w8 g4 0 (.int .i64 s2.lv) (.bool s2.b) (.slice s2.a s2.n s2.p) (.slice s2.ka s2.kn s2.kp) g0 HNE.out)
      have hM9:=(HMB7.out.ext e8).size hK9.1
      have hc9:CRx M4 (set4 w8 g4 0 (.int .i64 s2.lv) (.bool s2.b) (.slice s2.a s2.n s2.p) (.slice s2.ka s2.kn s2.kp)) 4 s2 (qd7 (qcp q) Z (k+1)):=(hs2.sim (by show Sim _ (qd7 (qcp q) Z k ++ smul (sg1 k) (pmul (Z 0 k) (qcp q (mnP Z k))));unfold sg1;rw [if_neg hpar];exact Sim.append (Sim.refl _) (by have h:=qa8 (pmul (Z 0 k) (qcp q (mnP Z k))) ((-1:Int),Mo.zero);rw [qbc] at h;exact h))).kp hK9
      obtain ⟨⟨q0,q1,q2,q3⟩,f0,f1,f2,f3⟩:P4 w8 g4 s/\Fz4 w8 g4:=⟨hB8.p4,hB8.fz4⟩
      obtain ⟨W9,hW9⟩ : ∃ W9,W9=set4 w8 g4 0 (.int .i64 s2.lv) (.bool s2.b) (.slice s2.a s2.n s2.p) (.slice s2.ka s2.kn s2.kp):=⟨_,rfl⟩
      rw [<- hW9] at hB9 hE9 hB09 hM9 hc9
      unfold set4 at hW9
      have HW9:=Lib.hid hW9
      have HF:Hid (Blk W9 g4 33 4 (arr (peA s2))/\CRx M4 W9 4 s2 (qd7 (qcp q) Z (k+1))/\Blk W9 g0 33 4 (arr zA)/\Mb M4 W9/\Ext w W9):=⟨hB9,hc9,hB09,hM9,hE9⟩
      clear hB8 hB08 hB9 hE9 hK9 hB09 hM9 hc9 hW9 hs2 e8 CA HBS7 HB07 HCS7 HER7 HMB7 HX3 HB7 x0 x1' x2' x3' y0 y1 y2 y3 hdlS
      go_wp2
      rw [<- HW9.out]
      clear HW9 q0 q1 q2 q3 f0 f1 f2 f3
      go_roundw
      case rel=>exact ⟨k+1,s2,HLT.out,by go_num,HF.out.1,HF.out.2.1,HF.out.2.2.1,HF.out.2.2.2.1,HF.out.2.2.2.2⟩
      case measure=>have:=HLT.out;simp [intOf];omega
  ·obtain rfl:k=N:=by omega
   have hge2 : ¬ (k:Int)<(k:Int):=by omega
   obtain ⟨⟨q0,q1,q2,q3⟩,⟨f0,f1,f2,f3⟩,⟨r0,r1,r2,r3⟩,HF⟩:=qbT (M:=M) (w:=w) (L:=4) (l:=qcp k Z) (y:=s) HB0.out (M':=M4) (HM4s.out g0 (Mx.at (by omega))) HG.out HER.out (by rw [HDT.out];exact HCS.out) (fun b hb=>HM4s.out b (.inl hb))
   obtain ⟨x0,x1,x2,x3⟩:=HBS.out.p4
   have HF2:=Lib.hid HF.out
   clear HF HBS HCS HB0 HMB HER
   go_wp2
   exact bodyPost_ret (v:=.agg (peA s)) (by simp [results,Tryz.results30,go_sem,r0,r1,r2,r3]) rfl HF2.out
theorem qol : ∀ n,n<=4->qr6 n
 | 0,_=>qpl
 | n+1,h=>qhV n (by omega) (qol n (by omega))


theorem qaB.of_copy {M : Nat -> Prop} {w : World} {g n k : Nat} {xx : Nat -> PE} {P : Nat -> List Tm} (hB : Blk w g 33 (n * 4) (qey zc4 0 (k * 4) (px xx))) (hk : k <= n)
  (h : ∀ i,i<k->CRx M w 4 (xx i) (P i)):qaB M w 4 g n (fun i=>if i<k then P i else []):=by
 refine ⟨_,hB,fun i hi=>?_⟩
 by_cases hik:i<k
 ·have e : ∀ r,r<4->qey zc4 0 (k*4) (px xx) (i*4+r)=px xx (i*4+r):=fun r hr=>by unfold qey;rw [if_pos ⟨by omega,by omega⟩,Nat.sub_zero]
  have e0:=e 0 (by omega)
  rw [Nat.add_zero] at e0
  rw [e0,e 1 (by omega),e 2 (by omega),e 3 (by omega),px0,px1,px2,px3]
  simp only [if_pos hik];exact h i hik
 ·have e : ∀ r,r<4->qey zc4 0 (k*4) (px xx) (i*4+r)=zc4 (i*4+r):=fun r hr=>by unfold qey;rw [if_neg (by omega)]
  have e0:=e 0 (by omega)
  rw [Nat.add_zero] at e0
  have h0:zc4 (i*4) = .int .i64 0:=by unfold zc4;rw [if_pos (by omega)]
  have h1:zc4 (i*4+1) = .bool false:=by unfold zc4;rw [if_neg (by omega),if_pos (by omega)]
  have h2:zc4 (i*4+2) = .slice none 0 0:=by unfold zc4;rw [if_neg (by omega),if_neg (by omega)]
  have h3:zc4 (i*4+3) = .slice none 0 0:=by unfold zc4;rw [if_neg (by omega),if_neg (by omega)]
  rw [e0,e 1 (by omega),e 2 (by omega),e 3 (by omega),h0,h1,h2,h3]
  simp only [if_neg hik];exact CR.zero _ _ _




end Go.Proofs.YtlmipmebdelgbaaGreat
