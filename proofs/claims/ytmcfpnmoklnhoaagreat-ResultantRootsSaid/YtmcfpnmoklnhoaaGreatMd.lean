/- Plain facts: polynomials as lists of terms up to their coefficients: sums, shifts, products. Plain facts on recursive polynomials: trees, their terms, canonical trees. Plain facts: the weight of canonical trees; groups of terms by an exponent. recpoly: trees in memory; isLevel, isZero, isCanonical. recpoly: isCanonical. recpoly: collect. recpoly: canonical polynomials in memory, known by their coefficients. recpoly: helpers for rows of kids; build's helpers. recpoly: build. -/
import Derived.Test.YtmcfpnmoklnhoaaGreatMb
import Derived.Test.YtmcfpnmoklnhoaaGreatMo
import Derived.Test.YtmcfpnmoklnhoaaGreatMc
set_option linter.unusedVariables false
set_option maxRecDepth 100000
set_option maxHeartbeats 400000000
set_option linter.unusedSimpArgs false

namespace Go.Proofs.YtmcfpnmoklnhoaaGreat

def Sim (l r:List Tm):Prop:=∀ m,qab l m=qab r m
theorem Sim.refl (l:List Tm):Sim l l:=fun _=>rfl
theorem Sim.symm {l r:List Tm} (h:Sim l r):Sim r l:=fun m=>(h m).symm
theorem Sim.trans {a b c:List Tm} (h:Sim a b) (k:Sim b c):Sim a c:=fun m=>(h m).trans (k m)
theorem Sim.append {a b c d:List Tm} (h:Sim a b) (k:Sim c d):Sim (a ++ c) (b ++ d):=fun m=>by rw [qae,qae,h m,k m]
theorem Sim.norm {l r:List Tm} (h:Sim l r):norm l=norm r:=qkA fun m _=>h m
def Mo.zero:Mo:=⟨0,0,0,0⟩
def Mo.add (x y:Mo):Mo:=⟨x.a+y.a,x.b+y.b,x.c+y.c,x.d+y.d⟩
def Mo.sub (x y:Mo):Mo:=⟨x.a - y.a,x.b - y.b,x.c - y.c,x.d - y.d⟩
theorem Mo.add_eq (x y z:Mo):Mo.add x y=z↔x=Mo.sub z y:=by
 constructor
 ·rintro rfl;cases x;cases y;simp [Mo.add,Mo.sub]
 ·rintro rfl;cases y;cases z;simp [Mo.add,Mo.sub]
theorem Mo.add_comm' (x y:Mo):Mo.add x y=Mo.add y x:=by cases x;cases y;simp [Mo.add];omega
theorem Mo.add_assoc' (x y z:Mo):Mo.add (Mo.add x y) z=Mo.add x (Mo.add y z):=by cases x;cases y;cases z;simp [Mo.add];omega
theorem Mo.add_zero' (x:Mo):Mo.add x Mo.zero=x:=by cases x;simp [Mo.add,Mo.zero]
theorem Mo.zero_add' (x:Mo):Mo.add Mo.zero x=x:=by cases x;simp [Mo.add,Mo.zero]
theorem Mo.sub_sub' (x y z:Mo):Mo.sub (Mo.sub x y) z=Mo.sub x (Mo.add y z):=by cases x;cases y;cases z;simp [Mo.add,Mo.sub];omega
def shift (k:Mo) (l:List Tm):List Tm:=l.map fun t=>(t.1,Mo.add t.2 k)
theorem qaA (k:Mo) (l:List Tm) (m:Mo):qab (shift k l) m=qab l (Mo.sub m k):=by
 induction l with
 | nil=>rfl
 | cons t l ih=>
  show (if Mo.add t.2 k=m then t.1 else 0)+qab (shift k l) m=_;rw [ih];simp only [qab];have:(Mo.add t.2 k=m)↔(t.2=Mo.sub m k):=Mo.add_eq _ _ _
  by_cases h:t.2=Mo.sub m k
  ·rw [if_pos (this.2 h),if_pos h]
  ·rw [if_neg (fun e=>h (this.1 e)),if_neg h]
theorem qch (k:Mo) (l r:List Tm):shift k (l ++ r)=shift k l ++ shift k r:=by simp [shift]
theorem qdr (j k:Mo) (l:List Tm):shift j (shift k l)=shift (Mo.add k j) l:=by
 simp [shift,List.map_map,Function.comp_def,Mo.add_assoc']
theorem qbl (l:List Tm):shift Mo.zero l=l:=by simp [shift,Mo.add_zero']
theorem Sim.shift {l r:List Tm} (h:Sim l r) (k:Mo):Sim (shift k l) (shift k r):=fun m=>by rw [qaA,qaA];exact h _
theorem qaS (k:Mo) (l:List Tm):nrm (shift k l)=nrm l:=by
 induction l with
 | nil=>rfl
 | cons t l ih=>show t.1.natAbs+nrm (Go.Proofs.YtmcfpnmoklnhoaaGreat.shift k l)=_;rw [ih];rfl
def smul (c:Int) (l:List Tm):List Tm:=l.map fun t=>(c*t.1,t.2)
theorem qao (c:Int) (l:List Tm) (m:Mo):qab (smul c l) m=c*qab l m:=by
 induction l with
 | nil=>simp [smul,qab]
 | cons t l ih=>
  show (if t.2=m then c*t.1 else 0)+qab (smul c l) m=_;rw [ih];simp only [qab]
  split <;> simp [Int.mul_add]
theorem qgB (c:Int) (l:List Tm):nrm (smul c l)=c.natAbs*nrm l:=by
 induction l with
 | nil=>simp [smul,nrm]
 | cons t l ih=>show (c*t.1).natAbs+nrm (smul c l)=_;rw [ih];simp [nrm,Int.natAbs_mul,Nat.mul_add]
def pmul:List Tm->List Tm->List Tm
 | [],_=>[]
 | s :: l,r=>shift s.2 (smul s.1 r) ++ pmul l r
theorem qdM (l:List Tm):pmul l [] = []:=by
 induction l with
 | nil=>rfl
 | cons s l ih=>simp [pmul,ih,smul,shift]
theorem qah (s:Tm) (l r:List Tm) (m:Mo):qab (pmul (s :: l) r) m=s.1*qab r (Mo.sub m s.2)+qab (pmul l r) m:=by
 rw [pmul,qae,qaA,qao]
theorem Sim.pmul_right {r r':List Tm} (h:Sim r r') (l:List Tm):Sim (pmul l r) (pmul l r'):=by
 induction l with
 | nil=>exact Sim.refl _
 | cons s l ih=>intro m;rw [qah,qah,h,ih m]
theorem qav (a b r:List Tm):pmul (a ++ b) r=pmul a r ++ pmul b r:=by
 induction a with
 | nil=>rfl
 | cons s a ih=>simp [pmul,ih]
theorem Sim.pmul_append_right (l a b:List Tm):Sim (pmul l (a ++ b)) (pmul l a ++ pmul l b):=by
 induction l with
 | nil=>exact Sim.refl _
 | cons s l ih=>
  intro m;rw [qae,qah,qah,qah,qae,ih m,qae,Int.mul_add];omega
theorem qbi (l:List Tm) (t:Tm):Sim (pmul l [t]) (shift t.2 (smul t.1 l)):=by
 induction l with
 | nil=>exact Sim.refl _
 | cons s l ih=>
  intro m;rw [qah,ih m,qaA,qaA,qao,qao];simp only [qab];rw [Int.mul_add,Int.mul_add]
  have e:(t.2=Mo.sub m s.2)↔(s.2=Mo.sub m t.2):=by
   rw [<- Mo.add_eq,<- Mo.add_eq,Mo.add_comm']
  by_cases h:t.2=Mo.sub m s.2
  ·rw [if_pos h,if_pos (e.1 h),Int.mul_comm t.1 s.1];simp
  ·rw [if_neg h,if_neg (fun k=>h (e.2 k))];simp
theorem Sim.pmul_comm (l r:List Tm):Sim (pmul l r) (pmul r l):=by
 induction r with
 | nil=>rw [qdM];exact Sim.refl _
 | cons t r ih=>
  have h1:Sim (pmul l (t :: r)) (pmul l [t] ++ pmul l r):=Sim.pmul_append_right l [t] r;refine h1.trans ?_;rw [pmul];exact (qbi l t).append ih
theorem Sim.pmul_left {l l':List Tm} (h:Sim l l') (r:List Tm):Sim (pmul l r) (pmul l' r):=
 (Sim.pmul_comm l r).trans ((h.pmul_right r).trans (Sim.pmul_comm r l'))
theorem Sim.pmul {l l' r r':List Tm} (h:Sim l l') (k:Sim r r'):Sim (pmul l r) (pmul l' r'):=(h.pmul_left r).trans (k.pmul_right l')
theorem qaJ (k:Mo) (l r:List Tm):Sim (pmul (shift k l) r) (shift k (pmul l r)):=by
 induction l with
 | nil=>exact Sim.refl _
 | cons s l ih=>
  intro m;show qab (pmul ((s.1,Mo.add s.2 k) :: shift k l) r) m=_;rw [qah,ih m,qaA,qaA,qah,Mo.sub_sub',Mo.add_comm' s.2 k]
theorem qbb (l r:List Tm):nrm (pmul l r)=nrm l*nrm r:=by
 induction l with
 | nil=>simp [pmul,nrm]
 | cons s l ih=>rw [pmul,qai,qaS,qgB,ih];simp [nrm,Nat.add_mul]
theorem Sim.pmul_assoc (a b c:List Tm):Sim (Go.Proofs.YtmcfpnmoklnhoaaGreat.pmul (Go.Proofs.YtmcfpnmoklnhoaaGreat.pmul a b) c) (Go.Proofs.YtmcfpnmoklnhoaaGreat.pmul a (Go.Proofs.YtmcfpnmoklnhoaaGreat.pmul b c)):=by
 induction a with
 | nil=>exact Sim.refl _
 | cons s a ih=>
  rw [Go.Proofs.YtmcfpnmoklnhoaaGreat.pmul,qav,Go.Proofs.YtmcfpnmoklnhoaaGreat.pmul];refine Sim.append ?_ ih;refine (qaJ _ _ _).trans (Sim.shift ?_ _);intro m;clear ih
  induction b with
  | nil=>simp [Go.Proofs.YtmcfpnmoklnhoaaGreat.pmul,Go.Proofs.YtmcfpnmoklnhoaaGreat.smul]
  | cons t b ih=>
   show qab (Go.Proofs.YtmcfpnmoklnhoaaGreat.pmul ((s.1*t.1,t.2) :: Go.Proofs.YtmcfpnmoklnhoaaGreat.smul s.1 b) c) m=_;rw [qah,ih,qao,qao,qah,Int.mul_add,Int.mul_assoc]

def Mo.get (m:Mo) (k:Nat):Int:=if k=1 then m.a else if k=2 then m.b else if k=3 then m.c else if k=4 then m.d else 0
def xp (k:Nat) (i:Int):Mo:=⟨if k=1 then i else 0,if k=2 then i else 0,if k=3 then i else 0,if k=4 then i else 0⟩
theorem qcz {k:Nat} (h1:1<=k) (h4:k<=4):k=1∨k=2∨k=3∨k=4:=by omega
theorem qat (k j:Nat) (i:Int) (h1:1<=k) (h4:k<=4):(xp k i).get j=if j=k then i else 0:=by
 rcases qcz h1 h4 with rfl | rfl | rfl | rfl <;> simp only [Mo.get,xp] <;> (repeat' split) <;> simp_all
theorem qas (x y:Mo) (k:Nat):(Mo.add x y).get k=x.get k+y.get k:=by
 simp only [Mo.get,Mo.add];(repeat' split) <;> simp
theorem qbG (x y:Mo) (k:Nat):(Mo.sub x y).get k=x.get k - y.get k:=by
 simp only [Mo.get,Mo.sub];(repeat' split) <;> simp
theorem qbc (k:Nat):Mo.zero.get k=0:=by simp [Mo.get,Mo.zero]
theorem Mo.ext_get {x y:Mo} (h : ∀ k,1<=k->k<=4->x.get k=y.get k):x=y:=by
 have h1:=h 1 (by omega) (by omega);have h2:=h 2 (by omega) (by omega);have h3:=h 3 (by omega) (by omega);have h4:=h 4 (by omega) (by omega);simp [Mo.get] at h1 h2 h3 h4;exact Mo.ext' h1 h2 h3 h4
def Low (L:Nat) (l:List Tm):Prop:=∀ t ∈ l,∀ k,L<k->k<=4->t.2.get k=0
theorem Low.append {L:Nat} {l r:List Tm} (h:Low L l) (k:Low L r):Low L (l ++ r):=fun t ht=>(List.mem_append.1 ht).elim (h t) (k t)
theorem Low.mono {L L':Nat} {l:List Tm} (h:Low L l) (hL:L<=L'):Low L' l:=fun t ht k h1 h2=>h t ht k (by omega) h2
theorem Low.coef {L:Nat} {l:List Tm} (h:Low L l) {m:Mo} {k:Nat} (h1:L<k) (h2:k<=4) (hm:m.get k≠0):qab l m=0:=
 qaB fun t ht e=>hm (by rw [<- e];exact h t ht k h1 h2)
def poly (L:Nat) (n:Nat) (P:Nat->List Tm):List Tm:=(List.range n).flatMap fun (i:Nat)=>shift (xp L (i:Int)) (P i)
theorem qbD (L:Nat) (P:Nat->List Tm):poly L 0 P = []:=rfl
theorem qaf (L n:Nat) (P:Nat->List Tm):poly L (n+1) P=poly L n P ++ shift (xp L (n:Int)) (P n):=by
 unfold poly;rw [List.range_succ,List.flatMap_append];simp
theorem qaC (L n:Nat) (P Q:Nat->List Tm) (h : ∀ i,i<n->Sim (P i) (Q i)):Sim (poly L n P) (poly L n Q):=by
 induction n with
 | zero=>exact Sim.refl _
 | succ n ih=>rw [qaf,qaf];exact (ih fun i hi=>h i (by omega)).append ((h n (by omega)).shift _)
theorem qgv (L n:Nat) (P:Nat->List Tm) (h1:1<=L) (h4:L<=4) (h : ∀ i,i<n->Low (L - 1) (P i)):Low L (poly L n P):=by
 intro t ht k hk hk4;obtain ⟨i,hi,ht⟩:=List.mem_flatMap.1 ht;obtain ⟨s,hs,rfl⟩:=List.mem_map.1 ht;rw [qas,qat L k _ h1 h4,if_neg (by omega),h i (by simpa using hi) s hs k (by omega) hk4];rfl
theorem qbI (L n : Nat) (P : Nat -> List Tm) (h1 : 1 <= L) (h4 : L <= 4) (h : ∀ i, i < n -> Low (L - 1) (P i)) (m : Mo) (e : Nat) (he : m.get L = e) :
  qab (poly L n P) m=if e<n then qab (P e) (Mo.sub m (xp L e)) else 0:=by
 induction n with
 | zero=>simp [qbD,qab]
 | succ n ih=>
  rw [qaf,qae,ih fun i hi=>h i (by omega),qaA]
  by_cases hen:e=n
  ·subst hen;rw [if_neg (by omega),if_pos (by omega)];omega
  ·have : qab (P n) (Mo.sub m (xp L (n : Int))) = 0 := by
    refine (h n (by omega)).coef (k:=L) (by omega) h4 ?_;rw [qbG,qat L L _ h1 h4,if_pos rfl,he];omega
   rw [this]
   by_cases h2:e<n
   ·rw [if_pos h2,if_pos (by omega)];omega
   ·rw [if_neg h2,if_neg (by omega)];rfl
theorem qcN (L n:Nat) (P:Nat->List Tm) (h1:1<=L) (h4:L<=4) (h : ∀ i,i<n->Low (L - 1) (P i)) (m:Mo) (he:m.get L<0):qab (poly L n P) m=0:=by
 induction n with
 | zero=>simp [qbD,qab]
 | succ n ih=>
  rw [qaf,qae,ih fun i hi=>h i (by omega),qaA]
  have:qab (P n) (Mo.sub m (xp L (n:Int)))=0:=by
   refine (h n (by omega)).coef (k:=L) (by omega) h4 ?_;rw [qbG,qat L L _ h1 h4,if_pos rfl];omega
  rw [this];rfl


structure qcF where
 neg:Bool
 n:Nat
 dg:Nat->Nat
def qcF.val (r:qcF):Int:=sgn r.neg (nv r.dg r.n)
def qcF.can (r:qcF):Bool:=(r.n == 0 && !r.neg) || (decide (0<r.n) && r.dg (r.n - 1) != 0)
def qcF.blank (r:qcF):Bool:=r.n == 0 && !r.neg
def qcF.ok (r:qcF):Prop:=∀ i,i<r.n->r.dg i<4294967296
def RT:Nat->Type
 | 0=>Unit
 | d+1=>Int × qcF × Nat × (Nat->RT d)
def lev:(d:Nat)->RT d->Int
 | 0,_=>0
 | _+1,t=>t.1
def isZ:(d:Nat)->RT d->Bool
 | 0,_=>false
 | _+1,t=>decide (t.1=0) && t.2.1.n == 0
def qaM:(d:Nat)->RT d->Bool
 | 0,_=>false
 | d+1,t=>if t.1=0 then (t.2.2.1 == 0) && t.2.1.can
  else decide (1<=t.1/\t.1<=4) && (t.2.1.blank && (decide (2<=t.2.2.1) && ((List.range t.2.2.1).all (fun i=>decide (lev d (t.2.2.2 i)<t.1) && qaM d (t.2.2.2 i)) && !(isZ d (t.2.2.2 (t.2.2.1 - 1))))))
def qaj:(d:Nat)->RT d->List Tm
 | 0,_=>[]
 | d+1,t=>if t.1<=0 then [(t.2.1.val,Mo.zero)] else if 4<t.1 then [] else poly t.1.toNat t.2.2.1 (fun i=>qaj d (t.2.2.2 i))
def okT:(d:Nat)->RT d->Prop
 | 0,_=>True
 | d+1,t=>t.2.1.ok /\ ∀ i,i<t.2.2.1->okT d (t.2.2.2 i)
theorem qcF.can_zero {r:qcF} (h:r.can=true) (ho:r.ok):r.val=0↔r.n=0:=by
 unfold qcF.can at h;constructor
 ·intro hv
  by_cases h0:r.n=0
  ·exact h0
  ·exfalso
   have h1:r.dg (r.n - 1)≠0:=by
    have h2:=h;simp [h0] at h2;exact h2.2
   obtain ⟨m,hm⟩ : ∃ m,r.n=m+1:=⟨r.n - 1,by omega⟩;have h2:=ql7 r.dg m (by rw [hm] at h1;simpa using h1);have h3:=qeH m;unfold qcF.val sgn at hv;rw [hm] at hv
   split at hv <;> omega
 ·intro h0
  have hn:r.neg=false:=by simpa [h0] using h
  unfold qcF.val sgn;rw [h0,hn];rfl
section
variable {d:Nat} {t:RT (d+1)}
theorem qbX (h:qaM (d+1) t=true) (hl:t.1=0):t.2.2.1=0/\t.2.1.can=true:=by
 unfold qaM at h;rw [if_pos hl] at h;simpa using h
theorem qbe (h:qaM (d+1) t=true) (hl:t.1≠0):(1<=t.1/\t.1<=4)/\t.2.1.n=0/\t.2.1.neg=false/\2<=t.2.2.1/\(∀ i,i<t.2.2.1->lev d (t.2.2.2 i)<t.1/\qaM d (t.2.2.2 i)=true)/\isZ d (t.2.2.2 (t.2.2.1 - 1))=false:=by
 unfold qaM at h;rw [if_neg hl] at h;simp only [Bool.and_eq_true,decide_eq_true_eq,List.all_eq_true,List.mem_range,Bool.not_eq_true',qcF.blank,beq_iff_eq] at h;obtain ⟨h1,⟨h2,h3⟩,h4,h5,h6⟩:=h;exact ⟨h1,h2,h3,h4,h5,h6⟩
theorem qcP (h:qaM (d+1) t=true):0<=t.1/\t.1<=4:=by
 by_cases hl:t.1=0
 ·omega
 ·have:=(qbe h hl).1;omega
theorem qaE (hl:t.1<=0):qaj (d+1) t = [(t.2.1.val,Mo.zero)]:=by unfold qaj;rw [if_pos hl]
theorem qaO (h1:1<=t.1) (h4:t.1<=4):qaj (d+1) t=poly t.1.toNat t.2.2.1 (fun i=>qaj d (t.2.2.2 i)):=by
 conv=>lhs;unfold qaj
 rw [if_neg (by omega),if_neg (by omega)]
end
theorem qdS (c:Int):Low 0 [(c,Mo.zero)]:=by
 intro t ht k _ _;simp at ht;subst ht;exact qbc k
theorem qdA : ∀ (d:Nat) (t:RT d),qaM d t=true->Low (lev d t).toNat (qaj d t)
 | 0,_,h=>by cases h
 | d+1,t,h=>by
  show Low t.1.toNat _
  by_cases hl:t.1=0
  ·rw [qaE (by omega),hl];exact qdS _
  ·obtain ⟨h1,_,_,_,h5,_⟩:=qbe h hl;rw [qaO h1.1 h1.2];refine qgv _ _ _ (by omega) (by omega) fun i hi=>?_;have:=qdA d (t.2.2.2 i) (h5 i hi).2;exact this.mono (by have:=(h5 i hi).1;omega)
theorem qbE {d:Nat} {t:RT (d+1)} (h:qaM (d+1) t=true) (hl:t.1≠0) (i:Nat) (hi:i<t.2.2.1):Low (t.1.toNat - 1) (qaj d (t.2.2.2 i)):=by
 obtain ⟨_,_,_,_,h5,_⟩:=qbe h hl;exact (qdA d _ (h5 i hi).2).mono (by have:=(h5 i hi).1;omega)
theorem can_zero : ∀ (d:Nat) (t:RT d),qaM d t=true->okT d t->isZ d t=false -> ∃ m,qab (qaj d t) m≠0
 | 0,_,h,_,_=>by cases h
 | d+1,t,h,ho,hz=>by
  by_cases hl:t.1=0
  ·obtain ⟨_,hc⟩:=qbX h hl;refine ⟨Mo.zero,?_⟩;rw [qaE (by omega)];simp only [qab,if_true];intro h0;have h1:=(qcF.can_zero hc ho.1).1 (by omega);unfold isZ at hz;simp [hl,h1] at hz
  ·obtain ⟨h1,_,_,h4,h5,h6⟩:=qbe h hl;obtain ⟨m,hm⟩:=can_zero d (t.2.2.2 (t.2.2.1 - 1)) (h5 _ (by omega)).2 (ho.2 _ (by omega)) h6
   have hm0:m.get t.1.toNat=0:=by
    by_cases he:m.get t.1.toNat=0
    ·exact he
    ·exact absurd ((qbE h hl _ (by omega)).coef (k:=t.1.toNat) (by omega) (by omega) he) hm
   refine ⟨Mo.add m (xp t.1.toNat ((t.2.2.1 - 1:Nat):Int)),?_⟩;rw [qaO h1.1 h1.2,qbI t.1.toNat t.2.2.1 _ (by omega) (by omega) (fun i hi=>qbE h hl i hi) _ (t.2.2.1 - 1) (by rw [qas,hm0,qat _ _ _ (by omega) (by omega),if_pos rfl];omega),if_pos (by omega)];rw [show Mo.sub (Mo.add m (xp t.1.toNat ((t.2.2.1 - 1:Nat):Int))) (xp t.1.toNat ((t.2.2.1 - 1:Nat):Int))=m from ((Mo.add_eq _ _ _).1 rfl).symm];exact hm
theorem qhM {d:Nat} {t:RT d} (h:qaM d t=true) (hz:isZ d t=true):Sim (qaj d t) []:=by
 cases d with
 | zero=>cases h
 | succ d=>
  unfold isZ at hz;simp only [Bool.and_eq_true,decide_eq_true_eq,beq_iff_eq] at hz;obtain ⟨_,hc⟩:=qbX h hz.1;rw [qaE (by omega)];intro m
  have hn:t.2.1.neg=false:=by unfold qcF.can at hc;simpa [hz.2] using hc
  have:t.2.1.val=0:=by unfold qcF.val sgn;rw [hz.2,hn];rfl
  simp [qab,this]
theorem qkY {d d' : Nat} {t : RT (d + 1)} {u : RT (d' + 1)} (h : qaM (d + 1) t = true) (k : qaM (d' + 1) u = true) (ho : okT (d + 1) t) (ko : okT (d' + 1) u) (hs : Sim (qaj (d + 1) t) (qaj (d' + 1) u)) :
  t.1=u.1/\t.2.2.1=u.2.2.1/\(t.1=0->t.2.1.val=u.2.1.val)/\(t.1≠0 -> ∀ i,i<t.2.2.1->Sim (qaj d (t.2.2.2 i)) (qaj d' (u.2.2.2 i))):=by
 -- a monomial of the other tree that contains its variable
 have big : ∀ {d d':Nat} {t:RT (d+1)} {u:RT (d'+1)},qaM (d+1) t=true->qaM (d'+1) u=true->okT (d'+1) u->Sim (qaj (d+1) t) (qaj (d'+1) u) -> ¬ t.1<u.1:=by
  intro d d' t u h k ko hs hlt
  have hl:u.1≠0:=by have:=qcP h;omega
  obtain ⟨h1,_,_,h4,h5,h6⟩:=qbe k hl;obtain ⟨m,hm⟩:=can_zero d' (u.2.2.2 (u.2.2.1 - 1)) (h5 _ (by omega)).2 (ko.2 _ (by omega)) h6
  have hm0:m.get u.1.toNat=0:=by
   by_cases he:m.get u.1.toNat=0
   ·exact he
   ·exact absurd ((qbE k hl _ (by omega)).coef (k:=u.1.toNat) (by omega) (by omega) he) hm
  have hg:(Mo.add m (xp u.1.toNat ((u.2.2.1 - 1:Nat):Int))).get u.1.toNat=((u.2.2.1 - 1:Nat):Int):=by rw [qas,hm0,qat _ _ _ (by omega) (by omega),if_pos rfl];omega
  have e1:=hs (Mo.add m (xp u.1.toNat ((u.2.2.1 - 1:Nat):Int)));have hlow:Low t.1.toNat (qaj (d+1) t):=qdA (d+1) t h;rw [hlow.coef (k:=u.1.toNat) (by have:=qcP h;omega) (by omega) (by rw [hg];omega)] at e1;rw [qaO h1.1 h1.2,qbI u.1.toNat u.2.2.1 _ (by omega) (by omega) (fun i hi=>qbE k hl i hi) _ (u.2.2.1 - 1) hg,if_pos (by omega)] at e1;rw [show Mo.sub (Mo.add m (xp u.1.toNat ((u.2.2.1 - 1:Nat):Int))) (xp u.1.toNat ((u.2.2.1 - 1:Nat):Int))=m from ((Mo.add_eq _ _ _).1 rfl).symm] at e1;exact hm e1.symm
 have hlev:t.1=u.1:=by
  have b1:=big h k ko hs;have b2:=big k h ho hs.symm;omega
 by_cases hl:t.1=0
 ·have hl':u.1=0:=by omega
  have c1:=qbX h hl;have c2:=qbX k hl';refine ⟨hlev,by rw [c1.1,c2.1],fun _=>?_,fun hn=>absurd hl hn⟩;have:=hs Mo.zero;rw [qaE (by omega),qaE (by omega)] at this;simp only [qab,if_true] at this;omega
 ·have hl':u.1≠0:=by omega
  obtain ⟨h1,_,_,h4,h5,h6⟩:=qbe h hl;obtain ⟨k1,_,_,k4,k5,k6⟩:=qbe k hl'
  have key : ∀ (m:Mo) (e:Nat),m.get t.1.toNat=0->(if e<t.2.2.1 then qab (qaj d (t.2.2.2 e)) m else 0)=(if e<u.2.2.1 then qab (qaj d' (u.2.2.2 e)) m else 0):=by
   intro m e hm;have e1:=hs (Mo.add m (xp t.1.toNat (e:Int)))
   have hg:(Mo.add m (xp t.1.toNat (e:Int))).get t.1.toNat=(e:Int):=by rw [qas,hm,qat _ _ _ (by omega) (by omega),if_pos rfl];omega
   rw [qaO h1.1 h1.2,qaO k1.1 k1.2,qbI t.1.toNat t.2.2.1 _ (by omega) (by omega) (fun i hi=>qbE h hl i hi) _ e hg] at e1;rw [show u.1.toNat=t.1.toNat from by rw [hlev]] at e1;rw [qbI t.1.toNat u.2.2.1 _ (by omega) (by omega) (fun i hi=>by have:=qbE k hl' i hi;rw [<- hlev] at this;exact this) _ e hg] at e1;rw [show Mo.sub (Mo.add m (xp t.1.toNat (e:Int))) (xp t.1.toNat (e:Int))=m from ((Mo.add_eq _ _ _).1 rfl).symm] at e1;exact e1
  have low0 : ∀ {l:List Tm},Low (t.1.toNat - 1) l -> ∀ m,m.get t.1.toNat≠0->qab l m=0:=fun hlow m hm=>hlow.coef (k:=t.1.toNat) (by omega) (by omega) hm
  have kid_low' : ∀ i,i<u.2.2.1->Low (t.1.toNat - 1) (qaj d' (u.2.2.2 i)):=fun i hi=>by have:=qbE k hl' i hi;rw [<- hlev] at this;exact this
  have hn:t.2.2.1=u.2.2.1:=by
   rcases Nat.lt_trichotomy t.2.2.1 u.2.2.1 with hlt | heq | hgt
   ·exfalso;obtain ⟨m,hm⟩:=can_zero d' (u.2.2.2 (u.2.2.1 - 1)) (k5 _ (by omega)).2 (ko.2 _ (by omega)) k6
    have hm0:m.get t.1.toNat=0:=by
     by_cases he:m.get t.1.toNat=0
     ·exact he
     ·exact absurd (low0 (kid_low' _ (by omega)) m he) hm
    have:=key m (u.2.2.1 - 1) hm0;rw [if_neg (by omega),if_pos (by omega)] at this;exact hm this.symm
   ·exact heq
   ·exfalso;obtain ⟨m,hm⟩:=can_zero d (t.2.2.2 (t.2.2.1 - 1)) (h5 _ (by omega)).2 (ho.2 _ (by omega)) h6
    have hm0:m.get t.1.toNat=0:=by
     by_cases he:m.get t.1.toNat=0
     ·exact he
     ·exact absurd (low0 (qbE h hl _ (by omega)) m he) hm
    have:=key m (t.2.2.1 - 1) hm0;rw [if_pos (by omega),if_neg (by omega)] at this;exact hm this
  refine ⟨hlev,hn,fun h0=>absurd h0 hl,fun _ i hi m=>?_⟩
  by_cases hm:m.get t.1.toNat=0
  ·have:=key m i hm;rw [if_pos hi,if_pos (by omega)] at this;exact this
  ·rw [low0 (qbE h hl i hi) m hm,low0 (kid_low' i (by omega)) m hm]


def qnJ (l:List Tm):Prop:=l.Pairwise (fun s t=>s.2≠t.2)
theorem qky (p:Tm->Bool) (l:List Tm):nrm l=nrm (l.filter p)+nrm (l.filter (fun t=>!p t)):=by
 induction l with
 | nil=>rfl
 | cons t l ih=>
  rw [List.filter_cons,List.filter_cons];cases h:p t
  ·simp only [Bool.false_eq_true,if_false,Bool.not_false,if_true,nrm];omega
  ·simp only [if_true,Bool.not_true,Bool.false_eq_true,if_false,nrm];omega
theorem qbZ (l:List Tm) (q m:Mo):qab (l.filter (fun t=>decide (t.2≠q))) m=if m=q then 0 else qab l m:=by
 induction l with
 | nil=>simp [qab]
 | cons t l ih=>
  rw [List.filter_cons]
  by_cases h:t.2=q
  ·rw [if_neg (by simp [h]),ih]
   split
   ·rfl
   ·rename_i hm;simp only [qab];rw [if_neg (fun e=>hm (e.symm.trans h))];omega
  ·rw [if_pos (by simp [h])];simp only [qab,ih]
   by_cases hm:m=q
   ·rw [if_pos hm,if_pos hm,if_neg (fun e=>h (e.trans hm))];rfl
   ·rw [if_neg hm,if_neg hm]
theorem qeB (l:List Tm) (q:Mo):(qab l q).natAbs<=nrm (l.filter (fun t=>!decide (t.2≠q))):=by
 induction l with
 | nil=>simp [qab,nrm]
 | cons t l ih=>
  rw [List.filter_cons];simp only [qab]
  by_cases h:t.2=q
  ·rw [if_pos h,if_pos (by simp [h])];simp only [nrm];omega
  ·rw [if_neg h,if_neg (by simp [h])];omega
theorem qoG {l:List Tm} (hd:qnJ l) : ∀ {r:List Tm},Sim l r->nrm l<=nrm r:=by
 induction l with
 | nil=>intro r _;exact Nat.zero_le _
 | cons t l ih=>
  intro r hs;obtain ⟨h1,h2⟩:=List.pairwise_cons.1 hd;have h0:qab l t.2=0:=qaB fun s hs=>(h1 s hs).symm
  have h3:Sim l (r.filter (fun s=>decide (s.2≠t.2))):=by
   intro m;rw [qbZ]
   split
   ·rename_i hm;rw [hm];exact h0
   ·rename_i hm;rw [<- hs m];simp only [qab];rw [if_neg (fun e=>hm e.symm)];omega
  have h4:=ih h2 h3;have h5:=qky (fun s=>decide (s.2≠t.2)) r;have h6:=qeB r t.2;have h7:=hs t.2;simp only [qab,if_true] at h7;rw [h0] at h7;simp only [nrm]
  have:qab r t.2=t.1:=by omega
  rw [this] at h6;omega
theorem qku {l:List Tm} (h:qnJ l) (k:Mo):qnJ (shift k l):=by
 unfold qnJ shift;rw [List.pairwise_map];exact h.imp fun {s t} hst e=>hst (by rw [(Mo.add_eq _ _ _).1 e,<- (Mo.add_eq t.2 k _).1 rfl])
theorem qck {L n:Nat} {P:Nat->List Tm} {t:Tm} (h:t ∈ poly L n P) : ∃ i,i<n /\ ∃ s ∈ P i,t=(s.1,Mo.add s.2 (xp L (i:Int))):=by
 obtain ⟨i,hi,ht⟩:=List.mem_flatMap.1 h;obtain ⟨s,hs,rfl⟩:=List.mem_map.1 ht;exact ⟨i,by simpa using hi,s,hs,rfl⟩
theorem qlY (L n:Nat) (P:Nat->List Tm) (h1:1<=L) (h4:L<=4) (hl : ∀ i,i<n->Low (L - 1) (P i)) (h : ∀ i,i<n->qnJ (P i)):qnJ (poly L n P):=by
 induction n with
 | zero=>exact List.Pairwise.nil
 | succ n ih=>
  rw [qaf];refine List.pairwise_append.2 ⟨ih (fun i hi=>hl i (by omega)) (fun i hi=>h i (by omega)),qku (h n (by omega)) _,fun s hs t ht e=>?_⟩;obtain ⟨i,hi,s',hs',rfl⟩:=qck hs;obtain ⟨t',ht',rfl⟩:=List.mem_map.1 ht;have e1:=congrArg (fun m=>Mo.get m L) e;simp only [qas,qat L L _ h1 h4,if_true] at e1;rw [hl i (by omega) s' hs' L (by omega) h4,hl n (by omega) t' ht' L (by omega) h4] at e1;omega
theorem qka : ∀ (d:Nat) (t:RT d),qaM d t=true->qnJ (qaj d t)
 | 0,_,h=>by cases h
 | d+1,t,h=>by
  by_cases hl:t.1=0
  ·rw [qaE (by omega)];exact List.pairwise_singleton _ _
  ·obtain ⟨h1,_,_,_,h5,_⟩:=qbe h hl;rw [qaO h1.1 h1.2];exact qlY _ _ _ (by omega) (by omega) (fun i hi=>qbE h hl i hi) fun i hi=>qka d _ (h5 i hi).2
theorem qfB {d:Nat} {t:RT d} (h:qaM d t=true) {l:List Tm} (hs:Sim (qaj d t) l):nrm (qaj d t)<=nrm l:=qoG (qka d t h) hs
theorem qaN (L n:Nat) (P:Nat->List Tm) (i:Nat) (hi:i<n):nrm (P i)<=nrm (poly L n P):=by
 induction n with
 | zero=>omega
 | succ n ih=>
  rw [qaf,qai,qaS]
  by_cases h:i=n
  ·subst h;omega
  ·have:=ih (by omega);omega
theorem qdX {L n:Nat} {P:Nat->List Tm} (h1:1<=L) (h4:L<=4) (h : ∀ i,i<n->Low (L - 1) (P i)) (i:Nat) (hi:i<n) (m:Mo) (hm:m.get L=0):qab (poly L n P) (Mo.add m (xp L (i:Int)))=qab (P i) m:=by
 rw [qbI L n P h1 h4 h _ i (by rw [qas,hm,qat L L _ h1 h4,if_pos rfl];omega),if_pos hi,<- (Mo.add_eq m _ _).1 rfl]
def qgY (L:Nat) (m:Mo):Mo:=⟨if 1<=L then m.a else 0,if 2<=L then m.b else 0,if 3<=L then m.c else 0,if 4<=L then m.d else 0⟩
def qeA (L:Nat) (l:List Tm):List Tm:=l.map fun t=>(t.1,qgY L t.2)
theorem qcL (L:Nat) (m:Mo) (k:Nat):(qgY L m).get k=if k<=L then m.get k else 0:=by
 simp only [qgY,Mo.get]
 by_cases h1:k=1
 ·subst h1;simp
 ·by_cases h2:k=2
  ·subst h2;simp
  ·by_cases h3:k=3
   ·subst h3;simp
   ·by_cases h4:k=4
    ·subst h4;simp
    ·simp [h1,h2,h3,h4]
theorem qnc (l:List Tm):qeA 4 l=l:=by
 unfold qeA
 conv=>rhs;rw [<- List.map_id l]
 apply List.map_congr_left;intro t _;simp [qgY]
theorem qoM (L:Nat) (l:List Tm):Low L (qeA L l):=by
 intro t ht k hk _;obtain ⟨s,_,rfl⟩:=List.mem_map.1 ht;rw [qcL,if_neg (by omega)]
def qeh (L:Nat) (l:List Tm):Prop:=∀ s ∈ l,∀ t ∈ l,∀ k,L<k->k<=4->s.2.get k=t.2.get k
def grp (L:Nat) (e:Int) (l:List Tm):List Tm:=l.filter fun t=>decide (t.2.get L=e)
theorem qkF (L:Nat) (e:Int) (l r:List Tm):grp L e (l ++ r)=grp L e l ++ grp L e r:=by simp [grp]
theorem qh6 (L:Nat) (m:Mo) (h1:1<=L) (h4:L<=4):qgY L m=Mo.add (qgY (L - 1) m) (xp L (m.get L)):=by
 apply Mo.ext_get;intro k _ _;rw [qas,qcL,qcL,qat L k _ h1 h4]
 by_cases h:k=L
 ·subst h;rw [if_pos (Nat.le_refl _),if_neg (by omega),if_pos rfl];omega
 ·rw [if_neg h]
  by_cases h2:k<=L
  ·rw [if_pos h2,if_pos (by omega)];omega
  ·rw [if_neg h2,if_neg (by omega)];rfl
theorem qkt (L n:Nat) (l:List Tm) (h1:1<=L) (h4:L<=4) (hn : ∀ t ∈ l,0<=t.2.get L/\t.2.get L<n):Sim (poly L n (fun i=>qeA (L - 1) (grp L (i:Int) l))) (qeA L l):=by
 intro m
 induction l with
 | nil=>
  have : ∀ n,poly L n (fun i=>qeA (L - 1) (grp L (i:Int) [])) = []:=by
   intro n
   induction n with
   | zero=>rfl
   | succ n ih=>rw [qaf,ih];rfl
  rw [this];rfl
 | cons t l ih=>
  have hl : ∀ (l:List Tm) (i:Nat),i<n->Low (L - 1) (qeA (L - 1) (grp L (i:Int) l)):=fun l i _=>qoM _ _;have ih:=ih fun s hs=>hn s (List.mem_cons_of_mem _ hs);obtain ⟨h5,h6⟩:=hn t (List.mem_cons_self ..);show _=(if qgY L t.2=m then t.1 else 0)+qab (qeA L l) m;rw [<- ih]
  by_cases hm:0<=m.get L
  ·obtain ⟨e,he⟩ : ∃ e:Nat,m.get L=(e:Int):=⟨(m.get L).toNat,by omega⟩;rw [qbI L n _ h1 h4 (hl _) m e he,qbI L n _ h1 h4 (hl _) m e he]
   by_cases hen:e<n
   ·rw [if_pos hen,if_pos hen]
    by_cases hte:t.2.get L=(e:Int)
    ·rw [show grp L (e:Int) (t :: l)=t :: grp L (e:Int) l from List.filter_cons_of_pos (by simp [hte])];show (if qgY (L - 1) t.2=Mo.sub m (xp L (e:Int)) then t.1 else 0)+_=_
     congr 1
     have:(qgY (L - 1) t.2=Mo.sub m (xp L (e:Int)))↔qgY L t.2=m:=by
      rw [<- Mo.add_eq,qh6 L t.2 h1 h4,hte]
     by_cases hc:qgY L t.2=m
     ·rw [if_pos hc,if_pos (this.2 hc)]
     ·rw [if_neg hc,if_neg (fun h=>hc (this.1 h))]
    ·rw [show grp L (e:Int) (t :: l)=grp L (e:Int) l from List.filter_cons_of_neg (by simp [hte])];rw [if_neg,Int.zero_add];intro hc;apply hte;rw [<- he,<- hc,qcL,if_pos (Nat.le_refl _)]
   ·rw [if_neg hen,if_neg hen,if_neg,Int.zero_add];intro hc
    have:m.get L=t.2.get L:=by rw [<- hc,qcL,if_pos (Nat.le_refl _)]
    omega
  ·rw [qcN L n _ h1 h4 (hl _) m (by omega),qcN L n _ h1 h4 (hl _) m (by omega),if_neg,Int.zero_add];intro hc
   have:m.get L=t.2.get L:=by rw [<- hc,qcL,if_pos (Nat.le_refl _)]
   omega
theorem qss {x y:Mo} {L:Nat} (h1:1<=L) (h4:L<=4) (h:Mo.lt x y) (ha : ∀ k,L<k->k<=4->x.get k=y.get k):x.get L<=y.get L:=by
 have a2:=ha 2;have a3:=ha 3;have a4:=ha 4;unfold Mo.lt at h;rcases qcz h1 h4 with rfl | rfl | rfl | rfl <;> simp [Mo.get] at a2 a3 a4 ⊢ <;> omega
theorem qeh.sub {L:Nat} {l r:List Tm} (h:qeh L l) (hs : ∀ t ∈ r,t ∈ l):qeh L r:=fun s hs' t ht=>h s (hs s hs') t (hs t ht)
theorem qeh.next {L:Nat} {l:List Tm} (h:qeh L l) (he : ∀ s ∈ l,∀ t ∈ l,s.2.get L=t.2.get L):qeh (L - 1) l:=by
 intro s hs t ht k hk h4
 by_cases hkL:k=L
 ·subst hkL;exact he s hs t ht
 ·exact h s hs t ht k (by omega) h4
theorem qnb {L:Nat} {l:List Tm} (h1:1<=L) (h4:L<=4) (h : ∀ t ∈ l,t.2.get L=0):qeA (L - 1) l=qeA L l:=by
 unfold qeA;apply List.map_congr_left;intro t ht;rw [qh6 L t.2 h1 h4,h t ht]
 congr 1
 apply Mo.ext_get;intro k _ _;rw [qas,qat L k _ h1 h4]
 split <;> omega
end Go.Proofs.YtmcfpnmoklnhoaaGreat

namespace Go.Proofs.YtmcfpnmoklnhoaaGreat
open Go.RowKit

def qpN (M:Nat->Prop) (w:World) (c0 c1:Value) (r:qcF):Prop:=c0 = .bool r.neg/\qbr M w c1 r.n r.dg
theorem qpN.toV {M:Nat->Prop} {w:World} {c0 c1:Value} {r:qcF} (h:qpN M w c0 c1 r):qbq M w c0 c1 r.val:=⟨r.neg,_,h.1,⟨_,_,h.2,rfl⟩,rfl⟩
theorem qbw.raw {M:Nat->Prop} {w:World} {c0 c1:Value} {z:Int} (h:qbw M w c0 c1 z) : ∃ r:qcF,qpN M w c0 c1 r/\r.val=z/\r.can=true:=by
 obtain ⟨⟨n,d,hr,hv,hc⟩,h0⟩:=h;refine ⟨⟨decide (z<0),n,d⟩,⟨h0,hr⟩,?_,?_⟩
 ·show sgn (decide (z<0)) (nv d n)=z;rw [hv];unfold sgn
  by_cases hz:z<0
  ·simp [hz];omega
  ·simp [hz];omega
 ·unfold qcF.can;rcases Nat.eq_zero_or_pos n with h1 | h1
  ·subst h1
   have:z=0:=by simp [nv] at hv;omega
   subst this;simp
  ·have:d (n - 1)≠0:=by omega
   simp [h1,this]
theorem qpN.can_toC {M:Nat->Prop} {w:World} {c0 c1:Value} {r:qcF} (h:qpN M w c0 c1 r) (hc:r.can=true):qbw M w c0 c1 r.val:=by
 obtain ⟨h0,hr⟩:=h;refine ⟨⟨r.n,r.dg,hr,by unfold qcF.val;rw [qa4],?_⟩,?_⟩
 ·unfold qcF.can at hc;rcases Nat.eq_zero_or_pos r.n with h1 | h1
  ·exact .inl h1
  ·have hne : ¬ r.n=0:=by omega
   simp [hne] at hc;exact .inr hc.2
 ·rw [h0];unfold qcF.val;rw [qlC]
  congr 1
  cases hn:r.neg
  ·rfl
  ·have h1 : ¬ r.n=0:=fun e=>by unfold qcF.can at hc;simp [e,hn] at hc
   have hz:=qcF.can_zero hc hr.2.1
   have:0<nv r.dg r.n:=by
    rcases Nat.eq_zero_or_pos (nv r.dg r.n) with h2 | h2
    ·exact absurd (hz.1 (by unfold qcF.val sgn;rw [h2];split <;> rfl)) h1
    ·exact h2
   simp [this]
section
variable {M M':Nat->Prop} {w w':World} {c0 c1:Value} {r:qcF}
theorem qpN.kp (h:qpN M w c0 c1 r) (he:Kp M w w'):qpN M w' c0 c1 r:=⟨h.1,h.2.kp he⟩
theorem qpN.more (h:qpN M w c0 c1 r) (hm : ∀ g,M' g->M g∨w.heap.size<=g):qpN M' w c0 c1 r:=⟨h.1,h.2.more hm⟩
end
def RR (M:Nat->Prop) (w:World):(d:Nat)->RT d->Value->Value->Value->Value->Prop
 | 0,_,_,_,_,_=>False
 | d+1,t,c0,c1,c2,c3=>c0 = .int .i64 t.1/\(-9223372036854775808<=t.1/\t.1<=9223372036854775807)/\qpN M w c1 c2 t.2.1/\t.2.2.1<=1099511627776 /\
  (((∃ a p,c3 = .slice a 0 p/\p<=maxLen/\(a=none->p=0))/\t.2.2.1=0) ∨ ∃ b off cap,c3 = .slice (some ⟨b,off,none⟩) t.2.2.1 cap/\t.2.2.1<=cap/\cap<=maxLen/\(b<w.heap.size /\ ¬ M b) /\
   ∀ i,i<t.2.2.1 -> ∃ e0 e1 e2 e3,w.cell? ⟨b,off+i*4,none⟩=some e0/\w.cell? ⟨b,off+i*4+1,none⟩=some e1/\w.cell? ⟨b,off+i*4+2,none⟩=some e2/\w.cell? ⟨b,off+i*4+3,none⟩=some e3/\RR M w d (t.2.2.2 i) e0 e1 e2 e3)
theorem RR.kp {M:Nat->Prop} {w w':World} (he:Kp M w w') : ∀ {d:Nat} {t:RT d} {c0 c1 c2 c3:Value},RR M w d t c0 c1 c2 c3->RR M w' d t c0 c1 c2 c3
 | 0,_,_,_,_,_,h=>h
 | d+1,t,c0,c1,c2,c3,h=>by
  obtain ⟨h0,h1,h2,h3,h4⟩:=h;refine ⟨h0,h1,h2.kp he,h3,?_⟩;rcases h4 with h4 | ⟨b,off,cap,hv,hn,hc,hb,hk⟩
  ·exact .inl h4
  ·refine .inr ⟨b,off,cap,hv,hn,hc,⟨Nat.lt_of_lt_of_le hb.1 he.1,hb.2⟩,fun i hi=>?_⟩;obtain ⟨e0,e1,e2,e3,x0,x1,x2,x3,x4⟩:=hk i hi;exact ⟨e0,e1,e2,e3,by rw [he.cell hb.1 hb.2];exact x0,by rw [he.cell hb.1 hb.2];exact x1,by rw [he.cell hb.1 hb.2];exact x2,by rw [he.cell hb.1 hb.2];exact x3,RR.kp he x4⟩
theorem RR.more {M M':Nat->Prop} {w:World} (hm : ∀ g,M' g->M g∨w.heap.size<=g) : ∀ {d:Nat} {t:RT d} {c0 c1 c2 c3:Value},RR M w d t c0 c1 c2 c3->RR M' w d t c0 c1 c2 c3
 | 0,_,_,_,_,_,h=>h
 | d+1,t,c0,c1,c2,c3,h=>by
  obtain ⟨h0,h1,h2,h3,h4⟩:=h;refine ⟨h0,h1,h2.more hm,h3,?_⟩;rcases h4 with h4 | ⟨b,off,cap,hv,hn,hc,hb,hk⟩
  ·exact .inl h4
  ·refine .inr ⟨b,off,cap,hv,hn,hc,⟨hb.1,fun k=>(hm b k).elim hb.2 (by omega)⟩,fun i hi=>?_⟩;obtain ⟨e0,e1,e2,e3,x0,x1,x2,x3,x4⟩:=hk i hi;exact ⟨e0,e1,e2,e3,x0,x1,x2,x3,RR.more hm x4⟩
theorem RR.ext {M:Nat->Prop} {w w':World} {d:Nat} {t:RT d} {c0 c1 c2 c3:Value} (h:RR M w d t c0 c1 c2 c3) (he:Ext w w'):RR M w' d t c0 c1 c2 c3:=RR.kp (Kp.of_ext he) h
theorem RR.ok {M:Nat->Prop} {w:World} : ∀ {d:Nat} {t:RT d} {c0 c1 c2 c3:Value},RR M w d t c0 c1 c2 c3->okT d t
 | 0,_,_,_,_,_,h=>h.elim
 | d+1,t,c0,c1,c2,c3,h=>by
  obtain ⟨h0,h1,h2,h3,h4⟩:=h;refine ⟨h2.2.2.1,fun i hi=>?_⟩;rcases h4 with h4 | ⟨b,off,cap,hv,hn,hc,hb,hk⟩
  ·omega
  ·obtain ⟨e0,e1,e2,e3,x0,x1,x2,x3,x4⟩:=hk i hi;exact RR.ok x4
theorem RR.form {M:Nat->Prop} {w:World} {d:Nat} {t:RT (d+1)} {c0 c1 c2 c3:Value} (h:RR M w (d+1) t c0 c1 c2 c3):c0 = .int .i64 t.1/\c1 = .bool t.2.1.neg/\(∃ a p,c2 = .slice a t.2.1.n p) /\ ∃ ka kp,c3 = .slice ka t.2.2.1 kp:=by
 obtain ⟨h0,h1,h2,h3,h4⟩:=h;refine ⟨h0,h2.1,qap h2.2,?_⟩;rcases h4 with ⟨⟨_,_,rfl,_⟩,h4⟩ | ⟨b,off,cap,rfl,_⟩
 ·rw [h4];exact ⟨_,_,rfl⟩
 ·exact ⟨_,_,rfl⟩
theorem RR.kids {M : Nat -> Prop} {w : World} {d : Nat} {t : RT (d + 1)} {c0 c1 c2 : Value} {ka : Option Addr} {kp : Nat} (h : RR M w (d + 1) t c0 c1 c2 (.slice ka t.2.2.1 kp)) (i : Nat) (hi : i < t.2.2.1) :
  ∃ b off,ka=some ⟨b,off,none⟩/\t.2.2.1<=kp/\kp<=maxLen/\b<w.heap.size /\ ∃ e0 e1 e2 e3,w.cell? ⟨b,off+i*4,none⟩=some e0/\w.cell? ⟨b,off+i*4+1,none⟩=some e1/\w.cell? ⟨b,off+i*4+2,none⟩=some e2/\w.cell? ⟨b,off+i*4+3,none⟩=some e3/\RR M w d (t.2.2.2 i) e0 e1 e2 e3:=by
 obtain ⟨h0,h1,h2,h3,h4⟩:=h;rcases h4 with ⟨_,h4⟩ | ⟨b,off,cap,hv,hn,hc,hb,hk⟩
 ·omega
 ·simp only [Value.slice.injEq,true_and] at hv;obtain ⟨rfl,rfl⟩:=hv;exact ⟨b,off,rfl,hn,hc,hb.1,hk i hi⟩

theorem qoU (n:Nat):(((n:Nat):Int) == 0)=(n == 0):=by
 rw [Bool.eq_iff_iff,beq_iff_eq,beq_iff_eq];omega
def qay (l:Int):Bool:=decide (1<=l/\l<=4)
def qfp (l:Int) (n:Nat):Bool:=decide (l=0) && n == 0
theorem qd6 (l:Int) (w:World):Calls Tryz.prog 56 #[.int .i64 l] w fun e w'=>e = .returned (.bool (qay l))/\w=w':=by
 by_cases h1:1<=l
 ·by_cases h2:l<=4
  ·have H:Hid (qay l=true):=by show _=_;unfold qay;simp [h1,h2]
   go_enter Tryz.func56,Tryz.ntmps56
   go_wp2;go_ret;exact ⟨by rw [H.out];rfl,rfl⟩
  ·have H:Hid (qay l=false):=by show _=_;unfold qay;simp [h2]
   go_enter Tryz.func56,Tryz.ntmps56
   go_wp2;go_ret;exact ⟨by rw [H.out];rfl,rfl⟩
 ·have H:Hid (qay l=false):=by show _=_;unfold qay;simp [h1]
  go_enter Tryz.func56,Tryz.ntmps56
  go_wp2;go_ret;exact ⟨by rw [H.out];rfl,rfl⟩
theorem qbU (l:Int) (b:Bool) (a:Option Addr) (n p:Nat) (ka:Option Addr) (kn kp:Nat) (w:World):Calls Tryz.prog 119 #[.agg #[.int .i64 l,.bool b,.slice a n p,.slice ka kn kp]] w fun e w'=>e = .returned (.bool (qfp l n))/\Ext w w':=by
 by_cases h1:l=0
 ·have t0:(l == 0)=true:=by simp [h1]
  have H:Hid (qfp l n=(n == 0)):=by
   show _=_;unfold qfp;rw [decide_eq_true h1,Bool.true_and]
  clear h1
  go_enter Tryz.func119,Tryz.ntmps119
  go_wp2;go_ret;exact ⟨by rw [H.out,<- qoU];rfl,(Ext.refl w).alloc _⟩
 ·have t0:(l == 0)=false:=by simp [h1]
  have H:Hid (qfp l n=false):=by show _=_;unfold qfp;simp [h1]
  clear h1
  go_enter Tryz.func119,Tryz.ntmps119
  go_wp2;go_ret;exact ⟨by rw [H.out];rfl,(Ext.refl w).alloc _⟩

theorem qeL (d : Nat) (t : RT (d + 1)) : qaM (d + 1) t = if t.1 = 0 then (t.2.2.1 == 0) && t.2.1.can
  else decide (1<=t.1/\t.1<=4) && (t.2.1.blank && (decide (2<=t.2.2.1) && ((List.range t.2.2.1).all (fun i=>decide (lev d (t.2.2.2 i)<t.1) && qaM d (t.2.2.2 i)) && !(isZ d (t.2.2.2 (t.2.2.1 - 1)))))):=rfl
def qpO (d:Nat):Prop:=∀ (M:Nat->Prop) (t:RT d) (c0 c1 c2 c3:Value) (w:World),RR M w d t c0 c1 c2 c3 ->
 Calls Tryz.prog 128 #[.agg #[c0,c1,c2,c3]] w fun e w'=>e = .returned (.bool (qaM d t))/\Ext w w'
theorem qiG (d : Nat) (M : Nat -> Prop) (t : RT (d + 1)) (c0 c1 c2 c3 : Value) (w : World) (h : RR M w (d + 1) t c0 c1 c2 c3) (hl : t.1 = 0) :
  Calls Tryz.prog 128 #[.agg #[c0,c1,c2,c3]] w fun e w'=>e = .returned (.bool (qaM (d+1) t))/\Ext w w':=by
 obtain ⟨rfl,rfl,⟨a,p,rfl⟩,ka,kp,rfl⟩:=h.form;have hI:qpN M w (.bool t.2.1.neg) (.slice a t.2.1.n p) t.2.1:=h.2.2.1;have hE:=qeL d t;rw [if_pos hl] at hE;have HE:=Lib.hid hE;have hnL:=h.2.2.2.1;have haL:=hI.2.1;have HN:=Lib.hid hI.2;clear hE h hI;generalize qaM (d+1) t=R at *;obtain ⟨L,⟨neg,an,dg⟩,n,kid⟩:=t;simp only at *;subst hl
 by_cases hn:n=0
 ·subst hn
  by_cases ha:an=0
  ·subst ha
   have HR:Hid (R = !neg):=by show _=_;rw [HE.out];simp [qcF.can]
   clear HE;cases neg
   ·go_enter Tryz.func128,Tryz.ntmps128
    go_wp2;go_ret;exact ⟨by rw [HR.out];rfl,(Ext.refl w).alloc _⟩
   ·go_enter Tryz.func128,Tryz.ntmps128
    go_wp2;go_ret;exact ⟨by rw [HR.out];rfl,(Ext.refl w).alloc _⟩
  ·have HR:Hid (R=(dg (an - 1) != 0)):=by show _=_;rw [HE.out];simp [qcF.can,ha,show 0<an from by omega]
   clear HE;obtain ⟨b,off,rfl,hb,hcell⟩:=qaz HN.out (by omega);obtain ⟨k,rfl⟩ : ∃ k,an=k+1:=⟨an - 1,by omega⟩
   have x0:(w.alloc (.cells #[.int .i64 0,.bool neg,.slice (some ⟨b,off,none⟩) (k+1) p,.slice ka 0 kp] 33)).cell? ⟨b,off+k,none⟩=some (.int .u32 (dg k)):=by rw [((Ext.refl w).alloc _).cell hb];exact hcell k (by omega)
   have HR2:Hid (R=(dg k != 0)):=HR;clear HR hcell
   by_cases hd:dg k=0
   ·have t0:(((dg k:Nat):Int) != 0)=false:=by simp [hd]
    have HR3:Hid (R=false):=by show _=_;rw [HR2.out];simp [hd]
    clear hd HR2;cases neg
    ·go_enter Tryz.func128,Tryz.ntmps128
     go_wp2;go_ret;exact ⟨by rw [HR3.out];rfl,(Ext.refl w).alloc _⟩
    ·go_enter Tryz.func128,Tryz.ntmps128
     go_wp2;go_ret;exact ⟨by rw [HR3.out];rfl,(Ext.refl w).alloc _⟩
   ·have t0:(((dg k:Nat):Int) != 0)=true:=by simp [hd]
    have HR3:Hid (R=true):=by show _=_;rw [HR2.out];simp [hd]
    clear hd HR2;cases neg
    ·go_enter Tryz.func128,Tryz.ntmps128
     go_wp2;go_ret;exact ⟨by rw [HR3.out];rfl,(Ext.refl w).alloc _⟩
    ·go_enter Tryz.func128,Tryz.ntmps128
     go_wp2;go_ret;exact ⟨by rw [HR3.out];rfl,(Ext.refl w).alloc _⟩
 ·have HR:Hid (R=false):=by show _=_;rw [HE.out];simp [hn]
  have hn':0<n:=by omega
  clear HE hn
  go_enter Tryz.func128,Tryz.ntmps128
  go_wp2;go_ret;exact ⟨by rw [HR.out];rfl,(Ext.refl w).alloc _⟩


theorem qsv (d:Nat) (t:RT (d+1)):isZ (d+1) t=qfp t.1 t.2.1.n:=rfl
theorem qkE (d : Nat) (ih : qpO d) (M : Nat -> Prop) (t : RT (d + 1)) (c0 c1 c2 c3 : Value) (w : World) (h : RR M w (d + 1) t c0 c1 c2 c3) (hl : t.1 ≠ 0) :
  Calls Tryz.prog 128 #[.agg #[c0,c1,c2,c3]] w fun e w'=>e = .returned (.bool (qaM (d+1) t))/\Ext w w':=by
 obtain ⟨rfl,rfl,⟨a,p,rfl⟩,ka,kp,rfl⟩:=h.form;have hE:=qeL d t;rw [if_neg hl] at hE;have HE:=Lib.hid hE;have hnL:=h.2.2.2.1;have haL:t.2.1.n<=1099511627776:=h.2.2.1.2.1;have hlev:=h.2.1;have HK:Hid (∀ i,i<t.2.2.1 -> ∃ b off,ka=some ⟨b,off,none⟩/\t.2.2.1<=kp/\kp<=maxLen/\b<w.heap.size /\ ∃ e0 e1 e2 e3,w.cell? ⟨b,off+i*4,none⟩=some e0/\w.cell? ⟨b,off+i*4+1,none⟩=some e1/\w.cell? ⟨b,off+i*4+2,none⟩=some e2/\w.cell? ⟨b,off+i*4+3,none⟩=some e3/\RR M w d (t.2.2.2 i) e0 e1 e2 e3):=fun i hi=>h.kids i hi;clear hE h;generalize qaM (d+1) t=R at *;obtain ⟨L,⟨neg,an,dg⟩,n,kid⟩:=t;simp only at *
 have l0:(L == 0)=false:=by simp [hl]
 have ctr:=qd6 L;clear hl;have HE0:Hid (Ext w (w.alloc (.cells #[.int .i64 L,.bool neg,.slice a an p,.slice ka n kp] 33))):=(Ext.refl w).alloc _
 by_cases hL:1<=L/\L<=4
 ·have hlb:qay L=true:=by unfold qay;simp [hL]
  rw [hlb] at ctr;have CTR:=Lib.hid ctr;clear hlb ctr;obtain ⟨hL1,hL4⟩:=hL
  by_cases ha:0<an
  ·have HR:Hid (R=false):=by show _=_;rw [HE.out];simp [qcF.blank,show ¬ an=0 from by omega]
   clear HE;cases neg
   all_goals
    go_enter Tryz.func128,Tryz.ntmps128
    go_wp2_with (fail);refine (CTR.out _).mono ?_;rintro e w1 ⟨rfl,rfl⟩;go_wp2;go_ret;exact ⟨by rw [HR.out];rfl,HE0.out⟩
  ·have ha0:an=0:=by omega
   subst ha0;clear ha;cases neg
   ·by_cases hn:n<2
    ·have HR:Hid (R=false):=by show _=_;rw [HE.out];simp [show ¬ 2<=n from by omega]
     clear HE
     go_enter Tryz.func128,Tryz.ntmps128
     go_wp2_with (fail);refine (CTR.out _).mono ?_;rintro e w1 ⟨rfl,rfl⟩;go_wp2;go_ret;exact ⟨by rw [HR.out];rfl,HE0.out⟩
    ·have HR : Hid (R = ((List.range n).all (fun i => decide (lev d (kid i) < L) && qaM d (kid i)) && !(isZ d (kid (n - 1))))) := by
      show _=_;rw [HE.out];simp [qcF.blank,show 2<=n from by omega,hL1,hL4]
     clear HE
     cases d with
     | zero=>
      obtain ⟨b,off,_,_,_,_,e0,e1,e2,e3,_,_,_,_,hf⟩:=HK.out 0 (by omega);exact hf.elim
     | succ d=>
     go_enter Tryz.func128,Tryz.ntmps128
     go_wp2_with (fail);refine (CTR.out _).mono ?_;rintro e w1 ⟨rfl,rfl⟩;go_wp2
     go_loopw [63] (fun i wr=>∃ k:Nat,k<=n/\i = .int .i64 k/\Hid (∀ j,j<k->(decide (lev (d+1) (kid j)<L) && qaM (d+1) (kid j))=true)/\Hid (Ext (w.alloc (.cells #[.int .i64 L,.bool false,.slice a 0 p,.slice ka n kp] 33)) wr)) (fun i _=>n - (intOf i).toNat)
     case atStart=>exact ⟨0,Nat.zero_le _,rfl,fun j hj=>by omega,Ext.refl _⟩
     case round=>
      obtain ⟨k,hk,rfl,HQ,HER⟩:=hrel;have her:=HE0.out.trans HER.out;obtain ⟨hcc,hff⟩:=qhc HER.out;have hsz:=HER.out.size;simp only [World.size_alloc] at hsz
      have hws:w.heap.size<wr.heap.size:=by omega
      have B0:wr.cell? ⟨w.heap.size,0,none⟩=some (.int .i64 L):=by rw [hcc _ _ (by simp)];simp [go_sem]
      have B3:wr.cell? ⟨w.heap.size,3,none⟩=some (.slice ka n kp):=by rw [hcc _ _ (by simp)];simp [go_sem]
      clear hcc hff
      by_cases hlt:k<n
      ·obtain ⟨b,off,rfl,hnk,hkm,hb,e0,e1,e2,e3,x0,x1,x2,x3,hRR⟩:=HK.out k hlt;rw [<- her.cell hb] at x0 x1 x2 x3
       have hbw:b<wr.heap.size:=by omega
       obtain ⟨rfl,rfl,⟨a2,p2,rfl⟩,ka2,kp2,rfl⟩:=hRR.form;have HRR:=Lib.hid hRR;clear hRR
       by_cases hlv:L<=(kid k).1
       ·have HR3 : Hid (R = false) := by
         show _=_;rw [HR.out]
         have:(List.range n).all (fun i=>decide (lev (d+1) (kid i)<L) && qaM (d+1) (kid i))=false:=by
          rw [List.all_eq_false];refine ⟨k,List.mem_range.2 hlt,?_⟩
          have : ¬ lev (d+1) (kid k)<L:=by show ¬ (kid k).1<L;omega
          simp [this]
         rw [this];rfl
        go_wp2;go_ret;exact ⟨by rw [HR3.out];rfl,her.alloc _⟩
       ·have hEa:Ext wr (wr.alloc (.cells #[.int .i64 (kid k).1,.bool (kid k).2.1.neg,.slice a2 (kid k).2.1.n p2,.slice ka2 (kid k).2.2.1 kp2] 33)):=(Ext.refl wr).alloc _;have ictr:=ih M (kid k) _ _ _ _ _ (HRR.out.ext (her.trans hEa));have ICTR:=Lib.hid ictr;clear ictr;cases hcb:qaM (d+1) (kid k)
        ·rw [hcb] at ICTR
         have HR3:Hid (R=false):=by
          show _=_;rw [HR.out]
          have:(List.range n).all (fun i=>decide (lev (d+1) (kid i)<L) && qaM (d+1) (kid i))=false:=by
           rw [List.all_eq_false];exact ⟨k,List.mem_range.2 hlt,by simp [hcb]⟩
          rw [this];rfl
         clear hcb;go_wp2_with (fail);refine ICTR.out.mono ?_;rintro e w1 ⟨rfl,he1⟩;go_wp2;go_ret;exact ⟨by rw [HR3.out];rfl,(her.trans hEa).trans he1⟩
        ·rw [hcb] at ICTR;have HCB:=Lib.hid hcb;clear hcb;go_wp2_with (fail);refine ICTR.out.mono ?_;rintro e w1 ⟨rfl,he1⟩;go_wp2
         go_roundw
         case rel => exact ⟨k + 1, by omega, by go_num, fun j hj => by
                by_cases hjk:j=k
                ·subst hjk
                 have:lev (d+1) (kid j)<L:=by show (kid j).1<L;omega
                 simp [this,HCB.out]
                ·exact HQ.out j (by omega),(HER.out.trans hEa).trans he1⟩
         case measure=>simp [intOf];omega
      ·have hkn:k=n:=by omega
       subst hkn;obtain ⟨b,off,rfl,hnk,hkm,hb,e0,e1,e2,e3,x0,x1,x2,x3,hRR⟩:=HK.out (k - 1) (by omega);obtain ⟨q,rfl⟩ : ∃ q,k=q+1:=⟨k - 1,by omega⟩;simp only [Nat.add_sub_cancel] at x0 x1 x2 x3 hRR;rw [<- her.cell hb] at x0 x1 x2 x3
       have hbw:b<wr.heap.size:=by omega
       obtain ⟨rfl,rfl,⟨a2,p2,rfl⟩,ka2,kp2,rfl⟩:=hRR.form
       have HR3:Hid (R = !(qfp (kid q).1 (kid q).2.1.n)):=by
        show _=_;rw [HR.out]
        have:(List.range (q+1)).all (fun i=>decide (lev (d+1) (kid i)<L) && qaM (d+1) (kid i))=true:=by
         rw [List.all_eq_true];intro i hi;exact HQ.out i (List.mem_range.1 hi)
        rw [this,Bool.true_and,Nat.add_sub_cancel,qsv]
       clear hRR HQ HR;go_wp2_with (fail);refine (qbU _ _ _ _ _ _ _ _ _).mono ?_;rintro e w1 ⟨rfl,he1⟩;go_wp2;go_ret;exact ⟨by rw [HR3.out];rfl,her.trans he1⟩
   ·have HR:Hid (R=false):=by show _=_;rw [HE.out];simp [qcF.blank]
    clear HE
    go_enter Tryz.func128,Tryz.ntmps128
    go_wp2_with (fail);refine (CTR.out _).mono ?_;rintro e w1 ⟨rfl,rfl⟩;go_wp2;go_ret;exact ⟨by rw [HR.out];rfl,HE0.out⟩
 ·have hlb:qay L=false:=by unfold qay;simp only [decide_eq_false_iff_not];exact hL
  rw [hlb] at ctr
  have HR:Hid (R=false):=by show _=_;rw [HE.out,decide_eq_false hL];rfl
  have CTR:=Lib.hid ctr;clear hlb ctr hL HE
  go_enter Tryz.func128,Tryz.ntmps128
  go_wp2_with (fail);refine (CTR.out _).mono ?_;rintro e w1 ⟨rfl,rfl⟩;go_wp2;go_ret;exact ⟨by rw [HR.out];rfl,HE0.out⟩
theorem qdm : ∀ d,qpO d
 | 0=>fun _ _ _ _ _ _ _ h=>h.elim
 | d+1=>fun M t c0 c1 c2 c3 w h=>by
  by_cases hl:t.1=0
  ·exact qiG d M t c0 c1 c2 c3 w h hl
  ·exact qkE d (qdm d) M t c0 c1 c2 c3 w h hl


def Mf (M:Nat->Prop) (base:Nat):Nat->Prop:=fun b=>M b∨base<=b
def qiZ (M:Nat->Prop) (base:Nat) (w:World) (v:Value) (n:Nat) (z:Nat->Int) (x:Nat->TE):Prop:=
 Own w base 129 6 v n (tx x) /\ ∀ i,i<n->qbq (Mf M base) w (.bool (x i).b) (.slice (x i).a (x i).n (x i).p) (z i)
def moF (m:Mo):Nat->Value:=fun i=>.int .i64 (m.get (i+1))
theorem qqy (m:Mo) (j:Nat) (hj:j<4) (a b:Int) (i:Nat) (hi:i<4):upd (moF (Mo.add m (xp (j+1) a))) j (.int .i64 (m.get (j+1)+b)) i=moF (Mo.add m (xp (j+1) b)) i:=by
 unfold upd moF;rw [qas,qas,qat _ _ _ (by omega) (by omega),qat _ _ _ (by omega) (by omega)]
 by_cases h:i=j
 ·subst h;simp
 ·rw [if_neg h,if_neg (by omega),if_neg (by omega)]
theorem qqz {w:World} {g:Nat} {t:TypeId} {m:Mo} (h:Blk w g t 4 (moF m)):w.cell? ⟨g,0,none⟩=some (.int .i64 m.a)/\w.cell? ⟨g,1,none⟩=some (.int .i64 m.b)/\w.cell? ⟨g,2,none⟩=some (.int .i64 m.c)/\w.cell? ⟨g,3,none⟩=some (.int .i64 m.d):=
 ⟨h.cell (by omega),h.cell (by omega),h.cell (by omega),h.cell (by omega)⟩
theorem qqA (m:Mo) (i:Nat) (hi:i<4):arr #[.int .i64 m.a,.int .i64 m.b,.int .i64 m.c,.int .i64 m.d] i=moF m i:=by
 match i,hi with
 | 0,_=>rfl
 | 1,_=>rfl
 | 2,_=>rfl
 | 3,_=>rfl
def qrD (d:Nat) (m:Mo):Prop:=∀ k,-(4611686018427387904 - (d:Int)*1099511627776)<=m.get k/\m.get k<=4611686018427387904 - (d:Int)*1099511627776
def qd1 (M:Nat->Prop) (base:Nat) (w:World) (v:Value) (l:List Tm) (e:Ending) (w':World):Prop:=
 ∃ v' n' z' x',e = .returned v'/\qiZ M base w' v' n' z' x'/\xls n' z' x'=l/\w.grownBy w' v.ownBlock/\(∀ b,v'.ownBlock=some b->v.ownBlock=some b∨w.heap.size<=b)
def qnA (d:Nat):Prop:=∀ (M:Nat->Prop) (base:Nat) (t:RT d) (c0 c1 c2 c3 v:Value) (n:Nat) (z:Nat->Int) (x:Nat->TE) (m:Mo) (w:World),base<=w.heap.size->RR (Mf M base) w d t c0 c1 c2 c3->qiZ M base w v n z x ->
 n+(qaj d t).length<=1099511627776->qrD d m->Calls Tryz.prog 129 #[v,.agg #[c0,c1,c2,c3],moV m] w (qd1 M base w v (xls n z x ++ shift m (qaj d t)))
theorem qpR (n:Nat) (z:Nat->Int) (x:Nat->TE) (c:Int) (t:TE):xls (n+1) (fun j=>if j=n then c else z j) (fun j=>if j=n then t else x j)=xls n z x ++ [(c,t.m)]:=by
 rw [qf8]
 congr 1
 ·unfold xls;apply List.map_congr_left;intro i hi
  have:i≠n:=by simp at hi;omega
  simp [this]
 ·simp
theorem qiZ.kp {M:Nat->Prop} {base:Nat} {w w':World} {v:Value} {n:Nat} {z:Nat->Int} {x:Nat->TE} (h:qiZ M base w v n z x) (he : ∀ g,v.ownBlock=some g->w'.heap[g]? = w.heap[g]?) (hk:Kp (Mf M base) w w'):qiZ M base w' v n z x:=
 ⟨h.1.of_heap he,fun i hi=>(h.2 i hi).kp hk⟩
theorem qiZ.ext {M:Nat->Prop} {base:Nat} {w w':World} {v:Value} {n:Nat} {z:Nat->Int} {x:Nat->TE} (h:qiZ M base w v n z x) (he:Ext w w'):qiZ M base w' v n z x:=⟨h.1.ext he,fun i hi=>(h.2 i hi).ext he⟩
theorem qdT {M:Nat->Prop} {base:Nat} {w w':World} {r:Option Nat} (hg:w.grownBy w' r) (hr : ∀ k,r=some k->base<=k):Kp (Mf M base) w w':=Kp.grown hg fun k hk=>.inr (hr k hk)
theorem qiI {w w1 w2:World} {r:Option Nat} (h:Ext w w1) (hg:w1.grownBy w2 r):w.grownBy w2 r:=qbF (h.grownBy r) hg
theorem qet (d : Nat) (M : Nat -> Prop) (base : Nat) (t : RT (d + 1)) (c0 c1 c2 c3 v : Value) (n : Nat) (z : Nat -> Int) (x : Nat -> TE) (m : Mo) (w : World) (hbase : base <= w.heap.size) (h : RR (Mf M base) w (d + 1) t c0 c1 c2 c3) (hR : qiZ M base w v n z x)
  (hL:n+(qaj (d+1) t).length<=1099511627776) (hl:t.1<=0∨4<t.1) :
  Calls Tryz.prog 129 #[v,.agg #[c0,c1,c2,c3],moV m] w (qd1 M base w v (xls n z x ++ shift m (qaj (d+1) t))):=by
 obtain ⟨i0,hi,hz0,hz1,hz2⟩:=info_parts Tryz.info129;obtain ⟨rfl,rfl,⟨a,p,rfl⟩,ka,kp,rfl⟩:=h.form;obtain ⟨va,vc,rfl⟩:=hR.1.form;have hlev:=h.2.1;have hE:Ext w ((w.alloc (.cells #[.int .i64 t.1,.bool t.2.1.neg,.slice a t.2.1.n p,.slice ka t.2.2.1 kp] 33)).alloc (.cells #[.int .i64 m.a,.int .i64 m.b,.int .i64 m.c,.int .i64 m.d] 127)):=((Ext.refl w).alloc _).alloc _;rcases hl with hl | hl
 ·have HT:Hid (qaj (d+1) t = [(t.2.1.val,Mo.zero)]):=qaE hl
  have hlen:n+1<=1099511627776:=by rw [HT.out] at hL;simpa using hL
  have HI:Hid (qbq (Mf M base) w (.bool t.2.1.neg) (.slice a t.2.1.n p) t.2.1.val):=h.2.2.1.toV;clear hL h;generalize qaj (d+1) t=T at *;obtain ⟨L,r,kn,kid⟩:=t;simp only at *;have hO:=hR.1.ext hE;have hs0:=hE.size;have hO5:=hO.ext ((Ext.refl _).alloc (.cells #[.bool r.neg,.slice a r.n p,.int .i64 m.a,.int .i64 m.b,.int .i64 m.c,.int .i64 m.d] 129));have hB5:=Blk.of_arr ((w.alloc (.cells #[.int .i64 L,.bool r.neg,.slice a r.n p,.slice ka kn kp] 33)).alloc (.cells #[.int .i64 m.a,.int .i64 m.b,.int .i64 m.c,.int .i64 m.d] 127)) #[.bool r.neg,.slice a r.n p,.int .i64 m.a,.int .i64 m.b,.int .i64 m.c,.int .i64 m.d] 129 6 rfl;simp only [World.size_alloc] at hB5;have HONE:Hid (∀ j,j<6->(arr #[.bool r.neg,.slice a r.n p,.int .i64 m.a,.int .i64 m.b,.int .i64 m.c,.int .i64 m.d] j).oneCell'=true):=qpn ⟨r.neg,a,r.n,p,m⟩;have HR:=Lib.hid hR;clear hR
  go_enter Tryz.func129,Tryz.ntmps129
  go_wp2_with (at_builtin;refine qa3 _ rfl (.tmp 14) (.tmp 19) _ rfl base 129 i0 _ 6 64 Tryz.underlying71 hi hz0 hz1 hz2 rfl (by omega) (.slice va n vc) n (tx x) rfl hO5 (w.heap.size+1+1) 129 1 (arr #[.bool r.neg,.slice a r.n p,.int .i64 m.a,.int .i64 m.b,.int .i64 m.c,.int .i64 m.d]) rfl hB5 HONE.out ?s1 ?s2 ?s3 ?_)
  case s1=>unfold maxLen;omega
  case s2=>omega
  case s3=>simp;omega
  intro gg cap2 w2 hO6 hg6 hat hlt6;have hE2:=hE.alloc (.cells #[.bool r.neg,.slice a r.n p,.int .i64 m.a,.int .i64 m.b,.int .i64 m.c,.int .i64 m.d] 129);have hgw:=qiI hE2 hg6;have hkp:=qdT (M:=M) (base:=base) hgw (fun q hq=>(HR.out.1.lt q hq).1)
  have hfin:qd1 M base w (.slice va n vc) (xls n z x ++ shift m T) (.returned (.slice (some ⟨gg,0,none⟩) (n+1) cap2)) w2:=by
   refine ⟨_,n+1,fun j=>if j=n then r.val else z j,fun j=>if j=n then ⟨r.neg,a,r.n,p,m⟩ else x j,rfl,⟨hO6.congr (fun j hj=>qo7 x n ⟨r.neg,a,r.n,p,m⟩ j hj),fun i hi=>?_⟩,?_,hgw,fun b hb=>?_⟩
   ·by_cases hin:i=n
    ·simp only [if_pos hin];exact HI.out.kp hkp
    ·simp only [if_neg hin];exact (HR.out.2 i (by omega)).kp hkp
   ·rw [qpR,HT.out];simp [shift,Mo.zero_add']
   ·simp only [Value.ownBlock,Option.some.injEq] at hb;subst hb;rcases hat with h | h
    ·exact .inl h
    ·exact .inr (by omega)
  have HFIN:=Lib.hid hfin;clear hfin hO6 hg6 hat hgw hkp hO5 hB5;go_wp2;go_ret;exact HFIN.out
 ·have HT:Hid (qaj (d+1) t = []):=by show _=_;unfold qaj;rw [if_neg (by omega),if_pos hl]
  clear hL h;generalize qaj (d+1) t=T at *;obtain ⟨L,r,kn,kid⟩:=t;simp only at *
  go_enter Tryz.func129,Tryz.ntmps129
  go_wp2;go_ret;exact ⟨_,n,z,x,rfl,hR.ext hE,by rw [HT.out];simp [shift],hE.grownBy _,fun b hb=>.inl hb⟩
theorem qe9 (m:Mo) (L k:Nat) (P:Nat->List Tm):shift m (poly L (k+1) P)=shift m (poly L k P) ++ shift (Mo.add m (xp L (k:Int))) (P k):=by
 rw [qaf,qch,qdr,Mo.add_comm' m]
theorem qix (L n k:Nat) (P:Nat->List Tm) (h:k<=n):(poly L k P).length<=(poly L n P).length:=by
 induction n with
 | zero => have : k = 0 := by omega
           subst this;exact Nat.le_refl _
 | succ n ih=>
  by_cases hk:k=n+1
  ·subst hk;exact Nat.le_refl _
  ·have:=ih (by omega);rw [qaf,List.length_append];omega
theorem qrD.kid {d:Nat} {m:Mo} (h:qrD (d+1) m) (L k:Nat) (h1:1<=L) (h4:L<=4) (hk:k<=1099511627776):qrD d (Mo.add m (xp L (k:Int))):=by
 intro j;have:=h j;rw [qas,qat L j _ h1 h4]
 have e:((d+1:Nat):Int)*1099511627776=(d:Int)*1099511627776+1099511627776:=by omega
 split <;> omega
theorem qh7 (d : Nat) (ih : qnA d) (M : Nat -> Prop) (base : Nat) (t : RT (d + 1)) (c0 c1 c2 c3 v : Value) (n : Nat) (z : Nat -> Int) (x : Nat -> TE) (m : Mo) (w : World) (hbase : base <= w.heap.size) (h : RR (Mf M base) w (d + 1) t c0 c1 c2 c3) (hR : qiZ M base w v n z x)
  (hL:n+(qaj (d+1) t).length<=1099511627776) (hroom:qrD (d+1) m) (hl:1<=t.1/\t.1<=4) :
  Calls Tryz.prog 129 #[v,.agg #[c0,c1,c2,c3],moV m] w (qd1 M base w v (xls n z x ++ shift m (qaj (d+1) t))):=by
 obtain ⟨rfl,rfl,⟨a,p,rfl⟩,ka,kp,rfl⟩:=h.form;obtain ⟨va,vc,rfl⟩:=hR.1.form;have hnL:=h.2.2.2.1;have HK:Hid (∀ i,i<t.2.2.1 -> ∃ b off,ka=some ⟨b,off,none⟩/\t.2.2.1<=kp/\kp<=maxLen/\b<w.heap.size /\ ∃ e0 e1 e2 e3,w.cell? ⟨b,off+i*4,none⟩=some e0/\w.cell? ⟨b,off+i*4+1,none⟩=some e1/\w.cell? ⟨b,off+i*4+2,none⟩=some e2/\w.cell? ⟨b,off+i*4+3,none⟩=some e3/\RR (Mf M base) w d (t.2.2.2 i) e0 e1 e2 e3):=fun i hi=>h.kids i hi
 have HKb:Hid (∀ b off,ka=some ⟨b,off,none⟩->0<t.2.2.1->b<base):=by
  intro b off hka h0;obtain ⟨_,_,_,_,h4⟩:=h;rcases h4 with ⟨_,h4⟩ | ⟨b',off',cap,hv,hn,hc,hb,hk⟩
  ·omega
  ·simp only [Value.slice.injEq] at hv;rw [hv.1] at hka;simp only [Option.some.injEq,Addr.mk.injEq] at hka;obtain ⟨rfl,rfl,_⟩:=hka;rcases Nat.lt_or_ge b' base with hlt | hge
   ·exact hlt
   ·exact absurd (.inr hge) hb.2
 have HT:Hid (qaj (d+1) t=poly t.1.toNat t.2.2.1 (fun i=>qaj d (t.2.2.2 i))):=qaO hl.1 hl.2
 have HLEN:Hid (n+(poly t.1.toNat t.2.2.1 (fun i=>qaj d (t.2.2.2 i))).length<=1099511627776):=by show _<=_;rw [<- HT.out];exact hL
 have HROOM:=Lib.hid hroom;clear hL h hroom;generalize qaj (d+1) t=T at *;obtain ⟨L,r,kn,kid⟩:=t;simp only at *;obtain ⟨j,hj⟩ : ∃ j:Nat,L=(j:Int)+1:=⟨(L - 1).toNat,by omega⟩;subst hj
 have hj4:j<4:=by omega
 have HTJ:Hid (((j:Int)+1).toNat=j+1):=by show _=_;omega
 have hE:Ext w ((w.alloc (.cells #[.int .i64 ((j:Int)+1),.bool r.neg,.slice a r.n p,.slice ka kn kp] 33)).alloc (.cells #[.int .i64 m.a,.int .i64 m.b,.int .i64 m.c,.int .i64 m.d] 127)):=((Ext.refl w).alloc _).alloc _;have hBm0:=(Blk.of_arr (w.alloc (.cells #[.int .i64 ((j:Int)+1),.bool r.neg,.slice a r.n p,.slice ka kn kp] 33)) #[.int .i64 m.a,.int .i64 m.b,.int .i64 m.c,.int .i64 m.d] 127 4 rfl).congr (f':=moF m) (fun i hi=>qqA m i hi);simp only [World.size_alloc] at hBm0;have hBp0:=(Blk.of_arr w #[.int .i64 ((j:Int)+1),.bool r.neg,.slice a r.n p,.slice ka kn kp] 33 4 rfl).alloc (.cells #[.int .i64 m.a,.int .i64 m.b,.int .i64 m.c,.int .i64 m.d] 127);have st0:=hBm0.cell (i:=j) (by omega);simp only [moF] at st0;have lj0:(0:Int)<=(j:Int):=Int.natCast_nonneg _
 have lj1:(j:Int)<4:=by omega
 have hr1:=HROOM.out (j+1)
 have hr2:((d+1:Nat):Int)*1099511627776=(d:Int)*1099511627776+1099511627776:=by omega
 have hr3:(0:Int)<=(d:Int)*1099511627776:=by omega
 have hr4 : -4611686018427387904<=m.get (j+1):=by omega
 have hr5:m.get (j+1)+1099511627776<=4611686018427387904:=by omega
 clear hr1 hr2 hr3;have dc1:decide ((j:Int)+1<=0)=false:=decide_eq_false (by omega);have dc2:decide (4<(j:Int)+1)=false:=decide_eq_false (by omega);have hvb : ∀ b,Value.ownBlock (.slice va n vc)=some b->base<=b/\b<w.heap.size:=fun b hb=>hR.1.lt b hb;have HVB:=Lib.hid hvb;clear hvb
 go_enter Tryz.func129,Tryz.ntmps129
 go_wp2
 go_loopw [34,0] (fun i tv wr=>∃ (k n2:Nat) (z2:Nat->Int) (x2:Nat->TE) (q:Int),k<=kn/\i = .int .i64 k/\qiZ M base wr tv n2 z2 x2/\Hid (xls n2 z2 x2=xls n z x ++ shift m (poly (j+1) k (fun i=>qaj d (kid i))))/\Blk wr (w.heap.size+1) 127 4 (moF (Mo.add m (xp (j+1) q))) /\
  Blk wr w.heap.size 33 4 (arr #[.int .i64 ((j:Int)+1),.bool r.neg,.slice a r.n p,.slice ka kn kp])/\w.grownBy wr (Value.ownBlock (.slice va n vc))/\Hid (∀ b,tv.ownBlock=some b->Value.ownBlock (.slice va n vc)=some b∨w.heap.size+2<=b)) (fun i _ _=>kn - (intOf i).toNat)
 case atStart=>
  refine ⟨0,n,z,x,0,Nat.zero_le _,rfl,hR.ext hE,by show _=_;simp [qbD,shift],hBm0.congr (fun i hi=>?_),hBp0,hE.grownBy _,fun b hb=>.inl hb⟩;unfold moF;rw [qas,qat _ _ _ (by omega) (by omega)];split <;> simp
 case round=>
  clear hBm0 hBp0 st0;obtain ⟨k,n2,z2,x2,q,hk,rfl,hR2,HX2,hBm,hBp,hg2,HB2⟩:=hrel;obtain ⟨va2,vc2,rfl⟩:=hR2.1.form;have b0:=hBp.cell (i:=0) (by omega);simp only [arr] at b0;have s0:=hBm.cell (i:=j) (by omega);have s1:=hBm.frozen j;have hls:=hBm.lt;have hls0:=hBp.lt
  by_cases hlt:k<kn
  ·obtain ⟨b,off,rfl,hnk,hkm,hb,e0,e1,e2,e3,y0,y1,y2,y3,hRR⟩:=HK.out k hlt;have hbb:b<base:=HKb.out b off rfl (by omega);have hkp2:Kp (Mf M base) w wr:=qdT hg2 (fun q hq=>(HVB.out q hq).1);have hcell : ∀ o,wr.cell? ⟨b,o,none⟩=w.cell? ⟨b,o,none⟩:=fun o=>World.cell?_of_block (w:=w) (hg2.block b hb (fun e=>by have:=(HVB.out b e.symm).1;omega));rw [<- hcell] at y0 y1 y2 y3;clear hcell
   have hbw:b<wr.heap.size:=by have:=hg2.size;omega
   have hRR2:=RR.kp hkp2 hRR
   cases d with
   | zero=>exact hRR.elim
   | succ d=>
   obtain ⟨rfl,rfl,⟨a2,p2,rfl⟩,ka2,kp2,rfl⟩:=hRR.form;have HRR:=Lib.hid hRR2;clear hRR hRR2
   have hkk:(k:Int)<=1099511627776:=by omega
   -- the monomial's cell and the loop's variable
   have hE1:Ext (wr.setCell ⟨w.heap.size+1,j,none⟩ (.int .i64 (m.get (j+1)+(k:Int)))) ((wr.setCell ⟨w.heap.size+1,j,none⟩ (.int .i64 (m.get (j+1)+(k:Int)))).alloc (.cells #[.int .i64 (kid k).1,.bool (kid k).2.1.neg,.slice a2 (kid k).2.1.n p2,.slice ka2 (kid k).2.2.1 kp2] 33)):=(Ext.refl _).alloc _;have hKs:Kp (Mf M base) wr (wr.setCell ⟨w.heap.size+1,j,none⟩ (.int .i64 (m.get (j+1)+(k:Int)))):=Kp.set _ _ (.inr (by simp;omega)) _;have hBm1:=((hBm.set j (.int .i64 (m.get (j+1)+(k:Int)))).congr (f':=moF (Mo.add m (xp (j+1) (k:Int)))) (fun i hi=>qqy m j hj4 q k i hi)).ext hE1;obtain ⟨m0,m1,m2,m3⟩:=qqz hBm1;have hBp1:=(hBp.set_other (p:=⟨w.heap.size+1,j,none⟩) (by simp) (.int .i64 (m.get (j+1)+(k:Int)))).ext hE1;have HBM1:=Lib.hid hBm1;have HBP1:=Lib.hid hBp1
   have hg3:w.grownBy ((wr.setCell ⟨w.heap.size+1,j,none⟩ (.int .i64 (m.get (j+1)+(k:Int)))).alloc (.cells #[.int .i64 (kid k).1,.bool (kid k).2.1.neg,.slice a2 (kid k).2.1.n p2,.slice ka2 (kid k).2.2.1 kp2] 33)) (Value.ownBlock (.slice va n vc)):=by
    refine qbF ?_ (hE1.grownBy _);exact ⟨hg2.os,hg2.tape,hg2.output,by have:=hg2.size;simpa [World.setCell] using this,fun b hb hne=>(Below.heap_setCell _ _ _ _ (by show b≠w.heap.size+1;omega)).trans (hg2.block b hb hne)⟩
   have hR3:qiZ M base ((wr.setCell ⟨w.heap.size+1,j,none⟩ (.int .i64 (m.get (j+1)+(k:Int)))).alloc (.cells #[.int .i64 (kid k).1,.bool (kid k).2.1.neg,.slice a2 (kid k).2.1.n p2,.slice ka2 (kid k).2.2.1 kp2] 33)) (.slice va2 n2 vc2) n2 z2 x2:=by
    refine (hR2.kp (fun g hg=>Below.heap_setCell _ _ _ _ ?_) hKs).ext hE1;show g≠w.heap.size+1;rcases HB2.out g hg with hh | hh
    ·have:=(HVB.out g hh).2;omega
    ·omega
   have hRR3:RR (Mf M base) ((wr.setCell ⟨w.heap.size+1,j,none⟩ (.int .i64 (m.get (j+1)+(k:Int)))).alloc (.cells #[.int .i64 (kid k).1,.bool (kid k).2.1.neg,.slice a2 (kid k).2.1.n p2,.slice ka2 (kid k).2.2.1 kp2] 33)) (d+1) (kid k) _ _ _ _:=(RR.kp hKs HRR.out).ext hE1
   have ictr := ih M base (kid k) _ _ _ _ (.slice va2 n2 vc2) n2 z2 x2 (Mo.add m (xp (j + 1) (k : Int))) _ (by have := hg3.size; exact Nat.le_trans hbase this) hRR3 hR3 (by
     have h1:=HLEN.out;rw [HTJ.out] at h1;have h2:=qix (j+1) kn (k+1) (fun i=>qaj (d+1) (kid i)) (by omega);rw [qaf,List.length_append] at h2
     have h3:n2=n+(poly (j+1) k (fun i=>qaj (d+1) (kid i))).length:=by
      have:=congrArg List.length HX2.out;rw [qeZ,List.length_append,qeZ] at this;simpa [shift] using this
     have h4:(shift (xp (j+1) (k:Int)) (qaj (d+1) (kid k))).length=(qaj (d+1) (kid k)).length:=by simp [shift]
     omega) (HROOM.out.kid (j+1) k (by omega) (by omega) (by omega))
   have ICTR:=Lib.hid ictr;have hBv:=Blk.of_arr (wr.setCell ⟨w.heap.size+1,j,none⟩ (.int .i64 (m.get (j+1)+(k:Int)))) #[.int .i64 (kid k).1,.bool (kid k).2.1.neg,.slice a2 (kid k).2.1.n p2,.slice ka2 (kid k).2.2.1 kp2] 33 4 rfl;simp only [World.size_setCell] at hBv;have o0:=hBv.cell (i:=0) (by omega);have o1:=hBv.cell (i:=1) (by omega);have o2:=hBv.cell (i:=2) (by omega);have o3:=hBv.cell (i:=3) (by omega);simp only [arr] at o0 o1 o2 o3;have HG3:=Lib.hid hg3;have hwr3:=hBv.lt;generalize hW3:(wr.setCell ⟨w.heap.size+1,j,none⟩ (.int .i64 (m.get (j+1)+(k:Int)))).alloc (.cells #[.int .i64 (kid k).1,.bool (kid k).2.1.neg,.slice a2 (kid k).2.1.n p2,.slice ka2 (kid k).2.2.1 kp2] 33)=W3 at m0 m1 m2 m3 o0 o1 o2 o3 HG3 HBM1 HBP1 ICTR hwr3;have HW3:=Lib.hid hW3;clear ictr hRR3 hBm1 hBp1 hBv hg3 hR3 hW3 hE1 hKs
   go_upto_region 10 with (fail)
   rw [HW3.out];go_wp2_with (fail);refine (ICTR.out).mono ?_;rintro e w4 ⟨v4,n4,z4,x4,rfl,hR4,hx4,hg4,hb4⟩;obtain ⟨va4,vc4,rfl⟩:=hR4.1.form
   have HF : Hid (∃ (k2 n2 : Nat) (z2 : Nat -> Int) (x2 : Nat -> TE) (q : Int), k2 <= kn /\ Value.int .i64 ((k : Int) + 1) = .int .i64 k2 /\ qiZ M base w4 (.slice va4 n4 vc4) n2 z2 x2 /\ Hid (xls n2 z2 x2 = xls n z x ++ shift m (poly (j + 1) k2 (fun i => qaj (d + 1) (kid i)))) /\ Blk w4 (w.heap.size + 1) 127 4 (moF (Mo.add m (xp (j + 1) q))) /\
     Blk w4 w.heap.size 33 4 (arr #[.int .i64 ((j:Int)+1),.bool r.neg,.slice a r.n p,.slice (some ⟨b,off,none⟩) kn kp])/\w.grownBy w4 (Value.ownBlock (.slice va n vc))/\Hid (∀ b,Value.ownBlock (.slice va4 n4 vc4)=some b->Value.ownBlock (.slice va n vc)=some b∨w.heap.size+2<=b)):=by
    have hsz:=HG3.out.size
    have hnb : ∀ b,b<w.heap.size+2->w.heap.size<=b->(some b:Option Nat)≠Value.ownBlock (.slice va2 n2 vc2):=by
     intro b h1 h2 e;rcases HB2.out b e.symm with hh | hh
     ·have:=(HVB.out b hh).2;omega
     ·omega
    refine ⟨k+1,n4,z4,x4,k,by omega,by simp,hR4,?_,HBM1.out.of_heap (hg4.block _ (by omega) (hnb _ (by omega) (by omega))),HBP1.out.of_heap (hg4.block _ (by omega) (hnb _ (by omega) (by omega))),?_,?_⟩
    ·show _=_;rw [hx4,HX2.out,qe9,List.append_assoc]
    ·have h3:=HG3.out;refine ⟨hg4.os.trans h3.os,hg4.tape.trans h3.tape,hg4.output.trans h3.output,Nat.le_trans h3.size hg4.size,fun b hb hne=>(hg4.block b (by omega) (fun e=>?_)).trans (h3.block b hb hne)⟩;rcases HB2.out b e.symm with hh | hh
     ·exact hne hh.symm
     ·omega
    ·intro b hb;rcases hb4 b hb with hh | hh
     ·exact HB2.out b hh
     ·exact .inr (by omega)
   clear hR4 hx4 hg4 hb4;go_wp2
   go_roundw
   case rel=>exact HF.out
   case measure=>simp [intOf];omega
  ·have hkn:k=kn:=by omega
   subst hkn
   have HF:Hid (qd1 M base w (.slice va n vc) (xls n z x ++ shift m T) (.returned (.slice va2 n2 vc2)) wr):=by
    refine ⟨_,n2,z2,x2,rfl,hR2,?_,hg2,fun b hb=>?_⟩
    ·rw [HX2.out,HT.out,HTJ.out]
    ·rcases HB2.out b hb with hh | hh
     ·exact .inl hh
     ·exact .inr (by omega)
   go_wp2;go_ret;exact HF.out
theorem qfO : ∀ d,qnA d
 | 0=>fun _ _ _ _ _ _ _ _ _ _ _ _ _ _ h=>h.elim
 | d+1=>fun M base t c0 c1 c2 c3 v n z x m w hb h hR hL hm=>by
  rcases Int.lt_or_le t.1 1 with h1 | h1
  ·exact qet d M base t c0 c1 c2 c3 v n z x m w hb h hR hL (.inl (by omega))
  ·rcases Int.lt_or_le 4 t.1 with h4 | h4
   ·exact qet d M base t c0 c1 c2 c3 v n z x m w hb h hR hL (.inr h4)
   ·exact qh7 d (qfO d) M base t c0 c1 c2 c3 v n z x m w hb h hR hL hm ⟨h1,h4⟩


def dfl:(d:Nat)->RT d
 | 0=>()
 | d+1=>(0,⟨false,0,fun _=>0⟩,0,fun _=>dfl d)
def mkT (d:Nat) (lv:Int) (r:qcF) (n:Nat) (kid:Nat->RT d):RT (d+1):=(lv,r,n,kid)
theorem qiX (d:Nat) (r:qcF) (kid:Nat->RT d) (lv:Int) (h0:lv=0) (hc:r.can=true):qaM (d+1) (mkT d lv r 0 kid)=true:=by
 rw [qeL,if_pos (show (mkT d lv r 0 kid).1=0 from h0)];show (((0:Nat) == 0) && r.can)=true;simp [hc]
theorem qdG (d:Nat) (r:qcF) (kid:Nat->RT d) (lv:Int) (h0:lv<=0):qaj (d+1) (mkT d lv r 0 kid) = [(r.val,Mo.zero)]:=qaE h0
theorem qcZ (d:Nat) (r:qcF) (n:Nat) (kid:Nat->RT d) (lv:Int) (h1:1<=lv) (h4:lv<=4):qaj (d+1) (mkT d lv r n kid)=poly lv.toNat n (fun i=>qaj d (kid i)):=qaO h1 h4
theorem qig {α:Type} (dft:α) {n:Nat} {Q:Nat->α->Prop} (h : ∀ i,i<n -> ∃ a,Q i a) : ∃ f:Nat->α,∀ i,i<n->Q i (f i):=by
 classical
 refine ⟨fun i=>if hi:i<n then Classical.choose (h i hi) else dft,fun i hi=>?_⟩;simp only [dif_pos hi];exact Classical.choose_spec (h i hi)
theorem qjH {d:Nat} {t:RT (d+1)} (h1:1<=t.1/\t.1<=4) (hn:t.2.1.n=0) (hb:t.2.1.neg=false) (h2:2<=t.2.2.1) (hk : ∀ i,i<t.2.2.1->lev d (t.2.2.2 i)<t.1/\qaM d (t.2.2.2 i)=true) (hz:isZ d (t.2.2.2 (t.2.2.1 - 1))=false):qaM (d+1) t=true:=by
 rw [qeL,if_neg (by omega)];simp only [Bool.and_eq_true,decide_eq_true_eq,List.all_eq_true,List.mem_range,Bool.not_eq_true',qcF.blank,beq_iff_eq];exact ⟨h1,⟨hn,hb⟩,h2,hk,hz⟩
theorem qff (L n:Nat) (P Q:Nat->List Tm) (h : ∀ i,i<n->P i=Q i):poly L n P=poly L n Q:=by
 induction n with
 | zero=>rfl
 | succ n ih=>rw [qaf,qaf,ih fun i hi=>h i (by omega),h n (by omega)]
theorem qlP {M:Nat->Prop} {w:World} : ∀ (D:Nat) {d:Nat} {t:RT d} {c0 c1 c2 c3:Value},RR M w d t c0 c1 c2 c3->qaM d t=true->lev d t<=D -> ∃ u:RT (D+1),RR M w (D+1) u c0 c1 c2 c3/\qaM (D+1) u=true/\lev (D+1) u=lev d t/\qaj (D+1) u=qaj d t/\isZ (D+1) u=isZ d t:=by
 intro D
 induction D with
 | zero=>
  intro d t c0 c1 c2 c3 h hc hl
  cases d with
  | zero=>exact h.elim
  | succ d=>
  have hl0:t.1=0:=by have:=qcP hc;have:t.1<=(0:Nat):=hl;omega
  obtain ⟨hk,hcc⟩:=qbX hc hl0;obtain ⟨g0,g1,g2,g3,g4⟩:=h;refine ⟨mkT _ t.1 t.2.1 0 (fun _=>dfl _),⟨g0,g1,g2,Nat.zero_le _,?_⟩,?_,rfl,?_,rfl⟩
  ·rcases g4 with ⟨g4,_⟩ | ⟨b,off,cap,hv,hn,hcp,hb,_⟩
   ·exact .inl ⟨g4,rfl⟩
   ·rw [hk] at hv hn;exact .inr ⟨b,off,cap,hv,Nat.zero_le _,hcp,hb,fun i hi=>absurd hi (Nat.not_lt_zero _)⟩
  ·exact qiX _ _ _ _ hl0 hcc
  ·exact (qdG _ _ _ _ (by omega)).trans (qaE (by omega)).symm
 | succ D ih=>
  intro d t c0 c1 c2 c3 h hc hl
  cases d with
  | zero=>exact h.elim
  | succ d=>
  by_cases hl0:t.1=0
  ·obtain ⟨hk,hcc⟩:=qbX hc hl0;obtain ⟨g0,g1,g2,g3,g4⟩:=h;refine ⟨mkT _ t.1 t.2.1 0 (fun _=>dfl _),⟨g0,g1,g2,Nat.zero_le _,?_⟩,?_,rfl,?_,rfl⟩
   ·rcases g4 with ⟨g4,_⟩ | ⟨b,off,cap,hv,hn,hcp,hb,_⟩
    ·exact .inl ⟨g4,rfl⟩
    ·rw [hk] at hv hn;exact .inr ⟨b,off,cap,hv,Nat.zero_le _,hcp,hb,fun i hi=>absurd hi (Nat.not_lt_zero _)⟩
   ·exact qiX _ _ _ _ hl0 hcc
   ·exact (qdG _ _ _ _ (by omega)).trans (qaE (by omega)).symm
  ·obtain ⟨h1,hn0,hb0,h2,h5,h6⟩:=qbe hc hl0;obtain ⟨g0,g1,g2,g3,g4⟩:=h;rcases g4 with ⟨_,g4⟩ | ⟨b,off,cap,hv,hn,hcp,hb,hk⟩
   ·omega
   obtain ⟨kid,hkid⟩:=qig (dfl (D+1)) (n:=t.2.2.1) (Q:=fun i u=>(∃ e0 e1 e2 e3,w.cell? ⟨b,off+i*4,none⟩=some e0/\w.cell? ⟨b,off+i*4+1,none⟩=some e1/\w.cell? ⟨b,off+i*4+2,none⟩=some e2/\w.cell? ⟨b,off+i*4+3,none⟩=some e3/\RR M w (D+1) u e0 e1 e2 e3)/\qaM (D+1) u=true/\lev (D+1) u=lev d (t.2.2.2 i)/\qaj (D+1) u=qaj d (t.2.2.2 i)/\isZ (D+1) u=isZ d (t.2.2.2 i)) (by
    intro i hi;obtain ⟨e0,e1,e2,e3,x0,x1,x2,x3,hr⟩:=hk i hi;have hlk:=h5 i hi;have hl':t.1<=((D+1:Nat):Int):=hl;obtain ⟨u,k1,k2,k3,k4,k5⟩:=ih hr hlk.2 (by omega)
    exact ⟨u,⟨e0,e1,e2,e3,x0,x1,x2,x3,k1⟩,k2,k3,k4,k5⟩)
   refine ⟨mkT _ t.1 t.2.1 t.2.2.1 kid,⟨g0,g1,g2,g3,.inr ⟨b,off,cap,hv,hn,hcp,hb,fun i hi=>(hkid i hi).1⟩⟩,?_,rfl,?_,rfl⟩
   ·refine qjH h1 hn0 hb0 h2 (fun i hi=>?_) ?_
    ·obtain ⟨_,k2,k3,_⟩:=hkid i hi;exact ⟨by show lev (D+1) (kid i)<t.1;rw [k3];exact (h5 i hi).1,k2⟩
    ·exact (hkid (t.2.2.1 - 1) (by omega)).2.2.2.2.trans h6
   ·refine (qcZ _ _ _ _ _ h1.1 h1.2).trans (Eq.trans ?_ (qaO h1.1 h1.2).symm);exact qff _ _ _ _ fun i hi=>(hkid i hi).2.2.2.1
def CR (M:Nat->Prop) (w:World) (L:Nat) (c0 c1 c2 c3:Value) (l:List Tm):Prop:=
 ∃ t:RT (L+1),RR M w (L+1) t c0 c1 c2 c3/\qaM (L+1) t=true/\t.1<=L/\Sim (qaj (L+1) t) l
section
variable {M M':Nat->Prop} {w w':World} {L:Nat} {c0 c1 c2 c3:Value} {l r:List Tm}
theorem CR.kp (h:CR M w L c0 c1 c2 c3 l) (he:Kp M w w'):CR M w' L c0 c1 c2 c3 l:=by
 obtain ⟨t,h1,h2⟩:=h;exact ⟨t,RR.kp he h1,h2⟩
theorem CR.ext (h:CR M w L c0 c1 c2 c3 l) (he:Ext w w'):CR M w' L c0 c1 c2 c3 l:=h.kp (Kp.of_ext he)
theorem CR.more (h:CR M w L c0 c1 c2 c3 l) (hm : ∀ g,M' g->M g∨w.heap.size<=g):CR M' w L c0 c1 c2 c3 l:=by
 obtain ⟨t,h1,h2⟩:=h;exact ⟨t,RR.more hm h1,h2⟩
theorem CR.sim (h:CR M w L c0 c1 c2 c3 l) (hs:Sim l r):CR M w L c0 c1 c2 c3 r:=by
 obtain ⟨t,h1,h2,h3,h4⟩:=h;exact ⟨t,h1,h2,h3,h4.trans hs⟩
theorem CR.form (h:CR M w L c0 c1 c2 c3 l) : ∃ lv b a n p ka kn kp,c0 = .int .i64 lv/\c1 = .bool b/\c2 = .slice a n p/\c3 = .slice ka kn kp/\0<=lv/\lv<=L/\lv<=4:=by
 obtain ⟨t,h1,h2,h3,h4⟩:=h;obtain ⟨rfl,rfl,⟨a,p,rfl⟩,ka,kp,rfl⟩:=h1.form;have:=qcP h2;exact ⟨_,_,_,_,_,_,_,_,rfl,rfl,rfl,rfl,this.1,h3,this.2⟩
end
theorem CR.relev {M:Nat->Prop} {w:World} {L D:Nat} {lv:Int} {c1 c2 c3:Value} {l:List Tm} (h:CR M w L (.int .i64 lv) c1 c2 c3 l) (hl:lv<=D):CR M w D (.int .i64 lv) c1 c2 c3 l:=by
 obtain ⟨t,h1,h2,h3,h4⟩:=h
 have e:lv=t.1:=by have:=h1.1;simpa using this
 obtain ⟨u,k1,k2,k3,k4,_⟩:=qlP D h1 h2 (by show t.1<=(D:Int);omega);have k3':u.1=t.1:=k3;exact ⟨u,k1,k2,by omega,by rw [k4];exact h4⟩
theorem CR.up {M:Nat->Prop} {w:World} {L D:Nat} {c0 c1 c2 c3:Value} {l:List Tm} (h:CR M w L c0 c1 c2 c3 l) (hl:L<=D):CR M w D c0 c1 c2 c3 l:=by
 obtain ⟨lv,b,a,n,p,ka,kn,kp,rfl,rfl,rfl,rfl,h0,h1,h2⟩:=h.form;exact h.relev (by omega)
theorem CR.const {M:Nat->Prop} {w:World} {c1 c2:Value} {z:Int} (h:qbw M w c1 c2 z) (L:Nat):CR M w L (.int .i64 0) c1 c2 (.slice none 0 0) [(z,Mo.zero)]:=by
 obtain ⟨r,hr,hv,hc⟩:=h.raw;refine ⟨mkT _ 0 r 0 (fun _=>dfl _),⟨rfl,by show -9223372036854775808<=(0:Int)/\(0:Int)<=9223372036854775807;omega,hr,Nat.zero_le _,.inl ⟨⟨none,0,rfl,Nat.zero_le _,fun _=>rfl⟩,rfl⟩⟩,qiX _ _ _ _ rfl hc,by show (0:Int)<=_;omega,?_⟩;rw [qdG _ _ _ _ (by omega),hv];exact Sim.refl _
theorem qbQ:Sim [(0,Mo.zero)] []:=by intro m;simp [qab]
theorem qdc (M:Nat->Prop) (w:World) (d:Nat->Nat):qbr M w (.slice none 0 0) 0 d:=⟨Nat.zero_le _,fun i hi=>absurd hi (Nat.not_lt_zero _),.inl ⟨rfl,none,0,rfl,Nat.zero_le _,fun _=>rfl⟩⟩
theorem qhN (M:Nat->Prop) (w:World):qbw M w (.bool false) (.slice none 0 0) 0:=⟨⟨0,fun _=>0,qdc _ _ _,rfl,.inl rfl⟩,by simp⟩
theorem CR.zero (M:Nat->Prop) (w:World) (L:Nat):CR M w L (.int .i64 0) (.bool false) (.slice none 0 0) (.slice none 0 0) []:=(CR.const (qhN M w) L).sim qbQ
theorem CR.isz {M:Nat->Prop} {w:World} {L:Nat} {lv:Int} {b:Bool} {a:Option Addr} {n p:Nat} {c3:Value} {l:List Tm} (h:CR M w L (.int .i64 lv) (.bool b) (.slice a n p) c3 l):qfp lv n=true↔Sim l []:=by
 obtain ⟨t,h1,h2,h3,h4⟩:=h;have ho:=h1.ok
 have e:lv=t.1:=by have:=h1.1;simpa using this
 have e2:n=t.2.1.n:=by
  obtain ⟨_,_,⟨a',p',h⟩,_⟩:=h1.form;simp only [Value.slice.injEq] at h;exact h.2.1
 have hz:qfp lv n=isZ (L+1) t:=by rw [e,e2];rfl
 rw [hz];constructor
 ·intro hh;exact h4.symm.trans (qhM h2 hh)
 ·intro hh;cases hc:isZ (L+1) t
  ·obtain ⟨m,hm⟩:=can_zero _ t h2 ho hc;exact absurd ((h4 m).trans (hh m)) hm
  ·rfl
def Kid (M:Nat->Prop) (w:World) (L b o:Nat) (l:List Tm):Prop:=∃ e0 e1 e2 e3,w.cell? ⟨b,o,none⟩=some e0/\w.cell? ⟨b,o+1,none⟩=some e1/\w.cell? ⟨b,o+2,none⟩=some e2/\w.cell? ⟨b,o+3,none⟩=some e3/\CR M w L e0 e1 e2 e3 l
theorem CR.node {M : Nat -> Prop} {w : World} {D b off n cap : Nat} {P : Nat -> List Tm} (hD : D + 1 <= 4) (hn : 2 <= n) (hL : n <= 1099511627776) (hc : n <= cap) (hm : cap <= maxLen) (hb : b < w.heap.size) (hM : ¬ M b) (hk : ∀ i, i < n -> Kid M w D b (off + i * 4) (P i)) (hz : ¬ Sim (P (n - 1)) []) :
  CR M w (D+1) (.int .i64 ((D:Int)+1)) (.bool false) (.slice none 0 0) (.slice (some ⟨b,off,none⟩) n cap) (poly (D+1) n P):=by
 obtain ⟨kid,hkid⟩:=qig (dfl (D+1)) (n:=n) (Q:=fun i u=>(∃ e0 e1 e2 e3,w.cell? ⟨b,off+i*4,none⟩=some e0/\w.cell? ⟨b,off+i*4+1,none⟩=some e1/\w.cell? ⟨b,off+i*4+2,none⟩=some e2/\w.cell? ⟨b,off+i*4+3,none⟩=some e3/\RR M w (D+1) u e0 e1 e2 e3)/\qaM (D+1) u=true/\u.1<=D/\Sim (qaj (D+1) u) (P i)) (by
  intro i hi;obtain ⟨e0,e1,e2,e3,x0,x1,x2,x3,t,h1,h2,h3,h4⟩:=hk i hi
  exact ⟨t,⟨e0,e1,e2,e3,x0,x1,x2,x3,h1⟩,h2,h3,h4⟩)
 refine ⟨mkT _ ((D:Int)+1) ⟨false,0,fun _=>0⟩ n kid,⟨rfl,by show -9223372036854775808<=(D:Int)+1/\(D:Int)+1<=9223372036854775807;omega,⟨rfl,qdc _ _ _⟩,hL,.inr ⟨b,off,cap,rfl,hc,hm,⟨hb,hM⟩,fun i hi=>(hkid i hi).1⟩⟩,?_,by show (D:Int)+1<=_;omega,?_⟩
 ·refine qjH (by show 1<=(D:Int)+1/\(D:Int)+1<=4;omega) rfl rfl hn (fun i hi=>⟨?_,(hkid i hi).2.1⟩) ?_
  ·show (kid i).1<(D:Int)+1;have:=(hkid i hi).2.2.1;omega
  ·show isZ (D+1) (kid (n - 1))=false;cases hc:isZ (D+1) (kid (n - 1))
   ·rfl
   ·exact absurd ((hkid (n - 1) (by omega)).2.2.2.symm.trans (qhM (hkid (n - 1) (by omega)).2.1 hc)) hz
 ·rw [qcZ _ _ _ _ _ (by omega) (by omega)];rw [show ((D:Int)+1).toNat=D+1 by omega];exact qaC _ _ _ _ fun i hi=>(hkid i hi).2.2.2
theorem CR.const_inv {M:Nat->Prop} {w:World} {L:Nat} {c1 c2 c3:Value} {l:List Tm} (h:CR M w L (.int .i64 0) c1 c2 c3 l) : ∃ z,qbw M w c1 c2 z/\Sim [(z,Mo.zero)] l/\z.natAbs<=nrm l /\ ∃ a p,c3 = .slice a 0 p:=by
 obtain ⟨t,h1,h2,h3,h4⟩:=h
 have e:0=t.1:=by have:=h1.1;simpa using this
 obtain ⟨g1,g2⟩:=qbX h2 e.symm;have hn:=qfB h2 h4;rw [qaE (by omega)] at h4 hn;obtain ⟨_,_,_,ka,kp,hk⟩:=h1.form;refine ⟨t.2.1.val,h1.2.2.1.can_toC g2,h4,by simpa [nrm] using hn,ka,kp,?_⟩;rw [hk,g1]
theorem CR.node_inv {M : Nat -> Prop} {w : World} {L : Nat} {lv : Int} {c1 c2 c3 : Value} {l : List Tm} (h : CR M w L (.int .i64 lv) c1 c2 c3 l) (hl : lv ≠ 0) :
  ∃ (D:Nat),lv=(D:Int)+1/\D+1<=4/\D+1<=L /\ ∃ a p b off n cap P,c1 = .bool false/\c2 = .slice a 0 p/\c3 = .slice (some ⟨b,off,none⟩) n cap/\2<=n/\n<=1099511627776/\n<=cap/\cap<=maxLen/\b<w.heap.size /\ ¬ M b/\(∀ i,i<n->Kid M w D b (off+i*4) (P i))/\(∀ i,i<n->Low D (P i)) /\ ¬ Sim (P (n - 1)) []/\Sim (poly (D+1) n P) l/\nrm (poly (D+1) n P)<=nrm l:=by
 obtain ⟨t,h1,h2,h3,h4⟩:=h;have ho:=h1.ok
 have e:lv=t.1:=by have:=h1.1;simpa using this
 obtain ⟨g1,g2,g3,g4,g5,g6⟩:=qbe h2 (by omega);obtain ⟨D,hD⟩ : ∃ D:Nat,lv=(D:Int)+1:=⟨(lv - 1).toNat,by omega⟩;have hn:=qfB h2 h4;rw [qaO g1.1 g1.2,show t.1.toNat=D+1 by omega] at h4 hn;obtain ⟨k0,k1,k2,k3,k4⟩:=h1;rcases k4 with ⟨_,k4⟩ | ⟨b,off,cap,hv,hnc,hcp,hb,hk⟩
 ·omega
 obtain ⟨a,p,hap⟩:=qap k2.2;refine ⟨D,hD,by omega,by omega,a,p,b,off,t.2.2.1,cap,fun i=>qaj L (t.2.2.2 i),by rw [k2.1,g3],by rw [hap,g2],hv,g4,k3,hnc,hcp,hb.1,hb.2,fun i hi=>?_,fun i hi=>?_,?_,h4,hn⟩
 ·obtain ⟨e0,e1,e2,e3,x0,x1,x2,x3,hr⟩:=hk i hi;obtain ⟨u,u1,u2,u3,u4,_⟩:=qlP D hr (g5 i hi).2 (by have:=(g5 i hi).1;omega);refine ⟨e0,e1,e2,e3,x0,x1,x2,x3,u,u1,u2,?_,by rw [u4];exact Sim.refl _⟩;have u3':u.1=lev L (t.2.2.2 i):=u3;have:=(g5 i hi).1;omega
 ·have:=qbE h2 (by omega) i hi
  rwa [show t.1.toNat - 1=D by omega] at this
 ·intro hs
  cases L with
  | zero=>omega
  | succ L=>
  obtain ⟨m,hm⟩:=can_zero _ _ (g5 (t.2.2.1 - 1) (by omega)).2 (ho.2 _ (by omega)) g6;exact hm (hs m)


def qk7 (f:Nat->Value) (o:Nat) (e0 e1 e2 e3:Value):Nat->Value:=upd (upd (upd (upd f o e0) (o+1) e1) (o+2) e2) (o+3) e3
theorem qdF (f:Nat->Value) (o:Nat) (e0 e1 e2 e3:Value):qk7 f o e0 e1 e2 e3 o=e0:=by simp [qk7,upd]
theorem qdE (f:Nat->Value) (o:Nat) (e0 e1 e2 e3:Value):qk7 f o e0 e1 e2 e3 (o+1)=e1:=by simp [qk7,upd]
theorem qdD (f:Nat->Value) (o:Nat) (e0 e1 e2 e3:Value):qk7 f o e0 e1 e2 e3 (o+2)=e2:=by simp [qk7,upd]
theorem qdC (f:Nat->Value) (o:Nat) (e0 e1 e2 e3:Value):qk7 f o e0 e1 e2 e3 (o+3)=e3:=by simp [qk7,upd]
theorem qbg (f:Nat->Value) (o:Nat) (e0 e1 e2 e3:Value) (i:Nat) (h:i<o∨o+4<=i):qk7 f o e0 e1 e2 e3 i=f i:=by
 unfold qk7 upd;rw [if_neg (by omega),if_neg (by omega),if_neg (by omega),if_neg (by omega)]
def set4 (w:World) (g o:Nat) (e0 e1 e2 e3:Value):World:=(((w.setCell ⟨g,o,none⟩ e0).setCell ⟨g,o+1,none⟩ e1).setCell ⟨g,o+2,none⟩ e2).setCell ⟨g,o+3,none⟩ e3
theorem Blk.set4 {w:World} {g:Nat} {t:TypeId} {n:Nat} {f:Nat->Value} (h:Blk w g t n f) (o:Nat) (e0 e1 e2 e3:Value):Blk (Go.Proofs.YtmcfpnmoklnhoaaGreat.set4 w g o e0 e1 e2 e3) g t n (qk7 f o e0 e1 e2 e3):=(((h.set o e0).set (o+1) e1).set (o+2) e2).set (o+3) e3
theorem Kp.set4 {M:Nat->Prop} {w:World} {g:Nat} (hg:M g) (o:Nat) (e0 e1 e2 e3:Value):Kp M w (Go.Proofs.YtmcfpnmoklnhoaaGreat.set4 w g o e0 e1 e2 e3):=(((Kp.set M w (p:=⟨g,o,none⟩) hg e0).trans (Kp.set M _ (p:=⟨g,o+1,none⟩) hg e1)).trans (Kp.set M _ (p:=⟨g,o+2,none⟩) hg e2)).trans (Kp.set M _ (p:=⟨g,o+3,none⟩) hg e3)
theorem Ext.set4 {a w:World} (h:Ext a w) {g:Nat} (hg:a.heap.size<=g) (o:Nat) (e0 e1 e2 e3:Value):Ext a (Go.Proofs.YtmcfpnmoklnhoaaGreat.set4 w g o e0 e1 e2 e3):=(((h.set (p:=⟨g,o,none⟩) hg e0).set (p:=⟨g,o+1,none⟩) hg e1).set (p:=⟨g,o+2,none⟩) hg e2).set (p:=⟨g,o+3,none⟩) hg e3
theorem qaq (w:World) (g o:Nat) (e0 e1 e2 e3:Value):(set4 w g o e0 e1 e2 e3).heap.size=w.heap.size:=by simp [set4]
theorem qag (w:World) (g o:Nat) (e0 e1 e2 e3:Value) (b:Nat) (hb:b≠g):(set4 w g o e0 e1 e2 e3).heap[b]? = w.heap[b]?:=by
 unfold set4;rw [Below.heap_setCell _ _ _ _ hb,Below.heap_setCell _ _ _ _ hb,Below.heap_setCell _ _ _ _ hb,Below.heap_setCell _ _ _ _ hb]
theorem qkL {M' : Nat -> Prop} {w W : World} {g : Nat} {t : TypeId} {f : Nat -> Value} (e0 e1 e2 e3 : Value) (hB : Blk W g t 4 f) (hg : M' g) (hw : w.heap.size <= g) (he : Ext w W) :
  (W.cell? ⟨g,0,none⟩=some (f 0)/\W.cell? ⟨g,1,none⟩=some (f 1)/\W.cell? ⟨g,2,none⟩=some (f 2)/\W.cell? ⟨g,3,none⟩=some (f 3)) /\
  (W.frozen? ⟨g,0,none⟩=false/\W.frozen? ⟨g,1,none⟩=false/\W.frozen? ⟨g,2,none⟩=false/\W.frozen? ⟨g,3,none⟩=false) /\
  ((set4 W g 0 e0 e1 e2 e3).cell? ⟨g,0,none⟩=some e0/\(set4 W g 0 e0 e1 e2 e3).cell? ⟨g,1,none⟩=some e1/\(set4 W g 0 e0 e1 e2 e3).cell? ⟨g,2,none⟩=some e2/\(set4 W g 0 e0 e1 e2 e3).cell? ⟨g,3,none⟩=some e3) /\
  Kp M' W (set4 W g 0 e0 e1 e2 e3)/\Ext w (set4 W g 0 e0 e1 e2 e3):=by
 have hB3:=hB.set4 0 e0 e1 e2 e3;refine ⟨⟨hB.cell (by omega),hB.cell (by omega),hB.cell (by omega),hB.cell (by omega)⟩,⟨hB.frozen 0,hB.frozen 1,hB.frozen 2,hB.frozen 3⟩,⟨?_,?_,?_,?_⟩,Kp.set4 hg _ _ _ _ _,he.set4 hw _ _ _ _ _⟩
 ·rw [hB3.cell (i:=0) (by omega)];exact congrArg some (qdF f 0 e0 e1 e2 e3)
 ·rw [hB3.cell (i:=1) (by omega)];exact congrArg some (qdE f 0 e0 e1 e2 e3)
 ·rw [hB3.cell (i:=2) (by omega)];exact congrArg some (qdD f 0 e0 e1 e2 e3)
 ·rw [hB3.cell (i:=3) (by omega)];exact congrArg some (qdC f 0 e0 e1 e2 e3)
def qax (M:Nat->Prop) (w:World) (D g N:Nat) (P:Nat->List Tm):Prop:=∃ f,Blk w g 33 (N*4) f /\ ∀ i,i<N->CR M w D (f (i*4)) (f (i*4+1)) (f (i*4+2)) (f (i*4+3)) (P i)
theorem qax.kp {M:Nat->Prop} {w w':World} {D g N:Nat} {P:Nat->List Tm} (h:qax M w D g N P) (hg:w'.heap[g]? = w.heap[g]?) (hk:Kp M w w'):qax M w' D g N P:=by
 obtain ⟨f,h1,h2⟩:=h;exact ⟨f,h1.of_heap hg,fun i hi=>(h2 i hi).kp hk⟩
theorem qax.ext {M:Nat->Prop} {w w':World} {D g N:Nat} {P:Nat->List Tm} (h:qax M w D g N P) (he:Ext w w'):qax M w' D g N P:=by
 obtain ⟨f,h1,h2⟩:=h;exact ⟨f,h1.ext he,fun i hi=>(h2 i hi).ext he⟩
theorem qax.kid {M M':Nat->Prop} {w:World} {D g N:Nat} {P:Nat->List Tm} (h:qax M w D g N P) (hm : ∀ g,M' g->M g∨w.heap.size<=g) (i:Nat) (hi:i<N):Kid M' w D g (0+i*4) (P i):=by
 obtain ⟨f,h1,h2⟩:=h;rw [Nat.zero_add];exact ⟨_,_,_,_,h1.cell (by omega),h1.cell (by omega),h1.cell (by omega),h1.cell (by omega),(h2 i hi).more hm⟩
theorem qax.set {M:Nat->Prop} {w:World} {D g N:Nat} {P:Nat->List Tm} (h:qax M w D g N P) (hg:M g) (j:Nat) (hj:j<N) {e0 e1 e2 e3:Value} {l:List Tm} (hc:CR M w D e0 e1 e2 e3 l):qax M (set4 w g (j*4) e0 e1 e2 e3) D g N (fun i=>if i=j then l else P i):=by
 obtain ⟨f,h1,h2⟩:=h;refine ⟨_,h1.set4 (j*4) e0 e1 e2 e3,fun i hi=>?_⟩;have hk:Kp M w (set4 w g (j*4) e0 e1 e2 e3):=Kp.set4 hg _ _ _ _ _
 by_cases hij:i=j
 ·subst hij;rw [qdF,qdE,qdD,qdC];simp only [if_true];exact hc.kp hk
 ·rw [qbg _ _ _ _ _ _ _ (by omega),qbg _ _ _ _ _ _ _ (by omega),qbg _ _ _ _ _ _ _ (by omega),qbg _ _ _ _ _ _ _ (by omega)];simp only [if_neg hij];exact (h2 i hi).kp hk
theorem qax.at {M:Nat->Prop} {w:World} {D g N:Nat} {P:Nat->List Tm} (h:qax M w D g N P) (j:Nat) (hj:j<N):(∃ e,w.cell? ⟨g,j*4,none⟩=some e)/\(∃ e,w.cell? ⟨g,j*4+1,none⟩=some e)/\(∃ e,w.cell? ⟨g,j*4+2,none⟩=some e)/\(∃ e,w.cell? ⟨g,j*4+3,none⟩=some e)/\(∀ o,w.frozen? ⟨g,o,none⟩=false)/\g<w.heap.size:=by
 obtain ⟨f,h1,h2⟩:=h;exact ⟨⟨_,h1.cell (by omega)⟩,⟨_,h1.cell (by omega)⟩,⟨_,h1.cell (by omega)⟩,⟨_,h1.cell (by omega)⟩,h1.frozen,h1.lt⟩
def zc4:Nat->Value:=fun i=>if i % 4=0 then .int .i64 0 else if i % 4=1 then .bool false else .slice none 0 0
theorem qax.fresh {M:Nat->Prop} {w:World} {D g N:Nat} (hB:Blk w g 33 (N*4) zc4):qax M w D g N (fun _=>[]):=by
 refine ⟨zc4,hB,fun i hi=>?_⟩
 have h0:zc4 (i*4) = .int .i64 0:=by unfold zc4;rw [if_pos (by omega)]
 have h1:zc4 (i*4+1) = .bool false:=by unfold zc4;rw [if_neg (by omega),if_pos (by omega)]
 have h2:zc4 (i*4+2) = .slice none 0 0:=by unfold zc4;rw [if_neg (by omega),if_neg (by omega)]
 have h3:zc4 (i*4+3) = .slice none 0 0:=by unfold zc4;rw [if_neg (by omega),if_neg (by omega)]
 rw [h0,h1,h2,h3];exact CR.zero _ _ _
theorem qax.more {M M':Nat->Prop} {w:World} {D g N:Nat} {P:Nat->List Tm} (h:qax M w D g N P) (hm : ∀ g,M' g->M g∨w.heap.size<=g):qax M' w D g N P:=by
 obtain ⟨f,h1,h2⟩:=h;exact ⟨f,h1,fun i hi=>(h2 i hi).more hm⟩
theorem qax.congr {M:Nat->Prop} {w:World} {D g N:Nat} {P Q:Nat->List Tm} (h:qax M w D g N P) (hs : ∀ i,i<N->Sim (P i) (Q i)):qax M w D g N Q:=by
 obtain ⟨f,h1,h2⟩:=h;exact ⟨f,h1,fun i hi=>(h2 i hi).sim (hs i hi)⟩


theorem qfl {w:World} {b o:Nat} {m:Mo} (h2:w.cell? ⟨b,o+2,none⟩=some (.int .i64 m.a)) (h3:w.cell? ⟨b,o+3,none⟩=some (.int .i64 m.b)) (h4:w.cell? ⟨b,o+4,none⟩=some (.int .i64 m.c)) (h5:w.cell? ⟨b,o+5,none⟩=some (.int .i64 m.d)) (j:Nat) (hj:j<4):w.cell? ⟨b,o+2+j,none⟩=some (.int .i64 (m.get (j+1))):=by
 match j,hj with
 | 0,_=>exact h2
 | 1,_=>exact h3
 | 2,_=>exact h4
 | 3,_=>exact h5
def qaU (M:Nat->Prop) (w:World) (L:Nat) (l:List Tm) (e:Ending) (w':World):Prop:=
 ∃ c0 c1 c2 c3,e = .returned (.agg #[c0,c1,c2,c3])/\CR M w' L c0 c1 c2 c3 l/\Ext w w'
def qhf (L:Nat):Prop:=∀ (M:Nat->Prop) (v:Value) (n:Nat) (z:Nat->Int) (x:Nat->TE) (w:World),Mb M w->qce M w v n z x->(∀ i,i<n->qbw M w (.bool (x i).b) (.slice (x i).a (x i).n (x i).p) (z i))->qbk (xls n z x)->qeh L (xls n z x)->(∀ i,i<n -> ∀ k,(x i).m.get k<=1073741824) ->
 Calls Tryz.prog 99 #[v,.int .i64 (L:Int)] w (qaU M w L (qeA L (xls n z x)))
theorem qb7 {n:Nat} {z:Nat->Int} {x:Nat->TE} {i:Nat} (hi:i<n):(z i,(x i).m) ∈ xls n z x:=List.mem_map.2 ⟨i,by simpa using hi,rfl⟩
theorem qbx {n:Nat} {z:Nat->Int} {x:Nat->TE} {t:Tm} (h:t ∈ xls n z x) : ∃ i,i<n/\t=(z i,(x i).m):=by
 obtain ⟨i,hi,rfl⟩:=List.mem_map.1 h;exact ⟨i,by simpa using hi,rfl⟩
theorem qcw {m:Mo} (h:m.nn=true) (k:Nat):0<=m.get k:=by
 simp only [Mo.nn,Bool.and_eq_true,decide_eq_true_eq] at h;unfold Mo.get
 repeat' split
 all_goals omega
theorem qj9 {n:Nat} {z:Nat->Int} {x:Nat->TE} (h:qbk (xls n z x)) {i j:Nat} (hij:i<j) (hj:j<n):Mo.lt (x j).m (x i).m:=by
 have h1:=List.pairwise_iff_getElem.1 h.1 i j (by rw [qeZ];omega) (by rw [qeZ];exact hj) hij;simpa [xls] using h1
theorem qdV {n:Nat} {z:Nat->Int} {x:Nat->TE} (h:qbk (xls n z x)) {L:Nat} (ha:qeh L (xls n z x)) (h1:1<=L) (h4:L<=4) {i j:Nat} (hij:i<=j) (hj:j<n):(x j).m.get L<=(x i).m.get L:=by
 rcases Nat.lt_or_ge i j with hlt | hge
 ·exact qss h1 h4 (qj9 h hlt hj) fun k hk hk4=>ha _ (qb7 hj) _ (qb7 (by omega)) k hk hk4
 ·have:i=j:=by omega
  subst this;exact Int.le_refl _
theorem qce.sub {M : Nat -> Prop} {w : World} {b off cap n : Nat} {z : Nat -> Int} {x : Nat -> TE} (h : qce M w (.slice (some ⟨b, off, none⟩) n cap) n z x) (s e : Nat) (hs : s <= e) (he : e <= n) :
  qce M w (.slice (some ⟨b,off+s*6,none⟩) (e - s) (cap - s)) (e - s) (fun i=>z (s+i)) (fun i=>x (s+i)):=by
 obtain ⟨h1,h2,h3⟩:=h;refine ⟨by omega,?_,fun i hi=>h3 (s+i) (by omega)⟩;rcases h2 with ⟨⟨_,_,hv,hm⟩,h2⟩ | ⟨b',off',cap',hv,hn,hc,hb,hk⟩
 ·simp only [Value.slice.injEq] at hv;obtain ⟨_,hv1,hv2⟩:=hv;exact .inl ⟨⟨_,cap - s,by rw [show e - s=0 by omega],by omega⟩,by omega⟩
 ·simp only [Value.slice.injEq,Option.some.injEq,Addr.mk.injEq,and_true,true_and] at hv;obtain ⟨⟨rfl,rfl⟩,rfl⟩:=hv;refine .inr ⟨b,off+s*6,cap - s,rfl,by omega,by omega,hb,fun i hi=>?_⟩;have:=hk (s+i) (by omega);rw [show off+(s+i)*6=off+s*6+i*6 by omega] at this;exact this
theorem qf9 (s e:Nat) (z:Nat->Int) (x:Nat->TE) (h:s<=e):xls e z x=xls s z x ++ xls (e - s) (fun i=>z (s+i)) (fun i=>x (s+i)):=by
 obtain ⟨k,rfl⟩ : ∃ k,e=s+k:=⟨e - s,by omega⟩;rw [Nat.add_sub_cancel_left];clear h
 induction k with
 | zero=>simp [xls]
 | succ k ih=>rw [<- Nat.add_assoc,qf8,ih,qf8,List.append_assoc]
theorem qbk.sub {n:Nat} {z:Nat->Int} {x:Nat->TE} (h:qbk (xls n z x)) (s e:Nat) (hs:s<=e) (he:e<=n):qbk (xls (e - s) (fun i=>z (s+i)) (fun i=>x (s+i))):=by
 rw [qf9 e n z x he,qf9 s e z x hs] at h;refine ⟨(List.pairwise_append.1 (List.pairwise_append.1 h.1).1).2.1,fun t ht=>h.2 t (List.mem_append_left _ (List.mem_append_right _ ht))⟩
theorem qow {L:Nat} {e:Int} {l:List Tm} (h : ∀ t ∈ l,t.2.get L=e):grp L e l=l:=List.filter_eq_self.2 fun t ht=>by simp [h t ht]
theorem qjN {L:Nat} {e:Int} {l:List Tm} (h : ∀ t ∈ l,t.2.get L≠e):grp L e l = []:=List.filter_eq_nil_iff.2 fun t ht=>by simp [h t ht]
end Go.Proofs.YtmcfpnmoklnhoaaGreat
