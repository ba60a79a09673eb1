/- Determinants, plain: operations on the columns. Subresultants as determinants, plain: Euclid's step, exchange, factors. Subresultants of polynomials in several variables: the determinant, and its values. The subresultants of two polynomials by the sequence of remainders, plain: start and step. The subresultants of two polynomials by the sequence of remainders, plain: the invariant. Exact division of a multiple, plain: the rests that come up. pseudo.exactCoefs, where the division is exact. pseudo.exact at two polynomials with the same main variable, where the division is exact. pseudo.exact, Exact and subresultant.quotient, where the division is exact. Subresultants: sizes; the calls of the remainder sequence. subresultant.descend answers the subresultants. subresultant.Chain and Psc at any degrees: the subresultants. cylinderlaw25.fit, by the subresultants; power. SubresultantExchange: the walk. -/
import Derived.Test.YtmcfpnmoklnhoaaGreatRc
import Derived.Test.YtmcfpnmoklnhoaaGreatSa
import Derived.Test.YtmcfpnmoklnhoaaGreatSb
set_option linter.unusedVariables false
set_option maxRecDepth 100000
set_option maxHeartbeats 400000000
set_option linter.unusedSimpArgs false

namespace Go.Proofs.YtmcfpnmoklnhoaaGreat

theorem qjf (c:Nat):sg1 (c+1) = - sg1 c:=by
 unfold sg1
 by_cases h:c % 2=0
 ·rw [if_pos h,if_neg (by omega)]
 ·rw [if_neg h,if_pos (by omega)];rfl
theorem qcb {D E F:(Nat->Nat->Int)->Int} {a b c:Nat->Nat->Int} {s t:Int} : ∀ n,(∀ d,d<n->a 0 d*D (mnI a d)=s*(b 0 d*E (mnI b d))+t*(c 0 d*F (mnI c d)))->qaP D a n=s*qaP E b n+t*qaP F c n
 | 0,_=>by simp [qaP]
 | n+1,h=>by
  have ih:=qcb n fun d hd=>h d (by omega);have h1:=h n (by omega);simp only [qaP];rw [ih,h1];generalize b 0 n*E (mnI b n)=u;generalize c 0 n*F (mnI c n)=v;generalize qaP E b n=p;generalize qaP F c n=q;generalize sg1 n=g
  grind
theorem qj4 : ∀ (n:Nat) (a b c:Nat->Nat->Int) (k:Nat) (s t:Int),k<n->(∀ r i,i≠k->a r i=b r i)->(∀ r i,i≠k->a r i=c r i)->(∀ r,a r k=s*b r k+t*c r k)->qbo n a=s*qbo n b+t*qbo n c
 | 0,_,_,_,_,_,_,hk,_,_,_=>absurd hk (Nat.not_lt_zero _)
 | n+1,a,b,c,k,s,t,hk,hb,hc,hw=>by
  refine qcb (n+1) fun d hd=>?_
  by_cases hdk:d=k
  ·subst hdk;have e1:mnI a d=mnI b d:=funext fun r=>funext fun j=>hb _ _ (by split <;> omega);have e2:mnI a d=mnI c d:=funext fun r=>funext fun j=>hc _ _ (by split <;> omega);rw [<- e1,<- e2,hw];generalize qbo n (mnI a d)=u;generalize b 0 d=p;generalize c 0 d=q
   grind
  ·rw [hb 0 d hdk,<- hc 0 d hdk,hb 0 d hdk]
   have ih:=qj4 n (mnI a d) (mnI b d) (mnI c d) (if k<d then k else k - 1) s t (by split <;> omega) (fun r i hi=>hb _ _ (by split at hi <;> split <;> omega)) (fun r i hi=>hc _ _ (by split at hi <;> split <;> omega)) fun r=>by
    have e:(if (if k<d then k else k - 1)<d then (if k<d then k else k - 1) else (if k<d then k else k - 1)+1)=k:=by
     by_cases h:k<d
     ·simp [h]
     ·simp only [h,if_false];rw [if_neg (by omega)];omega
    show a (r+1) _=s*b (r+1) _+t*c (r+1) _;rw [e];exact hw _
   rw [ih];generalize qbo n (mnI b d)=u;generalize qbo n (mnI c d)=v;generalize b 0 d=p
   grind
theorem qcC {D:(Nat->Nat->Int)->Int} {a:Nat->Nat->Int} : ∀ n,(∀ d,d<n->a 0 d*D (mnI a d)=0)->qaP D a n=0
 | 0,_=>rfl
 | n+1,h=>by
  simp only [qaP];rw [qcC n fun d hd=>h d (by omega),h n (by omega)];simp
theorem qh3 {D:(Nat->Nat->Int)->Int} {a:Nat->Nat->Int} {k:Nat} (h2:a 0 k*D (mnI a k)=a 0 (k+1)*D (mnI a (k+1))) : ∀ n,k+1<n->(∀ d,d<n->d≠k->d≠k+1->a 0 d*D (mnI a d)=0)->qaP D a n=0
 | 0,h,_=>absurd h (Nat.not_lt_zero _)
 | n+1,hn,h=>by
  by_cases e:n=k+1
  ·subst e;simp only [qaP];rw [qcC k fun d hd=>h d (by omega) (by omega) (by omega),h2,qjf];generalize a 0 (k+1)*D (mnI a (k+1))=u;generalize sg1 k=g
   grind
  ·simp only [qaP];rw [qh3 h2 n (by omega) fun d hd=>h d (by omega),h n (by omega) (by omega) (by omega)];simp
theorem qgW : ∀ (n:Nat) (a:Nat->Nat->Int) (k:Nat),k+1<n->(∀ r,a r k=a r (k+1))->qbo n a=0
 | 0,_,_,hk,_=>absurd hk (Nat.not_lt_zero _)
 | n+1,a,k,hk,h=>by
  refine qh3 (k:=k) ?_ (n+1) hk fun d hd h1 h2=>?_
  ·have e : mnI a k = mnI a (k + 1) := funext fun r => funext fun j => by
    show a (r+1) _=a (r+1) _
    by_cases hj:j=k
    ·subst hj;rw [if_neg (Nat.lt_irrefl _),if_pos (by omega)];exact (h _).symm
    ·by_cases hl:j<k
     ·rw [if_pos hl,if_pos (by omega)]
     ·rw [if_neg hl,if_neg (by omega)]
   rw [e,h 0]
  ·have hz : qbo n (mnI a d) = 0 := by
    by_cases hl:d<k
    ·refine qgW n _ (k - 1) (by omega) fun r=>?_;show a (r+1) _=a (r+1) _;rw [if_neg (by omega),if_neg (by omega),show k - 1+1=k by omega];exact h _
    ·refine qgW n _ k (by omega) fun r=>?_;show a (r+1) _=a (r+1) _;rw [if_pos (by omega),if_pos (by omega)];exact h _
   rw [hz,Int.mul_zero]
def qhh (L:List (Nat->Int)):Nat->Nat->Int:=fun r c=>L.getD c (fun _=>0) r
def dt (L:List (Nat->Int)):Int:=qbo L.length (qhh L)
theorem qjP {A B:List (Nat->Int)} {u v:Nat->Int} : ∀ {c:Nat},c≠A.length->(A ++ u :: B).getD c (fun _=>0)=(A ++ v :: B).getD c (fun _=>0):=by
 induction A with
 | nil=>intro c hc;cases c with
  | zero=>exact absurd rfl hc
  | succ c=>rfl
 | cons a A ih=>intro c hc;cases c with
  | zero=>rfl
  | succ c=>exact ih (c:=c) (fun e=>hc (by simp [e]))
theorem qd9 {A B:List (Nat->Int)} {u:Nat->Int} : (A ++ u :: B).getD A.length (fun _=>0)=u:=by
 induction A with
 | nil=>rfl
 | cons a A ih=>exact ih
theorem qhZ {A B:List (Nat->Int)} {w u v:Nat->Int} (s t:Int) (h : ∀ r,w r=s*u r+t*v r):dt (A ++ w :: B)=s*dt (A ++ u :: B)+t*dt (A ++ v :: B):=by
 have e : ∀ u:Nat->Int,dt (A ++ u :: B)=qbo (A.length+(B.length+1)) (qhh (A ++ u :: B)):=fun u=>by unfold dt;rw [List.length_append,List.length_cons]
 rw [e,e,e];refine qj4 _ _ _ _ A.length s t (by omega) (fun r i hi=>congrFun (qjP hi) r) (fun r i hi=>congrFun (qjP hi) r) fun r=>?_;show (A ++ w :: B).getD A.length (fun _=>0) r=s*(A ++ u :: B).getD A.length (fun _=>0) r+t*(A ++ v :: B).getD A.length (fun _=>0) r;rw [qd9,qd9,qd9];exact h r
theorem qj1 (A B:List (Nat->Int)) (u:Nat->Int):dt (A ++ u :: u :: B)=0:=by
 unfold dt;refine qgW _ _ A.length (by simp) fun r=>?_;show (A ++ u :: u :: B).getD A.length (fun _=>0) r=(A ++ u :: u :: B).getD (A.length+1) (fun _=>0) r;rw [qd9,show A ++ u :: u :: B=(A ++ [u]) ++ u :: B by simp,show A.length+1=(A ++ [u]).length by simp,qd9]
theorem qqW (A B:List (Nat->Int)) (u v:Nat->Int):dt (A ++ u :: v :: B) = - dt (A ++ v :: u :: B):=by
 have h0:=qj1 A B (fun r=>u r+v r)
 have h1:=qhZ (A:=A) (B:=(fun r=>u r+v r) :: B) (w:=fun r=>u r+v r) (u:=u) (v:=v) 1 1 fun r=>by omega
 have h2:=qhZ (A:=A ++ [u]) (B:=B) (w:=fun r=>u r+v r) (u:=u) (v:=v) 1 1 fun r=>by omega
 have h3:=qhZ (A:=A ++ [v]) (B:=B) (w:=fun r=>u r+v r) (u:=u) (v:=v) 1 1 fun r=>by omega
 simp only [List.append_assoc,List.singleton_append] at h2 h3;have h4:=qj1 A B u;have h5:=qj1 A B v;omega
def sgk (k:Nat):Int:=if k % 2=0 then 1 else -1
theorem qeC (k:Nat):sgk (k+1) = - sgk k:=qjf k
theorem qlD (j k:Nat):sgk (j+k)=sgk j*sgk k:=by
 induction k with
 | zero=>simp [sgk]
 | succ k ih=>rw [<- Nat.add_assoc,qeC,qeC,ih];grind
theorem qr0 (k:Nat):sgk k*sgk k=1:=by unfold sgk;split <;> rfl
theorem qje {k:Nat} (h:k % 2=0):sgk k=1:=if_pos h
theorem qip (k:Nat):(-1:Int) ^ k=sgk k:=by
 induction k with
 | zero=>rfl
 | succ k ih=>rw [Int.pow_succ,ih,qeC];omega
theorem qgR (B:List (Nat->Int)) (u:Nat->Int) : ∀ (X A:List (Nat->Int)),dt (A ++ u :: (X ++ B))=sgk X.length*dt (A ++ (X ++ u :: B))
 | [],A=>by simp [sgk]
 | x :: X,A=>by
  rw [List.cons_append,qqW A (X ++ B) u x,show A ++ x :: u :: (X ++ B)=(A ++ [x]) ++ u :: (X ++ B) by simp,qgR B u X (A ++ [x]),List.length_cons,qeC];simp only [List.append_assoc,List.cons_append,List.nil_append];generalize dt (A ++ x :: (X ++ u :: B))=d;generalize sgk _=g
  grind
theorem qgS (Y B:List (Nat->Int)) : ∀ (X A:List (Nat->Int)),dt (A ++ (X ++ (Y ++ B)))=sgk (X.length*Y.length)*dt (A ++ (Y ++ (X ++ B)))
 | [],A=>by simp [sgk]
 | x :: X,A=>by
  have h1:=qgS Y B X (A ++ [x]);have h2:=qgR (X ++ B) x Y A;rw [List.length_cons,Nat.add_mul,Nat.one_mul,qlD];simp only [List.append_assoc,List.cons_append,List.nil_append] at h1 h2 ⊢;rw [h1,h2];generalize dt _=d;generalize sgk (X.length*Y.length)=g;generalize sgk Y.length=k
  grind
theorem qsM (A B:List (Nat->Int)) {u:Nat->Int} (h:u ∈ B):dt (A ++ u :: B)=0:=by
 obtain ⟨X,Y,rfl⟩:=List.append_of_mem h;rw [qgR (u :: Y) u X A,<- List.append_assoc,qj1,Int.mul_zero]
def lcI:List (Int × (Nat->Int))->Nat->Int
 | [],_=>0
 | p :: l,r=>p.1*p.2 r+lcI l r
theorem qmX (A B:List (Nat->Int)) (u:Nat->Int) (s:Int) : ∀ (ps:List (Int × (Nat->Int))) (w:Nat->Int),(∀ p ∈ ps,p.2 ∈ B)->(∀ r,w r=s*u r+lcI ps r)->dt (A ++ w :: B)=s*dt (A ++ u :: B)
 | [],w,_,h=>by
  have:=qhZ (A:=A) (B:=B) (w:=w) (u:=u) (v:=u) s 0 fun r=>by rw [h r];simp [lcI]
  rw [this];simp
 | p :: ps,w,hm,h=>by
  have h1:=qhZ (A:=A) (B:=B) (w:=w) (u:=fun r=>s*u r+lcI ps r) (v:=p.2) 1 p.1 fun r=>by rw [h r];simp only [lcI];omega
  rw [h1,qmX A B u s ps _ (fun q hq=>hm q (List.mem_cons_of_mem _ hq)) fun r=>rfl,qsM A B (hm p List.mem_cons_self)];omega
theorem qiR {α:Type} (B:List (Nat->Int)) (s:Int) (W U:α->Nat->Int) : ∀ (ks:List α) (A:List (Nat->Int)),(∀ k ∈ ks,∃ ps:List (Int × (Nat->Int)),(∀ p ∈ ps,p.2 ∈ B) /\ ∀ r,W k r=s*U k r+lcI ps r)->dt (A ++ (ks.map W ++ B))=s ^ ks.length*dt (A ++ (ks.map U ++ B))
 | [],A,_=>by simp
 | k :: ks,A,h=>by
  obtain ⟨ps,h1,h2⟩:=h k List.mem_cons_self;have ih:=qiR B s W U ks (A ++ [U k]) fun q hq=>h q (List.mem_cons_of_mem _ hq);have h3:=qmX A (ks.map W ++ B) (U k) s ps (W k) (fun p hp=>List.mem_append_right _ (h1 p hp)) h2;simp only [List.append_assoc,List.map_cons,List.cons_append,List.nil_append,List.length_cons] at ih h3 ⊢;rw [h3,ih,Int.pow_succ];generalize dt _=d;generalize s ^ ks.length=q
  grind
theorem dt_null (A B:List (Nat->Int)) {w:Nat->Int} (h : ∀ r,w r=0):dt (A ++ w :: B)=0:=by
 rw [qhZ (u:=w) (v:=w) 0 0 fun r=>by rw [h r];rfl];simp
def tlI (v:Nat->Int):Nat->Int:=fun r=>v (r+1)
theorem qmC : ∀ (B:List (Nat->Int)) (c r:Nat),(B.map tlI).getD c (fun _=>0) r=B.getD c (fun _=>0) (r+1)
 | [],_,_=>by simp
 | b :: B,0,r=>rfl
 | b :: B,c+1,r=>qmC B c r
theorem qh4 {D:(Nat->Nat->Int)->Int} {a:Nat->Nat->Int} : ∀ n,(∀ d,1<=d->d<n+1->a 0 d=0)->qaP D a (n+1)=a 0 0*D (mnI a 0)
 | 0,_=>by simp [qaP,sg1]
 | n+1,h=>by
  show qaP D a (n+1)+sg1 (n+1)*(a 0 (n+1)*D (mnI a (n+1)))=_;rw [qh4 n fun d h1 h2=>h d h1 (by omega),h (n+1) (by omega) (by omega)];simp
theorem qmD {B:List (Nat->Int)} (h : ∀ v ∈ B,v 0=0) : ∀ c,B.getD c (fun _=>0) 0=0:=by
 induction B with
 | nil=>intro c;simp
 | cons b B ih=>intro c;cases c with
  | zero=>exact h b List.mem_cons_self
  | succ c=>exact ih (fun v hv=>h v (List.mem_cons_of_mem _ hv)) c
theorem qj0 (u:Nat->Int) {B:List (Nat->Int)} (h : ∀ v ∈ B,v 0=0):dt (u :: B)=u 0*dt (B.map tlI):=by
 unfold dt;rw [List.length_map];show qaP (qbo B.length) (qhh (u :: B)) (B.length+1)=_
 rw [qh4 B.length fun d h1 h2=>by
  obtain ⟨c,rfl⟩ : ∃ c,d=c+1:=⟨d - 1,by omega⟩
  exact qmD h c]
 have e:mnI (qhh (u :: B)) 0=qhh (B.map tlI):=funext fun r=>funext fun j=>(qmC B j r).symm;rw [e];rfl
theorem qqX {B:List (Nat->Int)} (hB:B ≠ []) (h : ∀ v ∈ B,v 0=0):dt B=0:=by
 cases B with
 | nil=>exact absurd rfl hB
 | cons u B=>rw [qj0 u fun v hv=>h v (List.mem_cons_of_mem _ hv),h u List.mem_cons_self,Int.zero_mul]
theorem qpG (u:Nat->Int):dt [u]=u 0:=by
 rw [qj0 u fun v hv=>absurd hv (by simp)];show u 0*qbo 0 _=_;simp [qbo]


structure Pv where
 c:Nat->Int
 v:Int
def Pv.sh (ξ:Int) (i:Nat) (p:Pv):Pv:=⟨fun k=>if k<i then 0 else p.c (k - i),ξ ^ i*p.v⟩
def Pv.vec (T j:Nat) (p:Pv):Nat->Int:=fun r=>if r<T - j then p.c (T - r) else p.v
def dn:Nat->List Nat
 | 0=>[]
 | n+1=>n :: dn n
theorem qfm {k:Nat} : ∀ {n:Nat},k ∈ dn n↔k<n
 | 0=>by simp [dn]
 | n+1=>by simp only [dn,List.mem_cons,qfm];omega
theorem qhK : ∀ n,(dn n).length=n
 | 0=>rfl
 | n+1=>by simp only [dn,List.length_cons,qhK]
def sm (f:Nat->Int):Nat->Int
 | 0=>0
 | n+1=>f n+sm f n
theorem qc8 {f g:Nat->Int} : ∀ n,(∀ i,i<n->f i=g i)->sm f n=sm g n
 | 0,_=>rfl
 | n+1,h=>by simp only [sm];rw [h n (by omega),qc8 n fun i hi=>h i (by omega)]
theorem qjb (c:Int) (f:Nat->Int) : ∀ n,sm (fun i=>c*f i) n=c*sm f n
 | 0=>by simp [sm]
 | n+1=>by simp only [sm];rw [qjb c f n,Int.mul_add]
theorem qlA {f:Nat->Int} : ∀ n,(∀ i,i<n->f i=0)->sm f n=0
 | 0,_=>rfl
 | n+1,h=>by simp only [sm];rw [h n (by omega),qlA n fun i hi=>h i (by omega)];rfl
theorem qpA (g:Nat->Int × (Nat->Int)) (r:Nat) : ∀ n,lcI ((dn n).map g) r=sm (fun i=>(g i).1*(g i).2 r) n
 | 0=>rfl
 | n+1=>by simp only [dn,List.map_cons,lcI,sm];rw [qpA g r n]
def bl (ξ:Int) (P:Pv) (n:Nat):List Pv:=(dn n).map fun i=>P.sh ξ i
theorem qb0 (ξ:Int) (P:Pv) (n:Nat):(bl ξ P n).length=n:=by unfold bl;rw [List.length_map,qhK]
theorem qjB {ξ:Int} {P w:Pv} {n:Nat} (h:w ∈ bl ξ P n) : ∃ i,i<n/\w=P.sh ξ i:=by
 obtain ⟨i,hi,e⟩:=List.mem_map.1 h;exact ⟨i,qfm.1 hi,e.symm⟩
def DD (T j:Nat) (L:List Pv):Int:=dt (L.map (Pv.vec T j))
def dS (ξ:Int) (j m n:Nat) (F G:Pv):Int:=DD (m+n - j - 1) j (bl ξ F (n - j) ++ bl ξ G (m - j))
theorem qrR {T j:Nat} (h:j<=T) (p:Pv):tlI (p.vec (T+1) j)=p.vec T j:=funext fun r=>by
 unfold tlI Pv.vec
 by_cases hr:r<T - j
 ·rw [if_pos (by omega),if_pos hr,show T+1 - (r+1)=T - r by omega]
 ·rw [if_neg (by omega),if_neg hr]
theorem qrK {T j:Nat} (h:j<T) (p:Pv):p.vec T j 0=p.c T:=by
 unfold Pv.vec;rw [if_pos (by omega)];rfl
theorem qsf {ξ:Int} {j d p T:Nat} {P:Pv} {R:List Pv} (hT:T+1=d+p) (hj:j<=T) (hP : ∀ k,d<k->P.c k=0) (hR : ∀ w ∈ R,∀ k,T<k->w.c k=0) : ∀ q,DD (T+q) j (bl ξ P (q+p) ++ R)=P.c d ^ q*DD T j (bl ξ P p ++ R)
 | 0=>by rw [Nat.zero_add];simp
 | q+1=>by
  rw [show q+1+p=(q+p)+1 by omega,show T+(q+1)=(T+q)+1 by omega];show dt ((P.sh ξ (q+p)).vec (T+q+1) j :: (bl ξ P (q+p) ++ R).map (Pv.vec (T+q+1) j))=_;rw [qj0 _ fun v hv=>?_,List.map_map,show (tlI ∘ Pv.vec (T+q+1) j)=Pv.vec (T+q) j from funext fun p=>qrR (by omega) p]
  ·show _*DD (T+q) j (bl ξ P (q+p) ++ R)=_;rw [qsf hT hj hP hR q,qrK (by omega)]
   have e:(P.sh ξ (q+p)).c (T+q+1)=P.c d:=by
    show (if T+q+1<q+p then 0 else P.c (T+q+1 - (q+p)))=_
    by_cases h:T+q+1<q+p
    ·omega
    ·rw [if_neg h];congr 1;omega
   rw [e,Int.pow_succ];generalize DD T j _=u;generalize P.c d ^ q=v
   grind
  ·obtain ⟨w,hw,rfl⟩:=List.mem_map.1 hv;rw [qrK (by omega)];rcases List.mem_append.1 hw with h | h
   ·obtain ⟨i,hi,rfl⟩:=qjB h;show (if T+q+1<i then 0 else P.c (T+q+1 - i))=0
    split
    ·rfl
    ·exact hP _ (by omega)
   ·exact hR w h _ (by omega)
theorem qkk (T j:Nat) (X Y:List Pv):DD T j (X ++ Y)=sgk (X.length*Y.length)*DD T j (Y ++ X):=by
 have h:=qgS (Y.map (Pv.vec T j)) [] (X.map (Pv.vec T j)) [];simp only [List.nil_append,List.append_nil,List.length_map] at h;unfold DD;rw [List.map_append,List.map_append];exact h
theorem qm9 (ξ:Int) (j m n:Nat) (F G:Pv):dS ξ j n m G F=sgk ((m - j)*(n - j))*dS ξ j m n F G:=by
 unfold dS;rw [qkk,qb0,qb0,Nat.add_comm n m]
theorem qrB (ξ:Int) (T j n:Nat) (s:Int) (A B:List Pv) (W U:Pv) (h : ∀ k,k<n -> ∃ ps:List (Int × (Nat->Int)),(∀ p ∈ ps,p.2 ∈ B.map (Pv.vec T j)) /\ ∀ r,(W.sh ξ k).vec T j r=s*(U.sh ξ k).vec T j r+lcI ps r):DD T j (A ++ (bl ξ W n ++ B))=s ^ n*DD T j (A ++ (bl ξ U n ++ B)):=by
 have h1:=qiR (B.map (Pv.vec T j)) s (fun k=>(W.sh ξ k).vec T j) (fun k=>(U.sh ξ k).vec T j) (dn n) (A.map (Pv.vec T j)) fun k hk=>h k (qfm.1 hk);rw [qhK] at h1;unfold DD bl;simp only [List.map_append,List.map_map];exact h1
def Pv.Mul (s:Int) (U W:Pv):Prop:=(∀ k,W.c k=s*U.c k)/\W.v=s*U.v
theorem Pv.Mul.vec {s:Int} {U W:Pv} (h:Pv.Mul s U W) (ξ:Int) (T j k r:Nat):(W.sh ξ k).vec T j r=s*(U.sh ξ k).vec T j r+lcI [] r:=by
 show (if r<T - j then (if T - r<k then 0 else W.c (T - r - k)) else ξ ^ k*W.v)=s*(if r<T - j then (if T - r<k then 0 else U.c (T - r - k)) else ξ ^ k*U.v)+0;rw [h.1,h.2]
 split
 ·split
  ·simp
  ·simp
 ·generalize ξ ^ k=q
  grind
theorem dS_mul {ξ:Int} {c d:Int} {F F' G G':Pv} (h:Pv.Mul c F F') (k:Pv.Mul d G G') (j m n:Nat):dS ξ j m n F' G'=c ^ (n - j)*(d ^ (m - j)*dS ξ j m n F G):=by
 unfold dS;have h1:=qrB ξ (m+n - j - 1) j (n - j) c [] (bl ξ G' (m - j)) F' F fun i _=>⟨[],fun p hp=>absurd hp (by simp),h.vec ξ _ _ i⟩;have h2:=qrB ξ (m+n - j - 1) j (m - j) d (bl ξ F (n - j)) [] G' G fun i _=>⟨[],fun p hp=>absurd hp (by simp),k.vec ξ _ _ i⟩;simp only [List.nil_append,List.append_nil] at h1 h2;rw [h1,h2]
structure Eu (ξ s:Int) (q:Nat->Int) (V:Nat) (F G R:Pv):Prop where
 c : ∀ k,R.c k=s*F.c k+sm (fun i=>q i*(G.sh ξ i).c k) V
 v:R.v=s*F.v+sm (fun i=>q i*(G.sh ξ i).v) V
theorem Eu.vec {ξ s:Int} {q:Nat->Int} {V:Nat} {F G R:Pv} (h:Eu ξ s q V F G R) (T j k r:Nat):(R.sh ξ k).vec T j r=s*(F.sh ξ k).vec T j r+lcI ((dn V).map fun i=>(q i,(G.sh ξ (i+k)).vec T j)) r:=by
 rw [qpA];show (if r<T - j then (if T - r<k then 0 else R.c (T - r - k)) else ξ ^ k*R.v)=s*(if r<T - j then (if T - r<k then 0 else F.c (T - r - k)) else ξ ^ k*F.v)+sm (fun i=>q i*(if r<T - j then (if T - r<i+k then 0 else G.c (T - r - (i+k))) else ξ ^ (i+k)*G.v)) V
 by_cases hr:r<T - j
 ·simp only [if_pos hr]
  by_cases hk:T - r<k
  ·simp only [if_pos hk];rw [qlA V fun i _=>by rw [if_pos (by omega),Int.mul_zero]];simp
  ·simp only [if_neg hk];rw [h.c]
   congr 1
   refine qc8 V fun i _=>?_
   congr 1
   show (if T - r - k<i then 0 else G.c (T - r - k - i))=_
   by_cases hi:T - r - k<i
   ·rw [if_pos hi,if_pos (by omega)]
   ·rw [if_neg hi,if_neg (by omega),show T - r - (i+k)=T - r - k - i by omega]
 ·simp only [if_neg hr];rw [h.v,Int.mul_add,<- qjb]
  congr 1
  ·generalize ξ ^ k=u
   grind
  ·refine qc8 V fun i _=>?_;show ξ ^ k*(q i*(ξ ^ i*G.v))=_;rw [Int.pow_add];generalize ξ ^ k=u;generalize ξ ^ i=w
   grind
theorem qty {ξ s:Int} {q:Nat->Int} {j m n δ:Nat} {F G R:Pv} (hm:m=n+δ) (hj:j<n) (hG : ∀ k,n<k->G.c k=0) (hR : ∀ k,n<=k->R.c k=0) (h:Eu ξ s q (δ+1) F G R):s ^ (n - j)*dS ξ j m n F G=sgk ((n - j)*(m - j))*(G.c n ^ (δ+1)*dS ξ j n (n - 1) G R):=by
 have h1:=qrB ξ (m+n - j - 1) j (n - j) s [] (bl ξ G (m - j)) R F fun k hk=>⟨_,fun p hp=>by
  obtain ⟨i,hi,rfl⟩:=List.mem_map.1 hp;refine List.mem_map.2 ⟨G.sh ξ (i+k),List.mem_map.2 ⟨i+k,qfm.2 ?_,rfl⟩,rfl⟩;have:=qfm.1 hi
  omega,h.vec (m+n - j - 1) j k⟩
 have h2:=qkk (m+n - j - 1) j (bl ξ R (n - j)) (bl ξ G (m - j))
 have h3:=qsf (ξ:=ξ) (j:=j) (d:=n) (p:=n - 1 - j) (T:=n+(n - 1) - j - 1) (P:=G) (R:=bl ξ R (n - j)) (by omega) (by omega) hG (fun w hw k hk=>by
  obtain ⟨i,hi,rfl⟩:=qjB hw;show (if k<i then 0 else R.c (k - i))=0
  split
  ·rfl
  ·exact hR _ (by omega)) (δ+1)
 simp only [List.nil_append,qb0] at h1 h2;rw [show n+(n - 1) - j - 1+(δ+1)=m+n - j - 1 by omega,show δ+1+(n - 1 - j)=m - j by omega] at h3;rw [h2,h3] at h1;exact h1.symm
theorem qsP {ξ:Int} {q:Nat->Int} {j m n δ:Nat} {F G R:Pv} (hm:m=n+δ) (hj:j<n) (hG : ∀ k,n<k->G.c k=0) (hR : ∀ k,n<=k->R.c k=0) (h:Eu ξ ((- G.c n) ^ (δ+1)) q (δ+1) F G R):(G.c n ^ (δ+1)) ^ (n - j)*dS ξ j m n F G=G.c n ^ (δ+1)*dS ξ j n (n - 1) G R:=by
 have h1:=qty hm hj hG hR h
 have e1:(- G.c n) ^ (δ+1)=sgk (δ+1)*G.c n ^ (δ+1):=by
  rw [show - G.c n=(-1)*G.c n by omega,Int.mul_pow,qip]
 have e2:(sgk (δ+1)*G.c n ^ (δ+1)) ^ (n - j)=sgk ((δ+1)*(n - j))*(G.c n ^ (δ+1)) ^ (n - j):=by
  rw [Int.mul_pow,<- qip (δ+1),<- Int.pow_mul,qip]
 have e3:sgk ((δ+1)*(n - j))*sgk ((n - j)*(m - j))=1:=by
  rw [<- qlD];refine qje ?_;obtain ⟨a,ha⟩ : ∃ a,n=j+a:=⟨n - j,by omega⟩;subst ha;subst hm;rw [show j+a - j=a by omega,show j+a+δ - j=a+δ by omega,Nat.mul_comm (δ+1) a,<- Nat.mul_add];rw [show δ+1+(a+δ)=a+1+2*δ by omega,Nat.mul_add]
  have h5:a*(a+1) % 2=0:=by
   rcases Nat.mod_two_eq_zero_or_one a with h | h
   ·rw [Nat.mul_mod,h];simp
   ·rw [Nat.mul_mod,Nat.add_mod,h]
  have h6:a*(2*δ) % 2=0:=by rw [Nat.mul_left_comm];omega
  omega
 rw [e1,e2] at h1;generalize dS ξ j m n F G=A at *;generalize dS ξ j n (n - 1) G R=B at *;generalize (G.c n ^ (δ+1)) ^ (n - j)=u at *;generalize G.c n ^ (δ+1)=w at *;generalize hx:sgk ((δ+1)*(n - j))=x at *;generalize hy:sgk ((n - j)*(m - j))=y at *
 have hxx:x*x=1:=by rw [<- hx];exact qr0 _
 have h7:x*(x*u*A)=x*(y*(w*B)):=by rw [h1]
 have h8:x*(x*u*A)=u*A:=by
  have:x*(x*u*A)=(x*x)*(u*A):=by grind
  rw [this,hxx,Int.one_mul]
 have h9:x*(y*(w*B))=w*B:=by
  have:x*(y*(w*B))=(x*y)*(w*B):=by grind
  rw [this,e3,Int.one_mul]
 rw [<- h8,<- h9];exact h7
theorem dS_drop {ξ:Int} {j d e:Nat} {A B:Pv} (hje:j<=e) (he:e<d) (hA : ∀ k,d<k->A.c k=0) (hB : ∀ k,e<k->B.c k=0):dS ξ j d (d - 1) A B=A.c d ^ (d - 1 - e)*dS ξ j d e A B:=by
 have h3:=qsf (ξ:=ξ) (j:=j) (d:=d) (p:=e - j) (T:=d+e - j - 1) (P:=A) (R:=bl ξ B (d - j)) (by omega) (by omega) hA (fun w hw k hk=>by
  obtain ⟨i,hi,rfl⟩:=qjB hw;show (if k<i then 0 else B.c (k - i))=0
  split
  ·rfl
  ·exact hB _ (by omega)) (d - 1 - e)
 rw [show d+e - j - 1+(d - 1 - e)=d+(d - 1) - j - 1 by omega,show d - 1 - e+(e - j)=d - 1 - j by omega] at h3;exact h3
theorem qtz {ξ:Int} {d e:Nat} {A B:Pv} (he:e<d) (hB : ∀ k,e<k->B.c k=0):dS ξ e d e A B=B.c e ^ (d - e - 1)*B.v:=by
 have h3:=qsf (ξ:=ξ) (j:=e) (d:=e) (p:=1) (T:=e) (P:=B) (R:=[]) (by omega) (by omega) hB (fun w hw=>absurd hw (by simp)) (d - e - 1);rw [show e+(d - e - 1)=d+e - e - 1 by omega,show d - e - 1+1=d - e by omega,List.append_nil,List.append_nil] at h3;unfold dS;rw [show e - e=0 by omega];show DD (d+e - e - 1) e ([] ++ bl ξ B (d - e))=_;rw [List.nil_append,h3]
 congr 1
 show dt [(B.sh ξ 0).vec e e]=_;rw [qpG];show (if 0<e - e then _ else ξ ^ 0*B.v)=_;rw [if_neg (by omega)];simp
theorem dS_gap {ξ:Int} {j d:Nat} {A B:Pv} (hj:j+1<d) (hA : ∀ k,d<k->A.c k=0) (hB : ∀ k,j<=k->B.c k=0):dS ξ j d (d - 1) A B=0:=by
 have h3:=qsf (ξ:=ξ) (j:=j) (d:=d) (p:=0) (T:=d - 1) (P:=A) (R:=bl ξ B (d - j)) (by omega) (by omega) hA (fun w hw k hk=>by
  obtain ⟨i,hi,rfl⟩:=qjB hw;show (if k<i then 0 else B.c (k - i))=0
  split
  ·rfl
  ·exact hB _ (by omega)) (d - 1 - j)
 rw [show d - 1+(d - 1 - j)=d+(d - 1) - j - 1 by omega,Nat.add_zero] at h3
 have h4:DD (d - 1) j (bl ξ A 0 ++ bl ξ B (d - j))=0:=by
  refine qqX ?_ fun v hv=>?_
  ·rw [show d - j=(d - j - 1)+1 by omega];simp [bl,dn]
  ·obtain ⟨w,hw,rfl⟩:=List.mem_map.1 hv;rw [qrK (by omega)];rcases List.mem_append.1 hw with h | h
   ·exact absurd h (by simp [bl,dn])
   ·obtain ⟨i,hi,rfl⟩:=qjB h;show (if d - 1<i then 0 else B.c (d - 1 - i))=0
    split
    ·rfl
    ·exact hB _ (by omega)
 rw [h4,Int.mul_zero] at h3;exact h3
theorem dS_nil {ξ:Int} {j m n:Nat} {A B:Pv} (hj:j<m) (hB : ∀ k,B.c k=0) (hv:B.v=0):dS ξ j m n A B=0:=by
 unfold dS DD bl;rw [show m - j=(m - j - 1)+1 by omega,List.map_append];refine dt_null _ _ (w:=(B.sh ξ (m - j - 1)).vec (m+n - j - 1) j) fun r=>?_;show (if _ then (if _ then 0 else B.c _) else ξ ^ _*B.v)=0;rw [hB,hv]
 split
 ·split <;> rfl
 ·simp
end Go.Proofs.YtmcfpnmoklnhoaaGreat

namespace Go.Proofs.YtmcfpnmoklnhoaaGreat
open Go.RowKit

def qtG (T j J i:Nat) (F:List Tm):Nat->List Tm:=fun r=>if r<T - j then (if T - r<i then [] else ck J ((T - r - i:Nat):Int) F) else shift (xp J (i:Int)) F
def pbl (T j J:Nat) (F:List Tm) (n:Nat):List (Nat->List Tm):=(dn n).map fun i=>qtG T j J i F
def SJ (J j m n:Nat) (F G:List Tm):List Tm:=qnG (n - j+(m - j)) fun r c=>(pbl (m+n - j - 1) j J F (n - j) ++ pbl (m+n - j - 1) j J G (m - j)).getD c (fun _=>[]) r
def pv (J:Nat) (x:Nat->Int) (F:List Tm):Pv:=⟨fun k=>ev x (ck J (k:Int) F),ev x F⟩
theorem qjQ {P:List Tm->Prop} (h0:P []) : ∀ (L:List (Nat->List Tm)),(∀ p ∈ L,∀ r,P (p r)) -> ∀ c r,P (L.getD c (fun _=>[]) r)
 | [],_,c,r=>by simpa using h0
 | p :: L,h,0,r=>h p List.mem_cons_self r
 | p :: L,h,c+1,r=>qjQ h0 L (fun q hq=>h q (List.mem_cons_of_mem _ hq)) c r
theorem qqk {P:List Tm->Prop} (h0:P []) {T j J n:Nat} {F:List Tm} (h1 : ∀ k:Nat,P (ck J (k:Int) F)) (h2 : ∀ i,i<n->P (shift (xp J (i:Int)) F)) : ∀ p ∈ pbl T j J F n,∀ r,P (p r):=fun p hp r=>by
 obtain ⟨i,hi,rfl⟩:=List.mem_map.1 hp;show P (if r<T - j then (if T - r<i then [] else ck J ((T - r - i:Nat):Int) F) else shift (xp J (i:Int)) F)
 split
 ·split
  ·exact h0
  ·exact h1 _
 ·exact h2 i (qfm.1 hi)
theorem qiJ (x:Nat->Int) : ∀ (L:List (Nat->List Tm)) (c r:Nat),ev x (L.getD c (fun _=>[]) r)=(L.map fun p r=>ev x (p r)).getD c (fun _=>0) r
 | [],c,r=>by simp [ev]
 | p :: L,0,r=>rfl
 | p :: L,c+1,r=>qiJ x L c r
section
variable {J:Nat} (h1:1<=J) (h4:J<=4)
include h1 h4
theorem qpm {T j n:Nat} {F:List Tm} (hF:NN F) : ∀ p ∈ pbl T j J F n,∀ r,NN (p r):=qqk NN.nil (fun _=>qb2 h1 h4 hF) fun _ _=>hF.shift
theorem qjc {j m n:Nat} {F G:List Tm} (hF:NN F) (hG:NN G) (T c r:Nat):NN ((pbl T j J F (n - j) ++ pbl T j J G (m - j)).getD c (fun _=>[]) r):=
 qjQ NN.nil _ (fun p hp=>(List.mem_append.1 hp).elim (qpm h1 h4 hF p) (qpm h1 h4 hG p)) c r
theorem qcJ {F G:List Tm} (hF:NN F) (hG:NN G) (j m n:Nat):NN (SJ J j m n F G):=qgD _ _ fun i k=>qjc h1 h4 hF hG _ k i
theorem qgo (x:Nat->Int) {F:List Tm} (hF:NN F) (T j i:Nat):(fun r=>ev x (qtG T j J i F r))=((pv J x F).sh (x (J - 1)) i).vec T j:=funext fun r=>by
 show ev x (if r<T - j then (if T - r<i then [] else ck J ((T - r - i:Nat):Int) F) else shift (xp J (i:Int)) F)=if r<T - j then (if T - r<i then 0 else ev x (ck J ((T - r - i:Nat):Int) F)) else x (J - 1) ^ i*ev x F
 split
 ·split
  ·rfl
  ·rfl
 ·rw [qeN x _ (qi6 J i) hF,qqU x J i h1 h4]
theorem qhW (x:Nat->Int) {F G:List Tm} (hF:NN F) (hG:NN G) (j m n:Nat):ev x (SJ J j m n F G)=dS (x (J - 1)) j m n (pv J x F) (pv J x G):=by
 unfold SJ;rw [qgQ x _ _ fun i k=>qjc h1 h4 hF hG _ k i];unfold dS DD dt
 have e:((bl (x (J - 1)) (pv J x F) (n - j) ++ bl (x (J - 1)) (pv J x G) (m - j)).map (Pv.vec (m+n - j - 1) j))=(pbl (m+n - j - 1) j J F (n - j) ++ pbl (m+n - j - 1) j J G (m - j)).map fun p r=>ev x (p r):=by
  unfold bl pbl;simp only [List.map_append,List.map_map]
  congr 1
  ·refine List.map_congr_left fun i _=>?_;exact (qgo h1 h4 x hF _ _ i).symm
  ·refine List.map_congr_left fun i _=>?_;exact (qgo h1 h4 x hG _ _ i).symm
 rw [e,List.length_map,List.length_append];unfold pbl;rw [List.length_map,List.length_map,qhK,qhK]
 congr 1
 funext r c
 exact qiJ x _ c r
theorem qnm {q c:List Tm} (hc:Fre J c) (nc:NN c) (e:Int):Sim (ck J e (pmul q c)) (pmul (ck J e q) c):=by
 have hs:=qam nc;refine (qa0 (hs.symm.pmul_right q)).trans ?_;rw [qg5 h1 h4 (fun t ht=>hc _ (by rw [<- hs t.2];exact qa1 (qaH c) ht)) q];exact hs.pmul_right _
theorem qiW {q c:List Tm} (hc:Fre J c) (nc:NN c) (e:Int):Sim (ck J e (pmul c q)) (pmul c (ck J e q)):=
 (qa0 (Sim.pmul_comm _ _)).trans ((qnm h1 h4 hc nc e).trans (Sim.pmul_comm _ _))
theorem qsT {l:List Tm} (nl:NN l) (i k:Nat):Sim (ck J (k:Int) (shift (xp J (i:Int)) l)) (if k<i then [] else ck J ((k - i:Nat):Int) l):=fun m=>by
 rw [qaQ h1 h4,qaA]
 by_cases h:m.get J=0
 ·rw [if_pos h]
  by_cases hk:k<i
  ·rw [if_pos hk];show _=0;refine nl _ ?_
   cases hn:(Mo.sub (Mo.add m (xp J (k:Int))) (xp J (i:Int))).nn with
   | false=>rfl
   | true=>
    have:=qcw hn J;rw [qbG,qas,qat J J _ h1 h4,qat J J _ h1 h4,if_pos rfl,if_pos rfl,h] at this;omega
  ·rw [if_neg hk,qaQ h1 h4,if_pos h]
   congr 1
   refine Mo.ext_get fun a _ _=>?_;rw [qbG,qas,qas,qat _ _ _ h1 h4,qat _ _ _ h1 h4,qat _ _ _ h1 h4]
   split <;> omega
 ·rw [if_neg h]
  by_cases hk:k<i
  ·rw [if_pos hk];rfl
  ·rw [if_neg hk,qaQ h1 h4,if_neg h]
theorem qeb (x:Nat->Int) {Q:Nat->List Tm} {G:List Tm} (hG:NN G) : ∀ V,(∀ i,i<V->NN (Q i))->ev x (pmul (poly J V Q) G)=sm (fun i=>ev x (Q i)*((pv J x G).sh (x (J - 1)) i).v) V
 | 0,_=>rfl
 | V+1,hQ=>by
  rw [qaf,qav,qbW,qeb x hG V fun i hi=>hQ i (by omega),qbH x (hQ V (by omega)).shift hG,qeN x _ (qi6 J V) (hQ V (by omega)),qqU x J V h1 h4];show _=ev x (Q V)*(x (J - 1) ^ V*ev x G)+_;generalize sm _ V=s;generalize x (J - 1) ^ V=t
  grind
theorem qhU (x:Nat->Int) {Q:Nat->List Tm} {G:List Tm} (hG:NN G) (k:Nat) : ∀ V,(∀ i,i<V->NN (Q i)/\Fre J (Q i))->ev x (ck J (k:Int) (pmul (poly J V Q) G))=sm (fun i=>ev x (Q i)*((pv J x G).sh (x (J - 1)) i).c k) V
 | 0,_=>rfl
 | V+1,hQ=>by
  rw [qaf,qav,qd0,qbW,qhU x hG k V fun i hi=>hQ i (by omega),qbd x (qa0 (qaJ _ _ _)),qbd x (qsT h1 h4 (qez (hQ V (by omega)).1 hG) V k)];show _=ev x (Q V)*(if k<V then 0 else ev x (ck J ((k - V:Nat):Int) G))+_
  by_cases h:k<V
  ·simp only [if_pos h];show _+0=_;generalize sm _ V=s;omega
  ·simp only [if_neg h];rw [qbd x (qiW h1 h4 (hQ V (by omega)).2 (hQ V (by omega)).1 _),qbH x (hQ V (by omega)).1 (qb2 h1 h4 hG),Int.add_comm]
theorem qtw {c F G R:List Tm} {Q:Nat->List Tm} {V:Nat} (nc:NN c) (fc:Fre J c) (nF:NN F) (nG:NN G) (hQ : ∀ i,i<V->NN (Q i)/\Fre J (Q i)) (h:Sim (pmul c F) (pmul (poly J V Q) (qbz G) ++ R)) (x:Nat->Int):Eu (x (J - 1)) (ev x c) (fun i=>ev x (Q i)) V (pv J x F) (pv J x G) (pv J x R):=by
 have nG':=qdw nG;refine ⟨fun k=>?_,?_⟩
 ·have e:=qbd x (qa0 (k:=J) (e:=(k:Int)) h);rw [qbd x (qiW h1 h4 fc nc _),qbH x nc (qb2 h1 h4 nF),qd0,qbW,qhU h1 h4 x nG' k V hQ] at e
  have e2:sm (fun i=>ev x (Q i)*((pv J x (qbz G)).sh (x (J - 1)) i).c k) V = - sm (fun i=>ev x (Q i)*((pv J x G).sh (x (J - 1)) i).c k) V:=by
   rw [show ∀ z:Int,- z=(-1)*z from fun z=>by omega,<- qjb];refine qc8 V fun i _=>?_;show ev x (Q i)*(if k<i then 0 else ev x (ck J ((k - i:Nat):Int) (qbz G))) = -1*(ev x (Q i)*(if k<i then 0 else ev x (ck J ((k - i:Nat):Int) G)))
   split
   ·simp
   ·rw [qbd x (qnl h1 h4 _ G),qhV x (qb2 h1 h4 nG)];generalize ev x (Q i)=a;generalize ev x _=b
    grind
  rw [e2] at e;show ev x (ck J (k:Int) R)=ev x c*ev x (ck J (k:Int) F)+_;omega
 ·have e:=qbd x h;rw [qbH x nc nF,qbW,qeb h1 h4 x nG' V fun i hi=>(hQ i hi).1] at e
  have e2:sm (fun i=>ev x (Q i)*((pv J x (qbz G)).sh (x (J - 1)) i).v) V = - sm (fun i=>ev x (Q i)*((pv J x G).sh (x (J - 1)) i).v) V:=by
   rw [show ∀ z:Int,- z=(-1)*z from fun z=>by omega,<- qjb];refine qc8 V fun i _=>?_;show ev x (Q i)*(x (J - 1) ^ i*ev x (qbz G)) = -1*(ev x (Q i)*(x (J - 1) ^ i*ev x G));rw [qhV x nG];generalize ev x (Q i)=a;generalize x (J - 1) ^ i=t
   grind
  rw [e2] at e;show ev x R=ev x c*ev x F+_;omega
end


theorem qmP {p u v:List Tm} (np:NN p) (nu:NN u) (nv:NN v) (hz : ¬ Sim p []) (h : ∀ x,ev x p*ev x u=ev x p*ev x v):Sim u v:=
 qbt nu nv np hz (qe8 (qez nu np) (qez nv np) fun x=>by
  rw [qbH x nu np,qbH x nv np,Int.mul_comm,h x,Int.mul_comm])
theorem qcI {l:List Tm} (h:NN l) : ∀ k,NN (qbm l k)
 | 0=>qdn 1
 | k+1=>qez (qcI h k) h
theorem qhT (x:Nat->Int) {l:List Tm} (h:NN l) : ∀ k,ev x (qbm l k)=ev x l ^ k
 | 0=>by rw [qjT,Int.pow_zero]
 | k+1=>by rw [qcu,qbH x (qcI h k) h,qhT x h k,Int.pow_succ]
theorem qsi : ¬ Sim [((1:Int),Mo.zero)] []:=fun h=>by have:=h Mo.zero;simp [qab] at this
theorem ql4 {l:List Tm} (h:NN l) (hz : ¬ Sim l []) : ∀ k,¬ Sim (qbm l k) []
 | 0=>qsi
 | k+1=>qdt (qcI h k) h (ql4 h hz k) hz
theorem qqS (J:Nat):Fre J [((1:Int),Mo.zero)]:=fun m hm=>by
 have h:m=Mo.zero:=Classical.byContradiction fun hc=>hm (by simp only [qab];rw [if_neg fun e=>hc e.symm];rfl);rw [h,qbc]
theorem qmF {J:Nat} {l:List Tm} (h:NN l) (hf:Fre J l) : ∀ k,Fre J (qbm l k)
 | 0=>qqS J
 | k+1=>(qmF h hf k).pmul hf (qcI h k)
theorem qsc {J:Nat} {l r:List Tm} (h:Sim l r) (x:Nat->Int):pv J x l=pv J x r:=by
 unfold pv;rw [qbd x h]
 congr 1
 funext k
 exact qbd x (qa0 h)
theorem qpi {J d:Nat} {l:List Tm} (h : ∀ k:Nat,d<=k->Sim (ck J (k:Int) l) []) (x:Nat->Int) (k:Nat) (hk:d<=k):(pv J x l).c k=0:=qbd x (h k hk)
theorem qq7 {J n:Nat} (h1:1<=J) (h4:J<=4) {l:List Tm} (h:DgR J l n) (x:Nat->Int) (k:Nat) (hk:n<k):(pv J x l).c k=0:=qbd x (h.ckz h1 h4 hk)
theorem qot {J n:Nat} (h1:1<=J) (h4:J<=4) {l:List Tm} (nl:NN l) (h:DgR J l n) (hz : ¬ Sim l []) : ¬ Sim (ck J (n:Int) l) []:=by
 cases n with
 | succ n=>exact h.ckn h1 h4 (by omega)
 | zero => exact fun h0 => hz (qso h1 h4 nl fun i => by
   cases i with
   | zero=>exact h0
   | succ i=>exact h.ckz h1 h4 (by omega))
theorem qr7 {J n δ:Nat} {f g:List Tm} (h1:1<=J) (h4:J<=4) (nf:NN f) (ng:NN g) (zf : ¬ Sim f []) (df:DgR J f (n+δ)) (dg:DgR J g n):NN (qdv J n (δ+1) f (qbz g))/\(∀ k:Nat,n<=k->Sim (ck J (k:Int) (qdv J n (δ+1) f (qbz g))) []) /\ ∀ x,∃ q,Eu (x (J - 1)) ((- (pv J x g).c n) ^ (δ+1)) q (δ+1) (pv J x f) (pv J x g) (pv J x (qdv J n (δ+1) f (qbz g))):=by
 obtain ⟨B,hB⟩:=qgX f;obtain ⟨C,hC⟩:=qgX g;have dg':DgR J (qbz g) n:=⟨fun m hm=>dg.1 m fun e=>hm (by rw [qaL,e];rfl),dg.2.imp id fun ⟨m,hm,e⟩=>⟨m,fun e0=>hm (by rw [qaL] at e0;omega),e⟩⟩;have H:PdH J n (δ+1) B C _ _ f (qbz g):=⟨h1,h4,nf,qdw ng,hB,qdQ hC,Nat.le_refl _,Nat.le_refl _,dg',.inr ⟨zf,n+δ,df,by omega⟩⟩;refine ⟨H.rem_nn,fun k hk=>?_,fun x=>?_⟩
 ·have e:qdv J n (δ+1) f (qbz g)=poly J n fun i=>if i<n then pdR n (δ+1) (qb3 J (qbz g)) (qb3 J f) (δ+1) i else []:=qff _ _ _ _ fun i hi=>(if_pos hi).symm
  have e2:=ckP h1 h4 (P:=fun i=>if i<n then pdR n (δ+1) (qb3 J (qbz g)) (qb3 J f) (δ+1) i else []) (fun i=>by
   by_cases h:i<n
   ·rw [if_pos h];exact (H.rest i h).2.1
   ·rw [if_neg h];exact Fre.nil _) k n
  rw [if_neg (by omega)] at e2;rw [e];exact e2
 ·have nc:=qb2 h1 h4 (e:=(n:Int)) (qdw ng);have h:=qtw h1 h4 (qcI nc _) (qmF nc (qfZ h1 h4 _ _) _) nf ng (fun i hi=>⟨(H.quo i hi).1,(H.quo i hi).2.1⟩) H.law x;rw [qhT x nc,qbd x (qnl h1 h4 _ g),qhV x (qb2 h1 h4 ng)] at h;exact ⟨_,h⟩
theorem dsKey {s la lb t Sj D1 D2 D3 : Int} {g1 X : Nat} (r1 : (s * la) ^ (g1 + 1 + X) * Sj = la ^ g1 * D1) (r2 : (lb ^ (g1 + 2)) ^ (X + 1) * D1 = lb ^ (g1 + 2) * D2) (r3 : (s ^ g1) ^ X * ((s ^ (g1 + 1) * la) ^ (X + 1) * D3) = (lb ^ g1) ^ X * D2) (r4 : s ^ g1 * t = lb ^ (g1 + 1)) :
  (lb ^ (g1+2)*la ^ g1*((s ^ g1) ^ X*(s ^ (g1+1)*la) ^ (X+1)))*((t*t) ^ X*Sj)=(lb ^ (g1+2)*la ^ g1*((s ^ g1) ^ X*(s ^ (g1+1)*la) ^ (X+1)))*D3:=by
 have e1:(lb ^ g1) ^ X*(lb ^ (g1+2)) ^ X=(s ^ g1) ^ X*(s ^ g1) ^ X*(t*t) ^ X:=by
  rw [<- Int.mul_pow,<- Int.mul_pow,<- Int.mul_pow]
  congr 1
  have:lb ^ g1*lb ^ (g1+2)=lb ^ (g1+1)*lb ^ (g1+1):=by rw [<- Int.pow_add,<- Int.pow_add];congr 1;omega
  rw [this,<- r4];generalize s ^ g1=u
  grind
 have e2:(s ^ (g1+1)*la) ^ (X+1)=(s ^ g1) ^ X*(s*la) ^ X*(s ^ g1*s*la):=by
  rw [Int.pow_succ (s ^ (g1+1)*la),Int.pow_succ s g1,Int.mul_assoc (s ^ g1) s la,Int.mul_pow]
 have e3:(s*la) ^ (g1+1+X)=s ^ g1*s*(la ^ g1*la)*(s*la) ^ X:=by
  rw [Int.pow_add,Int.mul_pow,Int.pow_succ,Int.pow_succ]
 have e4:(lb ^ (g1+2)) ^ (X+1)=(lb ^ (g1+2)) ^ X*lb ^ (g1+2):=Int.pow_succ _ _;rw [e2] at r3 ⊢;rw [e3] at r1;rw [e4] at r2;generalize (lb ^ (g1+2)) ^ X=LX at *;generalize lb ^ (g1+2)=L at *;generalize (lb ^ g1) ^ X=M at *;generalize (s ^ g1) ^ X=sX at *;generalize (s*la) ^ X=pX at *;generalize (t*t) ^ X=tX at *;generalize la ^ g1=lm at *;generalize s ^ g1=sg at *
 have a1:L*lm*(sX*(sX*pX*(sg*s*la)))*D3=L*lm*(M*D2):=by rw [<- r3];simp only [Int.mul_assoc]
 have a2:L*lm*(M*D2)=lm*M*(LX*L*D1):=by rw [r2];ac_rfl
 have a3:lm*M*(LX*L*D1)=(M*LX)*L*(lm*D1):=by ac_rfl
 rw [a1,a2,a3,e1,<- r1]
 ac_rfl


structure SSt (J m n:Nat) (f g:List Tm) (d:Nat) (a s:List Tm):Prop where
 pos:1<=d
 na:NN a
 za : ¬ Sim a []
 ns:NN s
 fs:Fre J s
 zs : ¬ Sim s []
 da:DgR J a d
 low : ∀ k:Nat,d<=k->Sim (ck J (k:Int) (SJ J (d - 1) m n f g)) []
 id : ∀ j,j<d -> ∀ x,(ev x s*ev x (ck J (d:Int) a)) ^ (d - 1 - j)*ev x (SJ J j m n f g)=dS (x (J - 1)) j d (d - 1) (pv J x a) (pv J x (SJ J (d - 1) m n f g))
theorem nz_right {p u:List Tm} (np:NN p) (nu:NN u) (h : ¬ Sim p []) (k:Sim (pmul p u) []):Sim u []:=Classical.byContradiction fun hc=>qdt np nu h hc k
theorem pv_mul {J:Nat} (h1:1<=J) (h4:J<=4) {c l:List Tm} (nc:NN c) (fc:Fre J c) (nl:NN l) (x:Nat->Int):Pv.Mul (ev x c) (pv J x l) (pv J x (pmul c l)):=
 ⟨fun k=>by
  show ev x (ck J (k:Int) (pmul c l))=ev x c*ev x (ck J (k:Int) l)
  rw [qbd x (qiW h1 h4 fc nc _),qbH x nc (qb2 h1 h4 nl)],qbH x nc nl⟩
section
variable {J:Nat} (h1:1<=J) (h4:J<=4) {f g:List Tm} (nf:NN f) (ng:NN g)
include h1 h4 nf ng
theorem qlx {n δ:Nat} (hn:1<=n) (zf : ¬ Sim f []) (zg : ¬ Sim g []) (df:DgR J f (n+δ)) (dg:DgR J g n):Sim (SJ J (n - 1) (n+δ) n f g) (qdv J n (δ+1) f (qbz g))/\SSt J (n+δ) n f g n g (qbm (ck J (n:Int) g) δ):=by
 obtain ⟨nR,lR,eR⟩:=qr7 h1 h4 nf ng zf df dg;have nl:NN (ck J (n:Int) g):=qb2 h1 h4 ng;have zl:=qot h1 h4 ng dg zg;have fl:=qfZ h1 h4 (n:Int) g;generalize qdv J n (δ+1) f (qbz g)=R at *
 have E : ∀ j,j<n -> ∀ x,ev x (qbm (ck J (n:Int) g) (δ+1))*ev x (pmul (qbm (qbm (ck J (n:Int) g) (δ+1)) (n - 1 - j)) (SJ J j (n+δ) n f g))=ev x (qbm (ck J (n:Int) g) (δ+1))*ev x (SJ J j n (n - 1) g R):=fun j hj x=>by
  obtain ⟨q,hq⟩:=eR x;have:=qsP (ξ:=x (J - 1)) (j:=j) rfl hj (fun k hk=>qq7 h1 h4 dg x k hk) (fun k hk=>qpi lR x k hk) hq;rw [<- qhW h1 h4 x nf ng,<- qhW h1 h4 x ng nR] at this;rw [qbH x (qcI (qcI nl _) _) (qcJ h1 h4 nf ng _ _ _),qhT x (qcI nl _),qhT x nl];have e:(pv J x g).c n=ev x (ck J (n:Int) g):=rfl;rw [e,show n - j=(n - 1 - j)+1 by omega,Int.pow_succ] at this;rw [<- this]
  ac_rfl
 have E2 : ∀ j,j<n->Sim (pmul (qbm (qbm (ck J (n:Int) g) (δ+1)) (n - 1 - j)) (SJ J j (n+δ) n f g)) (SJ J j n (n - 1) g R):=fun j hj=>
  qmP (qcI nl _) (qez (qcI (qcI nl _) _) (qcJ h1 h4 nf ng _ _ _)) (qcJ h1 h4 ng nR _ _ _) (ql4 nl zl _) (E j hj)
 have hs:Sim (SJ J (n - 1) (n+δ) n f g) R:=qe8 (qcJ h1 h4 nf ng _ _ _) nR fun x=>by
  have h:=qbd x (E2 (n - 1) (by omega));rw [qbH x (qcI (qcI nl _) _) (qcJ h1 h4 nf ng _ _ _),Nat.sub_self,qjT,Int.one_mul,qhW h1 h4 x ng nR,qtz (d:=n) (e:=n - 1) (by omega) (fun k hk=>qpi lR x k (by omega)),show n - (n - 1) - 1=0 by omega,Int.pow_zero,Int.one_mul] at h;exact h
 refine ⟨hs,hn,ng,zg,qcI nl _,qmF nl fl _,ql4 nl zl _,dg,fun k hk=>(qa0 hs).trans (lR k hk),fun j hj x=>?_⟩;have h:=qbd x (E2 j hj);rw [qbH x (qcI (qcI nl _) _) (qcJ h1 h4 nf ng _ _ _),qhT x (qcI nl _),qhT x nl,qhW h1 h4 x ng nR,Int.pow_succ] at h;rw [qsc hs x,qhT x nl,h]
variable {m n d:Nat} {a s:List Tm} (S:SSt J m n f g d a s)
include S
theorem SSt.fin (hz:Sim (SJ J (d - 1) m n f g) []) (j:Nat) (hj:j<d):Sim (SJ J j m n f g) []:=by
 have nS:=qcJ h1 h4 nf ng j m n;have nl:NN (ck J (d:Int) a):=qb2 h1 h4 S.na;refine qmP (p:=qbm (pmul s (ck J (d:Int) a)) (d - 1 - j)) (qcI (qez S.ns nl) _) nS NN.nil (ql4 (qez S.ns nl) (qdt S.ns nl S.zs (qot h1 h4 S.na S.da S.za)) _) fun x=>?_;rw [qhT x (qez S.ns nl),qbH x S.ns nl,S.id j hj x,dS_nil hj (fun k=>qbd x (qa0 (r:=[]) hz)) (qbd x hz)];simp [ev]
variable {e:Nat} (hb:DgR J (SJ J (d - 1) m n f g) e) (zb : ¬ Sim (SJ J (d - 1) m n f g) [])
include zb hb
theorem SSt.lt:e<d:=by
 refine Classical.byContradiction fun hc=>?_;exact qot h1 h4 (qcJ h1 h4 nf ng _ _ _) hb zb (S.low e (by omega))
omit zb in
theorem SSt.gap (j:Nat) (hj:e<j) (hd:j+1<d):Sim (SJ J j m n f g) []:=by
 have nS:=qcJ h1 h4 nf ng j m n;have nl:NN (ck J (d:Int) a):=qb2 h1 h4 S.na;refine qmP (p:=qbm (pmul s (ck J (d:Int) a)) (d - 1 - j)) (qcI (qez S.ns nl) _) nS NN.nil (ql4 (qez S.ns nl) (qdt S.ns nl S.zs (qot h1 h4 S.na S.da S.za)) _) fun x=>?_;rw [qhT x (qez S.ns nl),qbH x S.ns nl,S.id j (by omega) x,dS_gap hd (fun k hk=>qq7 h1 h4 S.da x k hk) (fun k hk=>qq7 h1 h4 hb x k (by omega))];simp [ev]
theorem SSt.sub:Sim (pmul (qbm s (d - e - 1)) (SJ J e m n f g)) (pmul (qbm (ck J (e:Int) (SJ J (d - 1) m n f g)) (d - e - 1)) (SJ J (d - 1) m n f g)):=by
 have hed:=S.lt h1 h4 nf ng hb zb;have nS:=qcJ h1 h4 nf ng e m n;have nB:=qcJ h1 h4 nf ng (d - 1) m n;have nl:NN (ck J (d:Int) a):=qb2 h1 h4 S.na;have nb:NN (ck J (e:Int) (SJ J (d - 1) m n f g)):=qb2 h1 h4 nB;refine qmP (p:=qbm (ck J (d:Int) a) (d - e - 1)) (qcI nl _) (qez (qcI S.ns _) nS) (qez (qcI nb _) nB) (ql4 nl (qot h1 h4 S.na S.da S.za) _) fun x=>?_;have h:=S.id e hed x;rw [dS_drop (Nat.le_refl e) hed (fun k hk=>qq7 h1 h4 S.da x k hk) (fun k hk=>qq7 h1 h4 hb x k hk),qtz hed (fun k hk=>qq7 h1 h4 hb x k hk),Int.mul_pow] at h;rw [qbH x (qcI S.ns _) nS,qbH x (qcI nb _) nB,qhT x nl,qhT x S.ns,qhT x nb];have e1:(pv J x a).c d=ev x (ck J (d:Int) a):=rfl;have e2:(pv J x (SJ J (d - 1) m n f g)).c e=ev x (ck J (e:Int) (SJ J (d - 1) m n f g)):=rfl;have e3:(pv J x (SJ J (d - 1) m n f g)).v=ev x (SJ J (d - 1) m n f g):=rfl;rw [e1,e2,e3,show d - 1 - e=d - e - 1 by omega] at h;rw [<- h]
 ac_rfl
theorem SSt.subDeg (i:Nat) (hi:e<i):Sim (ck J (i:Int) (SJ J e m n f g)) []:=by
 have nS:=qcJ h1 h4 nf ng e m n;have nB:=qcJ h1 h4 nf ng (d - 1) m n;have nb:NN (ck J (e:Int) (SJ J (d - 1) m n f g)):=qb2 h1 h4 nB;refine nz_right (qcI S.ns (d - e - 1)) (qb2 h1 h4 nS) (ql4 S.ns S.zs _) ?_;refine (qiW h1 h4 (qmF S.ns S.fs _) (qcI S.ns _) _).symm.trans ((qa0 (S.sub h1 h4 nf ng hb zb)).trans ((qiW h1 h4 (qmF nb (qfZ h1 h4 _ _) _) (qcI nb _) _).trans ?_));have:=(hb.ckz h1 h4 hi).pmul_right (qbm (ck J (e:Int) (SJ J (d - 1) m n f g)) (d - e - 1));rw [qdM] at this;exact this
theorem SSt.subLead:Sim (pmul (qbm s (d - e - 1)) (ck J (e:Int) (SJ J e m n f g))) (qbm (ck J (e:Int) (SJ J (d - 1) m n f g)) (d - e)):=by
 have hed:=S.lt h1 h4 nf ng hb zb;have nB:=qcJ h1 h4 nf ng (d - 1) m n;have nb:NN (ck J (e:Int) (SJ J (d - 1) m n f g)):=qb2 h1 h4 nB;refine (qiW h1 h4 (qmF S.ns S.fs _) (qcI S.ns _) _).symm.trans ((qa0 (S.sub h1 h4 nf ng hb zb)).trans ((qiW h1 h4 (qmF nb (qfZ h1 h4 _ _) _) (qcI nb _) _).trans ?_));rw [show d - e=(d - e - 1)+1 by omega,qcu];exact Sim.refl _
theorem SSt.subNz : ¬ Sim (ck J (e:Int) (SJ J e m n f g)) []:=fun h=>by
 have nB:=qcJ h1 h4 nf ng (d - 1) m n;have nb:NN (ck J (e:Int) (SJ J (d - 1) m n f g)):=qb2 h1 h4 nB;have h2:=h.pmul_right (qbm s (d - e - 1));rw [qdM] at h2;exact ql4 nb (qot h1 h4 nB hb zb) _ ((S.subLead h1 h4 nf ng hb zb).symm.trans h2)
variable (he:1<=e)
include he
omit he in
theorem SSt.euc : ∀ j,j<e -> ∀ x,(ev x (ck J (e:Int) (SJ J (d - 1) m n f g)) ^ (d - e+1)) ^ (e - j)*dS (x (J - 1)) j d e (pv J x a) (pv J x (SJ J (d - 1) m n f g))=ev x (ck J (e:Int) (SJ J (d - 1) m n f g)) ^ (d - e+1)*dS (x (J - 1)) j e (e - 1) (pv J x (SJ J (d - 1) m n f g)) (pv J x (qdv J e (d - e+1) a (qbz (SJ J (d - 1) m n f g)))):=fun j hj x=>by
 have hed:=S.lt h1 h4 nf ng hb zb;have nB:=qcJ h1 h4 nf ng (d - 1) m n;obtain ⟨nR,lR,eR⟩:=qr7 (δ:=d - e) h1 h4 S.na nB S.za (by rw [show e+(d - e)=d by omega];exact S.da) hb;obtain ⟨q,hq⟩:=eR x;exact qsP (ξ:=x (J - 1)) (j:=j) (by omega) hj (fun k hk=>qq7 h1 h4 hb x k hk) (fun k hk=>qpi lR x k hk) hq
theorem SSt.rem:Sim (qdv J e (d - e+1) a (qbz (SJ J (d - 1) m n f g))) (pmul (pmul (qbm s (d - e)) (ck J (d:Int) a)) (SJ J (e - 1) m n f g)):=by
 have hed:=S.lt h1 h4 nf ng hb zb;have nB:=qcJ h1 h4 nf ng (d - 1) m n;have nS:=qcJ h1 h4 nf ng (e - 1) m n;have nl:NN (ck J (d:Int) a):=qb2 h1 h4 S.na;have nb:NN (ck J (e:Int) (SJ J (d - 1) m n f g)):=qb2 h1 h4 nB;have E:=S.euc h1 h4 nf ng hb zb (e - 1) (by omega);obtain ⟨nR,lR,_⟩:=qr7 (δ:=d - e) h1 h4 S.na nB S.za (by rw [show e+(d - e)=d by omega];exact S.da) hb;generalize qdv J e (d - e+1) a (qbz (SJ J (d - 1) m n f g))=R at *;refine Sim.symm (qmP (p:=pmul (qbm (ck J (e:Int) (SJ J (d - 1) m n f g)) (d - e+1)) (qbm (ck J (d:Int) a) (d - e - 1))) (qez (qcI nb _) (qcI nl _)) (qez (qez (qcI S.ns _) nl) nS) nR (qdt (qcI nb _) (qcI nl _) (ql4 nb (qot h1 h4 nB hb zb) _) (ql4 nl (qot h1 h4 S.na S.da S.za) _)) fun x=>?_);have h:=S.id (e - 1) (by omega) x;have E:=E x;rw [dS_drop (show e - 1<=e by omega) hed (fun k hk=>qq7 h1 h4 S.da x k hk) (fun k hk=>qq7 h1 h4 hb x k hk),Int.mul_pow] at h;rw [qtz (d:=e) (e:=e - 1) (by omega) (fun k hk=>qpi lR x k (by omega)),show e - (e - 1) - 1=0 by omega,show e - (e - 1)=0+1 by omega,Int.pow_succ,Int.pow_zero,Int.one_mul,Int.pow_zero,Int.one_mul] at E;have e1:(pv J x a).c d=ev x (ck J (d:Int) a):=rfl;have e3:(pv J x R).v=ev x R:=rfl;rw [e1,show d - 1 - e=d - e - 1 by omega,show d - 1 - (e - 1)=d - e by omega] at h;rw [e3] at E;rw [qbH x (qcI nb _) (qcI nl _),qbH x (qez (qcI S.ns _) nl) nS,qbH x (qcI S.ns _) nl,qhT x nl,qhT x S.ns,qhT x nb]
 have e2:ev x (ck J (d:Int) a) ^ (d - e)=ev x (ck J (d:Int) a) ^ (d - e - 1)*ev x (ck J (d:Int) a):=by
  rw [show d - e=(d - e - 1)+1 by omega,Int.pow_succ,show d - e - 1+1 - 1=d - e - 1 by omega]
 rw [e2] at h;generalize dS _ _ _ _ _ _=D at *
 have a1:ev x (ck J (e:Int) (SJ J (d - 1) m n f g)) ^ (d - e+1)*ev x (ck J (d:Int) a) ^ (d - e - 1)*ev x R=ev x (ck J (d:Int) a) ^ (d - e - 1)*(ev x (ck J (e:Int) (SJ J (d - 1) m n f g)) ^ (d - e+1)*ev x R):=by ac_rfl
 have a2:ev x (ck J (d:Int) a) ^ (d - e - 1)*(ev x (ck J (e:Int) (SJ J (d - 1) m n f g)) ^ (d - e+1)*D)=ev x (ck J (e:Int) (SJ J (d - 1) m n f g)) ^ (d - e+1)*(ev x (ck J (d:Int) a) ^ (d - e - 1)*D):=by ac_rfl
 rw [a1,<- E,a2,<- h]
 ac_rfl
theorem SSt.next:SSt J m n f g e (SJ J e m n f g) (ck J (e:Int) (SJ J e m n f g)):=by
 have hed:=S.lt h1 h4 nf ng hb zb;have nB:=qcJ h1 h4 nf ng (d - 1) m n;have nS:=qcJ h1 h4 nf ng (e - 1) m n;have nE:=qcJ h1 h4 nf ng e m n;have nl:NN (ck J (d:Int) a):=qb2 h1 h4 S.na;have nb:NN (ck J (e:Int) (SJ J (d - 1) m n f g)):=qb2 h1 h4 nB;have nt:NN (ck J (e:Int) (SJ J e m n f g)):=qb2 h1 h4 nE;have zt:=S.subNz h1 h4 nf ng hb zb;have hR:=S.rem h1 h4 nf ng hb zb he;have E:=S.euc h1 h4 nf ng hb zb;have zl:=qot h1 h4 S.na S.da S.za;have zlb:=qot h1 h4 nB hb zb;have fp:Fre J (pmul (qbm s (d - e)) (ck J (d:Int) a)):=(qmF S.ns S.fs _).pmul (qfZ h1 h4 _ _) (qcI S.ns _);have np:NN (pmul (qbm s (d - e)) (ck J (d:Int) a)):=qez (qcI S.ns _) nl;obtain ⟨nR,lR,_⟩:=qr7 (δ:=d - e) h1 h4 S.na nB S.za (by rw [show e+(d - e)=d by omega];exact S.da) hb;generalize qdv J e (d - e+1) a (qbz (SJ J (d - 1) m n f g))=R at *;refine ⟨he,nE,fun h=>zt (qa0 (r:=[]) h),nt,qfZ h1 h4 _ _,zt,qm3 h1 h4 nE (fun i hi=>S.subDeg h1 h4 nf ng hb zb i hi) (.inr zt),fun k hk=>?_,fun j hj x=>?_⟩
 ·refine nz_right np (qb2 h1 h4 nS) (qdt (qcI S.ns _) nl (ql4 S.ns S.zs _) zl) ?_;exact (qiW h1 h4 fp np _).symm.trans ((qa0 hR.symm).trans (lR k hk))
 ·obtain ⟨g1,hg1⟩ : ∃ g1,d - e=g1+1:=⟨d - e - 1,by omega⟩;obtain ⟨X,hX⟩ : ∃ X,e - j=X+1:=⟨e - j - 1,by omega⟩
  have hK : ∀ x,ev x (pmul (pmul (qbm (ck J (e:Int) (SJ J (d - 1) m n f g)) (g1+2)) (qbm (ck J (d:Int) a) g1)) (pmul (qbm (qbm s g1) X) (qbm (pmul (qbm s (g1+1)) (ck J (d:Int) a)) (X+1))))*ev x (pmul (qbm (pmul (ck J (e:Int) (SJ J e m n f g)) (ck J (e:Int) (SJ J e m n f g))) X) (SJ J j m n f g))=ev x (pmul (pmul (qbm (ck J (e:Int) (SJ J (d - 1) m n f g)) (g1+2)) (qbm (ck J (d:Int) a) g1)) (pmul (qbm (qbm s g1) X) (qbm (pmul (qbm s (g1+1)) (ck J (d:Int) a)) (X+1))))*ev x (SJ J j e (e - 1) (SJ J e m n f g) (SJ J (e - 1) m n f g)):=fun x=>by
   have r1:=S.id j (by omega) x;rw [dS_drop (show j<=e by omega) hed (fun k hk=>qq7 h1 h4 S.da x k hk) (fun k hk=>qq7 h1 h4 hb x k hk),show d - 1 - j=g1+1+X by omega,show d - 1 - e=g1 by omega] at r1;have r2:=E j hj x;rw [hX,hg1] at r2;have r4:=qbd x (S.subLead h1 h4 nf ng hb zb);rw [qbH x (qcI S.ns _) nt,qhT x S.ns,qhT x nb,hg1,show g1+1 - 1=g1 by omega] at r4
   have hC:pv J x (pmul (qbm s g1) (SJ J e m n f g))=pv J x (pmul (qbm (ck J (e:Int) (SJ J (d - 1) m n f g)) g1) (SJ J (d - 1) m n f g)):=by
    have:=qsc (J:=J) (S.sub h1 h4 nf ng hb zb) x;rw [show d - e - 1=g1 by omega] at this;exact this
   have hR':pv J x R=pv J x (pmul (pmul (qbm s (g1+1)) (ck J (d:Int) a)) (SJ J (e - 1) m n f g)):=by
    have:=qsc (J:=J) hR x;rw [hg1] at this;exact this
   have fq:Fre J (pmul (qbm s (g1+1)) (ck J (d:Int) a)):=by rw [<- hg1];exact fp
   have nq:NN (pmul (qbm s (g1+1)) (ck J (d:Int) a)):=by rw [<- hg1];exact np
   have m1:=dS_mul (ξ:=x (J - 1)) (pv_mul h1 h4 (qcI S.ns g1) (qmF S.ns S.fs _) nE x) (pv_mul h1 h4 nq fq nS x) j e (e - 1);have m2:=dS_mul (ξ:=x (J - 1)) (pv_mul h1 h4 (qcI nb g1) (qmF nb (qfZ h1 h4 _ _) _) nB x) (show Pv.Mul 1 (pv J x R) (pv J x R) from ⟨fun k=>(Int.one_mul _).symm,(Int.one_mul _).symm⟩) j e (e - 1);rw [hC,<- hR',m2,show e - 1 - j=X by omega,hX,Int.one_pow,Int.one_mul,qhT x nb,qhT x S.ns,qbH x (qcI S.ns _) nl,qhT x S.ns] at m1;have key:=dsKey r1 r2 m1.symm r4;rw [qbH x (qez (qcI nb _) (qcI nl _)) (qez (qcI (qcI S.ns _) _) (qcI (qez (qcI S.ns _) nl) _)),qbH x (qcI nb _) (qcI nl _),qbH x (qcI (qcI S.ns _) _) (qcI (qez (qcI S.ns _) nl) _),qhT x nb,qhT x nl,qhT x (qcI S.ns _),qhT x S.ns,qhT x (qez (qcI S.ns _) nl),qbH x (qcI S.ns _) nl,qhT x S.ns,qbH x (qcI (qez nt nt) _) (qcJ h1 h4 nf ng _ _ _),qhT x (qez nt nt),qbH x nt nt,qhW h1 h4 x nE nS];exact key
  have h:=qbd x (qmP (qez (qez (qcI nb _) (qcI nl _)) (qez (qcI (qcI S.ns _) _) (qcI (qez (qcI S.ns _) nl) _))) (qez (qcI (qez nt nt) _) (qcJ h1 h4 nf ng _ _ _)) (qcJ h1 h4 nE nS _ _ _) (qdt (qez (qcI nb _) (qcI nl _)) (qez (qcI (qcI S.ns _) _) (qcI (qez (qcI S.ns _) nl) _)) (qdt (qcI nb _) (qcI nl _) (ql4 nb zlb _) (ql4 nl zl _)) (qdt (qcI (qcI S.ns _) _) (qcI (qez (qcI S.ns _) nl) _) (ql4 (qcI S.ns _) (ql4 S.ns S.zs _) _) (ql4 (qez (qcI S.ns _) nl) (qdt (qcI S.ns _) nl (ql4 S.ns S.zs _) zl) _))) hK);rw [qbH x (qcI (qez nt nt) _) (qcJ h1 h4 nf ng _ _ _),qhT x (qez nt nt),qbH x nt nt,qhW h1 h4 x nE nS] at h;rw [show e - 1 - j=X by omega];exact h
end


structure qo1 (B A C G:Nat):Prop where
 n1:B+C<=1000000
 n2:(B+C+1) ^ 4<=1099511627776
 n3:(B+C+1)*(C+1)<=1099511627776
 n4:A+G+10<=549755813888
theorem qo1.pow {B A C G D:Nat} (h:qo1 B A C G) (hD:D<=4):(B+C+1) ^ D<=1099511627776:=Nat.le_trans (Nat.pow_le_pow_right (by omega) hD) h.n2
theorem qoy {D kn:Nat} {P:Nat->List Tm} {l r q:List Tm} (hD:D+1<=4) (hlow : ∀ i,i<kn->Low D (P i)) (hs:Sim (poly (D+1) kn P) l) (fr:Fre (D+1) r) (nr:NN r) (h:Sim (pmul q r) l) (i:Nat) (hi:i<kn):Sim (pmul (ck (D+1) (i:Int) q) r) (P i):=by
 have h1:=qbv hD hlow i;rw [if_pos hi] at h1;exact (qnm (by omega) hD fr nr _).symm.trans ((qa0 (h.trans hs.symm)).trans h1)
theorem qqB {L J:Nat} (h4:J<=4) (hJ:L<J) {l T:List Tm} (hs:Sim T l) (hT : ∀ t ∈ T,∀ k:Nat,L<k->k<=4->t.2.get k=0):Fre J l:=fun m hm=>by
 rw [<- hs m] at hm;refine Classical.byContradiction fun hc=>hm (qaB fun t ht e=>hc ?_);rw [<- e];exact hT t ht J hJ h4
def exQ (D:Nat) (q:List Tm) (i:Nat):List Tm:=ck (D+1) (i:Int) q
def exR (D:Nat) (q r:List Tm) (k i:Nat):List Tm:=ck (D+1) (i:Int) (pmul (poly (D+1) k (exQ D q)) r)
section
variable {D n V:Nat} {P G:Nat->List Tm} {l r q:List Tm} (hD:D+1<=4) (hG : ∀ i,i<n+1->Low D (G i)) (hGs:Sim (poly (D+1) (n+1) G) r) (nr:NN r) (nq:NN q)
include hD hG hGs nr nq
theorem qgO (k i:Nat):Sim (exR D q r (k+1) i) (exR D q r k i ++ if i<k then [] else pmul (exQ D q k) (if i - k<n+1 then G (i - k) else [])):=by
 have nQ:NN (exQ D q k):=qb2 (by omega) hD nq;unfold exR;rw [qaf,qav,qd0];refine (Sim.refl _).append ?_;refine (qa0 (qaJ _ _ _)).trans ((qsT (by omega) hD (qez nQ nr) k i).trans ?_)
 by_cases h:i<k
 ·rw [if_pos h,if_pos h];exact Sim.refl _
 ·rw [if_neg h,if_neg h];exact (qiW (by omega) hD (qfZ (by omega) hD _ _) nQ _).trans (((qa0 hGs.symm).trans (qbv hD hG (i - k))).pmul_right _)
theorem qjS : ∀ k i,n+k<=i->Sim (exR D q r k i) []
 | 0,i,_=>Sim.refl _
 | k+1,i,hi=>by
  refine (qgO hD hG hGs nr nq k i).trans ?_;rw [if_neg (by omega),if_neg (by omega),qdM,List.append_nil];exact qjS k i (by omega)
theorem qmI (k:Nat):Sim (pmul (exQ D q k) (G n)) (exR D q r (k+1) (n+k)):=by
 refine Sim.symm ((qgO hD hG hGs nr nq k (n+k)).trans ?_);rw [if_neg (by omega),if_pos (by omega),show n+k - k=n by omega];exact ((qjS hD hG hGs nr nq k (n+k) (Nat.le_refl _)).append (Sim.refl _))
theorem qoz (k:Nat) {c:List Tm} (hc:Sim c (exQ D q k)) (i:Nat) (hi:i<n+k):Sim (rj k c G (exR D q r (k+1)) n i) (exR D q r k i):=by
 have h:=qgO hD hG hGs nr nq k i;unfold rj
 by_cases h5:k<=i
 ·rw [if_neg (by omega),if_pos (by omega)] at h;rw [if_pos (by omega)];intro m;have h1:=h m;have h2:=(hc.pmul_left (G (i - k))) m;rw [qae] at h1 ⊢;rw [qaL];omega
 ·rw [if_pos (by omega),List.append_nil] at h;rw [if_neg (by omega)];exact h
omit nq in
theorem qq8 (hz : ¬ Sim (G n) []):DgR (D+1) r n:=by
 have hc : ∀ e:Nat,Sim (ck (D+1) (e:Int) r) (if e<n+1 then G e else []):=fun e=>(qa0 hGs.symm).trans (qbv hD hG e);refine qm3 (by omega) hD nr (fun i hi=>?_) (.inr fun h=>hz ?_)
 ·have:=hc i;rw [if_neg (by omega)] at this;exact this
 ·have:=hc n;rw [if_pos (by omega)] at this;exact this.symm.trans h
theorem qmL (hz : ¬ Sim (G n) []) (hP : ∀ i,i<n+V->Low D (P i)) (hPs:Sim (poly (D+1) (n+V) P) l) (h:Sim (pmul q r) l):Sim (poly (D+1) V (exQ D q)) q:=by
 have dr:=qq8 hD hG hGs nr hz
 have zr : ¬ Sim r []:=fun h0=>by
  have hc:=(qa0 hGs.symm).trans (qbv hD hG n);rw [if_pos (by omega)] at hc;exact hz (hc.symm.trans (qa0 (r:=[]) h0))
 by_cases hq:Sim q []
 ·exact (qcj fun i _=>qa0 (r:=[]) hq).trans hq.symm
 ·obtain ⟨a,ha⟩:=qiS (k:=D+1) nq;have hp:=qoH (by omega) hD nq nr hq zr ha dr
  have haV:a<V:=Classical.byContradiction fun hc=>by
   have h1:=qot (by omega) hD (qez nq nr) hp (qdt nq nr hq zr);have h2:=qbv hD hP (a+n);rw [if_neg (by omega)] at h2;exact h1 ((qa0 (h.trans hPs.symm)).trans h2)
  exact qf3 (by omega) hD nq fun m hm=>by have:=ha.1 m hm;omega
theorem qmJ (hz : ¬ Sim (G n) []) (hP : ∀ i,i<n+V->Low D (P i)) (hPs:Sim (poly (D+1) (n+V) P) l) (h:Sim (pmul q r) l) (i:Nat) (hi:i<n+V):Sim (P i) (exR D q r V i):=by
 have h1:=qbv hD hP i;rw [if_pos hi] at h1;refine h1.symm.trans (qa0 (hPs.trans (h.symm.trans ((qmL hD hG hGs nr nq hz hP hPs h).symm.pmul_left r))))
end
theorem qdx {D B A:Nat} (hD:D+1<=4) {q:List Tm} (nq:NN q) (hB:Deg B q) (hA:dlen (nrm q)<=A) (i:Nat):NN (exQ D q i)/\Deg B (exQ D q i)/\dlen (nrm (exQ D q i))<=A:=
 ⟨qb2 (by omega) hD nq,qia (by omega) hD hB,Nat.le_trans (qal (qew _ _ _)) hA⟩
theorem qmK {D B A C G k:Nat} (hD:D+1<=4) {q r:List Tm} (nq:NN q) (hB:Deg B q) (hA:dlen (nrm q)<=A) (hC:Deg C r) (hG:dlen (nrm r)<=G) (hk:k<=4294967295) (i:Nat):Deg (B+C) (exR D q r k i)/\dlen (nrm (exR D q r k i))<=A+2+G:=by
 have nn:NN (poly (D+1) k (exQ D q)):=NN.poly fun i _=>(qdx hD nq hB hA i).1
 have hd:Deg B (poly (D+1) k (exQ D q)):=fun m hm j=>by
  have h1:=ckP (J:=D+1) (by omega) hD (P:=exQ D q) (fun i=>qfZ (by omega) hD _ _) (m.get (D+1)).toNat k
  have hnn:m.nn=true:=by
   cases hq:m.nn with
   | true=>rfl
   | false=>exact absurd (nn m hq) hm
  have h5:=qcw hnn (D+1)
  have e:(((m.get (D+1)).toNat:Nat):Int)=m.get (D+1):=by omega
  rw [e] at h1;have h2:=qg7 (k:=D+1) (by omega) hD hm
  by_cases hlt:(m.get (D+1)).toNat<k
  ·rw [if_pos hlt] at h1
   have h3:qab (poly (D+1) k (exQ D q)) m=qab q m:=by
    have c1:=qaQ (k:=D+1) (by omega) hD (m.get (D+1)) (Mo.sub m (xp (D+1) (m.get (D+1)))) (poly (D+1) k (exQ D q));have c2:=qaQ (k:=D+1) (by omega) hD (m.get (D+1)) (Mo.sub m (xp (D+1) (m.get (D+1)))) q
    have e0:(Mo.sub m (xp (D+1) (m.get (D+1)))).get (D+1)=0:=by rw [qbG,qat _ _ _ (by omega) hD,if_pos rfl];omega
    have e1:Mo.add (Mo.sub m (xp (D+1) (m.get (D+1)))) (xp (D+1) (m.get (D+1)))=m:=(Mo.add_eq _ _ _).2 rfl;rw [if_pos e0,e1] at c1 c2;rw [<- c1,<- c2,h1 _];unfold exQ;rw [e]
   exact hB m (by rw [<- h3];exact hm) j
  ·rw [if_neg hlt] at h1;exact absurd h1 h2
 refine ⟨qia (by omega) hD (Deg.pmul hd hC nn),?_⟩;refine Nat.le_trans (qal (qew _ _ _)) ?_;rw [qbb];refine Nat.le_trans (qaD _ _) (Nat.add_le_add ?_ hG);exact qd7 hk fun i _=>(qdx hD nq hB hA i).2.2


def ExE (B A C G L:Nat):Prop:=∀ (M:Nat->Prop) (l r u:List Tm) (x y:PE) (w:World),Mb M w->CRx M w L x l->CRx M w 4 y r -> ¬ Sim r []->NN u->Sim (pmul u r) l->Deg B u->dlen (nrm u)<=A->Deg C r->dlen (nrm r)<=G ->
 Calls Tryz.prog 67 #[.agg (peA x),.agg (peA y)] w (qcV M w L l r A)
theorem qgN (B A C G E : Nat) (hE4 : E + 1 <= 4) (hN : qo1 B A C G) (ih : ExE B A C G E) (M : Nat -> Prop) (l r u : List Tm) (x y : PE) (w : World) (hM : Mb M w) (h : CRx M w (E + 1) x l) (hl : x.lv = (E : Int) + 1) (hy : CRx M w 4 y r) (hyl : y.lv < x.lv) (hz : ¬ Sim r []) (nu : NN u) (hu : Sim (pmul u r) l) (hB : Deg B u) (hA : dlen (nrm u) <= A) (hC : Deg C r) (hG : dlen (nrm r) <= G) :
  Calls Tryz.prog 125 #[.agg (peA x),.agg (peA y)] w (qcV M w (E+1) l r A):=by
 obtain ⟨i0,hi,hz0,hz1,hz2⟩:=info_parts Tryz.info33;obtain ⟨hE0,hX0,hY0,hB0,hM0⟩:=qkb hM x y;obtain ⟨E',b,off,P,hlv,hE4',hEL,hb0,hn0,hka,hn2,hnL,hnc,hcm,hb,hMb,hlow,hnz,hsim,hnr,hkid⟩:=h.node (by omega)
 obtain rfl:E'=E:=by omega
 have hBl:Deg (B+C) l:=(Deg.pmul hB hC nu).sim hu;have hdn:=qbp hE4 (by omega) hlow hnz (hBl.sim hsim.symm);have hNr:NN r:=hy.nn;obtain ⟨T,hT1,hT2⟩:=hy.lowU;have HDV:Hid (∀ i,i<x.kn -> ¬ Dv r (P i) -> ¬ Dv r l):=fun i hi' hn hd=>hn ((qpE hE4 hlow (g:=T) (fun t ht=>hT2 t ht (E'+1) (by omega) hE4) (hd.sim hT1.symm hsim.symm) i hi').sim hT1 (Sim.refl _));have hun:=qoy hE4 hlow hsim (qqB (J:=E'+1) (L:=y.lv.toNat) hE4 (by omega) hT1 fun t ht k hk hk4=>hT2 t ht k (by omega) hk4) hNr hu
 have HCALL:Hid (∀ i,i<x.kn -> ∃ c,qaZ w b (off+i*4) c /\ ∀ (M':Nat->Prop) W,Mb M' W->(∀ g,M' g->M g∨w.heap.size<=g)->Ext w W->Calls Tryz.prog 67 #[.agg (peA c),.agg (peA y)] W (qcV M' W E' (P i) r A)):=fun i hi'=>by
  obtain ⟨c,hc1,hc2,_⟩:=hkid i hi';have hq:=qdx hE4 nu hB hA i;exact ⟨c,hc1,fun M' W hMW hmore he=>ih M' (P i) r (exQ E' u i) c y W hMW ((hc2.more hmore).ext he) ((hy.more hmore).ext he) hz hq.1 (hun i hi') hq.2.1 hq.2.2 hC hG⟩
 have HFIN:Hid (∀ Q:Nat->List Tm,(∀ i,i<x.kn->Sim (pmul (Q i) r) (P i))->Sim (pmul (poly (E'+1) x.kn Q) r) l):=fun Q hQ=>(qaX (E'+1) x.kn Q r).symm.trans ((qaC _ _ _ _ hQ).trans hsim);have HUQ:Hid (∀ Q:Nat->List Tm,Sim (pmul (poly (E'+1) x.kn Q) r) l->NN (poly (E'+1) x.kn Q)->Sim (poly (E'+1) x.kn Q) u/\Sim (pmul u r) l/\dlen (nrm u)<=A):=fun Q h1 h2=>⟨qbt h2 nu hNr hz (h1.trans hu.symm),hu,hA⟩;have HDQ:Hid (∀ i,i<x.kn -> ∀ q,NN q->Sim (pmul q r) (P i)->Deg (B+C) q):=fun i hi' q hq hs=>qdf hq hNr hz hs (hdn.2 i hi');have hkB:x.kn<=B+C+1:=hdn.1;have hOk:=hN.pow hE4
 have hAL:A+2<=1099511627776:=by have:=hN.n4;omega
 have HMM:=Lib.hid hM;obtain ⟨x0,x1,x2,x3⟩:=hX0;obtain ⟨y0,y1,y2,y3⟩:=hY0
 have hsz0:w.heap.size+3=((((w.alloc (.cells (peA x) 33)).alloc (.cells (peA y) 33)).alloc (.cells zA 33))).heap.size:=by simp
 generalize hW:((w.alloc (.cells (peA x) 33)).alloc (.cells (peA y) 33)).alloc (.cells zA 33)=W at *;have HW:=Lib.hid hW;have HE:=Lib.hid hE0;have HS:Hid (SP2 w.heap.size x y W):=⟨⟨x0,x1,x2,x3⟩,⟨y0,y1,y2,y3⟩⟩;have HB0:=Lib.hid hB0;have hS1:=hN.n1;clear hE0 hB0 hM0 h hl hy hyl hz hB hC hA hG hN ih hlow hnz hsim hnr hkid hdn hNr hT1 hT2 hBl hun nu hu hW hM;rw [hka] at x3
 go_enter Tryz.func125,Tryz.ntmps125
 go_upto_region 1 with (fail)
 rw [HW.out]
 go_wp2_with (first | (refine wpList_make_full _ rfl _ _ _ rfl (w.heap.size+3) 33 i0 (.agg #[.int .i64 0,.bool false,.slice none 0 0,.slice none 0 0]) 4 Tryz.underlying31 hi hz0 hz1 .i64 .i64 _ _ x.kn rfl rfl ?c4 ?c5 ?c2 ?c3 ?c6 ?_))
 case c2=>rw [hz2];omega
 case c3=>unfold maxLen;omega
 case c4=>simp
 case c5=>simp
 case c6=>omega
 intro w1 hown hgrow;rw [<- hsz0] at hown ⊢;have hBk:=(Blk.made hown rfl (by omega)).congr (f':=zc4) (fun i _=>qbL i);have he1:=qaw hgrow;have HB1:=Lib.hid (HB0.out.ext he1);have HS1:=Lib.hid (HS.out.ext he1);have HE1:=Lib.hid (HE.out.trans he1)
 have hs1:w.heap.size+4<=w1.heap.size:=by have:=hBk.lt;omega
 have HKF:Hid (qax (Mx M w.heap.size (w.heap.size+4)) w1 E' (w.heap.size+3) x.kn (fun _=>[])):=qax.fresh hBk;clear x0 x1 x2 x3 y0 y1 y2 y3;obtain ⟨⟨x0,x1,x2,x3⟩,_⟩:=HS1.out;rw [hka] at x3;clear hown hgrow hBk he1 HB0 HS HE HW;go_wp2
 go_loopw [18] (fun i wr=>∃ (k:Nat) (Q:Nat->List Tm),k<=x.kn/\i = .int .i64 k/\w.heap.size+4<=wr.heap.size/\Hid (qax (Mx M w.heap.size (w.heap.size+4)) wr E' (w.heap.size+3) x.kn (fun i=>if i<k then Q i else []))/\Hid (∀ i,i<k->NN (Q i)/\Sim (pmul (Q i) r) (P i)/\dlen (nrm (Q i))<=A)/\Hid (Ext w wr)/\Hid (SP2 w.heap.size x y wr)/\Hid (Blk wr (w.heap.size+2) 33 4 (arr zA))) (fun i _=>x.kn - (intOf i).toNat)
 case atStart=>exact ⟨0,fun _=>[],Nat.zero_le _,rfl,hs1,HKF.out.congr fun i _=>by rw [if_neg (by omega)];exact Sim.refl _,fun i hi=>absurd hi (Nat.not_lt_zero _),HE1,HS1,HB1⟩
 case round=>
  clear HKF HE1 HS1 HB1 x0 x1 x2 x3 hs1;obtain ⟨k,Q,hk,rfl,hsz,HK,HQ,HEW,HSW,HBR⟩:=hrel
  by_cases hlt:k<x.kn
  ·obtain ⟨c,hc,hcall⟩:=HCALL.out k hlt;obtain ⟨c0,c1,c2,c3⟩:=hc.ext hb HEW.out;have hbw:b<wr.heap.size:=Nat.lt_of_lt_of_le hb HEW.out.size;obtain ⟨_,y0,y1,y2,y3⟩:=HSW.out;have hEa:=(Ext.refl wr).alloc (.cells (peA c) 33)
   have hltI:(k:Int)<(x.kn:Int):=by omega
   have hw1:w.heap.size+1<wr.heap.size:=by omega
   have hw0:w.heap.size<wr.heap.size:=by omega
   have CTR:=Lib.hid (hcall (Mx M w.heap.size (w.heap.size+4)) _ (Mx.mb (k:=w.heap.size+4) HMM.out (HEW.out.trans hEa).size (by simp;omega)) (Mx.more (Nat.le_refl _)) (HEW.out.trans hEa));have HEA:=Lib.hid hEa;clear hcall hEa hc hlv hka hn0 hb0 hsz0;go_wp2_with (fail);refine (CTR.out).mono ?_;rintro e w4 ⟨v,ok,rfl,hR,he4⟩;have he5:=HEA.out.trans he4;have hs4:=he5.size
   cases ok with
   | false=>
    have HND:=Lib.hid (HDV.out k hlt (hR.2 rfl));obtain ⟨⟨q0,q1,q2,q3⟩,⟨f0,f1,f2,f3⟩,⟨r0,r1,r2,r3⟩,HF⟩:=qbR (M:=M) (M':=Mx M w.heap.size (w.heap.size+3)) (w:=w) (L:=0) (l:=[]) (y:=PE.z) ((HBR.out.ext he5).ext ((Ext.refl w4).alloc (.cells (peA v) 33))) (Mx.at (by omega)) (by omega) ((HEW.out.trans he5).trans ((Ext.refl w4).alloc (.cells (peA v) 33))) (CR.zero _ _ 0) Mx.sub;have HF2:=Lib.hid (HF.out.exF (L:=E'+1) (A:=A) HND.out);simp only [PE.z] at r0 r1 r2 r3
    have hw2:w.heap.size+2<(w4.alloc (.cells (peA v) 33)).heap.size:=by simp;omega
    clear HF hR he4 he5 HND c0 c1 c2 c3 y0 y1 y2 y3 CTR HK HQ HEW HSW HBR HCALL HFIN HDQ HUQ HDV HEA
    go_upto_region 6 with (fail)
    generalize w4.alloc (.cells (peA v) 33)=W5 at *;clear hs4 hw1 hw0 hbw;go_wp2;exact bodyPost_ret (v:=.tuple #[.agg (peA PE.z),.bool false]) (by simp [results,Tryz.results125,go_sem,r0,r1,r2,r3,PE.z]) rfl HF2.out
   | true=>
    obtain ⟨q,hq1,hq2,hq3⟩:=hR.1 rfl;have hEb:=(Ext.refl w4).alloc (.cells (peA v) 33);have he6:=he5.trans hEb;have hq5:=hq1.ext hEb;have hv5:P4 (w4.alloc (.cells (peA v) 33)) w4.heap.size v:=(Blk.of_arr w4 (peA v) 33 4 rfl).p4
    have hs5:(w4.alloc (.cells (peA v) 33)).heap.size=w4.heap.size+1:=by simp
    have HE6:=Lib.hid he6;have HQ5:=Lib.hid (And.intro hq5 (And.intro hq2 hq3));have hnn:=hq1.nn;clear hR he4 he5 he6 hEb hq1 hq2 hq3 hq5 CTR HCALL HFIN HDQ HUQ HDV HEA c0 c1 c2 c3 y0 y1 y2 y3
    go_upto_region 6 with (fail)
    generalize w4.alloc (.cells (peA v) 33)=W5 at *;obtain ⟨v0,v1,v2,v3⟩:=hv5;have hK4:=HK.out.ext HE6.out;obtain ⟨⟨_,k0⟩,⟨_,k1⟩,⟨_,k2⟩,⟨_,k3⟩,hfr,hg4⟩:=hK4.at k hlt;have hf0:=hfr (k*4);have hf1:=hfr (k*4+1);have hf2:=hfr (k*4+2);have hf3:=hfr (k*4+3);have hKs:=hK4.set (Mx.at (by omega)) k hlt HQ5.out.1;have hEs:=(HEW.out.trans HE6.out).set4 (g:=w.heap.size+3) (by omega) (k*4) (.int .i64 v.lv) (.bool v.b) (.slice v.a v.n v.p) (.slice v.ka v.kn v.kp);have hBs:=(HBR.out.ext HE6.out).of_heap (qag W5 (w.heap.size+3) (k*4) (.int .i64 v.lv) (.bool v.b) (.slice v.a v.n v.p) (.slice v.ka v.kn v.kp) (w.heap.size+2) (by omega));have hSs:SP2 w.heap.size x y (set4 W5 (w.heap.size+3) (k*4) (.int .i64 v.lv) (.bool v.b) (.slice v.a v.n v.p) (.slice v.ka v.kn v.kp)):=⟨qak (HSW.out.1.ext HE6.out) (qag _ _ _ _ _ _ _ _ (by omega)),qak (HSW.out.2.ext HE6.out) (qag _ _ _ _ _ _ _ _ (by omega))⟩
    have hzs:w.heap.size+4<=(set4 W5 (w.heap.size+3) (k*4) (.int .i64 v.lv) (.bool v.b) (.slice v.a v.n v.p) (.slice v.ka v.kn v.kp)).heap.size:=by rw [qaq];omega
    have HQ2:Hid (∀ i,i<k+1->NN (qc0 Q k q i)/\Sim (pmul (qc0 Q k q i) r) (P i)/\dlen (nrm (qc0 Q k q i))<=A):=fun i hi=>by
     by_cases hik:i=k
     ·subst hik;rw [qa6];exact ⟨hnn,HQ5.out.2⟩
     ·rw [qbB _ _ _ _ (by omega)];exact HQ.out i (by omega)
    have HK5:Hid (qax (Mx M w.heap.size (w.heap.size+4)) (set4 W5 (w.heap.size+3) (k*4) (.int .i64 v.lv) (.bool v.b) (.slice v.a v.n v.p) (.slice v.ka v.kn v.kp)) E' (w.heap.size+3) x.kn (fun i=>if i<k+1 then qc0 Q k q i else [])):=by
     refine hKs.congr fun i _=>?_
     by_cases hik:i=k
     ·subst hik;rw [if_pos rfl,if_pos (by omega),qa6];exact Sim.refl _
     ·rw [if_neg hik]
      by_cases h3:i<k
      ·rw [if_pos h3,if_pos (by omega),qbB _ _ _ _ h3];exact Sim.refl _
      ·rw [if_neg h3,if_neg (by omega)];exact Sim.refl _
    have HE5:=Lib.hid hEs;have HB5:=Lib.hid hBs;have HS5:=Lib.hid hSs;have HSZ5:=Lib.hid hzs
    have hw3:w.heap.size+3<W5.heap.size:=by omega
    have hw4:w4.heap.size<W5.heap.size:=by omega
    clear hK4 hKs hEs hBs hSs hzs hfr HK HQ HEW HSW HBR HQ5 HE6 hs5 hs4 hw0 hw1 hbw;go_wp2
    go_roundw
    case rel=>exact ⟨k+1,qc0 Q k q,by omega,by go_num,HSZ5.out,HK5,HQ2,HE5,HS5,HB5⟩
    case measure=>simp [intOf];omega
  ·obtain rfl:k=x.kn:=by omega
   obtain ⟨⟨x0,_⟩,_⟩:=HSW.out;rw [hlv] at x0
   have hkr:qbA (Mx M w.heap.size (w.heap.size+3)) wr E' (.slice (some ⟨w.heap.size+3,0,none⟩) x.kn x.kn) x.kn Q:=(HK.out.krow (fun g hg=>.inl (hg.imp id fun h=>by omega)) (fun hh=>hh.elim (HMM.out.new (by omega)) (by omega)) hnL).congr fun i hi=>by rw [if_pos hi];exact Sim.refl _
   have CTR:=Lib.hid (qd8 (S:=B+C) (A:=A) wr (Mx.mb HMM.out HEW.out.size (by omega)) hkr hE4 (fun i hi=>HDQ.out i hi _ (HQ.out i hi).1 (HQ.out i hi).2.1) hkB hOk hS1 (fun i hi=>(HQ.out i hi).2.2) (by omega));have HSI:=Lib.hid (HFIN.out Q fun i hi=>(HQ.out i hi).2.1);have HUU:=Lib.hid (HUQ.out Q HSI.out (NN.poly fun i hi=>(HQ.out i hi).1));clear hkr HCALL HK HDQ HUQ HDV HFIN HQ HSI hlv hka hn0 hb0 hsz0 hlt hOk;go_wp2_with (fail);refine CTR.out.mono ?_;rintro e w5 ⟨v,rfl,hv,he5⟩;obtain ⟨⟨q0,q1,q2,q3⟩,⟨f0,f1,f2,f3⟩,⟨r0,r1,r2,r3⟩,HF⟩:=qbR (M:=M) (w:=w) (HBR.out.ext he5) (Mx.at (by omega)) (by omega) (HEW.out.trans he5) (hv.sim HUU.out.1) Mx.sub;have HF2:=Lib.hid (HF.out.exT HUU.out.2.1 HUU.out.2.2);clear HF he5 hv CTR x0 HUU;go_wp2;exact bodyPost_ret (v:=.tuple #[.agg (peA v),.bool true]) (by simp [results,Tryz.results125,go_sem,r0,r1,r2,r3]) rfl HF2.out


theorem qhS (B A C G E : Nat) (hE4 : E + 1 <= 4) (hN : qo1 B A C G) (ih : ExE B A C G E) (M : Nat -> Prop) (l r u : List Tm) (x y : PE) (w : World) (hM : Mb M w) (h : CRx M w (E + 1) x l) (hl : x.lv = (E : Int) + 1) (hy : CRx M w 4 y r) (hyl : y.lv = x.lv) (hz : ¬ Sim r []) (nu : NN u) (hu : Sim (pmul u r) l) (hB : Deg B u) (hA : dlen (nrm u) <= A) (hC : Deg C r) (hG : dlen (nrm r) <= G) :
  Calls Tryz.prog 67 #[.agg (peA x),.agg (peA y)] w (qcV M w (E+1) l r A):=by
 obtain ⟨i0,hi,hz0,hz1,hz2⟩:=info_parts Tryz.info33;obtain ⟨hE0,hX0,hY0,hB0,hM0⟩:=qkb hM x y;have CZ:=Lib.hid (qbh _ x l _ hM0 (((h.more (M':=Mx M w.heap.size (w.heap.size+3)) (Mx.more (Nat.le_refl _))).ext hE0).pi));obtain ⟨E1,b,off,P,hlv,hE4',hEL,hb0,hn0,hka,hn2,hnL,hnc,hcm,hb,hMb,hlow,hnz,hsim,hnr,hkid⟩:=h.node (by omega)
 obtain rfl:E1=E:=by omega
 have hlz : ¬ Sim l []:=fun hs=>hnz (qgw hE4 hlow (fun i _ t ht=>by cases ht) ((hsim.trans hs).trans (qcj (L:=E1+1) (n:=x.kn) (P:=fun _=>[]) fun i _=>Sim.refl _).symm) (x.kn - 1) (by omega));have HLZ:=Lib.hid hlz;obtain ⟨D,b2,off2,Gk,hlv2,_,_,hb02,hn02,hka2,hn22,hnL2,hnc2,hcm2,hb2,hMb2,hlow2,hnz2,hsim2,hnr2,hkid2⟩:=hy.node (by omega)
 obtain rfl:D=E1:=by omega
 have hBl:Deg (B+C) l:=(Deg.pmul hB hC nu).sim hu;have hdn:=qbp hE4 (by omega) hlow hnz (hBl.sim hsim.symm);have hdn2:=qbp hE4 (by omega) hlow2 hnz2 (hC.sim hsim2.symm);have hNr:NN r:=hy.nn;obtain ⟨n,hn⟩ : ∃ n,y.kn=n+1:=⟨y.kn - 1,by omega⟩;rw [hn] at hlow2 hsim2 hnr2 hkid2 hdn2 hnz2 hnc2 hnL2 hn22;rw [Nat.add_sub_cancel] at hnz2
 have hlvE:y.lv=(D:Int)+1:=by omega
 obtain ⟨xx,hxx⟩:=qig PE.z (n:=x.kn) (Q:=fun i c=>qaZ w b (off+i*4) c/\CRx M w D c (P i)) (fun i hi=>by obtain ⟨c,h1,h2,_⟩:=hkid i hi;exact ⟨c,h1,h2⟩);obtain ⟨yy,hyy⟩:=qig PE.z (n:=n+1) (Q:=fun i c=>qaZ w b2 (off2+i*4) c/\CRx M w D c (Gk i)) (fun i hi=>by obtain ⟨c,h1,h2,_⟩:=hkid2 i hi;exact ⟨c,h1,h2⟩);have HXX:=Lib.hid hxx;have HYY:=Lib.hid hyy
 -- the end of a division that fails at once
 have HND:Hid (x.kn<=n -> ¬ Dv r l):=fun hle hd=>by
  obtain ⟨q,hq,hs⟩:=hd;have:=qmV hE4 hlow2 hnz2 (hNr.sim hsim2.symm) hq hle hlow ((hsim2.pmul_right q).trans (hs.trans hsim.symm));exact hlz (hsim.symm.trans this)
 have HGL:=Lib.hid hlow2;have HGZ:=Lib.hid hnz2;have HGS:=Lib.hid hsim2;have HNR:=Lib.hid hNr;have HGD:Hid (∀ i,i<n+1->Deg C (Gk i)/\dlen (nrm (Gk i))<=G):=fun i hi=>⟨hdn2.2 i hi,Nat.le_trans (qal (Nat.le_trans (qaN (D+1) (n+1) Gk i hi) hnr2)) hG⟩;have HPS:=Lib.hid hsim;have hkB:=hdn.1;have HMM:=Lib.hid hM;have HNE:=Lib.hid hN;have hN1:Hid (B+C<=1000000/\A+G+10<=549755813888):=⟨hN.n1,hN.n4⟩;have HNU:=Lib.hid nu;have HUR:=Lib.hid hu;have HUB:=Lib.hid hB;have HUA:=Lib.hid hA;have HRC:=Lib.hid hC;have HRG:=Lib.hid hG;have HPL:=Lib.hid hlow;have HIH:=Lib.hid ih;obtain ⟨x0,x1,x2,x3⟩:=hX0;obtain ⟨y0,y1,y2,y3⟩:=hY0
 have hsz0:w.heap.size+3=((((w.alloc (.cells (peA x) 33)).alloc (.cells (peA y) 33)).alloc (.cells zA 33))).heap.size:=by simp
 generalize hW:((w.alloc (.cells (peA x) 33)).alloc (.cells (peA y) 33)).alloc (.cells zA 33)=W at *;have HW:=Lib.hid hW;have HE:=Lib.hid hE0;have HS:Hid (SP2 w.heap.size x y W):=⟨⟨x0,x1,x2,x3⟩,⟨y0,y1,y2,y3⟩⟩;have HB0:=Lib.hid hB0;clear hE0 hB0 hM0 h hl hy hyl hz hB hC hA hG hN nu hu hBl ih hlow hnz hsim hnr hkid hdn hNr hW hM hlz hxx hyy hlow2 hnz2 hsim2 hnr2 hkid2 hdn2;clear x0 x1 x2 x3 y0 y1 y2 y3;obtain ⟨⟨x0,x1,x2,x3⟩,⟨y0,y1,y2,y3⟩⟩:=HS.out;have HLV:=Lib.hid hlv;have HLVE:=Lib.hid hlvE;have HKA:=Lib.hid hka;have HKA2:=Lib.hid hka2;have HN:=Lib.hid hn;clear hlv hlvE hka hka2 hn hlv2 hb0 hn0 hb02 hn02
 go_enter Tryz.func67,Tryz.ntmps67
 go_upto_region 1 with (fail)
 rw [HW.out];go_wp2_with (fail);refine CZ.out.mono ?_;rintro e w1 ⟨bz,rfl,hbz,he1⟩
 obtain rfl:bz=false:=by
  cases bz with
  | false=>rfl
  | true=>exact absurd (hbz.1 rfl) HLZ.out
 have HE1:=Lib.hid (HE.out.trans he1);have HSS:=Lib.hid (HS.out.ext he1);have HB1:=Lib.hid (HB0.out.ext he1)
 have hs1:w.heap.size+3<=w1.heap.size:=by have:=he1.size;omega
 clear x0 x1 x2 x3 y0 y1 y2 y3 HE HS HB0 HW he1 hbz CZ;obtain ⟨⟨x0,x1,x2,x3⟩,⟨y0,y1,y2,y3⟩⟩:=HSS.out;rw [HLV.out] at x0;rw [HLVE.out] at y0;rw [HKA.out] at x3;rw [HKA2.out,HN.out] at y3
 have hD0:((D:Int)+1 == 0)=false:=by simp;omega
 have hks:W.heap.size=w.heap.size+3:=hsz0.symm;clear hsz0
 go_upto_region 11 with (fail)
 by_cases hle:x.kn<=n
 ·have hND:=HND.out hle
  have hle':(x.kn:Int)<=n:=by omega
  obtain ⟨⟨q0,q1,q2,q3⟩,⟨f0,f1,f2,f3⟩,⟨r0,r1,r2,r3⟩,HF⟩:=qbR (M:=M) (M':=Mx M w.heap.size (w.heap.size+3)) (w:=w) (L:=0) (l:=[]) (y:=PE.z) HB1.out (Mx.at (by omega)) (by omega) HE1.out (CR.zero _ _ 0) Mx.sub;have HF2:=Lib.hid (HF.exF (L:=D+1) (A:=A) hND);simp only [PE.z] at r0 r1 r2 r3
  have hw2:w.heap.size+2<w1.heap.size:=by omega
  clear HF HXX HYY HND HGL HGZ HGS HNR HGD HPS HNE hN1 HNU HUR HUB HUA HRC HRG HPL HIH;go_wp2;exact bodyPost_ret (v:=.tuple #[.agg (peA PE.z),.bool false]) (by simp [results,Tryz.results67,go_sem,r0,r1,r2,r3,PE.z]) rfl HF2.out
 obtain ⟨V,hK⟩ : ∃ V,x.kn=n+V:=⟨x.kn - n,by omega⟩
 have hK1:1<=V:=by omega
 have HKN:=Lib.hid hK
 have hle' : ¬ ((n+V:Nat):Int)<=n:=by omega
 rw [hK] at x3 hnc hnL hkB;have HXC:Hid (∀ i,i<n+V->qaZ w b (off+i*4) (xx i)/\CRx M w D (xx i) (P i)):=fun i hi=>HXX.out i (by omega)
 have HPS2:Hid (Sim (poly (D+1) (n+V) P) l):=by show Sim _ _;rw [<- hK];exact HPS.out
 have HPL2:Hid (∀ i,i<n+V->Low D (P i)):=fun i hi=>HPL.out i (by omega);clear HXX HPS HPL HND hle hn2 hK
 go_wp2_with (first | (refine wpList_make_full _ rfl _ _ _ rfl w1.heap.size 33 i0 (.agg #[.int .i64 0,.bool false,.slice none 0 0,.slice none 0 0]) 4 Tryz.underlying31 hi hz0 hz1 .i64 .i64 _ _ (n+V) rfl rfl ?c4 ?c5 ?c2 ?c3 ?c6 ?_))
 case c2=>first | (rw [hz2];omega) | omega
 try (case c3=>first | omega | (unfold maxLen;omega))
 try (case c4=>simp)
 try (case c5=>simp)
 try (case c6=>omega)
 intro w2 hown hgrow;have hBk:=(Blk.made hown rfl (by omega)).congr (f':=zc4) (fun i _=>qbL i);have he2:=qaw hgrow;have HEX2:=Lib.hid (HE1.out.trans he2);have HB2:=Lib.hid (HB1.out.ext he2);have HSS2:=Lib.hid (HSS.out.ext he2);have hs2:w1.heap.size<w2.heap.size:=hBk.lt;have hgz : ∃ g1,g1=w1.heap.size:=⟨_,rfl⟩;obtain ⟨g1,hg1⟩:=hgz;rw [<- hg1] at hBk hs2 ⊢
 have hs3:w.heap.size+3<=g1:=by omega
 clear hg1 hown hgrow he2 HB1 HSS HE1 x0 x1 x2 x3 y0 y1 y2 y3;obtain ⟨⟨x0,x1,x2,x3⟩,⟨y0,y1,y2,y3⟩⟩:=HSS2.out;rw [HLV.out] at x0;rw [HLVE.out] at y0;rw [HKA.out,HKN.out] at x3;rw [HKA2.out,HN.out] at y3;have hKC : ∀ j,j<(n+V)*4->w2.cell? ⟨b,off+j,none⟩=some (px xx j):=qlT fun i hi=>(HXC.out i hi).1.ext hb HEX2.out
 have hsz4:(Tryz.prog.info? 33).map (·.size)=some 4:=by rw [hi];simp [hz1]
 go_wp2_with (first | (refine qcR rfl (.tmp 67) (.tmp 69) _ _ rfl 33 Tryz.underlying31 4 hsz4 (n+V) (n+V) x.kp g1 b off rfl rfl 33 zc4 hBk (px xx) hKC (fun j _=>qpg xx j) ?_))
 intro w3 hB3 hg3;have hE3:Ext w w3:=HEX2.out.grown hg3 (fun k hk=>by cases hk;omega);have hB03:=HB2.out.grown hg3 (by intro e;cases e;omega);have hSS3:SP2 w.heap.size x y w3:=⟨qak HSS2.out.1 (hg3.block _ (by omega) (by intro e;cases e;omega)),qak HSS2.out.2 (hg3.block _ (by omega) (by intro e;cases e;omega))⟩;have hs4:=hg3.size;have HKR:Hid (∀ m,qax (Mx M w.heap.size m) w3 D g1 (n+V) P):=fun m=>qax.of_px hB3 (fun j hj=>by unfold qhg;rw [if_pos (by omega),Nat.sub_zero]) (fun i hi=>((HXC.out i hi).2.more (Mx.more (Nat.le_refl _))).ext hE3);have HE3:=Lib.hid hE3;have HB3:=Lib.hid hB03;have HSS3:=Lib.hid hSS3
 have hs5:g1<w3.heap.size:=by omega
 clear hE3 hB03 hSS3 hB3 hg3 hKC hBk HEX2 HB2 HSS2 x0 x1 x2 x3 y0 y1 y2 y3 hs2 hs4 HXC;obtain ⟨⟨x0,x1,x2,x3⟩,⟨y0,y1,y2,y3⟩⟩:=HSS3.out;rw [HLV.out] at x0;rw [HLVE.out] at y0;rw [HKA.out,HKN.out] at x3;rw [HKA2.out,HN.out] at y3
 have hKe:(n:Int)+V - n=V:=by omega
 go_upto_region 15 with (fail)
 go_wp2_with (first | (refine wpList_make_full _ rfl _ _ _ rfl w3.heap.size 33 i0 (.agg #[.int .i64 0,.bool false,.slice none 0 0,.slice none 0 0]) 4 Tryz.underlying31 hi hz0 hz1 .i64 .i64 _ _ V rfl rfl ?d4 ?d5 ?d2 ?d3 ?d6 ?_))
 try (case d2=>first | (rw [hz2];omega) | omega)
 try (case d3=>first | omega | (unfold maxLen;omega))
 try (case d4=>first | omega | simp)
 try (case d5=>first | omega | simp)
 try (case d6=>omega)
 intro w4 hown hgrow;have hBk4:=(Blk.made hown rfl (by omega)).congr (f':=zc4) (fun i _=>qbL i);have he4:=qaw hgrow;have hs6:w3.heap.size<w4.heap.size:=hBk4.lt;obtain ⟨g2,hg2⟩ : ∃ g2,g2=w3.heap.size:=⟨_,rfl⟩;rw [<- hg2] at hBk4 hs6 ⊢
 have hs7:g1<g2:=by omega
 have HKA4:Hid (qax (Mx M w.heap.size (g2+1)) w4 D g1 (n+V) P):=(HKR.out _).ext he4
 have HKQ4:Hid (qax (Mx M w.heap.size (g2+1)) w4 D g2 V (fun i=>if V<=i then [] else [])):=(qax.fresh hBk4).congr fun i _=>by rw [if_neg (by omega)];exact Sim.refl _
 have HE4:=Lib.hid (HE3.out.trans he4);have HB4:=Lib.hid (HB3.out.ext he4);have HSS4:=Lib.hid (HSS3.out.ext he4);have HQA:=Lib.hid (qmL hE4 HGL.out HGS.out HNR.out HNU.out HGZ.out HPL2.out HPS2.out HUR.out);have HKS4:Hid (qax (Mx M w.heap.size (g2+1)) w4 D g1 (n+V) (exR D u r V)):=HKA4.out.congr (qmJ hE4 HGL.out HGS.out HNR.out HNU.out HGZ.out HPL2.out HPS2.out HUR.out);clear HKA4;clear hg2 he4 hBk4 hown hgrow HKR HE3 HB3 HSS3 hs5 HPS2 HPL2 x0 x1 x2 x3 y0 y1 y2 y3 hKe hle' hi hz0 hz1 hz2 hsz4;have hn1:=hN1.out
 have hVB:V<=B+C+1:=by omega
 have hNB:n<=B+C+1:=by omega
 go_wp2
 go_loopw [11] (fun i wr=>∃ (k:Nat) (R:Nat->List Tm),k<=V/\i = .int .i64 ((k:Int) - 1)/\g2<wr.heap.size/\Hid (qax (Mx M w.heap.size (g2+1)) wr D g1 (n+V) R)/\Hid (qax (Mx M w.heap.size (g2+1)) wr D g2 V (fun i=>if k<=i then exQ D u i else []))/\Hid (∀ i,i<n+k->R i=exR D u r k i)/\Hid (Ext w wr)/\Hid (SP2 w.heap.size x y wr)/\Hid (Blk wr (w.heap.size+2) 33 4 (arr zA))) (fun i _=>(intOf i+1).toNat)
 case atStart=>exact ⟨V,exR D u r V,Nat.le_refl _,by go_num,by omega,HKS4,HKQ4.out.congr fun i hi=>by rw [if_neg (by omega),if_neg (by omega)];exact Sim.refl _,fun _ _=>rfl,HE4,HSS4,HB4⟩
 case round=>
  clear HKS4 HKQ4 HE4 HSS4 HB4;obtain ⟨k,R,hk,rfl,hgs,HKR,HKQ,HDV,HEW,HSW,HBR⟩:=hrel
  by_cases hk0:k=0
  ·subst hk0;have hok:=HNE.out.pow hE4
   have hrb : ∀ i,i<n->Deg (B+C) (R i)/\dlen (nrm (R i))<=A+2+G:=fun i hi=>by rw [HDV.out i (by omega)];exact qmK hE4 HNU.out HUB.out HUA.out HRC.out HRG.out (by omega) i
   have hqb:=qdx hE4 HNU.out HUB.out HUA.out;have hM3:Mb (Mx M w.heap.size (w.heap.size+3)) wr:=Mx.mb HMM.out HEW.out.size (by omega);have hkr:qbA (Mx M w.heap.size (w.heap.size+3)) wr D (.slice (some ⟨g1,0,none⟩) n (n+V)) n R:=HKR.out.pre (fun g hg=>.inl (hg.imp id fun h=>by omega)) (fun hh=>hh.elim (HMM.out.new (by omega)) (by omega)) (by omega) (by omega) (by unfold maxLen;omega);have CJ1:=Lib.hid (qd8 (S:=B+C) (A:=A+2+G) wr.drew (hM3.ext (Ext.refl wr).drew) (hkr.ext (Ext.refl wr).drew) hE4 (fun i hi=>(hrb i hi).1) hNB hok hn1.1 (fun i hi=>(hrb i hi).2) (by omega));have CIZ:Hid (∀ (z:PE) (W:World),CRx (Mx M w.heap.size (w.heap.size+3)) W (D+1) z (poly (D+1) n R)->Ext wr.drew W->Calls Tryz.prog 72 #[.agg (peA z)] W (fun e w'=>∃ b:Bool,e = .returned (.bool b)/\(b=true↔Sim (poly (D+1) n R) [])/\Ext W w')):=fun z W hz he=>qbh _ z _ W ((hM3.ext (Ext.refl wr).drew).ext he) hz.pi
   have hkr2:qbA (Mx M w.heap.size (w.heap.size+3)) wr D (.slice (some ⟨g2,0,none⟩) V V) V (exQ D u):=(HKQ.out.pre (fun g hg=>.inl (hg.imp id fun h=>by omega)) (fun hh=>hh.elim (HMM.out.new (by omega)) (by omega)) (by omega) (Nat.le_refl _) (by unfold maxLen;omega)).congr fun i _=>by rw [if_pos (Nat.zero_le _)];exact Sim.refl _
   have CJ2:Hid (∀ W,Ext wr W->Calls Tryz.prog 62 #[.slice (some ⟨g2,0,none⟩) V V,.int .i64 ((D:Int)+1)] W (qa8 (Mx M w.heap.size (w.heap.size+3)) W (D+1) (poly (D+1) V (exQ D u)))):=fun W he=>qd8 (S:=B+C) (A:=A) W (hM3.ext he) (hkr2.ext he) hE4 (fun i hi=>(hqb i).2.1.mono (by omega)) hVB hok hn1.1 (fun i hi=>(hqb i).2.2) (by omega)
   have HPZ:Hid (Sim (poly (D+1) n R) []):=qcj fun i hi=>by rw [HDV.out i (by omega)];exact Sim.refl _
   have hx0:wr.drew.cell? ⟨w.heap.size,0,none⟩=some (.int .i64 ((D:Int)+1)):=by
    have:=HSW.out.1.1;rw [HLV.out] at this;exact this
   have HX0:=Lib.hid hx0
   have hw0:w.heap.size<wr.drew.heap.size:=by have:=(Ext.refl wr).drew.size;omega
   have hwr:w.heap.size+2<wr.heap.size:=by omega
   have hnv:(n:Int)<=(n:Int)+(V:Int):=by omega
   clear hrb hqb hok hM3 hkr hkr2 hx0 HDV HKR HKQ HYY HGL HGZ HGS HNR HGD HNE hN1 HNU HUB HRC HRG HIH hn1
   go_upto_region 28 with (fail)
   refine qad (fun w'=>w'.cell? ⟨w.heap.size,0,none⟩=some (.int .i64 ((D:Int)+1))) 7 (by kernel_rfl) HX0.out (fun hHeld=>?_);((refine qaG 0 (oi:=?_) (v:=?_) (by kernel_rfl) (by kernel_rfl) (by kernel_rfl) (by kernel_rfl) (by kernel_rfl) (by first | exact hSn | exact hHeld) ?_ ?_ ?_ ?_ ?_;rotate_left 2;(simp only [xgA,xgB,xgC];rfl);rfl;(intro wS hSw;obtain S1:=hSw;go_simp;try with_reducible rfl);(exact fun _ _ _ h=>h);(try simp only [Act.put,xgD,xgE,xgF]));(refine qaG 1 (oi:=?_) (v:=?_) (by kernel_rfl) (by kernel_rfl) (by kernel_rfl) (by kernel_rfl) (by kernel_rfl) (by first | exact hSn | exact hHeld) ?_ ?_ ?_ ?_ ?_;rotate_left 2;(simp only [xgA,xgB,xgC];rfl);rfl;(intro wS hSw;obtain S1:=hSw;go_simp;try with_reducible rfl);(exact fun _ _ _ h=>h);(try simp only [Act.put,xgD,xgE,xgF]));(refine qaG 2 (oi:=?_) (v:=?_) (by kernel_rfl) (by kernel_rfl) (by kernel_rfl) (by kernel_rfl) (by kernel_rfl) (by first | exact hSn | exact hHeld) ?_ ?_ ?_ ?_ ?_;rotate_left 2;(simp only [xgA,xgB,xgC];rfl);rfl;(intro wS hSw;obtain S1:=hSw;go_simp;try with_reducible rfl);(exact fun _ _ _ h=>h);(try simp only [Act.put,xgD,xgE,xgF]));(refine qaG 3 (oi:=?_) (v:=?_) (by kernel_rfl) (by kernel_rfl) (by kernel_rfl) (by kernel_rfl) (by kernel_rfl) (by first | exact hSn | exact hHeld) ?_ ?_ ?_ ?_ ?_;rotate_left 2;(simp only [xgA,xgB,xgC];rfl);rfl;(intro wS hSw;obtain S1:=hSw;go_simp;try with_reducible rfl);(exact fun _ _ _ h=>h);(try simp only [Act.put,xgD,xgE,xgF]));(refine qaG 4 (oi:=?_) (v:=?_) (by kernel_rfl) (by kernel_rfl) (by kernel_rfl) (by kernel_rfl) (by kernel_rfl) (by first | exact hSn | exact hHeld) ?_ ?_ ?_ ?_ ?_;rotate_left 2;(simp only [xgA,xgB,xgC];rfl);rfl;(intro wS hSw;obtain S1:=hSw;go_simp;try with_reducible rfl);(exact fun _ _ _ h=>h);(try simp only [Act.put,xgD,xgE,xgF])))
   (refine qaa 5 (o:=?_) (by kernel_rfl) ?_ ?_;rotate_left 1;(simp only [xgA,xgB,xgC];rfl);intro K hK);go_simp;refine CJ1.out.mono ?_;rintro e wz ⟨z,rfl,hz,he1⟩;go_wp2_with (fail)
   have hSn:wz.cell? ⟨w.heap.size,0,none⟩=some (.int .i64 ((D:Int)+1)):=by rw [he1.cell hw0];exact hHeld
   refine hK.out _ _ (fun _=>hSn) ?_;clear hK K;(try simp only [Act.put,xgD,xgE,xgF]);(refine qaa 6 (o:=?_) (by kernel_rfl) ?_ ?_;rotate_left 1;(simp only [xgA,xgB,xgC];rfl);intro K hK);go_simp;refine (CIZ.out z wz hz he1).mono ?_;rintro e wz2 ⟨bz,rfl,hbz,he2⟩;go_wp2_with (fail)
   have hSn2:wz2.cell? ⟨w.heap.size,0,none⟩=some (.int .i64 ((D:Int)+1)):=by rw [he2.cell (Nat.lt_of_lt_of_le hw0 he1.size)];exact hSn
   clear hSn;refine hK.out _ _ (fun _=>hSn2) ?_;clear hK K;(try simp only [Act.put,xgD,xgE,xgF]);((refine qaa 7 (o:=?_) (by kernel_rfl) ?_ ?_;rotate_left 1;(simp only [xgA,xgB,xgC];rfl);intro K hK);go_simp;(refine hK.out _ _ (fun h=>absurd rfl h) ?_);clear hK K;refine qac (by kernel_rfl) ?_ _);have he3:=(Ext.refl wr).drew.trans (he1.trans he2);have hBz:=HBR.out.ext he3;have hEz:=HEW.out.trans he3
   have hw3:w.heap.size+2<wz2.heap.size:=by have:=he3.size;omega
   cases bz with
   | false=>exact absurd (hbz.2 HPZ.out) (by simp)
   | true=>
    have CT:=Lib.hid (CJ2.out wz2 he3);have HBZ:=Lib.hid hBz;have HEZ:=Lib.hid hEz;clear hHeld HPZ CJ1 CJ2 CIZ hz he1 he2 he3 hBz hEz hbz HX0 HEW HSW HBR;go_wp2_with (fail);refine CT.out.mono ?_;rintro e w5 ⟨v,rfl,hv,he5⟩;obtain ⟨⟨q0,q1,q2,q3⟩,⟨f0,f1,f2,f3⟩,⟨r0,r1,r2,r3⟩,HF⟩:=qbR (M:=M) (w:=w) (HBZ.out.ext he5) (Mx.at (by omega)) (by omega) (HEZ.out.trans he5) (hv.sim HQA.out) Mx.sub;have HF2:=Lib.hid (HF.exT HUR.out HUA.out);clear HF he5 hv CT hSn2 HQA HUR HUA HBZ HEZ;go_wp2;exact bodyPost_ret (v:=.tuple #[.agg (peA v),.bool true]) (by simp [results,Tryz.results67,go_sem,r0,r1,r2,r3]) rfl HF2.out
  ·obtain ⟨k,rfl⟩ : ∃ k',k=k'+1:=⟨k - 1,by omega⟩
   have hnk:n+k<n+V:=by omega
   have hkK:k<V:=by omega
   obtain ⟨d,hd1,hd2⟩:=HKR.out.cells (n+k) hnk;obtain ⟨hc1,hc2⟩:=HYY.out n (Nat.lt_succ_self n);have hbw:b2<wr.heap.size:=Nat.lt_of_lt_of_le hb2 HEW.out.size;have HS19:Hid (S19 (w.heap.size+1) (.slice (some ⟨b2,off2,none⟩) (n+1) y.kp) g1 ((n+k)*4) d b2 (off2+n*4) (yy n) wr.drew):=S19.ext ⟨by have:=HSW.out.2.2.2.2;rw [HKA2.out,HN.out] at this;exact this,hd1,hc1.ext hb2 HEW.out⟩ (by omega) (by omega) hbw (Ext.refl wr).drew;have hw1:IntKind.i64.wrap ((n:Int)+(k:Int))=(n:Int)+(k:Int):=IntWalk.i64_in _ (by omega)
   have hw2:(0:Int)<=(n:Int)+(k:Int):=by omega
   have hw3:((n:Int)+(k:Int)).toNat=n+k:=by omega
   have hw4:(n:Int)+(k:Int)<((n+V:Nat):Int):=by omega
   have hw5:(n:Int)<(n:Int)+1:=by omega
   have hMB:Mb (Mx M w.heap.size (g2+1)) wr:=Mx.mb HMM.out HEW.out.size (by omega)
   have HCALL:Hid (∀ (M':Nat->Prop) W,Mb M' W->(∀ g,M' g->Mx M w.heap.size (g2+1) g∨wr.heap.size<=g)->Ext wr W->Calls Tryz.prog 67 #[.agg (peA d),.agg (peA (yy n))] W (qcV M' W D (R (n+k)) (Gk n) A)):=fun M' W hMW hmore he=>by
    have hq:=qdx hE4 HNU.out HUB.out HUA.out k;exact HIH.out M' (R (n+k)) (Gk n) (exQ D u k) d (yy n) W hMW ((hd2.more hmore).ext he) (((hc2.up (show D<=4 by omega)).more (M':=M') fun g hg=>(hmore g hg).elim (fun h=>h.elim .inl fun h=>.inr h.1) fun h=>.inr (Nat.le_trans HEW.out.size h)).ext (HEW.out.trans he)) HGZ.out hq.1 (by rw [HDV.out (n+k) (by omega)];exact qmI hE4 HGL.out HGS.out HNR.out HNU.out k) hq.2.1 hq.2.2 (HGD.out n (Nat.lt_succ_self n)).1 (HGD.out n (Nat.lt_succ_self n)).2
   have HTOP:Hid (Sim (pmul (exQ D u k) (Gk n)) (R (n+k))):=by show Sim _ _;rw [HDV.out (n+k) (by omega)];exact qmI hE4 HGL.out HGS.out HNR.out HNU.out k
   go_upto_region 19 with (fail)
   rw [show (((k+1:Nat):Int) - 1)=(k:Int) by omega]
   go_cut [12,13] from 84 to 98 (qrz (Mx M w.heap.size (g2+1)) wr.drew D (R (n+k)) (Gk n) A)
   case first=>
    refine qad (S19 (w.heap.size+1) (.slice (some ⟨b2,off2,none⟩) (n+1) y.kp) g1 ((n+k)*4) d b2 (off2+n*4) (yy n)) 17 (by kernel_rfl) HS19.out (fun hHeld=>?_);have hEd:Ext wr wr.drew:=(Ext.refl wr).drew;have hMd:Mb (Mx M w.heap.size (g2+1)) wr.drew:=hMB.ext hEd
    have hz1:w.heap.size+1<wr.drew.heap.size:=by have:=hEd.size;omega
    have hz2:g1<wr.drew.heap.size:=by have:=hEd.size;omega
    have hz3:b2<wr.drew.heap.size:=by have:=hEd.size;omega
    have hsd:wr.heap.size<=wr.drew.heap.size:=hEd.size;generalize wr.drew=wd at *;(refine tkB [0,1,2,3,4,5,6,7,8,9,10] ?_;(iterate 11 (refine tk1 (oi:=?_) (v:=?_) (by kernel_rfl) (by first | exact hSn | exact hHeld) ?_ ?_ ?_ ?_ ?_;rotate_left 2;(simp only [xgA,xgB,xgC];rfl);rfl;(intro wS hSw;obtain ⟨S0,⟨S1,S2,S3,S4⟩,S5,S6,S7,S8⟩:=hSw;go_simp;try with_reducible rfl);(exact fun _ _ _ h=>h);(try simp only [Act.put,xgD,xgE,xgF])));refine tkE ?_);(refine qau 11 15 (oi:=?_) (oj:=?_) (by kernel_rfl) ?_ ?_ ?_ ?_;rotate_left 2;(simp only [xgA,xgB,xgC];rfl);(simp only [xgA,xgB,xgC];rfl);all_goals intro K hK)
    ·go_simp;refine (HCALL.out (Mx M w.heap.size (g2+1)) wd hMd (fun g hg=>.inl hg) hEd).mono ?_;rintro e wz ⟨v,ok,rfl,hR,he1⟩;go_wp2_with (fail);have hSn:=hHeld.ext hz1 hz2 hz3 he1;refine hK.out _ _ (fun _=>hSn) ?_;clear hK K;(try simp only [Act.put,xgD,xgE,xgF]);(refine tkB [12,13,14] ?_;(iterate 3 (refine tk1 (oi:=?_) (v:=?_) (by kernel_rfl) (by first | exact hSn | exact hHeld) ?_ ?_ ?_ ?_ ?_;rotate_left 2;(simp only [xgA,xgB,xgC];rfl);rfl;(intro wS hSw;obtain ⟨S0,⟨S1,S2,S3,S4⟩,S5,S6,S7,S8⟩:=hSw;go_simp;try with_reducible rfl);(exact fun _ _ _ h=>h);(try simp only [Act.put,xgD,xgE,xgF])));refine tkE ?_);(refine qaa 15 (o:=?_) (by kernel_rfl) ?_ ?_;rotate_left 1;(simp only [xgA,xgB,xgC];rfl);intro K hK);go_simp;have hSn2:=hSn.ext (Nat.lt_of_lt_of_le hz1 he1.size) (Nat.lt_of_lt_of_le hz2 he1.size) (Nat.lt_of_lt_of_le hz3 he1.size) ((Ext.refl wz).alloc (.cells zA 33));have hSn3:=hSn.ext (Nat.lt_of_lt_of_le hz1 he1.size) (Nat.lt_of_lt_of_le hz2 he1.size) (Nat.lt_of_lt_of_le hz3 he1.size) ((Ext.refl wz).alloc (.cells (peA v) 33));clear hSn;refine hK.out _ _ (fun _=>hSn2) ?_;clear hK K;(try simp only [Act.put,xgD,xgE,xgF]);(refine qaa 16 (o:=?_) (by kernel_rfl) ?_ ?_;rotate_left 1;(simp only [xgA,xgB,xgC];rfl);intro K hK);go_simp;refine hK.out _ _ (fun _=>hSn3) ?_;clear hK K;(try simp only [Act.put,xgD,xgE,xgF]);((refine qaa 17 (o:=?_) (by kernel_rfl) ?_ ?_;rotate_left 1;(simp only [xgA,xgB,xgC];rfl);intro K hK);go_simp;(refine hK.out _ _ (fun h=>absurd rfl h) ?_);clear hK K;refine qac (by kernel_rfl) ?_ _)
     go_wp2_with (fail)
     go_meet
     exact ⟨wz.heap.size,v,ok,rfl,rfl,(Blk.of_arr wz (peA v) 33 4 rfl).p4,by simp,he1.size,hR.ext ((Ext.refl wz).alloc _),he1.alloc _⟩
    ·go_simp;have hE9:Ext wd (wd.alloc (.cells zA 33)):=(Ext.refl _).alloc _;have hB9:=Blk.of_arr wd zA 33 4 rfl;have hSn:=hHeld.ext hz1 hz2 hz3 hE9;refine hK.out _ _ (fun _=>hSn) ?_;clear hK K;(try simp only [Act.put,xgD,xgE,xgF]);(refine qaa 11 (o:=?_) (by kernel_rfl) ?_ ?_;rotate_left 1;(simp only [xgA,xgB,xgC];rfl);intro K hK);go_simp;refine (HCALL.out (fun g=>Mx M w.heap.size (g2+1) g∨g=wd.heap.size) _ (fun g hg=>hg.elim (fun h=>Nat.lt_of_lt_of_le (hMd g h) hE9.size) (fun h=>by rw [h];exact hB9.lt)) (fun g hg=>hg.imp id (fun h=>by rw [h];exact hsd)) (hEd.trans hE9)).mono ?_;rintro e wz ⟨v,ok,rfl,hR,he1⟩;go_wp2_with (fail);clear hSn;have hSn:=hHeld.ext hz1 hz2 hz3 (hE9.trans he1);refine hK.out _ _ (fun _=>hSn) ?_;clear hK K;(try simp only [Act.put,xgD,xgE,xgF]);(refine tkB [12,13,14] ?_;(iterate 3 (refine tk1 (oi:=?_) (v:=?_) (by kernel_rfl) (by first | exact hSn | exact hHeld) ?_ ?_ ?_ ?_ ?_;rotate_left 2;(simp only [xgA,xgB,xgC];rfl);rfl;(intro wS hSw;obtain ⟨S0,⟨S1,S2,S3,S4⟩,S5,S6,S7,S8⟩:=hSw;go_simp;try with_reducible rfl);(exact fun _ _ _ h=>h);(try simp only [Act.put,xgD,xgE,xgF])));refine tkE ?_);obtain ⟨⟨q0,q1,q2,q3⟩,⟨f0,f1,f2,f3⟩,hrr,hkp,hext⟩:=qkL (M':=fun g=>Mx M w.heap.size (g2+1) g∨g=wd.heap.size) (w:=wd) (.int .i64 v.lv) (.bool v.b) (.slice v.a v.n v.p) (.slice v.ka v.kn v.kp) (hB9.ext he1) (.inr rfl) (Nat.le_refl _) (hE9.trans he1);simp only [arr] at q0 q1 q2 q3;(refine qaa 16 (o:=?_) (by kernel_rfl) ?_ ?_;rotate_left 1;(simp only [xgA,xgB,xgC];rfl);intro K hK)
     go_simp;have hSn3:=hHeld.ext hz1 hz2 hz3 hext;clear hSn;refine hK.out _ _ (fun _=>hSn3) ?_;clear hK K;(try simp only [Act.put,xgD,xgE,xgF]);((refine qaa 17 (o:=?_) (by kernel_rfl) ?_ ?_;rotate_left 1;(simp only [xgA,xgB,xgC];rfl);intro K hK);go_simp;(refine hK.out _ _ (fun h=>absurd rfl h) ?_);clear hK K;refine qac (by kernel_rfl) ?_ _);go_wp2_with (fail)
     go_meet
     exact ⟨wd.heap.size,v,ok,rfl,rfl,hrr,Nat.lt_of_lt_of_eq (Nat.lt_of_lt_of_le hB9.lt he1.size) (qaq _ _ _ _ _ _ _).symm,Nat.le_refl _,(hR.kp hkp).more (fun g hg=>.inl (.inl hg)),hext⟩
   case rest=>
    obtain ⟨gc,v,ok,rfl,rfl,hv,hgv,hgw,hR,heC⟩:=hcut;have he5:Ext wr wc:=(Ext.refl wr).drew.trans heC;have hgw':wr.heap.size<=gc:=hgw;have hsc:=he5.size;have HEC:=Lib.hid he5;have HRR:=Lib.hid hR;have HV:=Lib.hid hv;have HBC:=Lib.hid (HBR.out.ext he5);have HSC:=Lib.hid (HSW.out.ext he5);have HWC:=Lib.hid (HEW.out.trans he5);clear hR hv heC he5 hgw hw1 hw2 hw3 hw4 hw5 HS19 HCALL hd1 hd2 hc1 hc2 hMB hnk
    cases ok with
    | false=>
     exact absurd ⟨_,(qdx hE4 HNU.out HUB.out HUA.out k).1,HTOP.out⟩ (HRR.out.2 rfl)
    | true=>
     obtain ⟨qq,hq1,hq2,hq3⟩:=HRR.out.1 rfl;have hqn:=qdx hE4 HNU.out HUB.out HUA.out k;have hqe:Sim qq (exQ D u k):=qbt hq1.nn hqn.1 (HYY.out n (Nat.lt_succ_self n)).2.nn HGZ.out (hq2.trans HTOP.out.symm);replace hq1:=hq1.sim hqe;clear hq2 hq3 hqe;obtain ⟨v0,v1,v2,v3⟩:=HV.out;have hK4:=HKQ.out.ext HEC.out;obtain ⟨⟨_,k0⟩,⟨_,k1⟩,⟨_,k2⟩,⟨_,k3⟩,hfr,hg4⟩:=hK4.at k hkK;have hf0:=hfr (k*4);have hf1:=hfr (k*4+1);have hf2:=hfr (k*4+2);have hf3:=hfr (k*4+3);have hkp:Kp (Mx M w.heap.size (g2+1)) wc (set4 wc g2 (k*4) (.int .i64 v.lv) (.bool v.b) (.slice v.a v.n v.p) (.slice v.ka v.kn v.kp)):=Kp.set4 (Mx.at (by omega)) _ _ _ _ _;have hot : ∀ g,g≠g2->(set4 wc g2 (k*4) (.int .i64 v.lv) (.bool v.b) (.slice v.a v.n v.p) (.slice v.ka v.kn v.kp)).heap[g]? = wc.heap[g]?:=fun g hg=>qag _ _ _ _ _ _ _ _ hg
     have HKQ6:Hid (qax (Mx M w.heap.size (g2+1)) (set4 wc g2 (k*4) (.int .i64 v.lv) (.bool v.b) (.slice v.a v.n v.p) (.slice v.ka v.kn v.kp)) D g2 V (fun i=>if k<=i then exQ D u i else [])):=(hK4.set (Mx.at (by omega)) k hkK hq1).congr fun i _=>by
      by_cases hik:i=k
      ·rw [if_pos hik,if_pos (by omega),hik];exact Sim.refl _
      ·rw [if_neg hik]
       by_cases h3:k+1<=i
       ·rw [if_pos h3,if_pos (by omega)];exact Sim.refl _
       ·rw [if_neg h3,if_neg (by omega)];exact Sim.refl _
     have HKR6:Hid (qax (Mx M w.heap.size (g2+1)) (set4 wc g2 (k*4) (.int .i64 v.lv) (.bool v.b) (.slice v.a v.n v.p) (.slice v.ka v.kn v.kp)) D g1 (n+V) (rj k (exQ D u k) Gk R 0)):=((HKR.out.ext HEC.out).kp (hot g1 (by omega)) hkp).congr fun i _=>by rw [qlL];exact Sim.refl _
     have HCV6:=Lib.hid (hq1.kp hkp);have HV6:Hid (P4 (set4 wc g2 (k*4) (.int .i64 v.lv) (.bool v.b) (.slice v.a v.n v.p) (.slice v.ka v.kn v.kp)) gc v):=qak HV.out (hot gc (by omega));have HE6:Hid (Ext w (set4 wc g2 (k*4) (.int .i64 v.lv) (.bool v.b) (.slice v.a v.n v.p) (.slice v.ka v.kn v.kp))):=HWC.out.set4 (by omega) _ _ _ _ _;have HS6:Hid (SP2 w.heap.size x y (set4 wc g2 (k*4) (.int .i64 v.lv) (.bool v.b) (.slice v.a v.n v.p) (.slice v.ka v.kn v.kp))):=⟨qak HSC.out.1 (hot _ (by omega)),qak HSC.out.2 (hot _ (by omega))⟩;have HB6:Hid (Blk (set4 wc g2 (k*4) (.int .i64 v.lv) (.bool v.b) (.slice v.a v.n v.p) (.slice v.ka v.kn v.kp)) (w.heap.size+2) 33 4 (arr zA)):=HBC.out.of_heap (hot _ (by omega));have HSZ6:Hid ((set4 wc g2 (k*4) (.int .i64 v.lv) (.bool v.b) (.slice v.a v.n v.p) (.slice v.ka v.kn v.kp)).heap.size=wc.heap.size):=qaq _ _ _ _ _ _ _;have HQF:Hid (NN (exQ D u k)/\dlen (nrm (exQ D u k))<=A):=⟨hqn.1,hqn.2.2⟩
     have hw3:g2<wc.heap.size:=by omega
     have hbc:b2<wc.heap.size:=by omega
     have HQD:Hid (Deg B (exQ D u k)):=hqn.2.1;clear hK4 hfr hq1 hqn hkp hot HTOP HKQ HKR HRR HV HSC HWC HBC HEC HEW HSW HBR;go_wp2
     go_loopw [107] (fun i wr2=>∃ j:Nat,j<=n/\i = .int .i64 j/\wc.heap.size<=wr2.heap.size/\Hid (qax (Mx M w.heap.size (g2+1)) wr2 D g1 (n+V) (rj k (exQ D u k) Gk R j))/\Hid (qax (Mx M w.heap.size (g2+1)) wr2 D g2 V (fun i=>if k<=i then exQ D u i else []))/\Hid (CRx (Mx M w.heap.size (g2+1)) wr2 D v (exQ D u k))/\Hid (P4 wr2 gc v)/\Hid (Ext w wr2)/\Hid (SP2 w.heap.size x y wr2)/\Hid (Blk wr2 (w.heap.size+2) 33 4 (arr zA))) (fun i _=>n - (intOf i).toNat)
     case atStart=>exact ⟨0,Nat.zero_le _,rfl,Nat.le_of_eq HSZ6.out.symm,HKR6,HKQ6,HCV6,HV6,HE6,HS6,HB6⟩
     case round=>
      clear HKR6 HKQ6 HCV6 HV6 HE6 HS6 HB6 HSZ6 k0 k1 k2 k3 hf0 hf1 hf2 hf3 v0 v1 v2 v3 hg4;obtain ⟨j,hj,rfl,hsi,HKRi,HKQi,HCVi,HVi,HEi,HSi,HBi⟩:=hrel
      by_cases hjn:j<n
      ·have hjn':(j:Int)<n:=by omega
       obtain ⟨d2,hd1,hd2⟩:=HKRi.out.cells (k+j) (by omega);rw [qr6] at hd2;obtain ⟨hc1,hc2⟩:=HYY.out j (by omega);have HS26:Hid (S26 (w.heap.size+1) (.slice (some ⟨b2,off2,none⟩) (n+1) y.kp) g1 ((k+j)*4) d2 b2 (off2+j*4) (yy j) gc v wr.drew):=S26.ext ⟨by have:=HSi.out.2.2.2.2;rw [HKA2.out,HN.out] at this;exact this,hd1,hc1.ext hb2 HEi.out,HVi.out⟩ (by omega) (by omega) (by omega) (by omega) (Ext.refl wr).drew;have hw1:IntKind.i64.wrap ((j:Int)+(k:Int))=(j:Int)+(k:Int):=IntWalk.i64_in _ (by omega)
       have hw2:(0:Int)<=(j:Int)+(k:Int):=by omega
       have hw3:((j:Int)+(k:Int)).toNat=k+j:=by omega
       have hw4:(j:Int)+(k:Int)<(n:Int)+(V:Int):=by omega
       have hw5:(j:Int)<(n:Int)+1:=by omega
       have hMi:Mb (Mx M w.heap.size (g2+1)) wr.drew:=Mx.mb HMM.out (HEi.out.trans (Ext.refl wr).drew).size (by have:=(Ext.refl wr).drew.size;omega);have hgd:=HGD.out j (by omega);have hqf:=HQF.out;have hql:=hqf.2;have hgl:=hgd.2
       have hdl:dlen (nrm (R (k+j)))<=A+2+G:=by rw [HDV.out (k+j) (by omega)];exact (qmK hE4 HNU.out HUB.out HUA.out HRC.out HRG.out (by omega) _).2
       have hn3:=HNE.out.n3
       have hpn:dlen (nrm (pmul (exQ D u k) (Gk j)))<=dlen (nrm (exQ D u k))+dlen (nrm (Gk j)):=by rw [qbb];exact qaD _ _
       have hsn:dlen (nrm (R (k+j) ++ qbz (pmul (exQ D u k) (Gk j))))<=max (dlen (nrm (R (k+j)))) (dlen (nrm (pmul (exQ D u k) (Gk j))))+1:=by rw [qai,qdP];exact qco _ _
       have CM:=Lib.hid (qfP (Mx M w.heap.size (g2+1)) v (yy j) (exQ D u k) (Gk j) B C wr.drew hMi ((HCVi.out.ext (Ext.refl wr).drew).pi) (((hc2.more (Mx.more (Nat.le_refl _))).ext (HEi.out.trans (Ext.refl wr).drew)).pi) (by omega) HQD.out hgd.1 (Nat.le_trans (Nat.mul_le_mul_right _ (by omega)) hn3));have CS:Hid (∀ (z:PE) (W:World),CRx (Mx M w.heap.size (g2+1)) W 4 z (pmul (exQ D u k) (Gk j))->Ext wr.drew W->Calls Tryz.prog 38 #[.agg (peA d2),.agg (peA z)] W (qa8 (Mx M w.heap.size (g2+1)) W 4 (R (k+j) ++ qbz (pmul (exQ D u k) (Gk j))))):=fun z W hz he=>qjh (Mx M w.heap.size (g2+1)) d2 z (R (k+j)) (pmul (exQ D u k) (Gk j)) (B+C) W (hMi.ext he) ((hd2.ext ((Ext.refl wr).drew.trans he)).pi) hz.pi (show dlen (nrm (R (k+j) ++ qbz (pmul (exQ D u k) (Gk j))))<=1099511627776 by omega) (by omega) ((Deg.pmul HQD.out hgd.1 hqf.1).mono (by omega)) (by omega);obtain ⟨TR,hTR1,hTR2⟩:=hd2.lowE;obtain ⟨TQ,hTQ1,hTQ2⟩:=HCVi.out.lowE;obtain ⟨TG,hTG1,hTG2⟩:=hc2.lowE;have CD:Hid (∀ (z:PE) (W:World),CRx (Mx M w.heap.size (g2+1)) W 4 z (R (k+j) ++ qbz (pmul (exQ D u k) (Gk j)))->CRx (Mx M w.heap.size (g2+1)) W D z (R (k+j) ++ qbz (pmul (exQ D u k) (Gk j)))):=fun z W hz=>hz.down (hTR1.append ((hTQ1.pmul hTG1).pmul_left _)) (hTR2.append ((hTQ2.pmul hTG2).pmul (qmj D (-1))))
       have hzs:w.heap.size+1<wr.drew.heap.size/\g1<wr.drew.heap.size/\b2<wr.drew.heap.size/\gc<wr.drew.heap.size:=by have:=(Ext.refl wr).drew.size;omega
       clear hpn hsn hql hgl hdl hqf hn3 hgd hMi hTR1 hTR2 hTQ1 hTQ2 hTG1 hTG2 hc1 hc2 hd1 hd2
       go_upto_region 26 with (fail)
       refine qad (S26 (w.heap.size+1) (.slice (some ⟨b2,off2,none⟩) (n+1) y.kp) g1 ((k+j)*4) d2 b2 (off2+j*4) (yy j) gc v) 19 (by kernel_rfl) HS26.out (fun hHeld=>?_);obtain ⟨hz1,hz2,hz3,hz4⟩:=hzs;(refine tkB [0,1,2,3,4,5,6,7,8,9,10,11,12,13,14,15] ?_;(iterate 16 (refine tk1 (oi:=?_) (v:=?_) (by kernel_rfl) (by first | exact hSn | exact hHeld) ?_ ?_ ?_ ?_ ?_;rotate_left 2;(simp only [xgA,xgB,xgC];rfl);rfl;(intro wS hSw;obtain ⟨S0,⟨S1,S2,S3,S4⟩,⟨S5,S6,S7,S8⟩,S9,S10,S11,S12⟩:=hSw;go_simp;try with_reducible rfl);(exact fun _ _ _ h=>h);(try simp only [Act.put,xgD,xgE,xgF])));refine tkE ?_);(refine qaa 16 (o:=?_) (by kernel_rfl) ?_ ?_;rotate_left 1;(simp only [xgA,xgB,xgC];rfl);intro K hK);go_simp;refine CM.out.mono ?_;rintro e wz ⟨z,rfl,hz,he1⟩;go_wp2_with (fail);have hSn:=hHeld.ext hz1 hz2 hz3 hz4 he1;refine hK.out _ _ (fun _=>hSn) ?_;clear hK K;(try simp only [Act.put,xgD,xgE,xgF]);(refine qaa 17 (o:=?_) (by kernel_rfl) ?_ ?_;rotate_left 1;(simp only [xgA,xgB,xgC];rfl);intro K hK);go_simp;refine (CS.out z wz hz he1).mono ?_;rintro e wz2 ⟨z2,rfl,hy,he2⟩;go_wp2_with (fail);clear hSn;have hSn:=hHeld.ext hz1 hz2 hz3 hz4 (he1.trans he2);refine hK.out _ _ (fun _=>hSn) ?_;clear hK K;(try simp only [Act.put,xgD,xgE,xgF]);(refine tkB [18] ?_;(iterate 1 (refine tk1 (oi:=?_) (v:=?_) (by kernel_rfl) (by first | exact hSn | exact hHeld) ?_ ?_ ?_ ?_ ?_;rotate_left 2;(simp only [xgA,xgB,xgC];rfl);rfl;(intro wS hSw;obtain ⟨S0,⟨S1,S2,S3,S4⟩,⟨S5,S6,S7,S8⟩,S9,S10,S11,S12⟩:=hSw;go_simp;try with_reducible rfl);(exact fun _ _ _ h=>h);(try simp only [Act.put,xgD,xgE,xgF])));refine tkE ?_)
       have he3:=he1.trans he2;have hKi:=HKRi.out.ext ((Ext.refl wr).drew.trans he3);obtain ⟨⟨_,k0⟩,⟨_,k1⟩,⟨_,k2⟩,⟨_,k3⟩,hfr,hg4⟩:=hKi.at (k+j) (by omega);have hf0:=hfr ((k+j)*4);have hf1:=hfr ((k+j)*4+1);have hf2:=hfr ((k+j)*4+2);have hf3:=hfr ((k+j)*4+3);((refine qaa 19 (o:=?_) (by kernel_rfl) ?_ ?_;rotate_left 1;(simp only [xgA,xgB,xgC];rfl);intro K hK);go_simp;(refine hK.out _ _ (fun h=>absurd rfl h) ?_);clear hK K;refine qac (by kernel_rfl) ?_ _);have hkp:Kp (Mx M w.heap.size (g2+1)) wz2 (set4 wz2 g1 ((k+j)*4) (.int .i64 z2.lv) (.bool z2.b) (.slice z2.a z2.n z2.p) (.slice z2.ka z2.kn z2.kp)):=Kp.set4 (Mx.at (by omega)) _ _ _ _ _;have hot : ∀ g,g≠g1->(set4 wz2 g1 ((k+j)*4) (.int .i64 z2.lv) (.bool z2.b) (.slice z2.a z2.n z2.p) (.slice z2.ka z2.kn z2.kp)).heap[g]? = wz2.heap[g]?:=fun g hg=>qag _ _ _ _ _ _ _ _ hg;have hx3:=(Ext.refl wr).drew.trans he3
       have HKR7:Hid (qax (Mx M w.heap.size (g2+1)) (set4 wz2 g1 ((k+j)*4) (.int .i64 z2.lv) (.bool z2.b) (.slice z2.a z2.n z2.p) (.slice z2.ka z2.kn z2.kp)) D g1 (n+V) (rj k (exQ D u k) Gk R (j+1))):=(hKi.set (Mx.at (by omega)) (k+j) (by omega) (CD.out z2 wz2 hy)).congr fun i _=>by rw [qlM];exact Sim.refl _
       have HKQ7:Hid (qax (Mx M w.heap.size (g2+1)) (set4 wz2 g1 ((k+j)*4) (.int .i64 z2.lv) (.bool z2.b) (.slice z2.a z2.n z2.p) (.slice z2.ka z2.kn z2.kp)) D g2 V (fun i=>if k<=i then exQ D u i else [])):=(HKQi.out.ext hx3).kp (hot g2 (by omega)) hkp;have HCV7:=Lib.hid ((HCVi.out.ext hx3).kp hkp);have HV7:Hid (P4 (set4 wz2 g1 ((k+j)*4) (.int .i64 z2.lv) (.bool z2.b) (.slice z2.a z2.n z2.p) (.slice z2.ka z2.kn z2.kp)) gc v):=qak (HVi.out.ext hx3) (hot gc (by omega));have HE7:Hid (Ext w (set4 wz2 g1 ((k+j)*4) (.int .i64 z2.lv) (.bool z2.b) (.slice z2.a z2.n z2.p) (.slice z2.ka z2.kn z2.kp))):=(HEi.out.trans hx3).set4 (by omega) _ _ _ _ _;have HS7:Hid (SP2 w.heap.size x y (set4 wz2 g1 ((k+j)*4) (.int .i64 z2.lv) (.bool z2.b) (.slice z2.a z2.n z2.p) (.slice z2.ka z2.kn z2.kp))):=⟨qak (HSi.out.1.ext hx3) (hot _ (by omega)),qak (HSi.out.2.ext hx3) (hot _ (by omega))⟩;have HB7:Hid (Blk (set4 wz2 g1 ((k+j)*4) (.int .i64 z2.lv) (.bool z2.b) (.slice z2.a z2.n z2.p) (.slice z2.ka z2.kn z2.kp)) (w.heap.size+2) 33 4 (arr zA)):=(HBi.out.ext hx3).of_heap (hot _ (by omega))
       have HSZ7:Hid (wc.heap.size<=(set4 wz2 g1 ((k+j)*4) (.int .i64 z2.lv) (.bool z2.b) (.slice z2.a z2.n z2.p) (.slice z2.ka z2.kn z2.kp)).heap.size):=by show _<=_;rw [qaq];have:=hx3.size;omega
       clear hKi hfr hSn he1 he2 he3 hx3 hy hz hkp hot HKRi HKQi HCVi HVi HEi HSi HBi hHeld;go_wp2
       go_roundw
       case rel=>exact ⟨j+1,by omega,by go_num,HSZ7.out,HKR7,HKQ7,HCV7,HV7,HE7,HS7,HB7⟩
       case measure=>simp [intOf];omega
      ·have hje:j=n:=by omega
       have hjn' : ¬ ((j:Int)<n):=by omega
       obtain ⟨RN,hRN⟩ : ∃ RN:Nat->List Tm,RN=fun i=>if i<n+k then exR D u r k i else rj k (exQ D u k) Gk R n i:=⟨_,rfl⟩
       have HKR8:Hid (qax (Mx M w.heap.size (g2+1)) wr D g1 (n+V) RN):=HKRi.out.congr fun i _=>by
        rw [hje,hRN]
        by_cases hi:i<n+k
        ·simp only [if_pos hi];have h9:=qoz hE4 HGL.out HGS.out HNR.out HNU.out k (Sim.refl (exQ D u k)) i hi;refine Sim.trans ?_ h9;unfold rj;rw [HDV.out i (by omega)];exact Sim.refl _
        ·simp only [if_neg hi];exact Sim.refl _
       have HDV8:Hid (∀ i,i<n+k->RN i=exR D u r k i):=fun i hi=>by rw [hRN];exact if_pos hi
       clear hRN
       have hgs':g2<wr.heap.size:=by omega
       clear hje HKRi HDV HQD HQF HCVi HVi;go_wp2
       go_roundw
       case rel=>exact ⟨k,RN,by omega,by go_num,hgs',HKR8,HKQi,HDV8,HEi,HSi,HBi⟩
       case measure=>(simp [intOf];try omega)


theorem qgM (B A C G L:Nat) (hL4:L<=4) (hN:qo1 B A C G) (ih : ∀ E,E<L->ExE B A C G E):ExE B A C G L:=by
 intro M l r u x y w hM h hy hz nu hu hB hA hC hG;have hlx:=h.lev;have hly:=hy.lev
 by_cases hsame:0<x.lv/\y.lv=x.lv
 ·obtain ⟨E,hE⟩ : ∃ E:Nat,x.lv=(E:Int)+1:=⟨x.lv.toNat - 1,by omega⟩;exact (qhS B A C G E (by omega) hN (ih E (by omega)) M l r u x y w hM (CR.relev h (by omega)) hE hy hsame.2 hz nu hu hB hA hC hG).mono fun e w' hp=>hp.mono (by omega) (Nat.le_refl _)
 obtain ⟨hE0,hX0,hY0,hB0,hM0⟩:=qkb hM x y;have CZ:=Lib.hid (qbh _ x l _ hM0 (((h.more (M':=Mx M w.heap.size (w.heap.size+3)) (Mx.more (Nat.le_refl _))).ext hE0).pi));obtain ⟨x0,x1,x2,x3⟩:=hX0;obtain ⟨y0,y1,y2,y3⟩:=hY0
 have hsz0:w.heap.size+3=((((w.alloc (.cells (peA x) 33)).alloc (.cells (peA y) 33)).alloc (.cells zA 33))).heap.size:=by simp
 generalize hW:((w.alloc (.cells (peA x) 33)).alloc (.cells (peA y) 33)).alloc (.cells zA 33)=W at *;have HW:=Lib.hid hW;have HE:=Lib.hid hE0;have HS:Hid (SP2 w.heap.size x y W):=⟨⟨x0,x1,x2,x3⟩,⟨y0,y1,y2,y3⟩⟩;have HB0:=Lib.hid hB0;have HMM:=Lib.hid hM;have HSM:=Lib.hid hsame;have HH:=Lib.hid h;have HY:=Lib.hid hy;have HZ:=Lib.hid hz;have HBD:=Lib.hid hB;have HCD:=Lib.hid hC;have HNU:=Lib.hid nu;have HUR:=Lib.hid hu;have HUA:=Lib.hid hA;have HNE:=Lib.hid hN
 have hAD:dlen (nrm (pmul u r))<=A+G:=by rw [qbb];exact Nat.le_trans (qaD _ _) (Nat.add_le_add hA hG)
 have HAD:=Lib.hid hAD;have hn4:=hN.n4;have HGD:=Lib.hid hG;have HIH:=Lib.hid ih;clear hE0 hB0 hM0 h hy hz hB hC hA hG hN nu hu hAD hW hM hsame ih
 go_enter Tryz.func67,Tryz.ntmps67
 go_upto_region 1 with (fail)
 rw [HW.out];go_wp2_with (fail);refine CZ.out.mono ?_;rintro e w1 ⟨bz,rfl,hbz,he1⟩;have HE1:=Lib.hid (HE.out.trans he1);have HSS:=Lib.hid (HS.out.ext he1);have HB1:=Lib.hid (HB0.out.ext he1)
 have hs1:w.heap.size+3<=w1.heap.size:=by have:=he1.size;omega
 have HBZ:=Lib.hid hbz;clear x0 x1 x2 x3 y0 y1 y2 y3 HE HS HB0 HW he1 hbz CZ;obtain ⟨⟨x0,x1,x2,x3⟩,⟨y0,y1,y2,y3⟩⟩:=HSS.out
 have hw2:w.heap.size+2<w1.heap.size:=by omega
 have hks:W.heap.size=w.heap.size+3:=hsz0.symm;clear hsz0
 cases bz with
 | true=>
  obtain ⟨⟨q0,q1,q2,q3⟩,⟨f0,f1,f2,f3⟩,⟨r0,r1,r2,r3⟩,HF⟩:=qbR (M:=M) (M':=Mx M w.heap.size (w.heap.size+3)) (w:=w) (L:=L) (l:=[]) (y:=PE.z) HB1.out (Mx.at (by omega)) (by omega) HE1.out (CR.zero _ _ L) Mx.sub;have HF2:=Lib.hid (HF.exT (r:=r) (l:=l) (A:=A) (HBZ.out.1 rfl).symm (show dlen 0<=A from Nat.zero_le _));simp only [PE.z] at r0 r1 r2 r3;clear HF HBZ HH HY HZ HBD HCD HAD HGD HNE HNU HUR HUA HIH HSM HSS HB1 HE1;go_wp2;exact bodyPost_ret (v:=.tuple #[.agg (peA PE.z),.bool true]) (by simp [results,Tryz.results67,go_sem,r0,r1,r2,r3,PE.z]) rfl HF2.out
 | false=>
  have HLZ:Hid (¬ Sim l []):=fun hh=>by have:=HBZ.out.2 hh;cases this
  by_cases hlt:x.lv<y.lv
  ·have HND : Hid (¬ Dv r l) := by
    obtain ⟨D,b2,off2,Gk,hlv2,hD4,_,_,_,_,hn22,_,_,_,_,_,hlow2,hnz2,hsim2,_,_⟩:=HY.out.node (by omega);obtain ⟨T,hT1,hT2⟩:=HH.out.lowU;obtain ⟨n,hn⟩ : ∃ n,y.kn=n+1:=⟨y.kn - 1,by omega⟩;rw [hn] at hlow2 hsim2 hnz2;rw [Nat.add_sub_cancel] at hnz2;exact fun hd=>qpD hD4 (by omega) hlow2 hnz2 (NN.sim HY.out.nn hsim2.symm) (fun t ht=>hT2 t ht (D+1) (by omega) hD4) (fun hh=>HLZ.out (hT1.symm.trans hh)) (hd.sim hsim2.symm hT1.symm)
   obtain ⟨⟨q0,q1,q2,q3⟩,⟨f0,f1,f2,f3⟩,⟨r0,r1,r2,r3⟩,HF⟩:=qbR (M:=M) (M':=Mx M w.heap.size (w.heap.size+3)) (w:=w) (L:=0) (l:=[]) (y:=PE.z) HB1.out (Mx.at (by omega)) (by omega) HE1.out (CR.zero _ _ 0) Mx.sub;have HF2:=Lib.hid (HF.exF (L:=L) (A:=A) HND.out);simp only [PE.z] at r0 r1 r2 r3;clear HF HND HBZ HH HY HZ HBD HCD HAD HGD HNE HNU HUR HUA HIH HSM HSS HB1 HE1;go_wp2;exact bodyPost_ret (v:=.tuple #[.agg (peA PE.z),.bool false]) (by simp [results,Tryz.results67,go_sem,r0,r1,r2,r3,PE.z]) rfl HF2.out
  ·by_cases h0:x.lv=0
   ·have hy0:y.lv=0:=by omega
    obtain ⟨zl,hzl1,_,hzl2⟩:=HH.out.val;obtain ⟨zr,hzr1,_,hzr2⟩:=HY.out.val;obtain ⟨hzl3,_⟩:=hzl2 h0;obtain ⟨hzr3,_⟩:=hzr2 hy0;have hzr:zr≠0:=fun hh=>HZ.out (hzr3.symm.trans (fun m=>by rw [hh];simp [qab]))
    have hcl:zl=qab (pmul u r) Mo.zero:=by have:=hzl3 Mo.zero;rw [HUR.out Mo.zero];simpa [qab] using this
    have hzd:dlen zl.natAbs<=A+G:=Nat.le_trans (qal (by rw [hcl];exact qh9 (pmul u r) Mo.zero)) HAD.out;have hM1:Mb (Mx M w.heap.size (w.heap.size+3)) w1:=Mx.mb HMM.out HE1.out.size (by omega);have CE:=Lib.hid (qjZ (M:=Mx M w.heap.size (w.heap.size+3)) x.b x.a x.n x.p zl y.b y.a y.n y.p zr w1 hM1 ((hzl1.more (Mx.more (Nat.le_refl _))).ext HE1.out) ((hzr1.more (Mx.more (Nat.le_refl _))).ext HE1.out) hzr (by omega));have HDV:Hid (Dv r l↔zl.tmod zr=0):=⟨fun hd=>(qeO hzr).1 (hd.sim hzr3.symm hzl3.symm),fun hh=>((qeO hzr).2 hh).sim hzr3 hzl3⟩
    have HTD:Hid (zl.tmod zr=0->Sim (pmul [(zl.tdiv zr,Mo.zero)] r) l):=fun hh=>by
     have:=Int.tdiv_mul_cancel (Int.dvd_of_tmod_eq_zero hh);refine (hzr3.symm.pmul_right _).trans (Sim.trans (fun m=>?_) hzl3);simp [pmul,shift,smul,qab,Mo.add_zero',this]
    have HQU:Hid (zl.tmod zr=0->Sim [(zl.tdiv zr,Mo.zero)] u):=fun hh=>qbt (qdn _) HNU.out HY.out.nn HZ.out ((HTD.out hh).trans HUR.out.symm);have hM1H:=Lib.hid hM1;rw [h0] at x0;rw [hy0] at y0;clear hzl1 hzl2 hzr1 hzr2 hzl3 hzr3 hcl hzd hM1 HH HY HZ HBD HCD HAD HGD HNE HNU HIH HSM HBZ HLZ hlt h0 hy0 hlx hly hzr hn4;go_wp2_with (fail);refine CE.out.mono ?_;rintro e w2 ⟨cb,ca,cn,cp,er,rfl,hok,hno,he2⟩
    have hcz : ∃ cz,qbw (Mx M w.heap.size (w.heap.size+3)) w2 (.bool cb) (.slice ca cn cp) cz/\((er=0/\zl.tmod zr=0/\cz=zl.tdiv zr)∨(er=3/\zl.tmod zr≠0)):=by
     by_cases hd:zl.tmod zr=0
     ·exact ⟨_,(hok hd).2,.inl ⟨(hok hd).1,hd,rfl⟩⟩
     ·exact ⟨_,(hno hd).2,.inr ⟨(hno hd).1,hd⟩⟩
    obtain ⟨cz,hc1,hc2⟩:=hcz;have hEa:=(Ext.refl w2).alloc (.cells #[.bool cb,.slice ca cn cp] 30);have HEA:=Lib.hid (he2.trans hEa);have CK:=Lib.hid (qdI (Mx M w.heap.size (w.heap.size+3)) cb ca cn cp cz _ (hM1H.out.ext (he2.trans hEa)) (hc1.ext hEa).toV);have hs2:=he2.size
    have hw3:w.heap.size+2<w2.heap.size:=by omega
    clear hok hno he2 hc1 hEa CE x0 x1 x2 x3 y0 y1 y2 y3 hw2 HSS
    go_upto_region 7 with (fail)
    go_wp2_with (fail);refine CK.out.mono ?_;rintro e w5 ⟨v,rfl,hv,he5⟩;have hq:=qbR (M:=M) (w:=w) ((HB1.out.ext HEA.out).ext he5) (Mx.at (by omega)) (by omega) ((HE1.out.trans HEA.out).trans he5) (hv.up (Nat.zero_le L)) Mx.sub
    have hw4:w.heap.size+2<w5.heap.size:=by have:=HEA.out.size;have:=he5.size;omega
    rcases hc2 with ⟨rfl,hd,rfl⟩ | ⟨rfl,hd⟩
    ·replace hq:=qbR (M:=M) (w:=w) ((HB1.out.ext HEA.out).ext he5) (Mx.at (by omega)) (by omega) ((HE1.out.trans HEA.out).trans he5) ((hv.up (Nat.zero_le L)).sim (HQU.out hd)) Mx.sub;obtain ⟨⟨q0,q1,q2,q3⟩,⟨f0,f1,f2,f3⟩,⟨r0,r1,r2,r3⟩,HF⟩:=hq;have HF2:=Lib.hid (HF.exT HUR.out HUA.out);clear HF hv he5 CK HEA HTD HQU HUR HUA HDV hd HB1 HE1 hw3 hs2;go_wp2;exact bodyPost_ret (v:=.tuple #[.agg (peA v),.bool true]) (by simp [results,Tryz.results67,go_sem,r0,r1,r2,r3]) rfl HF2.out
    ·obtain ⟨⟨q0,q1,q2,q3⟩,⟨f0,f1,f2,f3⟩,⟨r0,r1,r2,r3⟩,HF⟩:=hq;have HF2:=Lib.hid (HF.exF (L:=L) (A:=A) fun hh=>hd (HDV.out.1 hh));clear HF hv he5 CK HEA HTD HQU HUR HUA HDV hd HB1 HE1 hw3 hs2;go_wp2;exact bodyPost_ret (v:=.tuple #[.agg (peA v),.bool false]) (by simp [results,Tryz.results67,go_sem,r0,r1,r2,r3]) rfl HF2.out
   ·have h0':(x.lv == 0)=false:=by simpa using h0
    have hgt:y.lv<x.lv:=by have:=HSM.out;omega
    obtain ⟨E,hE⟩ : ∃ E:Nat,x.lv=(E:Int)+1:=⟨x.lv.toNat - 1,by omega⟩;have CE:=Lib.hid (qgN B A C G E (by omega) HNE.out (HIH.out E (by omega)) (Mx M w.heap.size (w.heap.size+3)) l r u x y w1 (Mx.mb HMM.out HE1.out.size (by omega)) (CR.relev ((HH.out.more (Mx.more (Nat.le_refl _))).ext HE1.out) (by omega)) hE ((HY.out.more (Mx.more (Nat.le_refl _))).ext HE1.out) hgt HZ.out HNU.out HUR.out HBD.out HUA.out HCD.out HGD.out)
    have hEL:E+1<=L:=by omega
    clear hE HH HY HZ HBD HCD HAD HGD HNE HNU HUR HUA HIH HSM HBZ HLZ;go_wp2_with (fail);refine CE.out.mono ?_;rintro e w2 ⟨v,ok,rfl,hR,he2⟩
    cases ok with
    | true=>
     obtain ⟨q,hq1,hq2,hq3⟩:=hR.1 rfl;obtain ⟨⟨q0,q1,q2,q3⟩,⟨f0,f1,f2,f3⟩,⟨r0,r1,r2,r3⟩,HF⟩:=qbR (M:=M) (w:=w) (HB1.out.ext he2) (Mx.at (by omega)) (by omega) (HE1.out.trans he2) (hq1.up hEL) Mx.sub;have HF2:=Lib.hid (HF.exT hq2 hq3);have hw3:w.heap.size+2<w2.heap.size:=Nat.lt_of_lt_of_le hw2 he2.size;clear HF hR he2 CE hq1 hq2 hq3 HSS HB1 HE1 x0 x1 x2 x3 y0 y1 y2 y3 hw2;go_wp2;exact bodyPost_ret (v:=.tuple #[.agg (peA v),.bool true]) (by simp [results,Tryz.results67,go_sem,r0,r1,r2,r3]) rfl HF2.out
    | false=>
     obtain ⟨⟨q0,q1,q2,q3⟩,⟨f0,f1,f2,f3⟩,⟨r0,r1,r2,r3⟩,hkp,hext⟩:=qkL (M':=Mx M w.heap.size (w.heap.size+3)) (w:=w) (.int .i64 v.lv) (.bool v.b) (.slice v.a v.n v.p) (.slice v.ka v.kn v.kp) (HB1.out.ext he2) (Mx.at (by omega)) (by omega) (HE1.out.trans he2);have HF2:Hid (qcV M w L l r A (.returned (.tuple #[.agg (peA v),.bool false])) (set4 w2 (w.heap.size+2) 0 (.int .i64 v.lv) (.bool v.b) (.slice v.a v.n v.p) (.slice v.ka v.kn v.kp))):=⟨v,false,rfl,⟨fun hh=>(by cases hh),fun _=>hR.2 rfl⟩,hext⟩;simp only [arr] at q0 q1 q2 q3;simp only [set4,Nat.zero_add] at r0 r1 r2 r3;have hw3:w.heap.size+2<w2.heap.size:=Nat.lt_of_lt_of_le hw2 he2.size;clear hkp hext hR he2 CE HSS HB1 HE1 x0 x1 x2 x3 y0 y1 y2 y3 hw2;go_wp2;exact bodyPost_ret (v:=.tuple #[.agg (peA v),.bool false]) (by simp [results,Tryz.results67,go_sem,r0,r1,r2,r3]) rfl HF2.out
theorem qox (B A C G:Nat) (hN:qo1 B A C G) (L:Nat):L<=4->ExE B A C G L:=by
 induction L using Nat.strongRecOn with
 | _ L ih=>exact fun hL=>qgM B A C G L hL hN fun E hE=>ih E hE (by omega)
theorem qjR {B A C G : Nat} (hN : qo1 B A C G) (M : Nat -> Prop) (l r u : List Tm) (x y : PE) (w : World) (hM : Mb M w) (h : PI M w x l) (hy : PI M w y r) (nu : NN u) (hu : Sim (pmul u r) l) (hB : Deg B u) (hA : dlen (nrm u) <= A) (hC : Deg C r) (hG : dlen (nrm r) <= G) :
  Calls Tryz.prog 14 #[.agg (peA x),.agg (peA y)] w (qrw M w l r A):=qhC M l r x y A w hM h hy fun M' a b W' h1 h2 h4 h5=>qox B A C G hN 4 (Nat.le_refl 4) M' l r u a b W' h1 h2 h4 h5 nu hu hB hA hC hG
theorem qiP {B A C G : Nat} (hN : qo1 B A C G) (M : Nat -> Prop) (l r u : List Tm) (x y : PE) (w : World) (hM : Mb M w) (h : PI M w x l) (hy : PI M w y r) (nr : NN r) (zr : ¬ Sim r []) (nu : NN u) (hu : Sim (pmul u r) l) (hB : Deg B u) (hA : dlen (nrm u) <= A) (hC : Deg C r) (hG : dlen (nrm r) <= G) :
  Calls Tryz.prog 196 #[.agg (peA x),.agg (peA y)] w (qa8 M w 4 u):=
 (qht M l r x y A w hM h hy nr fun M' W h1 h2 h3=>qjR hN M' l r u x y W h1 h2 h3 nu hu hB hA hC hG).mono fun e w' ⟨v,h1,h2,_,h4⟩=>by
  rw [qlR nu nr zr hu] at h2;exact ⟨v,h1,h2.sim (qam nu),h4⟩


def sB (B:Nat->Nat):Nat->Nat
 | 0=>0
 | n+1=>B 0+sB (fun r=>B (r+1)) n
theorem qj5 : ∀ (n:Nat) (P:Nat->Nat->List Tm) (B:Nat->Nat),(∀ i j,i<n->Deg (B i) (P i j))->(∀ i j,NN (P i j))->Deg (sB B n) (qnG n P)
 | 0,_,_,_,_=>fun m hm k=>by
  have:Mo.zero=m:=Classical.byContradiction fun h=>hm (by show (if Mo.zero=m then (1:Int) else 0)+0=0;rw [if_neg h];rfl);subst this;rw [qbc];exact Int.natCast_nonneg _
 | n+1,P,B,h,hN=>by
  have key : ∀ c,Deg (B 0+sB (fun r=>B (r+1)) n) (qoK (qnG n) P c):=fun c=>by
   induction c with
   | zero=>exact fun m hm=>absurd rfl hm
   | succ c ih=>exact ih.append (qm6 ((h 0 c (by omega)).pmul (qj5 n (mnP P c) (fun r=>B (r+1)) (fun i j hi=>h _ _ (by omega)) fun i j=>hN _ _) (hN 0 c)) _)
  exact key (n+1)
theorem qr3 {b c:Nat} : ∀ (n:Nat) (B:Nat->Nat),(∀ r,r+1<n->B r<=b)->(∀ r,r+1=n->B r<=c)->b<=c->sB B n<=n*b+(c - b)
 | 0,_,_,_,_=>by simp [sB]
 | 1,B,_,h2,h3=>by
  have:=h2 0 rfl;simp only [sB];omega
 | n+2,B,h1,h2,h3=>by
  have ih:=qr3 (n+1) (fun r=>B (r+1)) (fun r hr=>h1 _ (by omega)) (fun r hr=>h2 _ (by omega)) h3;have:=h1 0 (by omega);show B 0+sB (fun r=>B (r+1)) (n+1)<=_;rw [show (n+2)*b=(n+1)*b+b from Nat.succ_mul _ _];omega
theorem qm7 {J:Nat} (h1:1<=J) (h4:J<=4) {B i:Nat} {l:List Tm} (h:Deg B l):Deg (B+i) (shift (xp J (i:Int)) l):=fun m hm k=>by
 rw [qaA] at hm;have:=h _ hm k;rw [qbG] at this
 have e:(xp J (i:Int)).get k<=(i:Int):=by
  by_cases hk:1<=k/\k<=4
  ·rw [qat J k _ h1 h4];split <;> omega
  ·have : (xp J (i : Int)).get k = 0 := by
    unfold Mo.get;rw [if_neg (by omega),if_neg (by omega),if_neg (by omega),if_neg (by omega)]
   omega
 have e2:((B+i:Nat):Int)=(B:Int)+i:=by omega
 rw [e2];omega
theorem qhR : ∀ n,n<=12->fct n<4294967296:=by decide
theorem qjO {P:List Tm->Prop} (r:Nat) (h0:P []) : ∀ (L:List (Nat->List Tm)),(∀ p ∈ L,P (p r)) -> ∀ c,P (L.getD c (fun _=>[]) r)
 | [],_,c=>by simpa using h0
 | p :: L,h,0=>h p List.mem_cons_self
 | p :: L,h,c+1=>qjO r h0 L (fun q hq=>h q (List.mem_cons_of_mem _ hq)) c
theorem qq3 {J j m n A:Nat} {f g:List Tm} (hf:dlen (nrm f)<=A) (hg:dlen (nrm g)<=A) (hN:n - j+(m - j)<=12):dlen (nrm (SJ J j m n f g))<=(n - j+(m - j))*A+1:=by
 have hb : ∀ (F:List Tm) (N:Nat),dlen (nrm F)<=A -> ∀ r,∀ p ∈ pbl (m+n - j - 1) j J F N,nrm (p r)<=4294967296 ^ A:=fun F N hF r p hp=>by
  obtain ⟨i,hi,rfl⟩:=List.mem_map.1 hp;have hF2:=Nat.le_of_lt ((qan _ _).1 hF);show nrm (if r<m+n - j - 1 - j then (if m+n - j - 1 - r<i then [] else ck J ((m+n - j - 1 - r - i:Nat):Int) F) else shift (xp J (i:Int)) F)<=_
  split
  ·split
   ·exact Nat.zero_le _
   ·exact Nat.le_trans (qew _ _ _) hF2
  ·rw [qaS];exact hF2
 have hl:=qgC (N:=4294967296 ^ A) (n - j+(m - j)) (fun r c=>(pbl (m+n - j - 1) j J f (n - j) ++ pbl (m+n - j - 1) j J g (m - j)).getD c (fun _=>[]) r) (fun r c=>qjO (P:=fun l=>nrm l<=4294967296 ^ A) r (Nat.zero_le _) _ (fun p hp=>(List.mem_append.1 hp).elim (hb f (n - j) hf r p) (hb g (m - j) hg r p)) c);have hc:=qhR (n - j+(m - j)) hN;rw [qan];refine Nat.lt_of_le_of_lt hl ?_;generalize n - j+(m - j)=N at *;rw [<- Nat.pow_mul,Nat.mul_comm A,Nat.pow_succ,Nat.mul_comm];exact Nat.mul_lt_mul_of_pos_left hc (Nat.pow_pos (by decide))
section
variable {J:Nat} (h1:1<=J) (h4:J<=4) {B A:Nat} {f g:List Tm} (hf:Sz B A f) (hg:Sz B A g)
include h1 h4 hf hg
theorem qtj {j m n:Nat} (hj:j<n) (hn:n<=m) (hm:m<=6):Sz ((m+n - 2*j)*B+m) ((m+n - 2*j)*A+1) (SJ J j m n f g):=by
 have eN:n - j+(m - j)=m+n - 2*j:=by omega
 have nn:=fun r c=>qjc h1 h4 hf.n hg.n (j:=j) (m:=m) (n:=n) (m+n - j - 1) c r;refine ⟨qcJ h1 h4 hf.n hg.n _ _ _,?_,?_⟩
 ·have hb : ∀ (F : List Tm) (N : Nat), Sz B A F -> N <= m -> ∀ r, ∀ p ∈ pbl (m + n - j - 1) j J F N, Deg (if r < m + n - j - 1 - j then B else B + m) (p r) := fun F N hF hN r p hp => by
   obtain ⟨i,hi,rfl⟩:=List.mem_map.1 hp;have hi:=qfm.1 hi;show Deg _ (if r<m+n - j - 1 - j then (if m+n - j - 1 - r<i then [] else ck J ((m+n - j - 1 - r - i:Nat):Int) F) else shift (xp J (i:Int)) F)
   by_cases hr:r<m+n - j - 1 - j
   ·rw [if_pos hr,if_pos hr]
    split
    ·exact fun m hm=>absurd rfl hm
    ·exact (hF.ck h1 h4 _).2.2.1
   ·rw [if_neg hr,if_neg hr];exact (qm7 h1 h4 hF.d).mono (by omega)
  have hd:=qj5 (n - j+(m - j)) (fun r c=>(pbl (m+n - j - 1) j J f (n - j) ++ pbl (m+n - j - 1) j J g (m - j)).getD c (fun _=>[]) r) (fun r=>if r<m+n - j - 1 - j then B else B+m) (fun r c _=>
   qjO (P:=fun l=>Deg (if r<m+n - j - 1 - j then B else B+m) l) r (fun m hm=>absurd rfl hm) _ (fun p hp=>(List.mem_append.1 hp).elim (hb f (n - j) hf (by omega) r p) (hb g (m - j) hg (by omega) r p)) c) nn
  have hs:=qr3 (b:=B) (c:=B+m) (n - j+(m - j)) (fun r=>if r<m+n - j - 1 - j then B else B+m) (fun r hr=>by
   show (if r<m+n - j - 1 - j then B else B+m)<=B
   rw [if_pos (by omega)];exact Nat.le_refl _) (fun r hr=>by
   show (if r<m+n - j - 1 - j then B else B+m)<=B+m
   split <;> omega) (by omega)
  rw [eN] at hs hd;unfold SJ;rw [eN];exact hd.mono (by omega)
 ·have:=qq3 (J:=J) (j:=j) (m:=m) (n:=n) hf.a hg.a (by omega);rw [eN] at this;exact this
end
theorem qhL {J B A n:Nat} {a:List Tm} (h1:1<=J) (h4:J<=4) (h:Sz B A a) (hz : ¬ Sim a []) (hd:DgR J a n) (hB:B<=1000) (hA:A<=1000000):qrx J a (ck J (n:Int) a):=fun M W x hM hx=>
 qjz M x a J n B W h1 h4 h.n hz hd hM hx.pi h.d (Nat.le_trans (Nat.pow_le_pow_left (show B+1<=1001 by omega) 4) (by decide)) (by omega) (Nat.le_trans h.a (Nat.le_trans hA (by decide)))
theorem qfQ {B A k:Nat} {a:List Tm} (h:Sz B A a) (hk:k<=100) (hB:k*B<=1000) (hA:k*A<=1000000):qrE a k (qbm a k):=fun M W x hM hx=>by
 have hq:=qlJ M x a B (k:Int) W hM hx.pi (by omega) (by
  rw [Int.toNat_natCast];have:=Nat.mul_le_mul_left k h.a
  exact Nat.le_trans (Nat.add_le_add_right this 2) (Nat.le_trans (Nat.add_le_add_right hA 2) (by decide))) h.d (by
  rw [Int.toNat_natCast]
  exact Nat.le_trans (Nat.mul_le_mul (show k*B+1<=1001 by omega) (show k*B+1<=1001 by omega)) (by decide))
 rw [Int.toNat_natCast] at hq;exact hq
theorem qpv {B A C D:Nat} {a b:List Tm} (h:Sz B A a) (k:Sz C D b) (hB:B<=1000) (hC:C<=1000) (hA:A<=1000000) (hD:D<=1000000):qtc a b (pmul a b):=fun M W x y hM hx hy=>
 qfP M x y a b B C W hM hx.pi hy.pi (Nat.le_trans (Nat.add_le_add h.a k.a) (Nat.le_trans (Nat.add_le_add hA hD) (by decide))) h.d k.d (Nat.le_trans (Nat.mul_le_mul (show B+1<=1001 by omega) (show C+1<=1001 by omega)) (by decide))
theorem qpe {B A C G:Nat} {l r q:List Tm} (hq:Sz B A q) (hr:Sz C G r) (hz : ¬ Sim r []) (hs:Sim (pmul q r) l) (hB:B+C<=1000) (hA:A<=1000000) (hG:G<=1000000):qtb l r q:=fun M W x y hM hx hy=>
 qiP ⟨by omega,Nat.le_trans (Nat.pow_le_pow_left (show B+C+1<=1001 by omega) 4) (by decide),Nat.le_trans (Nat.mul_le_mul (show B+C+1<=1001 by omega) (show C+1<=1001 by omega)) (by decide),by omega⟩ M l r q x y W hM hx.pi hy.pi hr.n hz hq.n hs hq.d hq.a hr.d hr.a
theorem qpc {J B A C D n V:Nat} {f g:List Tm} (h1:1<=J) (h4:J<=4) (h:Sz B A f) (k:Sz C D g) (hf : ¬ Sim f []) (hz : ¬ Sim g []) (hd:DgR J g n) (hm:DgR J f (n+V - 1)) (hV:1<=V) (hC2:C<=1000) (hD2:D<=1000000) (hN:DvM V B C A D):qrt J f g (qdv J n V f (qbz g)):=fun M W x y hM hx hy=>by
 have hVV : ∀ n' V':Nat,DgR J g n'->StR J f n' V'->n'=n/\V'=V:=fun n' V' hd' hst=>by
  have e1:n'=n:=qcM k.n hz hd' hd;subst e1;rcases hst with ⟨h,_⟩ | ⟨_,a,ha,rfl⟩
  ·exact absurd h hf
  ·have:=qcM h.n hf ha hm;exact ⟨rfl,by omega⟩
 refine (qgh V M f g x y J B C A D W h1 h4 hM hx.pi hy.pi h.n k.n hz h.d k.d (Nat.le_trans (Nat.succ_le_succ hC2) (by decide)) h.a k.a (Nat.le_trans (Nat.succ_le_succ hD2) (by decide)) hN fun n' V' hd' hs'=>by rw [(hVV n' V' hd' hs').2];exact Nat.le_refl _).mono ?_;rintro e w' ⟨v,n',V',rfl,hd',hst,hv,he'⟩;obtain ⟨rfl,rfl⟩:=hVV n' V' hd' hst;exact ⟨v,rfl,hv,he'⟩


theorem qrT {B A C D:Nat} {l r:List Tm} (h:Sz B A l) (k:Sz C D r):Sz (B+C) (A+D) (pmul l r):=⟨qez h.n k.n,Deg.pmul h.d k.d h.n,by rw [qbb];exact Nat.le_trans (qaD _ _) (Nat.add_le_add h.a k.a)⟩
def bJ (m n β j:Nat):Nat:=(m+n - 2*j)*β+m
def bU (m n β d:Nat):Nat:=if d=n then β else bJ m n β d
def bS (m n β d:Nat):Nat:=if d=n then (m - n)*β else bJ m n β d
def qo8 (m n β d e:Nat):Bool:=
 decide (bJ m n β (d - 1)<=1000) && decide (bU m n β d<=1000) && decide (bJ m n β e<=1000) && decide ((d - e - 1)*bJ m n β (d - 1)<=1000) && decide (bJ m n β e+(d - e - 1)*bS m n β d<=1000) && decide (bJ m n β (e - 1)+((d - e)*bS m n β d+bU m n β d)<=1000) &&
 decide (bU m n β d+(d - e+1)*bJ m n β (d - 1)+bJ m n β (d - 1)+10<=100000) && decide ((bU m n β d+bJ m n β (d - 1)+2)*(bU m n β d+(d - e+1)*bJ m n β (d - 1)+bJ m n β (d - 1)+1) ^ 4<=1099511627776)
def okN (m n β:Nat):Bool:=((List.range (n+1)).all fun d=>(List.range d).all fun e=>qo8 m n β d e) && decide (β<=1000) && decide ((m - n)*β<=1000) && decide (β+(m - n+1)*β+β+10<=100000) && decide ((β+β+2)*(β+(m - n+1)*β+β+1) ^ 4<=1099511627776)
structure StN (m n β d e:Nat):Prop where
 c1:bJ m n β (d - 1)<=1000
 c2:bU m n β d<=1000
 c3:bJ m n β e<=1000
 c4:(d - e - 1)*bJ m n β (d - 1)<=1000
 c5:bJ m n β e+(d - e - 1)*bS m n β d<=1000
 c6:bJ m n β (e - 1)+((d - e)*bS m n β d+bU m n β d)<=1000
 c7:bU m n β d+(d - e+1)*bJ m n β (d - 1)+bJ m n β (d - 1)+10<=100000
 c8:(bU m n β d+bJ m n β (d - 1)+2)*(bU m n β d+(d - e+1)*bJ m n β (d - 1)+bJ m n β (d - 1)+1) ^ 4<=1099511627776
theorem qgy {m n β:Nat} (h:okN m n β=true) {d e:Nat} (hd:d<=n) (he:e<d):StN m n β d e:=by
 unfold okN at h;simp only [Bool.and_eq_true,List.all_eq_true,List.mem_range,decide_eq_true_eq] at h;have:=h.1.1.1.1 d (by omega) e he;unfold qo8 at this;simp only [Bool.and_eq_true,decide_eq_true_eq] at this;obtain ⟨⟨⟨⟨⟨⟨⟨c1,c2⟩,c3⟩,c4⟩,c5⟩,c6⟩,c7⟩,c8⟩:=this;exact ⟨c1,c2,c3,c4,c5,c6,c7,c8⟩
theorem qod {m n β:Nat} (h:okN m n β=true):β<=1000/\(m - n)*β<=1000/\β+(m - n+1)*β+β+10<=100000/\(β+β+2)*(β+(m - n+1)*β+β+1) ^ 4<=1099511627776:=by
 unfold okN at h;simp only [Bool.and_eq_true,decide_eq_true_eq] at h;exact ⟨h.1.1.1.2,h.1.1.2,h.1.2,h.2⟩
section
variable {J m n β:Nat} (h1:1<=J) (h4:J<=4) {f g:List Tm} (hf:Sz β 1000 f) (hg:Sz β 1000 g) (hnm:n<=m) (hm:m<=6)
include h1 h4 hf hg hnm hm
theorem qhs {j:Nat} (hj:j<n):Sz (bJ m n β j) 12001 (SJ J j m n f g):=(qtj h1 h4 hf hg hj hnm hm).mono (Nat.le_refl _) (by
 have:=Nat.mul_le_mul_right 1000 (show m+n - 2*j<=12 by omega)
 omega)
variable (hok:okN m n β=true)
include hok
theorem qj2 : ∀ (fuel d:Nat) (a s:List Tm) (L:Nat->List Tm),d<=n->d<=fuel->SSt J m n f g d a s->Sz (bU m n β d) 12001 a->Sz (bS m n β d) 12001 s->(∀ i,i<n->Sim (L i) (if d<=i then SJ J i m n f g else []))->qs8 J n (fun j=>SJ J j m n f g) fuel a (SJ J (d - 1) m n f g) s L
 | 0,d,a,s,L,_,hd,S,_,_,_=>absurd S.pos (by omega)
 | fuel+1,d,a,s,L,hdn,hd,S,sa,ss,hL=>by
  have hpos:=S.pos;have nB:=qcJ h1 h4 hf.n hg.n (d - 1) m n;have sb:=qhs h1 h4 hf hg hnm hm (j:=d - 1) (by omega);refine ⟨(d:Int),qq9 h1 h4 S.na (.inr ⟨S.za,d,S.da,rfl⟩),by omega,by omega,?_⟩
  by_cases hz:Sim (SJ J (d - 1) m n f g) []
  ·refine .inl ⟨qq9 h1 h4 nB (.inl ⟨hz,rfl⟩),fun i hi=>(hL i hi).trans ?_⟩
   by_cases hdi:d<=i
   ·rw [if_pos hdi];exact Sim.refl _
   ·rw [if_neg hdi];exact (S.fin h1 h4 hf.n hg.n hz i (by omega)).symm
  ·obtain ⟨e,hb⟩:=qiS (k:=J) nB;have hed:=S.lt h1 h4 hf.n hg.n hb hz;have K:=qgy hok hdn hed;have se:=qhs h1 h4 hf hg hnm hm (j:=e) (by omega);have slb:=(sb.ck h1 h4 (e:Int)).sz
   have hc : ∃ c L',c=SJ J e m n f g/\CPh J (SJ J (d - 1) m n f g) s (d - e) e (qnE L (d - 1) (SJ J (d - 1) m n f g)) L' c /\ ∀ i,i<n->Sim (L' i) (if e<=i then SJ J i m n f g else []):=by
    by_cases h1g:d - e=1
    ·refine ⟨SJ J (d - 1) m n f g,_,by rw [show d - 1=e by omega],.inl ⟨h1g,rfl,rfl⟩,fun i hi=>?_⟩;unfold qnE
     by_cases hid:i=d - 1
     ·rw [if_pos hid,if_pos (by omega),hid];exact Sim.refl _
     ·rw [if_neg hid];refine (hL i hi).trans ?_
      by_cases h5:d<=i
      ·rw [if_pos h5,if_pos (by omega)];exact Sim.refl _
      ·rw [if_neg h5,if_neg (by omega)];exact Sim.refl _
    ·have sp:=qi8 (k:=d - e - 1) slb;have sq:=qi8 (k:=d - e - 1) ss
     have hk:d - e - 1<=6:=by omega
     have hk2:(d - e - 1)*12001<=6*12001:=Nat.mul_le_mul_right _ hk;have hcc:=K.c5;refine ⟨SJ J e m n f g,_,rfl,.inr ⟨by omega,rfl,ck J (e:Int) (SJ J (d - 1) m n f g),qbm (ck J (e:Int) (SJ J (d - 1) m n f g)) (d - e - 1),_,qbm s (d - e - 1),qhL h1 h4 sb hz hb K.c1 (by omega),qfQ slb (by omega) K.c4 (by omega),qpv sp sb K.c4 K.c1 (by omega) (by omega),qfQ ss (by omega) (by omega) (by omega),qpe se sq (ql4 S.ns S.zs _) ((Sim.pmul_comm _ _).trans (S.sub h1 h4 hf.n hg.n hb hz)) K.c5 (by omega) (by omega)⟩,fun i hi=>?_⟩;unfold qnE
     by_cases hie:i=e
     ·rw [if_pos hie,if_pos (by omega),hie];exact Sim.refl _
     ·rw [if_neg hie]
      by_cases hid:i=d - 1
      ·rw [if_pos hid,if_pos (by omega),hid];exact Sim.refl _
      ·rw [if_neg hid];refine (hL i hi).trans ?_
       by_cases h5:d<=i
       ·rw [if_pos h5,if_pos (by omega)];exact Sim.refl _
       ·rw [if_neg h5]
        by_cases h6:e<=i
        ·rw [if_pos h6];exact (S.gap h1 h4 hf.n hg.n hb i (by omega) (by omega)).symm
        ·rw [if_neg h6];exact Sim.refl _
   obtain ⟨c,L',rfl,hC,hL'⟩:=hc;refine .inr ⟨d,e,_,L',rfl,qq9 h1 h4 nB (.inr ⟨hz,e,hb,rfl⟩),hed,hdn,hC,?_⟩
   by_cases he0:e=0
   ·exact .inl ⟨he0, fun i hi => by
     have:=hL' i hi
     rw [if_pos (by omega)] at this;exact this⟩
   ·have he1:1<=e:=by omega
    have S':=S.next h1 h4 hf.n hg.n hb hz he1;have nl:NN (ck J (d:Int) a):=qb2 h1 h4 S.na;have sla:=(sa.ck h1 h4 (d:Int)).sz;have sp:=qi8 (k:=d - e) ss
    have hk:d - e<=6:=by omega
    have hk2:(d - e)*12001<=6*12001:=Nat.mul_le_mul_right _ hk;have hc6:=K.c6;have sd:=qrT sp sla;have s1:=qhs h1 h4 hf hg hnm hm (j:=e - 1) (by omega);refine .inr ⟨he1,_,_,_,_,SJ J (e - 1) m n f g,_,qfQ ss (by omega) (by omega) (by omega),qhL h1 h4 sa S.za S.da K.c2 (by omega),qpv sp sla (by omega) K.c2 (by omega) (by omega),qpc (V:=d - e+1) h1 h4 sa sb S.za hz hb (by rw [show e+(d - e+1) - 1=d by omega];exact S.da) (by omega) K.c1 (by omega) ⟨⟨by omega,K.c7⟩,K.c8,?_⟩,qpe s1 sd (qdt (qcI S.ns _) nl (ql4 S.ns S.zs _) (qot h1 h4 S.na S.da S.za)) ((Sim.pmul_comm _ _).trans (S.rem h1 h4 hf.n hg.n hb hz he1).symm) (by omega) (by omega) (by omega),qhL h1 h4 se S'.za S'.da K.c3 (by omega),qj2 fuel e _ _ L' (by omega) (by omega) S' ?_ ?_ hL'⟩
    ·have:=Nat.mul_le_mul_right (12001+1) (show d - e+1<=7 by omega);omega
    ·unfold bU;rw [if_neg (by omega)];exact se
    ·unfold bS;rw [if_neg (by omega)];exact (se.ck h1 h4 _).sz
theorem qja (hn : 1 <= n) (df : DgR J f m) (dg : DgR J g n) (M : Nat -> Prop) (x y : PE) (w : World) (hM : Mb M w) (hx : CRx M w 4 x f) (hy : CRx M w 4 y g) :
  Calls Tryz.prog 164 #[.agg (peA x),.agg (peA y),.int .i64 (J:Int),.int .i64 (m:Int),.int .i64 (n:Int)] w (qi0 M w n fun j=>SJ J j m n f g):=by
 obtain ⟨δ,rfl⟩ : ∃ δ,m=n+δ:=⟨m - n,by omega⟩;have zf:=df.nz h1 h4 (by omega);have zg:=dg.nz h1 h4 hn;obtain ⟨hs,S⟩:=qlx h1 h4 hf.n hg.n hn zf zg df dg;obtain ⟨k1,k2,k3,k4⟩:=qod hok
 have hd:n+δ - n=δ:=by omega
 have sl:=(hg.ck h1 h4 (n:Int)).sz;rw [hd] at k2 k3 k4;have hk2:δ*1000<=6*1000:=Nat.mul_le_mul_right _ (by omega);refine qkq M x y J (n+δ) n n f g (ck J (n:Int) g) (qbm (ck J (n:Int) g) δ) (SJ J (n - 1) (n+δ) n f g) _ w hM hn (by omega) (by omega) hx hy (qhL h1 h4 hg zg dg k1 (by omega)) ?_ ?_ ?_
 ·rw [hd];exact qfQ sl (by omega) k2 (by omega)
 ·refine (qpc (V:=δ+1) h1 h4 hf hg zf zg dg (by rw [show n+(δ+1) - 1=n+δ by omega];exact df) (by omega) k1 (by omega) ⟨⟨by omega,k3⟩,k4,?_⟩).sim (Sim.refl _) (Sim.refl _) hs.symm;have:=Nat.mul_le_mul_right (1000+1) (show δ+1<=7 by omega);omega
 ·refine qj2 h1 h4 hf hg hnm hm hok n n g _ _ (Nat.le_refl _) (Nat.le_refl _) S ?_ ?_ fun i hi=>?_
  ·unfold bU;rw [if_pos rfl];exact hg.mono (Nat.le_refl _) (by omega)
  ·unfold bS;rw [if_pos rfl,hd];exact (qi8 sl).mono (Nat.le_refl _) (by omega)
  ·rw [if_neg (by omega)];exact Sim.refl _
end


structure Gn (J m n β:Nat) (f g:List Tm):Prop where
 h1:1<=J
 h4:J<=4
 sf:Sz β 1000 f
 sg:Sz β 1000 g
 zf : ¬ Sim f []
 zg : ¬ Sim g []
 df:DgR J f m
 dg:DgR J g n
 m6:m<=6
 n6:n<=6
 oa:n<=m->okN m n β=true
 ob:m<=n->okN n m β=true
theorem Gn.swap {J m n β:Nat} {f g:List Tm} (h:Gn J m n β f g):Gn J n m β g f:=⟨h.h1,h.h4,h.sg,h.sf,h.zg,h.zf,h.dg,h.df,h.n6,h.m6,h.ob,h.oa⟩
theorem qgi {J:Nat} (h1:1<=J) (h4:J<=4) {f g:List Tm} (nf:NN f) (ng:NN g) (j m n:Nat):(((m - j)*(n - j)) % 2=0->Sim (SJ J j n m g f) (SJ J j m n f g))/\(((m - j)*(n - j)) % 2=1->Sim (SJ J j n m g f) (qbz (SJ J j m n f g))):=by
 have key : ∀ x,ev x (SJ J j n m g f)=sgk ((m - j)*(n - j))*ev x (SJ J j m n f g):=fun x=>by
  rw [qhW h1 h4 x ng nf,qhW h1 h4 x nf ng,qm9]
 refine ⟨fun h=>qe8 (qcJ h1 h4 ng nf _ _ _) (qcJ h1 h4 nf ng _ _ _) fun x=>?_,fun h=>qe8 (qcJ h1 h4 ng nf _ _ _) (qdw (qcJ h1 h4 nf ng _ _ _)) fun x=>?_⟩
 ·rw [key,qje h,Int.one_mul]
 ·rw [key,qhV x (qcJ h1 h4 nf ng _ _ _),show sgk ((m - j)*(n - j)) = -1 from if_neg (by omega)];omega
section
variable {J m n β:Nat} {f g:List Tm} (H:Gn J m n β f g)
include H
theorem Gn.bound {j:Nat} (hm:j<m) (hn:j<n):Sz 1000 12001 (SJ J j m n f g):=by
 rcases Nat.le_total n m with h | h
 ·have:=(qgy (H.oa h) (d:=j+1) (e:=j) (by omega) (by omega)).c3;exact (qhs H.h1 H.h4 H.sf H.sg h H.m6 hn).mono this (Nat.le_refl _)
 ·have hb:=(qgy (H.ob h) (d:=j+1) (e:=j) (by omega) (by omega)).c3;have hs:=(qhs H.h1 H.h4 H.sg H.sf h H.n6 hm).mono hb (Nat.le_refl _);refine ⟨qcJ H.h1 H.h4 H.sf.n H.sg.n _ _ _,?_,?_⟩
  ·rcases Nat.mod_two_eq_zero_or_one ((n - j)*(m - j)) with h | h
   ·exact hs.d.sim ((qgi H.h1 H.h4 H.sg.n H.sf.n j n m).1 h).symm
   ·exact (qdQ hs.d).sim ((qgi H.h1 H.h4 H.sg.n H.sf.n j n m).2 h).symm
  ·have h6:=H.n6;have h7:=H.m6;refine Nat.le_trans (qq3 (A:=1000) H.sf.a H.sg.a (by omega)) ?_;have:=Nat.mul_le_mul_right 1000 (show n - j+(m - j)<=12 by omega);omega
theorem Gn.check (M:Nat->Prop) (x y:PE) (w:World) (hM:Mb M w) (hx:CRx M w 4 x f) (hy:CRx M w 4 y g):Calls Tryz.prog 163 #[.agg (peA x),.agg (peA y),.int .i64 (J:Int)] w fun e w'=>e = .returned (.int .i64 0)/\Ext w w':=by
 refine (qnT M f g x y (J:Int) w hM hx.pi hy.pi).mono ?_;rintro e w' ⟨er,rfl,hc,he⟩;have h1:=H.h1;have h4:=H.h4;rcases hc with ⟨h,_⟩ | ⟨_,h,_⟩ | ⟨_,_,_,rfl⟩
 ·exact absurd ⟨by omega,by omega⟩ h
 ·exact absurd h fun hh=>hh.elim H.zf H.zg
 ·exact ⟨rfl,he⟩
theorem Gn.degf (M:Nat->Prop) (x:PE) (w:World) (hM:Mb M w) (hx:CRx M w 4 x f):Calls Tryz.prog 43 #[.agg (peA x),.int .i64 (J:Int)] w fun e w'=>e = .returned (.int .i64 (m:Int))/\Ext w w':=qb6 M x f J (m:Int) w H.h1 H.h4 H.sf.n (.inr ⟨H.zf,m,H.df,rfl⟩) hM hx.pi
theorem Gn.chain (M:Nat->Prop) (x y:PE) (w:World) (hM:Mb M w) (hx:CRx M w 4 x f) (hy:CRx M w 4 y g):Calls Tryz.prog 133 #[.agg (peA x),.agg (peA y),.int .i64 (J:Int)] w (qnu M w (min m n) (fun j=>SJ J j m n f g) 0):=by
 have hm6:=H.m6;have hn6:=H.n6;have hdx : ∀ wk,Ext w wk->Calls Tryz.prog 43 #[.agg (peA x),.int .i64 (J:Int)] wk fun e w'=>e = .returned (.int .i64 (m:Int))/\Ext wk w':=fun wk he=>H.degf M x wk (hM.ext he) (hx.ext he);have hdy : ∀ wk,Ext w wk->Calls Tryz.prog 43 #[.agg (peA y),.int .i64 (J:Int)] wk fun e w'=>e = .returned (.int .i64 (n:Int))/\Ext wk w':=fun wk he=>H.swap.degf M y wk (hM.ext he) (hy.ext he);have hck : ∀ wk,Ext w wk->Calls Tryz.prog 163 #[.agg (peA x),.agg (peA y),.int .i64 (J:Int)] wk fun e w'=>e = .returned (.int .i64 0)/\Ext wk w':=fun wk he=>H.check M x y wk (hM.ext he) (hx.ext he) (hy.ext he)
 by_cases h0:m=0∨n=0
 ·rw [show min m n=0 by omega];exact qly M x y J m n _ w h0 hck hdx hdy
 ·by_cases hnm:n<=m
  ·refine (qhu M x y J m n (min m n) (fun j=>SJ J j m n f g) (fun j=>SJ J j m n f g) w hM (by omega) (by omega) (by omega) (by omega) rfl ⟨hck,hdx,hdy,fun _ wk he=>?_,fun hmn wk he=>by omega⟩ fun j hj=>.inr ⟨fun h=>by omega,Sim.refl _⟩).mono fun e w' h=>h.li;rw [show min m n=n by omega];exact qja H.h1 H.h4 H.sf H.sg hnm hm6 (H.oa hnm) (by omega) H.df H.dg M x y wk (hM.ext he) (hx.ext he) (hy.ext he)
  ·refine (qhu M x y J m n (min m n) (fun j=>SJ J j n m g f) (fun j=>SJ J j m n f g) w hM (by omega) (by omega) (by omega) (by omega) rfl ⟨hck,hdx,hdy,fun h wk he=>by omega,fun hmn wk he=>?_⟩ fun j hj=>?_).mono fun e w' h=>h.li
   ·rw [show min m n=m by omega];exact qja H.h1 H.h4 H.sg H.sf (by omega) hn6 (H.ob (by omega)) (by omega) H.dg H.df M y x wk (hM.ext he) (hy.ext he) (hx.ext he)
   ·have hx:=qgi H.h1 H.h4 H.sg.n H.sf.n j n m;rw [Nat.mul_comm] at hx;rcases Nat.mod_two_eq_zero_or_one ((m - j)*(n - j)) with h | h
    ·exact .inr ⟨fun h2=>by omega,(hx.1 h).symm⟩
    ·refine .inl ⟨by omega,h,fun Mk W z hMk hz=>?_⟩;have hb:=H.swap.bound (j:=j) (by omega) (by omega);have hl:dlen (nrm (SJ J j n m g f))<=12001:=hb.a;exact (qji Mk z _ 1000 W hMk hz.pi (Nat.le_trans (Nat.succ_le_succ hl) (by decide)) hb.d (by decide)).mono fun e w' h3=>h3.sim (hx.2 h).symm
end




end Go.Proofs.YtmcfpnmoklnhoaaGreat
