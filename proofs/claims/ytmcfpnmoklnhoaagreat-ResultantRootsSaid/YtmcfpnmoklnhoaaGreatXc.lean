/- Determinants: the last coordinate. The resultant and a linear factor: the block of the other polynomial. Determinants: a multiple of a row is taken from the next one. The resultant of (x - r) H with P is P's value at r times the resultant of H with P. The resultant does not depend on the point at which the last column holds the values. The resultant of a product of linear polynomials with another one. The discriminant of a product of linear polynomials, plain. -/
import Derived.Test.YtmcfpnmoklnhoaaGreatTa
import Derived.Test.YtmcfpnmoklnhoaaGreatWa
import Derived.Test.YtmcfpnmoklnhoaaGreatXb
set_option linter.unusedVariables false
set_option linter.unusedSimpArgs false

namespace Go.Proofs.YtmcfpnmoklnhoaaGreat

theorem qfu : ∀ (n:Nat) (a b:Nat->Nat->Int),(∀ r c,c<n->a r c=b r c)->qbo n a=qbo n b
 | 0,_,_,_=>rfl
 | n+1,a,b,h=>by
  have h1:qaP (qbo n) a (n+1)=1*qaP (qbo n) b (n+1)+0*qaP (qbo n) b (n+1):=qcb _ fun d hd=>by
   rw [h 0 d hd,qfu n (mnI a d) (mnI b d) fun r c hc=>by
    unfold mnI
    split
    ·exact h _ _ (by omega)
    ·exact h _ _ (by omega)]
   simp
  show qaP (qbo n) a (n+1)=qaP (qbo n) b (n+1);rw [h1];simp
theorem qf2 : ∀ (n:Nat) (a:Nat->Nat->Int),(∀ c,c<n+1->a n c=0)->qbo (n+1) a=0
 | 0,a,h=>by
  show qaP (qbo 0) a 1=0
  exact qcC 1 fun d hd=>by
   have:d=0:=by omega
   subst this;rw [h 0 (by omega),Int.zero_mul]
 | n+1,a,h=>by
  show qaP (qbo (n+1)) a (n+2)=0
  exact qcC _ fun d hd=>by
   rw [qf2 n (mnI a d) fun c hc=>by
    unfold mnI
    split
    ·exact h c (by omega)
    ·exact h (c+1) (by omega),Int.mul_zero]
theorem qf1 : ∀ (n:Nat) (a:Nat->Nat->Int),(∀ c,c<n->a n c=0)->qbo (n+1) a=a n n*qbo n a
 | 0,a,_=>by
  show (0:Int)+sg1 0*(a 0 0*1)=a 0 0*1;simp [sg1]
 | n+1,a,h=>by
  have h1:qaP (qbo (n+1)) a (n+1)=a (n+1) (n+1)*qaP (qbo n) a (n+1)+0*qaP (qbo n) a (n+1):=qcb _ fun d hd=>by
   rw [qf1 n (mnI a d) fun c hc=>by
    unfold mnI
    split
    ·exact h c (by omega)
    ·exact h (c+1) (by omega)]
   have e:mnI a d n n=a (n+1) (n+1):=by unfold mnI;rw [if_neg (by omega)]
   rw [e,Int.zero_mul,Int.add_zero,Int.mul_left_comm]
  have h2:qbo (n+1) (mnI a (n+1))=0:=qf2 n _ fun c hc=>by
   unfold mnI;rw [if_pos (by omega)];exact h c (by omega)
  show qaP (qbo (n+1)) a (n+1)+sg1 (n+1)*(a 0 (n+1)*qbo (n+1) (mnI a (n+1)))=a (n+1) (n+1)*qaP (qbo n) a (n+1);rw [h1,h2];simp
theorem qqY {A:List (Nat->Int)} {u:Nat->Int} (h : ∀ v ∈ A,v A.length=0):dt (A ++ [u])=u A.length*dt A:=by
 unfold dt
 rw [List.length_append,List.length_singleton,qf1 A.length _ fun c hc=>by
  unfold qhh;rw [List.getD_eq_getElem?_getD,List.getElem?_append_left hc,List.getElem?_eq_getElem hc]
  exact h _ (List.getElem_mem hc)]
 have e1:qhh (A ++ [u]) A.length A.length=u A.length:=by
  unfold qhh;rw [qd9 (B:=[])]
 rw [e1]
 congr 1
 refine qfu _ _ _ fun r c hc=>?_;unfold qhh;rw [List.getD_eq_getElem?_getD,List.getElem?_append_left hc,<- List.getD_eq_getElem?_getD]


def Pv.lin (ρ:Int) (P:Pv):Pv:=⟨fun i=>(if i=0 then 0 else P.c (i - 1)) - ρ*P.c i,0⟩
theorem qqD (ρ:Int) (P:Pv) (T j k r:Nat):(P.sh ρ (k+1)).vec T j r=1*((P.lin ρ).sh ρ k).vec T j r+lcI [(ρ,(P.sh ρ k).vec T j)] r:=by
 show _=1*_+(ρ*(P.sh ρ k).vec T j r+0);unfold Pv.vec
 split
 ·unfold Pv.sh Pv.lin;simp only;generalize T - r=e
  by_cases h:e<k
  ·rw [if_pos (by omega),if_pos h,if_pos h];omega
  ·rw [if_neg h,if_neg h]
   by_cases h2:e=k
   ·rw [if_pos (by omega),if_pos (by omega)];omega
   ·rw [if_neg (by omega),if_neg (by omega),show e - (k+1)=e - k - 1 by omega];omega
 ·unfold Pv.sh Pv.lin;simp only;rw [Int.pow_succ,Int.mul_zero,Int.mul_zero,Int.zero_add,Int.add_zero,Int.mul_comm (ρ ^ k) ρ,Int.mul_assoc]
theorem qfC (ξ:Int) (P:Pv) (n:Nat):bl ξ P (n+1)=P.sh ξ n :: bl ξ P n:=rfl
theorem qhJ (ρ:Int) (P:Pv) (T j:Nat) : ∀ (k:Nat) (A:List (Nat->Int)),dt (A ++ (bl ρ P (k+1)).map (Pv.vec T j))=dt (A ++ ((bl ρ (P.lin ρ) k).map (Pv.vec T j) ++ [(P.sh ρ 0).vec T j]))
 | 0,_=>rfl
 | k+1,A=>by
  rw [qfC,List.map_cons,qmX A _ (((P.lin ρ).sh ρ k).vec T j) 1 [(ρ,(P.sh ρ k).vec T j)] _ (fun p hp=>by
   rw [List.mem_singleton.1 hp,qfC]
   exact List.mem_cons_self) (fun r=>qqD ρ P T j k r),Int.one_mul]
  have h:=qhJ ρ P T j k (A ++ [((P.lin ρ).sh ρ k).vec T j]);rw [List.append_assoc,List.append_assoc] at h;rw [qfC ρ (P.lin ρ) k,List.map_cons];exact h
theorem qrc (ρ:Int) (k n:Nat) (F P:Pv) (hF:F.v=0):dS ρ 0 (k+1) n F P=P.v*dt ((bl ρ F n).map (Pv.vec (n+k) 0) ++ (bl ρ (P.lin ρ) k).map (Pv.vec (n+k) 0)):=by
 unfold dS DD;rw [show k+1+n - 0 - 1=n+k by omega,Nat.sub_zero,Nat.sub_zero,List.map_append,qhJ,<- List.append_assoc]
 have hl:((bl ρ F n).map (Pv.vec (n+k) 0) ++ (bl ρ (P.lin ρ) k).map (Pv.vec (n+k) 0)).length=n+k:=by
  rw [List.length_append,List.length_map,List.length_map,qb0,qb0]
 have hv : ∀ (Q:Pv) (i:Nat),Q.v=0->(Q.sh ρ i).vec (n+k) 0 (n+k)=0:=fun Q i h=>by
  unfold Pv.vec;rw [if_neg (by omega)];show ρ ^ i*Q.v=0;rw [h,Int.mul_zero]
 rw [qqY fun v hv'=>by
  rw [hl];rcases List.mem_append.1 hv' with h | h
  ·obtain ⟨w,hw,rfl⟩:=List.mem_map.1 h;obtain ⟨i,_,rfl⟩:=qjB hw;exact hv F i hF
  ·obtain ⟨w,hw,rfl⟩:=List.mem_map.1 h;obtain ⟨i,_,rfl⟩:=qjB hw
   exact hv _ i rfl,hl]
 congr 1
 unfold Pv.vec;rw [if_neg (by omega)];show ρ ^ 0*P.v=P.v;rw [Int.pow_zero,Int.one_mul]


theorem qoB {A B:List (Nat->Int)} {u:Nat->Int} (hne:A ++ B ≠ []) (hu:u 0≠0) (h1:u 1=u 0) (h : ∀ v ∈ A ++ B,v 1=v 0):dt (A ++ u :: B)=0:=by
 have hm:=qgR [] u B A;rw [List.append_nil] at hm
 have ha:=qiR (α:=Nat->Int) [u] (u 0) (fun v r=>u 0*v r - v 0*u r) (fun v=>v) (A ++ B) [] fun v _=>⟨[(-(v 0),u)],fun p hp=>by rw [List.mem_singleton.1 hp];exact List.mem_singleton.2 rfl,fun r=>by
  show u 0*v r - v 0*u r=u 0*v r+(-(v 0)*u r+0)
  rw [Int.neg_mul];omega⟩
 have hz : ∀ w ∈ (A ++ B).map (fun (v:Nat->Int) r=>u 0*v r - v 0*u r),w 0=0/\w 1=0:=fun w hw=>by
  obtain ⟨v,hv,rfl⟩:=List.mem_map.1 hw;refine ⟨by show u 0*v 0 - v 0*u 0=0;rw [Int.mul_comm];omega,by show u 0*v 1 - v 0*u 1=0;rw [h v hv,h1,Int.mul_comm];omega⟩
 generalize hW:(A ++ B).map (fun (v:Nat->Int) r=>u 0*v r - v 0*u r)=W at ha hz
 have hWne:W.map tlI ≠ []:=by
  rw [<- hW];intro e;exact hne (List.map_eq_nil_iff.1 (List.map_eq_nil_iff.1 e))
 have hb:=qgS [u] [] W [];simp only [List.nil_append,List.append_nil] at hb
 have ht:dt ([u] ++ W)=0:=by
  show dt (u :: W)=0
  rw [qj0 u fun v hv=>(hz v hv).1,qqX hWne fun v hv=>by
   obtain ⟨w,hw,rfl⟩:=List.mem_map.1 hv
   exact (hz w hw).2,Int.mul_zero]
 rw [ht,Int.mul_zero] at hb;simp only [List.nil_append,List.map_id'] at ha;rw [hb] at ha;have h0:=(Int.mul_eq_zero.1 ha.symm).resolve_left (Int.pow_ne_zero hu);rw [hm,<- List.append_assoc,h0,Int.mul_zero]
def qcT (n:Nat) (a:Nat->Nat->Int):List (Nat->Int):=(List.range n).map fun c r=>a r c
theorem qqZ (n:Nat) (a:Nat->Nat->Int):dt (qcT n a)=qbo n a:=by
 unfold dt
 have hl:(qcT n a).length=n:=by unfold qcT;rw [List.length_map,List.length_range]
 rw [hl];refine qfu _ _ _ fun r c hc=>?_;unfold qhh qcT;rw [List.getD_eq_getElem?_getD,List.getElem?_map,List.getElem?_range hc];rfl
theorem qkS (n:Nat) (a:Nat->Nat->Int) (h : ∀ c,c<n+2->a 1 c=a 0 c):qbo (n+2) a=0:=by
 by_cases hz : ∀ c,c<n+2->a 0 c=0
 ·exact qcC _ fun d hd=>by rw [hz d hd,Int.zero_mul]
 ·obtain ⟨c,hc⟩:=Classical.not_forall.1 hz;obtain ⟨h1,h2⟩:=Classical.not_imp.1 hc
  have hL : ∀ v ∈ qcT (n+2) a,v 1=v 0:=fun v hv=>by
   obtain ⟨d,hd,rfl⟩:=List.mem_map.1 hv;exact h d (List.mem_range.1 hd)
  have hlen:(qcT (n+2) a).length=n+2:=by unfold qcT;rw [List.length_map,List.length_range]
  obtain ⟨A,B,hAB,hA⟩ : ∃ A B,qcT (n+2) a=A ++ (fun r=>a r c) :: B/\A.length=c:=⟨(qcT (n+2) a).take c,(qcT (n+2) a).drop (c+1),by
   have e:(qcT (n+2) a)[c]'(by omega)=fun r=>a r c:=by simp [qcT]
   rw [<- e,List.getElem_cons_drop,List.take_append_drop],by rw [List.length_take];omega⟩
  rw [<- qqZ,hAB];rw [hAB] at hL hlen;refine qoB (fun e=>?_) h2 (h c h1) fun v hv=>hL v ?_
  ·have:=congrArg List.length e;rw [List.length_append] at this hlen;rw [List.length_cons] at hlen;simp only [List.length_nil] at this;omega
  ·rcases List.mem_append.1 hv with e | e
   ·exact List.mem_append.2 (.inl e)
   ·exact List.mem_append.2 (.inr (List.mem_cons_of_mem _ e))
def tri (ρ:Nat->Int) (a:Nat->Nat->Int):Nat->Nat->Int:=fun r c=>a r c - ρ r*(if r=0 then 0 else a (r - 1) c)
def qk8 (ρ:Nat->Int) (a:Nat->Nat->Int):Nat->Nat->Int:=fun r c=>if r<=1 then a 0 c else tri ρ a r c
theorem qeQ : ∀ (n:Nat) (ρ:Nat->Int) (a:Nat->Nat->Int),qbo n (tri ρ a)=qbo n a
 | 0,_,_=>rfl
 | 1,ρ,a=>by
  show (0:Int)+sg1 0*(tri ρ a 0 0*1)=0+sg1 0*(a 0 0*1)
  have:tri ρ a 0 0=a 0 0:=by unfold tri;simp
  rw [this]
 | k+2,ρ,a=>by
  have e0 : ∀ ρ b c,tri ρ b 0 c=b 0 c:=fun ρ b c=>by unfold tri;simp
  have key : ∀ d,qbo (k+1) (mnI (tri ρ a) d)=1*qbo (k+1) (mnI a d)+(-(ρ 1))*qbo (k+1) (mnI (qk8 ρ a) d):=fun d=>by
   rw [<- qeQ (k+1) (fun r=>ρ (r+1)) (mnI a d)];refine qcb _ fun e he=>?_
   have m1:mnI (tri (fun r=>ρ (r+1)) (mnI a d)) e=mnI (mnI (tri ρ a) d) e:=by
    funext r c
    unfold mnI tri;simp
   have m2:mnI (mnI (qk8 ρ a) d) e=mnI (mnI (tri ρ a) d) e:=by
    funext r c
    unfold mnI qk8;rw [if_neg (by omega)]
   rw [m1,m2,e0]
   have h1:mnI (tri ρ a) d 0 e=mnI a d 0 e - ρ 1*mnI (qk8 ρ a) d 0 e:=by
    unfold mnI qk8 tri;simp
   rw [h1];generalize qbo k (mnI (mnI (tri ρ a) d) e)=D;generalize mnI a d 0 e=x;generalize mnI (qk8 ρ a) d 0 e=y
   grind
  have h:qaP (qbo (k+1)) (tri ρ a) (k+2)=1*qaP (qbo (k+1)) a (k+2)+(-(ρ 1))*qaP (qbo (k+1)) (qk8 ρ a) (k+2):=qcb _ fun d hd=>by
   rw [key d,e0];have hb:qk8 ρ a 0 d=a 0 d:=if_pos (by omega);rw [hb];generalize qbo (k+1) (mnI a d)=D;generalize qbo (k+1) (mnI (qk8 ρ a) d)=E;generalize a 0 d=x
   grind
  have hz:qaP (qbo (k+1)) (qk8 ρ a) (k+2)=0:=qkS k (qk8 ρ a) fun c _=>by
   unfold qk8;rw [if_pos (by omega),if_pos (by omega)]
  show qaP (qbo (k+1)) (tri ρ a) (k+2)=qaP (qbo (k+1)) a (k+2);rw [h,hz];simp


theorem qeR : ∀ (n:Nat) (a b:Nat->Nat->Int),(∀ r c,r<n->c<n->a r c=b r c)->qbo n a=qbo n b
 | 0,_,_,_=>rfl
 | n+1,a,b,h=>by
  have h1:qaP (qbo n) a (n+1)=1*qaP (qbo n) b (n+1)+0*qaP (qbo n) b (n+1):=qcb _ fun d hd=>by
   rw [h 0 d (by omega) hd,qeR n (mnI a d) (mnI b d) fun r c hr hc=>by
    unfold mnI
    split
    ·exact h _ _ (by omega) (by omega)
    ·exact h _ _ (by omega) (by omega)]
   simp
  show qaP (qbo n) a (n+1)=qaP (qbo n) b (n+1);rw [h1];simp
def Pv.at0 (P:Pv):Pv:=⟨P.c,P.c 0⟩
theorem qml (ρ : Int) (P : Pv) {T i d r : Nat} (hi : i + d < T) (hP : ∀ k, d < k -> P.c k = 0) (hr : r < T) :
  ((P.lin ρ).sh ρ i).vec T 0 r=(P.at0.sh 0 i).vec (T - 1) 0 r - ρ*(if r=0 then 0 else (P.at0.sh 0 i).vec (T - 1) 0 (r - 1)):=by
 have hu : ∀ q,q<T->(P.at0.sh 0 i).vec (T - 1) 0 q=if T - 1 - q<i then 0 else P.c (T - 1 - q - i):=fun q hq=>by
  unfold Pv.vec Pv.sh Pv.at0;simp only
  split
  ·rfl
  ·have e:T - 1 - q=0:=by omega
   rw [e]
   cases i with
   | zero=>simp
   | succ i=>rw [if_pos (by omega),Int.pow_succ];simp
 rw [hu r hr]
 have hl:((P.lin ρ).sh ρ i).vec T 0 r=if T - r<i then 0 else (if T - r - i=0 then 0 else P.c (T - r - i - 1)) - ρ*P.c (T - r - i):=by
  unfold Pv.vec;rw [if_pos (by omega)];rfl
 rw [hl]
 by_cases h0:r=0
 ·subst h0;rw [if_pos rfl,if_neg (by omega),if_neg (by omega),if_neg (by omega),hP (T - 0 - i) (by omega),show T - 0 - i - 1=T - 1 - 0 - i by omega]
 ·rw [if_neg h0,hu (r - 1) (by omega),show T - 1 - (r - 1)=T - r by omega]
  by_cases h1:T - r<i
  ·rw [if_pos h1,if_pos (by omega),if_pos h1];omega
  ·rw [if_neg h1,if_neg h1]
   by_cases h2:T - r=i
   ·rw [if_pos (by omega),if_pos (by omega)]
   ·rw [if_neg (by omega),if_neg (by omega),show T - r - i - 1=T - 1 - r - i by omega]
theorem qsO (ρ : Int) (k n : Nat) (H P : Pv) (hH : ∀ i, k < i -> H.c i = 0) (hP : ∀ i, n < i -> P.c i = 0) (hT : 1 <= n + k) :
  dS ρ 0 (k+1) n (H.lin ρ) P=P.v*dS 0 0 k n H.at0 P.at0:=by
 rw [qrc ρ k n _ _ rfl]
 congr 1
 unfold dS DD dt
 have l1:((bl ρ (H.lin ρ) n).map (Pv.vec (n+k) 0) ++ (bl ρ (P.lin ρ) k).map (Pv.vec (n+k) 0)).length=n+k:=by
  rw [List.length_append,List.length_map,List.length_map,qb0,qb0]
 have l2:((bl 0 H.at0 (n - 0) ++ bl 0 P.at0 (k - 0)).map (Pv.vec (k+n - 0 - 1) 0)).length=n+k:=by
  rw [List.length_map,List.length_append,qb0,qb0];omega
 rw [l1,l2];refine Eq.trans (qeR _ _ (tri (fun _=>ρ) _) fun r c hr hc=>?_) (qeQ _ (fun _=>ρ) _);rw [show k+n - 0 - 1=n+k - 1 by omega,Nat.sub_zero,Nat.sub_zero]
 have hbl : ∀ (ξ:Int) (Q:Pv) (N c:Nat),c<N->(bl ξ Q N)[c]? = some (Q.sh ξ (N - 1 - c)):=by
  intro ξ Q N
  induction N with
  | zero=>intro c h;omega
  | succ N ih=>
   intro c h;rw [qfC]
   cases c with
   | zero=>simp
   | succ c=>rw [List.getElem?_cons_succ,ih c (by omega),show N+1 - 1 - (c+1)=N - 1 - c by omega]
 unfold tri qhh;simp only [List.getD_eq_getElem?_getD,List.map_append]
 by_cases h1:c<n
 ·rw [List.getElem?_append_left (by rw [List.length_map,qb0];exact h1),List.getElem?_append_left (by rw [List.length_map,qb0];exact h1),List.getElem?_map,List.getElem?_map,hbl _ _ _ _ h1,hbl _ _ _ _ h1]
  have hi:n - 1 - c+k<n+k:=by omega
  exact qml ρ H hi hH hr
 ·have e1:((bl ρ (H.lin ρ) n).map (Pv.vec (n+k) 0)).length=n:=by rw [List.length_map,qb0]
  have e2:((bl 0 H.at0 n).map (Pv.vec (n+k - 1) 0)).length=n:=by rw [List.length_map,qb0]
  rw [List.getElem?_append_right (by omega),List.getElem?_append_right (by omega),e1,e2,List.getElem?_map,List.getElem?_map,hbl _ _ _ _ (by omega),hbl _ _ _ _ (by omega)]
  have hi:k - 1 - (c - n)+n<n+k:=by omega
  exact qml ρ P hi hP hr


def hnr (ξ:Int) (c:Nat->Int) (T:Nat):Nat->Int
 | 0=>c T
 | r+1=>ξ*hnr ξ c T r+c (T - (r+1))
theorem qmB (ξ:Int) (c:Nat->Int) (T:Nat) : ∀ r,r<=T->hnr ξ c T r*ξ ^ (T - r)+psI ξ c (T - r)=psI ξ c (T+1)
 | 0,_=>by show c T*ξ ^ T+psI ξ c T=psI ξ c T+c T*ξ ^ T;omega
 | r+1,h=>by
  rw [<- qmB ξ c T r (by omega),show T - r=(T - (r+1))+1 by omega];show (ξ*hnr ξ c T r+c (T - (r+1)))*ξ ^ (T - (r+1))+psI ξ c (T - (r+1))=hnr ξ c T r*ξ ^ (T - (r+1)+1)+(psI ξ c (T - (r+1))+c (T - (r+1))*ξ ^ (T - (r+1)));rw [Int.pow_succ];generalize ξ ^ (T - (r+1))=p;generalize hnr ξ c T r=h
  grind
theorem qqN (ξ:Int) (c:Nat->Int) (T:Nat):hnr ξ c T T=psI ξ c (T+1):=by
 have:=qmB ξ c T T (Nat.le_refl _);rw [Nat.sub_self,Int.pow_zero,Int.mul_one] at this;rw [<- this];show _=_+(0:Int);omega
def Pv.at' (ξ:Int) (d:Nat) (P:Pv):Prop:=(∀ k,d<k->P.c k=0)/\P.v=psI ξ P.c (d+1)
theorem qsx {ξ:Int} {d i T:Nat} {P:Pv} (h:P.at' ξ d) (hi:i+d<=T):hnr ξ (P.sh ξ i).c T T=ξ ^ i*P.v:=by
 have a1:psI ξ (P.sh ξ i).c i=0:=(qbs ξ (b:=fun _=>0) i fun k hk=>if_pos hk).trans (qeE ξ i)
 have a2:psI ξ (fun k=>(P.sh ξ i).c (i+k)) (d+1)=psI ξ P.c (d+1):=qbs ξ (d+1) fun k hk=>by
  show (if i+k<i then 0 else P.c (i+k - i))=_;rw [if_neg (by omega),Nat.add_sub_cancel_left]
 have a3:psI ξ (fun k=>(P.sh ξ i).c (i+(d+1+k))) (T - i - d)=0:=(qbs ξ (b:=fun _=>0) (T - i - d) fun k hk=>by
  show (if i+(d+1+k)<i then 0 else P.c (i+(d+1+k) - i))=_
  rw [if_neg (by omega)];exact h.1 _ (by omega)).trans (qeE ξ _)
 rw [qqN,h.2,show T+1=i+((d+1)+(T - i - d)) by omega,qfe,qfe,a1,a2,a3];simp
theorem qnq (ξ:Int) (Q:Pv) : ∀ (N c:Nat),c<N->(bl ξ Q N)[c]? = some (Q.sh ξ (N - 1 - c))
 | 0,c,h=>by omega
 | N+1,c,h=>by
  rw [qfC]
  cases c with
  | zero=>simp
  | succ c=>rw [List.getElem?_cons_succ,qnq ξ Q N c (by omega),show N+1 - 1 - (c+1)=N - 1 - c by omega]
theorem qne {ξ:Int} {m n:Nat} {F P:Pv} {T c r:Nat} (hc:c<n+m):qhh ((bl ξ F n ++ bl ξ P m).map (Pv.vec T 0)) r c=if c<n then (F.sh ξ (n - 1 - c)).vec T 0 r else (P.sh ξ (m - 1 - (c - n))).vec T 0 r:=by
 unfold qhh;simp only [List.getD_eq_getElem?_getD,List.map_append]
 have e1:((bl ξ F n).map (Pv.vec T 0)).length=n:=by rw [List.length_map,qb0]
 by_cases h1:c<n
 ·rw [List.getElem?_append_left (by omega),List.getElem?_map,qnq _ _ _ _ h1,if_pos h1];rfl
 ·rw [List.getElem?_append_right (by omega),e1,List.getElem?_map,qnq _ _ _ _ (by omega),if_neg h1];rfl
theorem qg1 {ξ : Int} {d i T r : Nat} {P : Pv} (h : P.at' ξ d) (hi : i + d <= T) (hr : r < T + 1) :
  (P.at0.sh 0 i).vec T 0 r=hnr ξ (P.sh ξ i).c T r - ξ*(if r=0 then 0 else hnr ξ (P.sh ξ i).c T (r - 1)) /\
  (P.sh ξ i).vec T 0 r=hnr ξ (P.sh ξ i).c T r - (if r<T then ξ else 0)*(if r=0 then 0 else hnr ξ (P.sh ξ i).c T (r - 1)):=by
 have hs : ∀ r,hnr ξ (P.sh ξ i).c T r - ξ*(if r=0 then 0 else hnr ξ (P.sh ξ i).c T (r - 1))=(P.sh ξ i).c (T - r):=fun r=>by
  cases r with
  | zero=>rw [if_pos rfl];show (P.sh ξ i).c T - ξ*0=_;simp
  | succ r=>rw [if_neg (by omega),Nat.add_sub_cancel];show ξ*hnr ξ (P.sh ξ i).c T r+(P.sh ξ i).c (T - (r+1)) - _=_;omega
 have h0 : ∀ r,(P.sh ξ i).c r=(P.at0.sh 0 i).c r:=fun _=>rfl;refine ⟨?_,?_⟩
 ·rw [hs r];unfold Pv.vec
  by_cases h2:r<T
  ·rw [if_pos (by omega)];exact (h0 _).symm
  ·rw [if_neg (by omega),show T - r=0 by omega];show 0 ^ i*P.c 0=if 0<i then 0 else P.c (0 - i)
   cases i with
   | zero=>simp
   | succ i=>rw [if_pos (by omega),Int.pow_succ];simp
 ·unfold Pv.vec
  by_cases h2:r<T
  ·rw [if_pos (by omega),if_pos h2,hs r]
  ·obtain rfl:r=T:=by omega
   rw [if_neg (by omega),if_neg h2,Int.zero_mul,Int.sub_zero,qsx h hi];rfl
theorem qj6 {ξ:Int} {m n:Nat} {F P:Pv} (hF:F.at' ξ m) (hP:P.at' ξ n) (hT:1<=m+n):dS ξ 0 m n F P=dS 0 0 m n F.at0 P.at0:=by
 unfold dS DD dt
 have l1 : ∀ (ξ:Int) (F P:Pv),((bl ξ F (n - 0) ++ bl ξ P (m - 0)).map (Pv.vec (m+n - 0 - 1) 0)).length=m+n:=fun ξ F P=>by
  rw [List.length_map,List.length_append,qb0,qb0];omega
 rw [l1,l1,Nat.sub_zero,Nat.sub_zero,Nat.sub_zero];obtain ⟨T,hTe⟩ : ∃ T,T=m+n - 1:=⟨_,rfl⟩;rw [<- hTe]
 let B:Nat->Nat->Int:=fun r c=>if c<n then hnr ξ (F.sh ξ (n - 1 - c)).c T r else hnr ξ (P.sh ξ (m - 1 - (c - n))).c T r
 have e1:qbo (m+n) (qhh ((bl ξ F n ++ bl ξ P m).map (Pv.vec T 0)))=qbo (m+n) (tri (fun r=>if r<T then ξ else 0) B):=qeR _ _ _ fun r c hr hc=>by
  rw [qne (by omega)];unfold tri;show _=(if c<n then _ else _) - _*(if r=0 then 0 else (if c<n then _ else _))
  by_cases h:c<n
  ·rw [if_pos h,if_pos h,if_pos h];exact (qg1 hF (by omega) (by omega)).2
  ·rw [if_neg h,if_neg h,if_neg h];exact (qg1 hP (by omega) (by omega)).2
 have e2:qbo (m+n) (qhh ((bl 0 F.at0 n ++ bl 0 P.at0 m).map (Pv.vec T 0)))=qbo (m+n) (tri (fun _=>ξ) B):=qeR _ _ _ fun r c hr hc=>by
  rw [qne (by omega)];unfold tri;show _=(if c<n then _ else _) - _*(if r=0 then 0 else (if c<n then _ else _))
  by_cases h:c<n
  ·rw [if_pos h,if_pos h,if_pos h];exact (qg1 hF (by omega) (by omega)).1
  ·rw [if_neg h,if_neg h,if_neg h];exact (qg1 hP (by omega) (by omega)).1
 rw [e1,e2,qeQ,qeQ]


theorem qeF {x:Int} {a:Nat->Int} {N:Nat} (h : ∀ i,N<=i->a i=0) (r:Nat):psI x a (N+r)=psI x a N:=by
 rw [qfe,qbs x (b:=fun _=>0) r (fun k _=>h _ (by omega)),qeE];simp
theorem qpj {x:Int} {z:Nat->Int} {n N:Nat} (h : ∀ i,N<=i->zx0 n z i=0):psI x z n=psI x (zx0 n z) N:=by
 have e1:psI x z n=psI x (zx0 n z) n:=qbs x n fun i hi=>(if_pos hi).symm;rw [e1,<- qeF (x:=x) (N:=n) (a:=zx0 n z) (fun i hi=>if_neg (by omega)) N,Nat.add_comm,qeF h n]
theorem qmn (c:Int) (r:Nat->Int) (x:Int) (k:Nat):psI x (lf c r (k+1)) (k+2)=(x - r k)*psI x (lf c r k) (k+1):=by
 have e1:psI x (fun i=>if i=0 then 0 else lf c r k (i - 1)) (k+2)=x*psI x (lf c r k) (k+1):=by
  rw [show k+2=1+(k+1) by omega,qfe];rw [qbs x (b:=lf c r k) (k+1) fun i _=>by show (if 1+i=0 then 0 else lf c r k (1+i - 1))=_;rw [if_neg (by omega),Nat.add_sub_cancel_left]];show (0:Int)+0*x ^ 0+x ^ 1*_=_;rw [Int.zero_mul,Int.zero_add,Int.zero_add,Int.pow_one]
 have e2:psI x (lf c r k) (k+2)=psI x (lf c r k) (k+1):=qeF (N:=k+1) (fun i hi=>qcq c r k i (by omega)) 1
 have e3:psI x (lf c r (k+1)) (k+2)=psI x (fun i=>(if i=0 then 0 else lf c r k (i - 1))+(-(r k))*lf c r k i) (k+2):=qbs x _ fun i _=>by
  show (if i=0 then 0 else lf c r k (i - 1)) - r k*lf c r k i=_;rw [Int.neg_mul];omega
 rw [e3,qeG,e1,qgs,e2,Int.sub_mul,Int.neg_mul];omega
theorem qsQ {n:Nat} {P Q:Pv} (hP : ∀ i,0<i->P.c i=0) (hv:P.v=P.c 0):dS 0 0 0 n P Q=P.c 0 ^ n:=by
 cases n with
 | zero=>rw [Int.pow_zero];rfl
 | succ q=>
  have h:=qsf (ξ:=0) (j:=0) (d:=0) (p:=1) (T:=0) (P:=P) (R:=[]) rfl (Nat.le_refl _) hP (fun w hw=>absurd hw List.not_mem_nil) q
  have e:DD 0 0 (bl 0 P 1 ++ [])=P.c 0:=by
   show dt [(P.sh 0 0).vec 0 0]=_;show (0:Int)+sg1 0*((P.sh 0 0).vec 0 0 0*1)=_
   have:(P.sh 0 0).vec 0 0 0=P.c 0:=by
    unfold Pv.vec;rw [if_neg (by omega)];show 0 ^ 0*P.v=_;rw [hv];simp
   rw [this];show (0:Int)+(1:Int)*_=_;omega
  rw [e] at h;show DD (0+(q+1) - 0 - 1) 0 (bl 0 P (q+1) ++ bl 0 Q 0)=_;rw [show 0+(q+1) - 0 - 1=0+q by omega];show DD (0+q) 0 (bl 0 P (q+1) ++ [])=_;rw [h,Int.pow_succ]
def Rz (m n:Nat) (a b:Nat->Int):Int:=dS 0 0 m n ⟨a,a 0⟩ ⟨b,b 0⟩
theorem qgt (c:Int) : ∀ k,pr (fun _=>c) k=c ^ k
 | 0=>by rw [Int.pow_zero];rfl
 | k+1=>by show pr _ k*c=_;rw [qgt c k,Int.pow_succ]
theorem qpd (c:Int) (r b:Nat->Int) (n:Nat) (hb : ∀ i,n<i->b i=0) : ∀ k,Rz k n (lf c r k) b=c ^ n*pr (fun i=>psI (r i) b (n+1)) k:=by
 cases n with
 | zero=>
  intro k;have h:=qm9 0 0 0 k ⟨b,b 0⟩ ⟨lf c r k,lf c r k 0⟩
  have e:(fun i=>psI (r i) b (0+1))=fun _=>b 0:=funext fun i=>by show (0:Int)+b 0*(r i) ^ 0=_;simp
  unfold Rz;rw [h,qsQ (P:=⟨b,b 0⟩) hb rfl,e,qgt];show sgk ((0 - 0)*(k - 0))*b 0 ^ k=c ^ 0*b 0 ^ k;rw [Nat.sub_zero,Nat.zero_mul,Int.pow_zero];rfl
 | succ n=>
  intro k
  induction k with
  | zero=>
   unfold Rz;rw [qsQ (P:=⟨lf c r 0,lf c r 0 0⟩) (fun i hi=>if_neg (by omega)) rfl];show c ^ (n+1)=c ^ (n+1)*1;rw [Int.mul_one]
  | succ k ih=>
   have hF:Pv.at' (r k) (k+1) (Pv.lin (r k) ⟨lf c r k,0⟩):=⟨fun i hi=>qcq c r (k+1) i hi,by
    show (0:Int)=psI (r k) (lf c r (k+1)) (k+2)
    rw [qmn,Int.sub_self,Int.zero_mul]⟩
   have hP:Pv.at' (r k) (n+1) ⟨b,psI (r k) b (n+2)⟩:=⟨hb,rfl⟩;have h1:=qj6 hF hP (by omega);have h2:=qsO (r k) k (n+1) ⟨lf c r k,0⟩ ⟨b,psI (r k) b (n+2)⟩ (fun i hi=>qcq c r k i hi) hb (by omega);rw [h1] at h2;have e1:(Pv.lin (r k) ⟨lf c r k,0⟩).at0=⟨lf c r (k+1),lf c r (k+1) 0⟩:=rfl;rw [e1] at h2;show dS 0 0 (k+1) (n+1) ⟨lf c r (k+1),lf c r (k+1) 0⟩ (Pv.at0 ⟨b,psI (r k) b (n+2)⟩)=c ^ (n+1)*(pr (fun i=>psI (r i) b (n+1+1)) k*psI (r k) b (n+1+1));rw [h2];show psI (r k) b (n+2)*Rz k (n+1) (lf c r k) b=_;rw [ih,Int.mul_comm,Int.mul_assoc]
theorem qrW {m n nf ng:Nat} {zf zg:Nat->Int} (hf : ∀ i,m<i->zx0 nf zf i=0) (hg : ∀ i,n<i->zx0 ng zg i=0):Sim (SJ 1 0 m n (upl 1 nf zf) (upl 1 ng zg)) (cst (Rz m n (zx0 nf zf) (zx0 ng zg))):=by
 have h1:1<=1:=Nat.le_refl 1
 have h4:1<=4:=by omega
 refine qe8 (qcJ h1 h4 (qc2 _ _ _) (qc2 _ _ _) _ _ _) (qfj _) fun x=>?_
 have hp : ∀ (k:Nat) (z:Nat->Int) (N:Nat),(∀ i,N<i->zx0 k z i=0)->pv 1 x (upl 1 k z)=⟨zx0 k z,psI (x 0) (zx0 k z) (N+1)⟩:=fun k z N h=>by
  unfold pv;rw [qsz x h1 h4,qpj (N:=N+1) fun i hi=>h i (by omega)]
  congr 1
  funext i
  exact (qbd x (qnk (D:=0) h4 k z i)).trans (qdp x _)
 rw [qhW h1 h4 x (qc2 _ _ _) (qc2 _ _ _),hp nf zf m hf,hp ng zg n hg,show ev x (cst (Rz m n (zx0 nf zf) (zx0 ng zg)))=Rz m n (zx0 nf zf) (zx0 ng zg) from qdp x _];show dS (x 0) 0 m n _ _=_
 by_cases h0:m+n=0
 ·obtain rfl:m=0:=by omega
  obtain rfl:n=0:=by omega
  rfl
 ·exact qj6 (F:=⟨zx0 nf zf,psI (x 0) (zx0 nf zf) (m+1)⟩) (P:=⟨zx0 ng zg,psI (x 0) (zx0 ng zg) (n+1)⟩) ⟨hf,rfl⟩ ⟨hg,rfl⟩ (by omega)


def dzc (a:Nat->Int) (i:Nat):Int:=((i:Int)+1)*a (i+1)
def lfQ (r:Nat->Int) (x:Int) (k:Nat):Int:=pr (fun j=>x - r j) k
def lfE (r:Nat->Int) (x:Int):Nat->Int
 | 0=>0
 | k+1=>lfQ r x k+(x - r k)*lfE r x k
theorem qpx (c:Int) (r:Nat->Int) (x:Int) : ∀ k,psI x (lf c r k) (k+1)=c*lfQ r x k
 | 0=>by show (0:Int)+c*x ^ 0=c*1;simp
 | k+1=>by
  rw [qmn,qpx c r x k];show _=c*(pr (fun j=>x - r j) k*(x - r k));unfold lfQ
  grind
theorem qpk (x:Int) (a:Nat->Int) : ∀ n,psI x (fun i=>(i:Int)*a i) (n+1)=x*psI x (dzc a) n
 | 0=>by show (0:Int)+((0:Nat):Int)*a 0*x ^ 0=x*0;simp
 | n+1=>by
  have h:=qpk x a n;show psI x (fun i=>(i:Int)*a i) (n+1)+((n+1:Nat):Int)*a (n+1)*x ^ (n+1)=x*(psI x (dzc a) n+((n:Int)+1)*a (n+1)*x ^ n);rw [h,Int.pow_succ,show ((n+1:Nat):Int)=(n:Int)+1 by omega];generalize x ^ n=p;generalize psI x (dzc a) n=q
  grind
theorem qpy (c:Int) (r:Nat->Int) (x:Int) : ∀ k,psI x (dzc (lf c r k)) k=c*lfE r x k
 | 0=>by show (0:Int)=c*0;simp
 | k+1=>by
  have e1:psI x (dzc (lf c r (k+1))) (k+1)=psI x (fun i=>(lf c r k i+(i:Int)*lf c r k i)+(-(r k))*dzc (lf c r k) i) (k+1):=qbs x _ fun i _=>by
   show ((i:Int)+1)*((if i+1=0 then 0 else lf c r k (i+1 - 1)) - r k*lf c r k (i+1))=_;rw [if_neg (by omega),Nat.add_sub_cancel];unfold dzc
   grind
  have e2:psI x (dzc (lf c r k)) (k+1)=psI x (dzc (lf c r k)) k:=qeF (N:=k) (fun i hi=>by unfold dzc;rw [qcq c r k _ (by omega),Int.mul_zero]) 1;rw [e1,qeG,qeG,qgs,qpk,e2,qpx,qpy c r x k];show _=c*(lfQ r x k+(x - r k)*lfE r x k)
  grind
theorem qjF {r:Nat->Int} {i:Nat} : ∀ k,i<k->lfQ r (r i) k=0
 | 0,h=>by omega
 | k+1,h=>by
  show lfQ r (r i) k*(r i - r k)=0
  by_cases e:i=k
  ·subst e;rw [Int.sub_self,Int.mul_zero]
  ·rw [qjF k (by omega),Int.zero_mul]
theorem qgu {f g:Nat->Int} : ∀ n,(∀ i,i<n->f i=g i)->pr f n=pr g n
 | 0,_=>rfl
 | n+1,h=>by
  show pr f n*f n=pr g n*g n;rw [qgu n fun i hi=>h i (by omega),h n (by omega)]
theorem qjn (f g:Nat->Int) : ∀ n,pr (fun i=>f i*g i) n=pr f n*pr g n
 | 0=>rfl
 | n+1=>by
  show pr (fun i=>f i*g i) n*(f n*g n)=pr f n*f n*(pr g n*g n);rw [qjn f g n]
  grind
theorem qpl (f:Nat->Int) : ∀ n,pr (fun i=>-(f i)) n=(if n % 2=0 then 1 else -1)*pr f n
 | 0=>rfl
 | n+1=>by
  show pr (fun i=>-(f i)) n * -(f n)=_*(pr f n*f n);rw [qpl f n]
  by_cases h:n % 2=0
  ·rw [if_pos h,if_neg (by omega)];grind
  ·rw [if_neg h,if_pos (by omega)];grind
theorem qpz (r:Nat->Int) : ∀ n,pr (fun i=>lfE r (r i) n) n=sgD n*pr (dqs r) n
 | 0=>rfl
 | n+1=>by
  have ih:=qpz r n;show pr (fun i=>lfE r (r i) (n+1)) n*lfE r (r n) (n+1)=sgD (n+1)*(pr (dqs r) n*dqs r n)
  have e1:pr (fun i=>lfE r (r i) (n+1)) n=pr (fun i=>-(r n - r i)*lfE r (r i) n) n:=qgu n fun i hi=>by
   show lfQ r (r i) n+(r i - r n)*lfE r (r i) n=_;rw [qjF n hi,Int.zero_add,Int.neg_sub]
  have e2:lfE r (r n) (n+1)=pr (fun j=>r n - r j) n:=by
   show lfQ r (r n) n+(r n - r n)*lfE r (r n) n=_;rw [Int.sub_self,Int.zero_mul,Int.add_zero];rfl
  have e3:dqs r n=pr (fun j=>r n - r j) n*pr (fun j=>r n - r j) n:=qjn (fun j=>r n - r j) (fun j=>r n - r j) n;rw [e1,qjn,qpl,ih,e2,e3]
  have hs:sgD (n+1)=(if n % 2=0 then 1 else -1)*sgD n:=by
   unfold sgD;rcases (show n % 4=0∨n % 4=1∨n % 4=2∨n % 4=3 by omega) with h | h | h | h
   ·rw [if_neg (by omega),if_pos (by omega),if_neg (by omega)];rfl
   ·rw [if_pos (by omega),if_neg (by omega),if_neg (by omega)];rfl
   ·rw [if_pos (by omega),if_pos (by omega),if_pos (by omega)];rfl
   ·rw [if_neg (by omega),if_neg (by omega),if_pos (by omega)];rfl
  rw [hs];generalize pr (fun j=>r n - r j) n=p;generalize pr (dqs r) n=q;generalize sgD n=s;generalize (if n % 2=0 then (1:Int) else -1)=u
  grind
theorem qq5 (c:Int) (r:Nat->Int) (n:Nat) (hn:1<=n):sgD n*Rz n (n - 1) (lf c r n) (dzc (lf c r n))=(c ^ (2*n - 2)*pr (dqs r) n)*c:=by
 obtain ⟨m,rfl⟩ : ∃ m,n=m+1:=⟨n - 1,by omega⟩;rw [Nat.add_sub_cancel,qpd c r (dzc (lf c r (m+1))) m (fun i hi=>by unfold dzc;rw [qcq c r (m+1) _ (by omega),Int.mul_zero]) (m+1)]
 have e1:pr (fun i=>psI (r i) (dzc (lf c r (m+1))) (m+1)) (m+1)=pr (fun _=>c) (m+1)*pr (fun i=>lfE r (r i) (m+1)) (m+1):=by
  rw [<- qjn];exact qgu _ fun i _=>qpy c r (r i) (m+1)
 rw [e1,qgt,qpz]
 have hs:sgD (m+1)*sgD (m+1)=1:=by unfold sgD;split <;> rfl
 rw [show 2*(m+1) - 2=m+m by omega,show c ^ (m+m)=c ^ m*c ^ m from Int.pow_add c m m,show c ^ (m+1)=c ^ m*c from Int.pow_succ c m];generalize pr (dqs r) (m+1)=q;generalize c ^ m=p;generalize sgD (m+1)=s at *
 have:s*(p*(p*c*(s*q)))=(s*s)*(p*p*q*c):=by grind
 rw [this,hs]
 grind
end Go.Proofs.YtmcfpnmoklnhoaaGreat
