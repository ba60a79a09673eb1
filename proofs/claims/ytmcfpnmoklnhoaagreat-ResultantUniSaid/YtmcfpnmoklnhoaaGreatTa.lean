/- Ta -/
import Derived.Test.YtmcfpnmoklnhoaaGreatQc
import Derived.Test.YtmcfpnmoklnhoaaGreatSa
import Derived.Test.YtmcfpnmoklnhoaaGreatSb
set_option linter.unusedVariables false
set_option maxRecDepth 100000
set_option maxHeartbeats 400000000
set_option linter.unusedSimpArgs false
namespace Go.Proofs.YtmcfpnmoklnhoaaGreat
theorem qqa(c:Nat):mV (c+1)= -mV c:=by
 unfold mV
 by_cases h:c%2=0
 ·rw[ai h,ah (by omega)]
 ·rw[ah h,ai (by omega)];rfl
theorem Nk{D E F:(Nat->Nat->Int)->Int}{a b c:Nat->Nat->Int}{s t:Int}:∀n,(∀d,d<n->a 0 d*D (dW a d)=s*(b 0 d*E (dW b d))+t*(c 0 d*F (dW c d)))->gF D a n=s*gF E b n+t*gF F c n
 |0,_=>by simp[gF]
 |n+1,h=>by
  have ih:=Nk n λd hd=>h d (by omega);have h1:=h n (by omega);simp only[gF];rw[ih,h1];generalize b 0 n*E (dW b n)=u;generalize c 0 n*F (dW c n)=v;generalize gF E b n=p;generalize gF F c n=q;generalize mV n=g
  grind
theorem qjh:∀(n:Nat)(a b c:Nat->Nat->Int)(k:Nat)(s t:Int),k<n->(∀r i,i≠k->a r i=b r i)->(∀r i,i≠k->a r i=c r i)->(∀r,a r k=s*b r k+t*c r k)->dR n a=s*dR n b+t*dR n c
 |0,_,_,_,_,_,_,hk,_,_,_=>absurd hk (Nat.not_lt_zero _)
 |n+1,a,b,c,k,s,t,hk,hb,hc,hw=>by
  refine Nk (n+1) λd hd=>?_
  by_cases xS:d=k
  ·subst xS;have e1:dW a d=dW b d:=funext λr=>funext λj=>hb _ _ (by split<;>omega);have e2:dW a d=dW c d:=funext λr=>funext λj=>hc _ _ (by split<;>omega);rw[<-e1, <-e2,hw];generalize dR n (dW a d)=u;generalize b 0 d=p;generalize c 0 d=q
   grind
  ·rw[hb 0 d xS, <-hc 0 d xS,hb 0 d xS]
   have ih:=qjh n (dW a d) (dW b d) (dW c d) (if k<d then k else k-1) s t (by split<;>omega) (λr i hi=>hb _ _ (by split at hi<;>split<;>omega)) (λr i hi=>hc _ _ (by split at hi<;>split<;>omega)) λr=>by
    have e:(if(if k<d then k else k-1)<d then(if k<d then k else k-1)else(if k<d then k else k-1)+1)=k:=by
     by_cases h:k<d
     ·simp[h]
     ·simp only[h,if_false];rw[ah (by omega)];omega
    show a (r+1) _=s*b (r+1) _+t*c (r+1) _;rw[e];exact hw _
   rw[ih];generalize dR n (dW b d)=u;generalize dR n (dW c d)=v;generalize b 0 d=p
   grind
theorem qbr{D:(Nat->Nat->Int)->Int}{a:Nat->Nat->Int}:∀n,(∀d,d<n->a 0 d*D (dW a d)=0)->gF D a n=0
 |0,_=>rfl
 |n+1,h=>by
  simp only[gF];rw[qbr n λd hd=>h d (by omega),h n (by omega)];simp
theorem qjk{D:(Nat->Nat->Int)->Int}{a:Nat->Nat->Int}{k:Nat}(h2:a 0 k*D (dW a k)=a 0 (k+1)*D (dW a (k+1))):∀n,k+1<n->(∀d,d<n->d≠k->d≠k+1->a 0 d*D (dW a d)=0)->gF D a n=0
 |0,h,_=>absurd h (Nat.not_lt_zero _)
 |n+1,hn,h=>by
  by_cases e:n=k+1
  ·subst e;simp only[gF];rw[qbr k λd hd=>h d (by omega) (by omega) (by omega),h2,qqa];generalize a 0 (k+1)*D (dW a (k+1))=u;generalize mV k=g
   grind
  ·simp only[gF];rw[qjk h2 n (by omega) λd hd=>h d (by omega),h n (by omega) (by omega) (by omega)];simp
theorem qbo:∀(n:Nat)(a:Nat->Nat->Int)(k:Nat),k+1<n->(∀r,a r k=a r (k+1))->dR n a=0
 |0,_,_,hk,_=>absurd hk (Nat.not_lt_zero _)
 |n+1,a,k,hk,h=>by
  refine qjk (k:=k) ?_ (n+1) hk λd hd h1 h2=>?_
  ·have e:dW a k=dW a (k+1):=funext λr=>funext λj=>by
    show a (r+1) _=a (r+1) _
    by_cases hj:j=k
    ·subst hj;rw[ah (Nat.lt_irrefl _),ai (by omega)];exact(h _).symm
    ·by_cases hl:j<k
     ·rw[ai hl,ai (by omega)]
     ·rw[ah hl,ah (by omega)]
   rw[e,h 0]
  ·have hz:dR n (dW a d)=0:=by
    by_cases hl:d<k
    ·refine qbo n _ (k-1) (by omega) λr=>?_;show a (r+1) _=a (r+1) _;rw[ah (by omega),ah (by omega),show k-1+1=k by omega];exact h _
    ·refine qbo n _ k (by omega) λr=>?_;show a (r+1) _=a (r+1) _;rw[ai (by omega),ai (by omega)];exact h _
   rw[hz,Int.mul_zero]
def xI(L:List (Nat->Int)):Nat->Nat->Int:=λr c=>L.getD c (λ_=>0) r
def dt(L:List (Nat->Int)):Int:=dR L.length (xI L)
theorem qj4{A B:List (Nat->Int)}{u v:Nat->Int}:∀{c:Nat},c≠A.length->(A++u::B).getD c (λ_=>0)=(A++v::B).getD c (λ_=>0):=by
 induction A with
 |nil=>intro c hc;cases c with
  |zero=>exact absurd rfl hc
  |succ c=>rfl
 |cons a A ih=>intro c hc;cases c with
  |zero=>rfl
  |succ c=>exact ih (c:=c) (λe=>hc (by simp[e]))
theorem getD_at{A B:List (Nat->Int)}{u:Nat->Int}:(A++u::B).getD A.length (λ_=>0)=u:=by
 induction A with
 |nil=>rfl
 |cons a A ih=>exact ih
theorem Nq{A B:List (Nat->Int)}{w u v:Nat->Int}(s t:Int)(h:∀r,w r=s*u r+t*v r):dt (A++w::B)=s*dt (A++u::B)+t*dt (A++v::B):=by
 have e:∀u:Nat->Int,dt (A++u::B)=dR (A.length+(B.length+1)) (xI (A++u::B)):=λu=>by unfold dt;rw[List.length_append,List.length_cons]
 rw[e,e,e];refine qjh _ _ _ _ A.length s t (by omega) (λr i hi=>congrFun (qj4 hi) r) (λr i hi=>congrFun (qj4 hi) r) λr=>?_;show(A++w::B).getD A.length (λ_=>0) r=s*(A++u::B).getD A.length (λ_=>0) r+t*(A++v::B).getD A.length (λ_=>0) r;rw[getD_at,getD_at,getD_at];exact h r
theorem VV(A B:List (Nat->Int))(u:Nat->Int):dt (A++u::u::B)=0:=by
 unfold dt;refine qbo _ _ A.length (by simp) λr=>?_;show(A++u::u::B).getD A.length (λ_=>0) r=(A++u::u::B).getD (A.length+1) (λ_=>0) r;rw[getD_at,show A++u::u::B=(A++[u])++u::B by simp,show A.length+1=(A++[u]).length by simp,getD_at]
theorem quJ(A B:List (Nat->Int))(u v:Nat->Int):dt (A++u::v::B)= -dt (A++v::u::B):=by
 have h0:=VV A B (λr=>u r+v r)
 have h1:=Nq (A:=A) (B:=(λr=>u r+v r)::B) (w:=λr=>u r+v r) (u:=u) (v:=v) 1 1 λr=>by omega
 have h2:=Nq (A:=A++[u]) (B:=B) (w:=λr=>u r+v r) (u:=u) (v:=v) 1 1 λr=>by omega
 have h3:=Nq (A:=A++[v]) (B:=B) (w:=λr=>u r+v r) (u:=u) (v:=v) 1 1 λr=>by omega
 simp only[List.append_assoc,List.singleton_append]at h2 h3;have h4:=VV A B u;have h5:=VV A B v;omega
def kW(k:Nat):Int:=if k%2=0 then 1 else-1
theorem Yr(k:Nat):kW (k+1)= -kW k:=qqa k
theorem qqc(j k:Nat):kW (j+k)=kW j*kW k:=by
 induction k with
 |zero=>simp[kW]
 |succ k ih=>rw[<-Nat.add_assoc,Yr,Yr,ih];grind
theorem qBg(k:Nat):kW k*kW k=1:=by unfold kW;split<;>rfl
theorem qqd{k:Nat}(h:k%2=0):kW k=1:=ai h
theorem qeP(k:Nat):(-1:Int)^k=kW k:=by
 induction k with
 |zero=>rfl
 |succ k ih=>rw[Int.pow_succ,ih,Yr];omega
theorem VW(B:List (Nat->Int))(u:Nat->Int):∀(X A:List (Nat->Int)),dt (A++u::(X++B))=kW X.length*dt (A++(X++u::B))
 |[],A=>by simp[kW]
 |x::X,A=>by
  rw[List.cons_append,quJ A (X++B) u x,show A++x::u::(X++B)=(A++[x])++u::(X++B) by simp,VW B u X (A++[x]),List.length_cons,Yr];simp only[List.append_assoc,List.cons_append,List.nil_append];generalize dt (A++x::(X++u::B))=d;generalize kW _=g
  grind
theorem qbA(Y B:List (Nat->Int)):∀(X A:List (Nat->Int)),dt (A++(X++(Y++B)))=kW (X.length*Y.length)*dt (A++(Y++(X++B)))
 |[],A=>by simp[kW]
 |x::X,A=>by
  have h1:=qbA Y B X (A++[x]);have h2:=VW (X++B) x Y A;rw[List.length_cons,Nat.add_mul,Nat.one_mul,qqc];simp only[List.append_assoc,List.cons_append,List.nil_append]at h1 h2⊢;rw[h1,h2];generalize dt _=d;generalize kW (X.length*Y.length)=g;generalize kW Y.length=k
  grind
theorem quG(A B:List (Nat->Int)){u:Nat->Int}(h:u∈B):dt (A++u::B)=0:=by
 obtain⟨X,Y,rfl⟩:=List.append_of_mem h;rw[VW (u::Y) u X A, <-List.append_assoc,VV,Int.mul_zero]
def BI:List (Int × (Nat->Int))->Nat->Int
 |[],_=>0
 |p::l,r=>p.1*p.2 r+BI l r
theorem qju(A B:List (Nat->Int))(u:Nat->Int)(s:Int):∀(ps:List (Int × (Nat->Int)))(w:Nat->Int),(∀p∈ps,p.2∈B)->(∀r,w r=s*u r+BI ps r)->dt (A++w::B)=s*dt (A++u::B)
 |[],w,_,h=>by
  have:=Nq (A:=A) (B:=B) (w:=w) (u:=u) (v:=u) s 0 λr=>by rw[h r];simp[BI]
  rw[this];simp
 |p::ps,w,hm,h=>by
  have h1:=Nq (A:=A) (B:=B) (w:=w) (u:=λr=>s*u r+BI ps r) (v:=p.2) 1 p.1 λr=>by rw[h r];simp only[BI];omega
  rw[h1,qju A B u s ps _ (λq hq=>hm q (List.mem_cons_of_mem _ hq)) λr=>rfl,quG A B (hm p List.mem_cons_self)];omega
theorem qbz{α:Type}(B:List (Nat->Int))(s:Int)(W U:α->Nat->Int):∀(ks:List α)(A:List (Nat->Int)),(∀k∈ks,∃ps:List (Int × (Nat->Int)),(∀p∈ps,p.2∈B)/\∀r,W k r=s*U k r+BI ps r)->dt (A++(ks.map W++B))=s^ks.length*dt (A++(ks.map U++B))
 |[],A,_=>by simp
 |k::ks,A,h=>by
  obtain⟨ps,h1,h2⟩:=h k List.mem_cons_self;have ih:=qbz B s W U ks (A++[U k]) λq hq=>h q (List.mem_cons_of_mem _ hq);have h3:=qju A (ks.map W++B) (U k) s ps (W k) (λp hp=>List.mem_append_right _ (h1 p hp)) h2;simp only[List.append_assoc,List.map_cons,List.cons_append,List.nil_append,List.length_cons]at ih h3⊢;rw[h3,ih,Int.pow_succ];generalize dt _=d;generalize s^ks.length=q
  grind
theorem quH(A B:List (Nat->Int)){w:Nat->Int}(h:∀r,w r=0):dt (A++w::B)=0:=by
 rw[Nq (u:=w) (v:=w) 0 0 λr=>by rw[h r];rfl];simp
def LG(v:Nat->Int):Nat->Int:=λr=>v (r+1)
theorem qj5:∀(B:List (Nat->Int))(c r:Nat),(B.map LG).getD c (λ_=>0) r=B.getD c (λ_=>0) (r+1)
 |[],_,_=>by simp
 |b::B,0,r=>rfl
 |b::B,c+1,r=>qj5 B c r
theorem qjj{D:(Nat->Nat->Int)->Int}{a:Nat->Nat->Int}:∀n,(∀d,1<=d->d<n+1->a 0 d=0)->gF D a (n+1)=a 0 0*D (dW a 0)
 |0,_=>by simp[gF,mV]
 |n+1,h=>by
  show gF D a (n+1)+mV (n+1)*(a 0 (n+1)*D (dW a (n+1)))=_;rw[qjj n λd h1 h2=>h d h1 (by omega),h (n+1) (by omega) (by omega)];simp
theorem qvz{B:List (Nat->Int)}(h:∀v∈B,v 0=0):∀c,B.getD c (λ_=>0) 0=0:=by
 induction B with
 |nil=>intro c;simp
 |cons b B ih=>intro c;cases c with
  |zero=>exact h b List.mem_cons_self
  |succ c=>exact ih (λv hv=>h v (List.mem_cons_of_mem _ hv)) c
theorem VX(u:Nat->Int){B:List (Nat->Int)}(h:∀v∈B,v 0=0):dt (u::B)=u 0*dt (B.map LG):=by
 unfold dt;rw[List.length_map];show gF (dR B.length) (xI (u::B)) (B.length+1)=_
 rw[qjj B.length λd h1 h2=>by
  obtain⟨c,rfl⟩:∃c,d=c+1:=⟨d-1,by omega⟩
  exact qvz h c]
 have e:dW (xI (u::B)) 0=xI (B.map LG):=funext λr=>funext λj=>(qj5 B j r).symm;rw[e];rfl
theorem qjw{B:List (Nat->Int)}(hB:B≠[])(h:∀v∈B,v 0=0):dt B=0:=by
 cases B with
 |nil=>exact absurd rfl hB
 |cons u B=>rw[VX u λv hv=>h v (List.mem_cons_of_mem _ hv),h u List.mem_cons_self,Int.zero_mul]
theorem qjv(u:Nat->Int):dt [u]=u 0:=by
 rw[VX u λv hv=>absurd hv (by simp)];show u 0*dR 0 _=_;simp[dR]
structure Pv where
 c:Nat->Int
 v:Int
def Pv.sh(ξ:Int)(i:Nat)(p:Pv):Pv:=⟨λk=>if k<i then 0 else p.c (k-i),ξ^i*p.v⟩
def Pv.vec(T j:Nat)(p:Pv):Nat->Int:=λr=>if r<T-j then p.c (T-r)else p.v
def dn:Nat->List Nat
 |0=>[]
 |n+1=>n::dn n
theorem IW{k:Nat}:∀{n:Nat},k∈dn n↔k<n
 |0=>by simp[dn]
 |n+1=>by simp only[dn,List.mem_cons,IW];omega
theorem SL:∀n,(dn n).length=n
 |0=>rfl
 |n+1=>by simp only[dn,List.length_cons,SL]
def sm(f:Nat->Int):Nat->Int
 |0=>0
 |n+1=>f n+sm f n
theorem OU{f g:Nat->Int}:∀n,(∀i,i<n->f i=g i)->sm f n=sm g n
 |0,_=>rfl
 |n+1,h=>by simp only[sm];rw[h n (by omega),OU n λi hi=>h i (by omega)]
theorem Yv(c:Int)(f:Nat->Int):∀n,sm (λi=>c*f i) n=c*sm f n
 |0=>by simp[sm]
 |n+1=>by simp only[sm];rw[Yv c f n,Int.mul_add]
theorem qqr{f:Nat->Int}:∀n,(∀i,i<n->f i=0)->sm f n=0
 |0,_=>rfl
 |n+1,h=>by simp only[sm];rw[h n (by omega),qqr n λi hi=>h i (by omega)];rfl
theorem qod(g:Nat->Int × (Nat->Int))(r:Nat):∀n,BI ((dn n).map g) r=sm (λi=>(g i).1*(g i).2 r) n
 |0=>rfl
 |n+1=>by simp only[dn,List.map_cons,BI,sm];rw[qod g r n]
def bl(ξ:Int)(P:Pv)(n:Nat):List Pv:=(dn n).map λi=>P.sh ξ i
theorem IV(ξ:Int)(P:Pv)(n:Nat):(bl ξ P n).length=n:=by unfold bl;rw[List.length_map,SL]
theorem SY{ξ:Int}{P w:Pv}{n:Nat}(h:w∈bl ξ P n):∃i,i<n/\w=P.sh ξ i:=by
 obtain⟨i,hi,e⟩:=List.mem_map.1 h;exact⟨i,IW.1 hi,e.symm⟩
def DD(T j:Nat)(L:List Pv):Int:=dt (L.map (Pv.vec T j))
def dS(ξ:Int)(j m n:Nat)(F G:Pv):Int:=DD (m+n-j-1) j (bl ξ F (n-j)++bl ξ G (m-j))
theorem qBZ{T j:Nat}(h:j<=T)(p:Pv):LG (p.vec (T+1) j)=p.vec T j:=funext λr=>by
 unfold LG Pv.vec
 by_cases hr:r<T-j
 ·rw[ai (by omega),ai hr,show T+1-(r+1)=T-r by omega]
 ·rw[ah (by omega),ah hr]
theorem TN{T j:Nat}(h:j<T)(p:Pv):p.vec T j 0=p.c T:=by
 unfold Pv.vec;rw[ai (by omega)];rfl
theorem OH{ξ:Int}{j d p T:Nat}{P:Pv}{R:List Pv}(hT:T+1=d+p)(hj:j<=T)(hP:∀k,d<k->P.c k=0)(hR:∀w∈R,∀k,T<k->w.c k=0):∀q,DD (T+q) j (bl ξ P (q+p)++R)=P.c d^q*DD T j (bl ξ P p++R)
 |0=>by rw[Nat.zero_add];simp
 |q+1=>by
  rw[show q+1+p=(q+p)+1 by omega,show T+(q+1)=(T+q)+1 by omega];show dt ((P.sh ξ (q+p)).vec (T+q+1) j::(bl ξ P (q+p)++R).map (Pv.vec (T+q+1) j))=_;rw[VX _ λv hv=>?_,List.map_map,show(LG∘Pv.vec (T+q+1) j)=Pv.vec (T+q) j from funext λp=>qBZ (by omega) p]
  ·show _*DD (T+q) j (bl ξ P (q+p)++R)=_;rw[OH hT hj hP hR q,TN (by omega)]
   have e:(P.sh ξ (q+p)).c (T+q+1)=P.c d:=by
    show(if T+q+1<q+p then 0 else P.c (T+q+1-(q+p)))=_
    by_cases h:T+q+1<q+p
    ·omega
    ·rw[ah h];congr 1;omega
   rw[e,Int.pow_succ];generalize DD T j _=u;generalize P.c d^q=v
   grind
  ·obtain⟨w,hw,rfl⟩:=List.mem_map.1 hv;rw[TN (by omega)];rcases List.mem_append.1 hw with h|h
   ·obtain⟨i,hi,rfl⟩:=SY h;show(if T+q+1<i then 0 else P.c (T+q+1-i))=0
    split
    ·rfl
    ·exact hP _ (by omega)
   ·exact hR w h _ (by omega)
theorem qfO(T j:Nat)(X Y:List Pv):DD T j (X++Y)=kW (X.length*Y.length)*DD T j (Y++X):=by
 have h:=qbA (Y.map (Pv.vec T j)) [] (X.map (Pv.vec T j)) [];simp only[List.nil_append,List.append_nil,List.length_map]at h;unfold DD;rw[List.map_append,List.map_append];exact h
theorem qt1(ξ:Int)(j m n:Nat)(F G:Pv):dS ξ j n m G F=kW ((m-j)*(n-j))*dS ξ j m n F G:=by
 unfold dS;rw[qfO,IV,IV,Nat.add_comm n m]
theorem Y0(ξ:Int)(T j n:Nat)(s:Int)(A B:List Pv)(W U:Pv)(h:∀k,k<n->∃ps:List (Int × (Nat->Int)),(∀p∈ps,p.2∈B.map (Pv.vec T j))/\∀r,(W.sh ξ k).vec T j r=s*(U.sh ξ k).vec T j r+BI ps r):DD T j (A++(bl ξ W n++B))=s^n*DD T j (A++(bl ξ U n++B)):=by
 have h1:=qbz (B.map (Pv.vec T j)) s (λk=>(W.sh ξ k).vec T j) (λk=>(U.sh ξ k).vec T j) (dn n) (A.map (Pv.vec T j)) λk hk=>h k (IW.1 hk);rw[SL]at h1;unfold DD bl;simp only[List.map_append,List.map_map];exact h1
def Pv.Mul(s:Int)(U W:Pv):Prop:=(∀k,W.c k=s*U.c k)/\W.v=s*U.v
theorem Pv.Mul.vec{s:Int}{U W:Pv}(h:Pv.Mul s U W)(ξ:Int)(T j k r:Nat):(W.sh ξ k).vec T j r=s*(U.sh ξ k).vec T j r+BI [] r:=by
 show(if r<T-j then(if T-r<k then 0 else W.c (T-r-k))else ξ^k*W.v)=s*(if r<T-j then(if T-r<k then 0 else U.c (T-r-k))else ξ^k*U.v)+0;rw[h.1,h.2]
 split
 ·split
  ·simp
  ·simp
 ·generalize ξ^k=q
  grind
theorem qja{ξ:Int}{c d:Int}{F F' G G':Pv}(h:Pv.Mul c F F')(k:Pv.Mul d G G')(j m n:Nat):dS ξ j m n F' G'=c^(n-j)*(d^(m-j)*dS ξ j m n F G):=by
 unfold dS;have h1:=Y0 ξ (m+n-j-1) j (n-j) c [] (bl ξ G' (m-j)) F' F λi _=>⟨[],λp hp=>absurd hp (by simp),h.vec ξ _ _ i⟩;have h2:=Y0 ξ (m+n-j-1) j (m-j) d (bl ξ F (n-j)) [] G' G λi _=>⟨[],λp hp=>absurd hp (by simp),k.vec ξ _ _ i⟩;simp only[List.nil_append,List.append_nil]at h1 h2;rw[h1,h2]
structure Eu(ξ s:Int)(q:Nat->Int)(V:Nat)(F G R:Pv):Prop where
 c:∀k,R.c k=s*F.c k+sm (λi=>q i*(G.sh ξ i).c k) V
 v:R.v=s*F.v+sm (λi=>q i*(G.sh ξ i).v) V
theorem Eu.vec{ξ s:Int}{q:Nat->Int}{V:Nat}{F G R:Pv}(h:Eu ξ s q V F G R)(T j k r:Nat):(R.sh ξ k).vec T j r=s*(F.sh ξ k).vec T j r+BI ((dn V).map λi=>(q i,(G.sh ξ (i+k)).vec T j)) r:=by
 rw[qod];show(if r<T-j then(if T-r<k then 0 else R.c (T-r-k))else ξ^k*R.v)=s*(if r<T-j then(if T-r<k then 0 else F.c (T-r-k))else ξ^k*F.v)+sm (λi=>q i*(if r<T-j then(if T-r<i+k then 0 else G.c (T-r-(i+k)))else ξ^(i+k)*G.v)) V
 by_cases hr:r<T-j
 ·simp only[ai hr]
  by_cases hk:T-r<k
  ·simp only[ai hk];rw[qqr V λi _=>by rw[ai (by omega),Int.mul_zero]];simp
  ·simp only[ah hk];rw[h.c]
   congr 1
   refine OU V λi _=>?_
   congr 1
   show(if T-r-k<i then 0 else G.c (T-r-k-i))=_
   by_cases hi:T-r-k<i
   ·rw[ai hi,ai (by omega)]
   ·rw[ah hi,ah (by omega),show T-r-(i+k)=T-r-k-i by omega]
 ·simp only[ah hr];rw[h.v,Int.mul_add, <-Yv]
  congr 1
  ·generalize ξ^k=u
   grind
  ·refine OU V λi _=>?_;show ξ^k*(q i*(ξ^i*G.v))=_;rw[Int.pow_add];generalize ξ^k=u;generalize ξ^i=w
   grind
theorem qt0{ξ s:Int}{q:Nat->Int}{j m n δ:Nat}{F G R:Pv}(hm:m=n+δ)(hj:j<n)(hG:∀k,n<k->G.c k=0)(hR:∀k,n<=k->R.c k=0)(h:Eu ξ s q (δ+1) F G R):s^(n-j)*dS ξ j m n F G=kW ((n-j)*(m-j))*(G.c n^(δ+1)*dS ξ j n (n-1) G R):=by
 have h1:=Y0 ξ (m+n-j-1) j (n-j) s [] (bl ξ G (m-j)) R F λk hk=>⟨_,λp hp=>by
  obtain⟨i,hi,rfl⟩:=List.mem_map.1 hp;refine List.mem_map.2 ⟨G.sh ξ (i+k),List.mem_map.2 ⟨i+k,IW.2 ?_,rfl⟩,rfl⟩;have:=IW.1 hi
  omega,h.vec (m+n-j-1) j k⟩
 have h2:=qfO (m+n-j-1) j (bl ξ R (n-j)) (bl ξ G (m-j))
 have h3:=OH (ξ:=ξ) (j:=j) (d:=n) (p:=n-1-j) (T:=n+(n-1)-j-1) (P:=G) (R:=bl ξ R (n-j)) (by omega) (by omega) hG (λw hw k hk=>by
  obtain⟨i,hi,rfl⟩:=SY hw;show(if k<i then 0 else R.c (k-i))=0
  split
  ·rfl
  ·exact hR _ (by omega)) (δ+1)
 simp only[List.nil_append,IV]at h1 h2;rw[show n+(n-1)-j-1+(δ+1)=m+n-j-1 by omega,show δ+1+(n-1-j)=m-j by omega]at h3;rw[h2,h3]at h1;exact h1.symm
theorem qi9{ξ:Int}{q:Nat->Int}{j m n δ:Nat}{F G R:Pv}(hm:m=n+δ)(hj:j<n)(hG:∀k,n<k->G.c k=0)(hR:∀k,n<=k->R.c k=0)(h:Eu ξ ((-G.c n)^(δ+1)) q (δ+1) F G R):(G.c n^(δ+1))^(n-j)*dS ξ j m n F G=G.c n^(δ+1)*dS ξ j n (n-1) G R:=by
 have h1:=qt0 hm hj hG hR h
 have e1:(-G.c n)^(δ+1)=kW (δ+1)*G.c n^(δ+1):=by
  rw[show-G.c n=(-1)*G.c n by omega,Int.mul_pow,qeP]
 have e2:(kW (δ+1)*G.c n^(δ+1))^(n-j)=kW ((δ+1)*(n-j))*(G.c n^(δ+1))^(n-j):=by
  rw[Int.mul_pow, <-qeP (δ+1), <-Int.pow_mul,qeP]
 have e3:kW ((δ+1)*(n-j))*kW ((n-j)*(m-j))=1:=by
  rw[<-qqc];refine qqd ?_;obtain⟨a,ha⟩:∃a,n=j+a:=⟨n-j,by omega⟩;subst ha;subst hm;rw[show j+a-j=a by omega,show j+a+δ-j=a+δ by omega,Nat.mul_comm (δ+1) a, <-Nat.mul_add];rw[show δ+1+(a+δ)=a+1+2*δ by omega,Nat.mul_add]
  have h5:a*(a+1)%2=0:=by
   rcases Nat.mod_two_eq_zero_or_one a with h|h
   ·rw[Nat.mul_mod,h];simp
   ·rw[Nat.mul_mod,Nat.add_mod,h]
  have h6:a*(2*δ)%2=0:=by rw[Nat.mul_left_comm];omega
  omega
 rw[e1,e2]at h1;generalize dS ξ j m n F G=A at*;generalize dS ξ j n (n-1) G R=B at*;generalize (G.c n^(δ+1))^(n-j)=u at*;generalize G.c n^(δ+1)=w at*;generalize hx:kW ((δ+1)*(n-j))=x at*;generalize hy:kW ((n-j)*(m-j))=y at*
 have IK:x*x=1:=by rw[<-hx];exact qBg _
 have h7:x*(x*u*A)=x*(y*(w*B)):=by rw[h1]
 have h8:x*(x*u*A)=u*A:=by
  have:x*(x*u*A)=(x*x)*(u*A):=by grind
  rw[this,IK,Int.one_mul]
 have h9:x*(y*(w*B))=w*B:=by
  have:x*(y*(w*B))=(x*y)*(w*B):=by grind
  rw[this,e3,Int.one_mul]
 rw[<-h8, <-h9];exact h7
theorem qbj{ξ:Int}{j d e:Nat}{A B:Pv}(hje:j<=e)(he:e<d)(hA:∀k,d<k->A.c k=0)(hB:∀k,e<k->B.c k=0):dS ξ j d (d-1) A B=A.c d^(d-1-e)*dS ξ j d e A B:=by
 have h3:=OH (ξ:=ξ) (j:=j) (d:=d) (p:=e-j) (T:=d+e-j-1) (P:=A) (R:=bl ξ B (d-j)) (by omega) (by omega) hA (λw hw k hk=>by
  obtain⟨i,hi,rfl⟩:=SY hw;show(if k<i then 0 else B.c (k-i))=0
  split
  ·rfl
  ·exact hB _ (by omega)) (d-1-e)
 rw[show d+e-j-1+(d-1-e)=d+(d-1)-j-1 by omega,show d-1-e+(e-j)=d-1-j by omega]at h3;exact h3
theorem qbk{ξ:Int}{d e:Nat}{A B:Pv}(he:e<d)(hB:∀k,e<k->B.c k=0):dS ξ e d e A B=B.c e^(d-e-1)*B.v:=by
 have h3:=OH (ξ:=ξ) (j:=e) (d:=e) (p:=1) (T:=e) (P:=B) (R:=[]) (by omega) (by omega) hB (λw hw=>absurd hw (by simp)) (d-e-1);rw[show e+(d-e-1)=d+e-e-1 by omega,show d-e-1+1=d-e by omega,List.append_nil,List.append_nil]at h3;unfold dS;rw[show e-e=0 by omega];show DD (d+e-e-1) e ([]++bl ξ B (d-e))=_;rw[List.nil_append,h3]
 congr 1
 show dt [(B.sh ξ 0).vec e e]=_;rw[qjv];show(if 0<e-e then _ else ξ^0*B.v)=_;rw[ah (by omega)];simp
theorem qt2{ξ:Int}{j d:Nat}{A B:Pv}(hj:j+1<d)(hA:∀k,d<k->A.c k=0)(hB:∀k,j<=k->B.c k=0):dS ξ j d (d-1) A B=0:=by
 have h3:=OH (ξ:=ξ) (j:=j) (d:=d) (p:=0) (T:=d-1) (P:=A) (R:=bl ξ B (d-j)) (by omega) (by omega) hA (λw hw k hk=>by
  obtain⟨i,hi,rfl⟩:=SY hw;show(if k<i then 0 else B.c (k-i))=0
  split
  ·rfl
  ·exact hB _ (by omega)) (d-1-j)
 rw[show d-1+(d-1-j)=d+(d-1)-j-1 by omega,Nat.add_zero]at h3
 have h4:DD (d-1) j (bl ξ A 0++bl ξ B (d-j))=0:=by
  refine qjw ?_ λv hv=>?_
  ·rw[show d-j=(d-j-1)+1 by omega];simp[bl,dn]
  ·obtain⟨w,hw,rfl⟩:=List.mem_map.1 hv;rw[TN (by omega)];rcases List.mem_append.1 hw with h|h
   ·exact absurd h (by simp[bl,dn])
   ·obtain⟨i,hi,rfl⟩:=SY h;show(if d-1<i then 0 else B.c (d-1-i))=0
    split
    ·rfl
    ·exact hB _ (by omega)
 rw[h4,Int.mul_zero]at h3;exact h3
theorem qt3{ξ:Int}{j m n:Nat}{A B:Pv}(hj:j<m)(hB:∀k,B.c k=0)(hv:B.v=0):dS ξ j m n A B=0:=by
 unfold dS DD bl;rw[show m-j=(m-j-1)+1 by omega,List.map_append];refine quH _ _ (w:=(B.sh ξ (m-j-1)).vec (m+n-j-1) j) λr=>?_;show(if _ then(if _ then 0 else B.c _)else ξ^_*B.v)=0;rw[hB,hv]
 split
 ·split<;>rfl
 ·simp
end Go.Proofs.YtmcfpnmoklnhoaaGreat
namespace Go.Proofs.YtmcfpnmoklnhoaaGreat
open Go.RowKit
def qpG(T j J i:Nat)(F:List Tm):Nat->List Tm:=λr=>if r<T-j then(if T-r<i then[]else ck J ((T-r-i:Nat):Int) F)else shift (xp J (i:Int)) F
def mU(T j J:Nat)(F:List Tm)(n:Nat):List (Nat->List Tm):=(dn n).map λi=>qpG T j J i F
def SJ(J j m n:Nat)(F G:List Tm):List Tm:=nJ (n-j+(m-j)) λr c=>(mU (m+n-j-1) j J F (n-j)++mU (m+n-j-1) j J G (m-j)).getD c (λ_=>[]) r
def pv(J:Nat)(x:Nat->Int)(F:List Tm):Pv:=⟨λk=>ev x (ck J (k:Int) F),ev x F⟩
theorem qj3{P:List Tm->Prop}(h0:P []):∀(L:List (Nat->List Tm)),(∀p∈L,∀r,P (p r))->∀c r,P (L.getD c (λ_=>[]) r)
 |[],_,c,r=>by simpa using h0
 |p::L,h,0,r=>h p List.mem_cons_self r
 |p::L,h,c+1,r=>qj3 h0 L (λq hq=>h q (List.mem_cons_of_mem _ hq)) c r
theorem qz6{P:List Tm->Prop}(h0:P []){T j J n:Nat}{F:List Tm}(h1:∀k:Nat,P (ck J (k:Int) F))(h2:∀i,i<n->P (shift (xp J (i:Int)) F)):∀p∈mU T j J F n,∀r,P (p r):=λp hp r=>by
 obtain⟨i,hi,rfl⟩:=List.mem_map.1 hp;show P (if r<T-j then(if T-r<i then[]else ck J ((T-r-i:Nat):Int) F)else shift (xp J (i:Int)) F)
 split
 ·split
  ·exact h0
  ·exact h1 _
 ·exact h2 i (IW.1 hi)
theorem qbO(x:Nat->Int):∀(L:List (Nat->List Tm))(c r:Nat),ev x (L.getD c (λ_=>[]) r)=(L.map λp r=>ev x (p r)).getD c (λ_=>0) r
 |[],c,r=>by simp[ev]
 |p::L,0,r=>rfl
 |p::L,c+1,r=>qbO x L c r
section
variable{J:Nat}(h1:1<=J)(h4:J<=4)
include h1 h4
theorem qpf{T j n:Nat}{F:List Tm}(hF:NN F):∀p∈mU T j J F n,∀r,NN (p r):=qz6 NN.nil (λ_=>fK h1 h4 hF) λ_ _=>hF.shift
theorem Tx{j m n:Nat}{F G:List Tm}(hF:NN F)(hG:NN G)(T c r:Nat):NN ((mU T j J F (n-j)++mU T j J G (m-j)).getD c (λ_=>[]) r):=
 qj3 NN.nil _ (λp hp=>(List.mem_append.1 hp).elim (qpf h1 h4 hF p) (qpf h1 h4 hG p)) c r
theorem iD{F G:List Tm}(hF:NN F)(hG:NN G)(j m n:Nat):NN (SJ J j m n F G):=OA _ _ λi k=>Tx h1 h4 hF hG _ k i
theorem Yk(x:Nat->Int){F:List Tm}(hF:NN F)(T j i:Nat):(λr=>ev x (qpG T j J i F r))=((pv J x F).sh (x (J-1)) i).vec T j:=funext λr=>by
 show ev x (if r<T-j then(if T-r<i then[]else ck J ((T-r-i:Nat):Int) F)else shift (xp J (i:Int)) F)=if r<T-j then(if T-r<i then 0 else ev x (ck J ((T-r-i:Nat):Int) F))else x (J-1)^i*ev x F
 split
 ·split
  ·rfl
  ·rfl
 ·rw[V3 x _ (YL J i) hF,qbB x J i h1 h4]
theorem Dt(x:Nat->Int){F G:List Tm}(hF:NN F)(hG:NN G)(j m n:Nat):ev x (SJ J j m n F G)=dS (x (J-1)) j m n (pv J x F) (pv J x G):=by
 unfold SJ;rw[Kh x _ _ λi k=>Tx h1 h4 hF hG _ k i];unfold dS DD dt
 have e:((bl (x (J-1)) (pv J x F) (n-j)++bl (x (J-1)) (pv J x G) (m-j)).map (Pv.vec (m+n-j-1) j))=(mU (m+n-j-1) j J F (n-j)++mU (m+n-j-1) j J G (m-j)).map λp r=>ev x (p r):=by
  unfold bl mU;simp only[List.map_append,List.map_map]
  congr 1
  ·refine List.map_congr_left λi _=>?_;exact(Yk h1 h4 x hF _ _ i).symm
  ·refine List.map_congr_left λi _=>?_;exact(Yk h1 h4 x hG _ _ i).symm
 rw[e,List.length_map,List.length_append];unfold mU;rw[List.length_map,List.length_map,SL,SL]
 congr 1
 funext r c
 exact qbO x _ c r
theorem qiS{q c:List Tm}(hc:iK J c)(nc:NN c)(e:Int):af (ck J e (aF q c)) (aF (ck J e q) c):=by
 have hs:=ow nc;refine(jk (hs.symm.sI q)).trans ?_;rw[qa8 h1 h4 (λt ht=>hc _ (by rw[<-hs t.2];exact Ke (sF c) ht)) q];exact hs.sI _
theorem AP{q c:List Tm}(hc:iK J c)(nc:NN c)(e:Int):af (ck J e (aF c q)) (aF c (ck J e q)):=
 (jk (af.uI _ _)).trans ((qiS h1 h4 hc nc e).trans (af.uI _ _))
theorem qiU{l:List Tm}(nl:NN l)(i k:Nat):af (ck J (k:Int) (shift (xp J (i:Int)) l)) (if k<i then[]else ck J ((k-i:Nat):Int) l):=λm=>by
 rw[oh h1 h4,rP]
 by_cases h:m.get J=0
 ·rw[ai h]
  by_cases hk:k<i
  ·rw[ai hk];show _=0;refine nl _ ?_
   cases hn:(Mo.sub (Mo.add m (xp J (k:Int))) (xp J (i:Int))).nn with
   |false=>rfl
   |true=>
    have:=wZ hn J;rw[sZ,iH,eQ J J _ h1 h4,eQ J J _ h1 h4,ai rfl,ai rfl,h]at this;omega
  ·rw[ah hk,oh h1 h4,ai h]
   congr 1
   refine Mo.ext_get λa _ _=>?_;rw[sZ,iH,iH,eQ _ _ _ h1 h4,eQ _ _ _ h1 h4,eQ _ _ _ h1 h4]
   split<;>omega
 ·rw[ah h]
  by_cases hk:k<i
  ·rw[ai hk];rfl
  ·rw[ah hk,oh h1 h4,ah h]
theorem qbG(x:Nat->Int){Q:Nat->List Tm}{G:List Tm}(hG:NN G):∀V,(∀i,i<V->NN (Q i))->ev x (aF (aQ J V Q) G)=sm (λi=>ev x (Q i)*((pv J x G).sh (x (J-1)) i).v) V
 |0,_=>rfl
 |V+1,hQ=>by
  rw[gT,Eg,om,qbG x hG V λi hi=>hQ i (by omega),di x (hQ V (by omega)).shift hG,V3 x _ (YL J V) (hQ V (by omega)),qbB x J V h1 h4];show _=ev x (Q V)*(x (J-1)^V*ev x G)+_;generalize sm _ V=s;generalize x (J-1)^V=t
  grind
theorem qjR(x:Nat->Int){Q:Nat->List Tm}{G:List Tm}(hG:NN G)(k:Nat):∀V,(∀i,i<V->NN (Q i)/\iK J (Q i))->ev x (ck J (k:Int) (aF (aQ J V Q) G))=sm (λi=>ev x (Q i)*((pv J x G).sh (x (J-1)) i).c k) V
 |0,_=>rfl
 |V+1,hQ=>by
  rw[gT,Eg,Vy,om,qjR x hG k V λi hi=>hQ i (by omega),fe x (jk (I6 _ _ _)),fe x (qiU h1 h4 (bT (hQ V (by omega)).1 hG) V k)];show _=ev x (Q V)*(if k<V then 0 else ev x (ck J ((k-V:Nat):Int) G))+_
  by_cases h:k<V
  ·simp only[ai h];show _+0=_;generalize sm _ V=s;omega
  ·simp only[ah h];rw[fe x (AP h1 h4 (hQ V (by omega)).2 (hQ V (by omega)).1 _),di x (hQ V (by omega)).1 (fK h1 h4 hG),Int.add_comm]
theorem qu4{c F G R:List Tm}{Q:Nat->List Tm}{V:Nat}(nc:NN c)(fc:iK J c)(nF:NN F)(nG:NN G)(hQ:∀i,i<V->NN (Q i)/\iK J (Q i))(h:af (aF c F) (aF (aQ J V Q) (dN G)++R))(x:Nat->Int):Eu (x (J-1)) (ev x c) (λi=>ev x (Q i)) V (pv J x F) (pv J x G) (pv J x R):=by
 have Lc:=qP nG;refine⟨λk=>?_,?_⟩
 ·have e:=fe x (jk (k:=J) (e:=(k:Int)) h);rw[fe x (AP h1 h4 fc nc _),di x nc (fK h1 h4 nF),Vy,om,qjR h1 h4 x Lc k V hQ]at e
  have e2:sm (λi=>ev x (Q i)*((pv J x (dN G)).sh (x (J-1)) i).c k) V= -sm (λi=>ev x (Q i)*((pv J x G).sh (x (J-1)) i).c k) V:=by
   rw[show∀z:Int, -z=(-1)*z fromλz=>by omega, <-Yv];refine OU V λi _=>?_;show ev x (Q i)*(if k<i then 0 else ev x (ck J ((k-i:Nat):Int) (dN G)))= -1*(ev x (Q i)*(if k<i then 0 else ev x (ck J ((k-i:Nat):Int) G)))
   split
   ·simp
   ·rw[fe x (qiT h1 h4 _ G),E5 x (fK h1 h4 nG)];generalize ev x (Q i)=a;generalize ev x _=b
    grind
  rw[e2]at e;show ev x (ck J (k:Int) R)=ev x c*ev x (ck J (k:Int) F)+_;omega
 ·have e:=fe x h;rw[di x nc nF,om,qbG h1 h4 x Lc V λi hi=>(hQ i hi).1]at e
  have e2:sm (λi=>ev x (Q i)*((pv J x (dN G)).sh (x (J-1)) i).v) V= -sm (λi=>ev x (Q i)*((pv J x G).sh (x (J-1)) i).v) V:=by
   rw[show∀z:Int, -z=(-1)*z fromλz=>by omega, <-Yv];refine OU V λi _=>?_;show ev x (Q i)*(x (J-1)^i*ev x (dN G))= -1*(ev x (Q i)*(x (J-1)^i*ev x G));rw[E5 x nG];generalize ev x (Q i)=a;generalize x (J-1)^i=t
   grind
  rw[e2]at e;show ev x R=ev x c*ev x F+_;omega
end
theorem Ns{p u v:List Tm}(np:NN p)(nu:NN u)(nv:NN v)(hz:¬af p [])(h:∀x,ev x p*ev x u=ev x p*ev x v):af u v:=
 Lj nu nv np hz (tY (bT nu np) (bT nv np) λx=>by
  rw[di x nu np,di x nv np,Int.mul_comm,h x,Int.mul_comm])
theorem bR{l:List Tm}(h:NN l):∀k,NN (bO l k)
 |0=>oM 1
 |k+1=>bT (bR h k) h
theorem jC(x:Nat->Int){l:List Tm}(h:NN l):∀k,ev x (bO l k)=ev x l^k
 |0=>by rw[qjS,Int.pow_zero]
 |k+1=>by rw[Lm,di x (bR h k) h,jC x h k,Int.pow_succ]
theorem I1:¬af [((1:Int),Mo.zero)] []:=λh=>by have:=h Mo.zero;simp[aL]at this
theorem nU{l:List Tm}(h:NN l)(hz:¬af l []):∀k,¬af (bO l k) []
 |0=>I1
 |k+1=>nV (bR h k) h (nU h hz k) hz
theorem G6(J:Nat):iK J [((1:Int),Mo.zero)]:=λm hm=>by
 have h:m=Mo.zero:=eF λhc=>hm (by simp only[aL];rw[ah λe=>hc e.symm];rfl);rw[h,uw]
theorem wK{J:Nat}{l:List Tm}(h:NN l)(hf:iK J l):∀k,iK J (bO l k)
 |0=>G6 J
 |k+1=>(wK h hf k).aF hf (bR h k)
theorem qez{J:Nat}{l r:List Tm}(h:af l r)(x:Nat->Int):pv J x l=pv J x r:=by
 unfold pv;rw[fe x h]
 congr 1
 funext k
 exact fe x (jk h)
theorem Yj{J d:Nat}{l:List Tm}(h:∀k:Nat,d<=k->af (ck J (k:Int) l) [])(x:Nat->Int)(k:Nat)(hk:d<=k):(pv J x l).c k=0:=fe x (h k hk)
theorem AQ{J n:Nat}(h1:1<=J)(h4:J<=4){l:List Tm}(h:bE J l n)(x:Nat->Int)(k:Nat)(hk:n<k):(pv J x l).c k=0:=fe x (h.Qs h1 h4 hk)
theorem uG{J n:Nat}(h1:1<=J)(h4:J<=4){l:List Tm}(nl:NN l)(h:bE J l n)(hz:¬af l []):¬af (ck J (n:Int) l) []:=by
 cases n with
 |succ n=>exact h.VC h1 h4 (by omega)
 |zero=>exactλh0=>hz (qzv h1 h4 nl λi=>by
  cases i with
  |zero=>exact h0
  |succ i=>exact h.Qs h1 h4 (by omega))
theorem Yl{J n δ:Nat}{f g:List Tm}(h1:1<=J)(h4:J<=4)(nf:NN f)(ng:NN g)(zf:¬af f [])(df:bE J f (n+δ))(dg:bE J g n):NN (lQ J n (δ+1) f (dN g))/\(∀k:Nat,n<=k->af (ck J (k:Int) (lQ J n (δ+1) f (dN g))) [])/\∀x,∃q,Eu (x (J-1)) ((-(pv J x g).c n)^(δ+1)) q (δ+1) (pv J x f) (pv J x g) (pv J x (lQ J n (δ+1) f (dN g))):=by
 obtain⟨B,hB⟩:=Dn f;obtain⟨C,hC⟩:=Dn g;have VO:bE J (dN g) n:=⟨λm hm=>dg.1 m λe=>hm (by rw[qO,e];rfl),dg.2.imp id λ⟨m,hm,e⟩=>⟨m,λe0=>hm (by rw[qO]at e0;omega),e⟩⟩;have H:mF J n (δ+1) B C _ _ f (dN g):=⟨h1,h4,nf,qP ng,hB,Tf hC,aI _,aI _,VO,.inr ⟨zf,n+δ,df,by omega⟩⟩;refine⟨H.qeB,λk hk=>?_,λx=>?_⟩
 ·have e:lQ J n (δ+1) f (dN g)=aQ J n λi=>if i<n then iE n (δ+1) (gL J (dN g)) (gL J f) (δ+1) i else[]:=Yc _ _ _ _ λi hi=>(ai hi).symm
  have e2:=Vx h1 h4 (P:=λi=>if i<n then iE n (δ+1) (gL J (dN g)) (gL J f) (δ+1) i else[]) (λi=>by
   by_cases h:i<n
   ·rw[ai h];exact(H.rest i h).2.1
   ·rw[ah h];exact iK.nil _) k n
  rw[ah (by omega)]at e2;rw[e];exact e2
 ·have nc:=fK h1 h4 (e:=(n:Int)) (qP ng);have h:=qu4 h1 h4 (bR nc _) (wK nc (vD h1 h4 _ _) _) nf ng (λi hi=>⟨(H.quo i hi).1,(H.quo i hi).2.1⟩) H.law x;rw[jC x nc,fe x (qiT h1 h4 _ g),E5 x (fK h1 h4 ng)]at h;exact⟨_,h⟩
theorem quC{s la lb t Sj D1 D2 D3:Int}{g1 X:Nat}(r1:(s*la)^(g1+1+X)*Sj=la^g1*D1)(r2:(lb^(g1+2))^(X+1)*D1=lb^(g1+2)*D2)(r3:(s^g1)^X*((s^(g1+1)*la)^(X+1)*D3)=(lb^g1)^X*D2)(r4:s^g1*t=lb^(g1+1)):
 (lb^(g1+2)*la^g1*((s^g1)^X*(s^(g1+1)*la)^(X+1)))*((t*t)^X*Sj)=(lb^(g1+2)*la^g1*((s^g1)^X*(s^(g1+1)*la)^(X+1)))*D3:=by
 have e1:(lb^g1)^X*(lb^(g1+2))^X=(s^g1)^X*(s^g1)^X*(t*t)^X:=by
  rw[<-Int.mul_pow, <-Int.mul_pow, <-Int.mul_pow]
  congr 1
  have:lb^g1*lb^(g1+2)=lb^(g1+1)*lb^(g1+1):=by rw[<-Int.pow_add, <-Int.pow_add];congr 1;omega
  rw[this, <-r4];generalize s^g1=u
  grind
 have e2:(s^(g1+1)*la)^(X+1)=(s^g1)^X*(s*la)^X*(s^g1*s*la):=by
  rw[Int.pow_succ (s^(g1+1)*la),Int.pow_succ s g1,Int.mul_assoc (s^g1) s la,Int.mul_pow]
 have e3:(s*la)^(g1+1+X)=s^g1*s*(la^g1*la)*(s*la)^X:=by
  rw[Int.pow_add,Int.mul_pow,Int.pow_succ,Int.pow_succ]
 have e4:(lb^(g1+2))^(X+1)=(lb^(g1+2))^X*lb^(g1+2):=Int.pow_succ _ _;rw[e2]at r3⊢;rw[e3]at r1;rw[e4]at r2;generalize (lb^(g1+2))^X=LX at*;generalize lb^(g1+2)=L at*;generalize (lb^g1)^X=M at*;generalize (s^g1)^X=sX at*;generalize (s*la)^X=pX at*;generalize (t*t)^X=tX at*;generalize la^g1=lm at*;generalize s^g1=sg at*
 have a1:L*lm*(sX*(sX*pX*(sg*s*la)))*D3=L*lm*(M*D2):=by rw[<-r3];simp only[Int.mul_assoc]
 have a2:L*lm*(M*D2)=lm*M*(LX*L*D1):=by rw[r2];ac_rfl
 have a3:lm*M*(LX*L*D1)=(M*LX)*L*(lm*D1):=by ac_rfl
 rw[a1,a2,a3,e1, <-r1]
 ac_rfl
structure uq(J m n:Nat)(f g:List Tm)(d:Nat)(a s:List Tm):Prop where
 pos:1<=d
 na:NN a
 za:¬af a []
 ns:NN s
 fs:iK J s
 zs:¬af s []
 da:bE J a d
 low:∀k:Nat,d<=k->af (ck J (k:Int) (SJ J (d-1) m n f g)) []
 id:∀j,j<d->∀x,(ev x s*ev x (ck J (d:Int) a))^(d-1-j)*ev x (SJ J j m n f g)=dS (x (J-1)) j d (d-1) (pv J x a) (pv J x (SJ J (d-1) m n f g))
theorem qo2{p u:List Tm}(np:NN p)(nu:NN u)(h:¬af p [])(k:af (aF p u) []):af u []:=eF λhc=>nV np nu h hc k
theorem qey{J:Nat}(h1:1<=J)(h4:J<=4){c l:List Tm}(nc:NN c)(fc:iK J c)(nl:NN l)(x:Nat->Int):Pv.Mul (ev x c) (pv J x l) (pv J x (aF c l)):=
 ⟨λk=>by
  show ev x (ck J (k:Int) (aF c l))=ev x c*ev x (ck J (k:Int) l)
  rw[fe x (AP h1 h4 fc nc _),di x nc (fK h1 h4 nl)],di x nc nl⟩
section
variable{J:Nat}(h1:1<=J)(h4:J<=4){f g:List Tm}(nf:NN f)(ng:NN g)
include h1 h4 nf ng
theorem qeU{n δ:Nat}(hn:1<=n)(zf:¬af f [])(zg:¬af g [])(df:bE J f (n+δ))(dg:bE J g n):af (SJ J (n-1) (n+δ) n f g) (lQ J n (δ+1) f (dN g))/\uq J (n+δ) n f g n g (bO (ck J (n:Int) g) δ):=by
 obtain⟨nR,lR,eR⟩:=Yl h1 h4 nf ng zf df dg;have nl:NN (ck J (n:Int) g):=fK h1 h4 ng;have zl:=uG h1 h4 ng dg zg;have fl:=vD h1 h4 (n:Int) g;generalize lQ J n (δ+1) f (dN g)=R at*
 have E:∀j,j<n->∀x,ev x (bO (ck J (n:Int) g) (δ+1))*ev x (aF (bO (bO (ck J (n:Int) g) (δ+1)) (n-1-j)) (SJ J j (n+δ) n f g))=ev x (bO (ck J (n:Int) g) (δ+1))*ev x (SJ J j n (n-1) g R):=λj hj x=>by
  obtain⟨q,hq⟩:=eR x;have:=qi9 (ξ:=x (J-1)) (j:=j) rfl hj (λk hk=>AQ h1 h4 dg x k hk) (λk hk=>Yj lR x k hk) hq;rw[<-Dt h1 h4 x nf ng, <-Dt h1 h4 x ng nR]at this;rw[di x (bR (bR nl _) _) (iD h1 h4 nf ng _ _ _),jC x (bR nl _),jC x nl];have e:(pv J x g).c n=ev x (ck J (n:Int) g):=rfl;rw[e,show n-j=(n-1-j)+1 by omega,Int.pow_succ]at this;rw[<-this]
  ac_rfl
 have E2:∀j,j<n->af (aF (bO (bO (ck J (n:Int) g) (δ+1)) (n-1-j)) (SJ J j (n+δ) n f g)) (SJ J j n (n-1) g R):=λj hj=>
  Ns (bR nl _) (bT (bR (bR nl _) _) (iD h1 h4 nf ng _ _ _)) (iD h1 h4 ng nR _ _ _) (nU nl zl _) (E j hj)
 have hs:af (SJ J (n-1) (n+δ) n f g) R:=tY (iD h1 h4 nf ng _ _ _) nR λx=>by
  have h:=fe x (E2 (n-1) (by omega));rw[di x (bR (bR nl _) _) (iD h1 h4 nf ng _ _ _),Nat.sub_self,qjS,Int.one_mul,Dt h1 h4 x ng nR,qbk (d:=n) (e:=n-1) (by omega) (λk hk=>Yj lR x k (by omega)),show n-(n-1)-1=0 by omega,Int.pow_zero,Int.one_mul]at h;exact h
 refine⟨hs,hn,ng,zg,bR nl _,wK nl fl _,nU nl zl _,dg,λk hk=>(jk hs).trans (lR k hk),λj hj x=>?_⟩;have h:=fe x (E2 j hj);rw[di x (bR (bR nl _) _) (iD h1 h4 nf ng _ _ _),jC x (bR nl _),jC x nl,Dt h1 h4 x ng nR,Int.pow_succ]at h;rw[qez hs x,jC x nl,h]
variable{m n d:Nat}{a s:List Tm}(S:uq J m n f g d a s)
include S
theorem uq.fin(hz:af (SJ J (d-1) m n f g) [])(j:Nat)(hj:j<d):af (SJ J j m n f g) []:=by
 have nS:=iD h1 h4 nf ng j m n;have nl:NN (ck J (d:Int) a):=fK h1 h4 S.na;refine Ns (p:=bO (aF s (ck J (d:Int) a)) (d-1-j)) (bR (bT S.ns nl) _) nS NN.nil (nU (bT S.ns nl) (nV S.ns nl S.zs (uG h1 h4 S.na S.da S.za)) _) λx=>?_;rw[jC x (bT S.ns nl),di x S.ns nl,S.id j hj x,qt3 hj (λk=>fe x (jk (r:=[]) hz)) (fe x hz)];simp[ev]
variable{e:Nat}(hb:bE J (SJ J (d-1) m n f g) e)(zb:¬af (SJ J (d-1) m n f g) [])
include zb hb
theorem uq.lt:e<d:=by
 refine eF λhc=>?_;exact uG h1 h4 (iD h1 h4 nf ng _ _ _) hb zb (S.low e (by omega))
omit zb in
theorem uq.gap(j:Nat)(hj:e<j)(hd:j+1<d):af (SJ J j m n f g) []:=by
 have nS:=iD h1 h4 nf ng j m n;have nl:NN (ck J (d:Int) a):=fK h1 h4 S.na;refine Ns (p:=bO (aF s (ck J (d:Int) a)) (d-1-j)) (bR (bT S.ns nl) _) nS NN.nil (nU (bT S.ns nl) (nV S.ns nl S.zs (uG h1 h4 S.na S.da S.za)) _) λx=>?_;rw[jC x (bT S.ns nl),di x S.ns nl,S.id j (by omega) x,qt2 hd (λk hk=>AQ h1 h4 S.da x k hk) (λk hk=>AQ h1 h4 hb x k (by omega))];simp[ev]
theorem uq.sub:af (aF (bO s (d-e-1)) (SJ J e m n f g)) (aF (bO (ck J (e:Int) (SJ J (d-1) m n f g)) (d-e-1)) (SJ J (d-1) m n f g)):=by
 have kz:=S.lt h1 h4 nf ng hb zb;have nS:=iD h1 h4 nf ng e m n;have nB:=iD h1 h4 nf ng (d-1) m n;have nl:NN (ck J (d:Int) a):=fK h1 h4 S.na;have nb:NN (ck J (e:Int) (SJ J (d-1) m n f g)):=fK h1 h4 nB;refine Ns (p:=bO (ck J (d:Int) a) (d-e-1)) (bR nl _) (bT (bR S.ns _) nS) (bT (bR nb _) nB) (nU nl (uG h1 h4 S.na S.da S.za) _) λx=>?_;have h:=S.id e kz x;rw[qbj (aI e) kz (λk hk=>AQ h1 h4 S.da x k hk) (λk hk=>AQ h1 h4 hb x k hk),qbk kz (λk hk=>AQ h1 h4 hb x k hk),Int.mul_pow]at h;rw[di x (bR S.ns _) nS,di x (bR nb _) nB,jC x nl,jC x S.ns,jC x nb];have e1:(pv J x a).c d=ev x (ck J (d:Int) a):=rfl;have e2:(pv J x (SJ J (d-1) m n f g)).c e=ev x (ck J (e:Int) (SJ J (d-1) m n f g)):=rfl;have e3:(pv J x (SJ J (d-1) m n f g)).v=ev x (SJ J (d-1) m n f g):=rfl;rw[e1,e2,e3,show d-1-e=d-e-1 by omega]at h;rw[<-h]
 ac_rfl
theorem uq.qqy(i:Nat)(hi:e<i):af (ck J (i:Int) (SJ J e m n f g)) []:=by
 have nS:=iD h1 h4 nf ng e m n;have nB:=iD h1 h4 nf ng (d-1) m n;have nb:NN (ck J (e:Int) (SJ J (d-1) m n f g)):=fK h1 h4 nB;refine qo2 (bR S.ns (d-e-1)) (fK h1 h4 nS) (nU S.ns S.zs _) ?_;refine(AP h1 h4 (wK S.ns S.fs _) (bR S.ns _) _).symm.trans ((jk (S.sub h1 h4 nf ng hb zb)).trans ((AP h1 h4 (wK nb (vD h1 h4 _ _) _) (bR nb _) _).trans ?_));have:=(hb.Qs h1 h4 hi).sI (bO (ck J (e:Int) (SJ J (d-1) m n f g)) (d-e-1));rw[Ll]at this;exact this
theorem uq.qeW:af (aF (bO s (d-e-1)) (ck J (e:Int) (SJ J e m n f g))) (bO (ck J (e:Int) (SJ J (d-1) m n f g)) (d-e)):=by
 have kz:=S.lt h1 h4 nf ng hb zb;have nB:=iD h1 h4 nf ng (d-1) m n;have nb:NN (ck J (e:Int) (SJ J (d-1) m n f g)):=fK h1 h4 nB;refine(AP h1 h4 (wK S.ns S.fs _) (bR S.ns _) _).symm.trans ((jk (S.sub h1 h4 nf ng hb zb)).trans ((AP h1 h4 (wK nb (vD h1 h4 _ _) _) (bR nb _) _).trans ?_));rw[show d-e=(d-e-1)+1 by omega,Lm];exact af.refl _
theorem uq.Yx:¬af (ck J (e:Int) (SJ J e m n f g)) []:=λh=>by
 have nB:=iD h1 h4 nf ng (d-1) m n;have nb:NN (ck J (e:Int) (SJ J (d-1) m n f g)):=fK h1 h4 nB;have h2:=h.sI (bO s (d-e-1));rw[Ll]at h2;exact nU nb (uG h1 h4 nB hb zb) _ ((S.qeW h1 h4 nf ng hb zb).symm.trans h2)
variable(he:1<=e)
include he
omit he in
theorem uq.euc:∀j,j<e->∀x,(ev x (ck J (e:Int) (SJ J (d-1) m n f g))^(d-e+1))^(e-j)*dS (x (J-1)) j d e (pv J x a) (pv J x (SJ J (d-1) m n f g))=ev x (ck J (e:Int) (SJ J (d-1) m n f g))^(d-e+1)*dS (x (J-1)) j e (e-1) (pv J x (SJ J (d-1) m n f g)) (pv J x (lQ J e (d-e+1) a (dN (SJ J (d-1) m n f g)))):=λj hj x=>by
 have kz:=S.lt h1 h4 nf ng hb zb;have nB:=iD h1 h4 nf ng (d-1) m n;obtain⟨nR,lR,eR⟩:=Yl (δ:=d-e) h1 h4 S.na nB S.za (by rw[show e+(d-e)=d by omega];exact S.da) hb;obtain⟨q,hq⟩:=eR x;exact qi9 (ξ:=x (J-1)) (j:=j) (by omega) hj (λk hk=>AQ h1 h4 hb x k hk) (λk hk=>Yj lR x k hk) hq
theorem uq.rem:af (lQ J e (d-e+1) a (dN (SJ J (d-1) m n f g))) (aF (aF (bO s (d-e)) (ck J (d:Int) a)) (SJ J (e-1) m n f g)):=by
 have kz:=S.lt h1 h4 nf ng hb zb;have nB:=iD h1 h4 nf ng (d-1) m n;have nS:=iD h1 h4 nf ng (e-1) m n;have nl:NN (ck J (d:Int) a):=fK h1 h4 S.na;have nb:NN (ck J (e:Int) (SJ J (d-1) m n f g)):=fK h1 h4 nB;have E:=S.euc h1 h4 nf ng hb zb (e-1) (by omega);obtain⟨nR,lR,_⟩:=Yl (δ:=d-e) h1 h4 S.na nB S.za (by rw[show e+(d-e)=d by omega];exact S.da) hb;generalize lQ J e (d-e+1) a (dN (SJ J (d-1) m n f g))=R at*;refine af.symm (Ns (p:=aF (bO (ck J (e:Int) (SJ J (d-1) m n f g)) (d-e+1)) (bO (ck J (d:Int) a) (d-e-1))) (bT (bR nb _) (bR nl _)) (bT (bT (bR S.ns _) nl) nS) nR (nV (bR nb _) (bR nl _) (nU nb (uG h1 h4 nB hb zb) _) (nU nl (uG h1 h4 S.na S.da S.za) _)) λx=>?_);have h:=S.id (e-1) (by omega) x;have E:=E x;rw[qbj (show e-1<=e by omega) kz (λk hk=>AQ h1 h4 S.da x k hk) (λk hk=>AQ h1 h4 hb x k hk),Int.mul_pow]at h;rw[qbk (d:=e) (e:=e-1) (by omega) (λk hk=>Yj lR x k (by omega)),show e-(e-1)-1=0 by omega,show e-(e-1)=0+1 by omega,Int.pow_succ,Int.pow_zero,Int.one_mul,Int.pow_zero,Int.one_mul]at E;have e1:(pv J x a).c d=ev x (ck J (d:Int) a):=rfl;have e3:(pv J x R).v=ev x R:=rfl;rw[e1,show d-1-e=d-e-1 by omega,show d-1-(e-1)=d-e by omega]at h;rw[e3]at E;rw[di x (bR nb _) (bR nl _),di x (bT (bR S.ns _) nl) nS,di x (bR S.ns _) nl,jC x nl,jC x S.ns,jC x nb]
 have e2:ev x (ck J (d:Int) a)^(d-e)=ev x (ck J (d:Int) a)^(d-e-1)*ev x (ck J (d:Int) a):=by
  rw[show d-e=(d-e-1)+1 by omega,Int.pow_succ,show d-e-1+1-1=d-e-1 by omega]
 rw[e2]at h;generalize dS _ _ _ _ _ _=D at*
 have a1:ev x (ck J (e:Int) (SJ J (d-1) m n f g))^(d-e+1)*ev x (ck J (d:Int) a)^(d-e-1)*ev x R=ev x (ck J (d:Int) a)^(d-e-1)*(ev x (ck J (e:Int) (SJ J (d-1) m n f g))^(d-e+1)*ev x R):=by ac_rfl
 have a2:ev x (ck J (d:Int) a)^(d-e-1)*(ev x (ck J (e:Int) (SJ J (d-1) m n f g))^(d-e+1)*D)=ev x (ck J (e:Int) (SJ J (d-1) m n f g))^(d-e+1)*(ev x (ck J (d:Int) a)^(d-e-1)*D):=by ac_rfl
 rw[a1, <-E,a2, <-h]
 ac_rfl
theorem uq.next:uq J m n f g e (SJ J e m n f g) (ck J (e:Int) (SJ J e m n f g)):=by
 have kz:=S.lt h1 h4 nf ng hb zb;have nB:=iD h1 h4 nf ng (d-1) m n;have nS:=iD h1 h4 nf ng (e-1) m n;have nE:=iD h1 h4 nf ng e m n;have nl:NN (ck J (d:Int) a):=fK h1 h4 S.na;have nb:NN (ck J (e:Int) (SJ J (d-1) m n f g)):=fK h1 h4 nB;have nt:NN (ck J (e:Int) (SJ J e m n f g)):=fK h1 h4 nE;have zt:=S.Yx h1 h4 nf ng hb zb;have hR:=S.rem h1 h4 nf ng hb zb he;have E:=S.euc h1 h4 nf ng hb zb;have zl:=uG h1 h4 S.na S.da S.za;have zlb:=uG h1 h4 nB hb zb;have fp:iK J (aF (bO s (d-e)) (ck J (d:Int) a)):=(wK S.ns S.fs _).aF (vD h1 h4 _ _) (bR S.ns _);have np:NN (aF (bO s (d-e)) (ck J (d:Int) a)):=bT (bR S.ns _) nl;obtain⟨nR,lR,_⟩:=Yl (δ:=d-e) h1 h4 S.na nB S.za (by rw[show e+(d-e)=d by omega];exact S.da) hb;generalize lQ J e (d-e+1) a (dN (SJ J (d-1) m n f g))=R at*;refine⟨he,nE,λh=>zt (jk (r:=[]) h),nt,vD h1 h4 _ _,zt,VQ h1 h4 nE (λi hi=>S.qqy h1 h4 nf ng hb zb i hi) (.inr zt),λk hk=>?_,λj hj x=>?_⟩
 ·refine qo2 np (fK h1 h4 nS) (nV (bR S.ns _) nl (nU S.ns S.zs _) zl) ?_;exact(AP h1 h4 fp np _).symm.trans ((jk hR.symm).trans (lR k hk))
 ·obtain⟨g1,qG⟩:∃g1,d-e=g1+1:=⟨d-e-1,by omega⟩;obtain⟨X,hX⟩:∃X,e-j=X+1:=⟨e-j-1,by omega⟩
  have hK:∀x,ev x (aF (aF (bO (ck J (e:Int) (SJ J (d-1) m n f g)) (g1+2)) (bO (ck J (d:Int) a) g1)) (aF (bO (bO s g1) X) (bO (aF (bO s (g1+1)) (ck J (d:Int) a)) (X+1))))*ev x (aF (bO (aF (ck J (e:Int) (SJ J e m n f g)) (ck J (e:Int) (SJ J e m n f g))) X) (SJ J j m n f g))=ev x (aF (aF (bO (ck J (e:Int) (SJ J (d-1) m n f g)) (g1+2)) (bO (ck J (d:Int) a) g1)) (aF (bO (bO s g1) X) (bO (aF (bO s (g1+1)) (ck J (d:Int) a)) (X+1))))*ev x (SJ J j e (e-1) (SJ J e m n f g) (SJ J (e-1) m n f g)):=λx=>by
   have r1:=S.id j (by omega) x;rw[qbj (show j<=e by omega) kz (λk hk=>AQ h1 h4 S.da x k hk) (λk hk=>AQ h1 h4 hb x k hk),show d-1-j=g1+1+X by omega,show d-1-e=g1 by omega]at r1;have r2:=E j hj x;rw[hX,qG]at r2;have r4:=fe x (S.qeW h1 h4 nf ng hb zb);rw[di x (bR S.ns _) nt,jC x S.ns,jC x nb,qG,show g1+1-1=g1 by omega]at r4
   have hC:pv J x (aF (bO s g1) (SJ J e m n f g))=pv J x (aF (bO (ck J (e:Int) (SJ J (d-1) m n f g)) g1) (SJ J (d-1) m n f g)):=by
    have:=qez (J:=J) (S.sub h1 h4 nf ng hb zb) x;rw[show d-e-1=g1 by omega]at this;exact this
   have hR':pv J x R=pv J x (aF (aF (bO s (g1+1)) (ck J (d:Int) a)) (SJ J (e-1) m n f g)):=by
    have:=qez (J:=J) hR x;rw[qG]at this;exact this
   have fq:iK J (aF (bO s (g1+1)) (ck J (d:Int) a)):=by rw[<-qG];exact fp
   have nq:NN (aF (bO s (g1+1)) (ck J (d:Int) a)):=by rw[<-qG];exact np
   have m1:=qja (ξ:=x (J-1)) (qey h1 h4 (bR S.ns g1) (wK S.ns S.fs _) nE x) (qey h1 h4 nq fq nS x) j e (e-1);have m2:=qja (ξ:=x (J-1)) (qey h1 h4 (bR nb g1) (wK nb (vD h1 h4 _ _) _) nB x) (show Pv.Mul 1 (pv J x R) (pv J x R)from⟨λk=>(Int.one_mul _).symm,(Int.one_mul _).symm⟩) j e (e-1);rw[hC, <-hR',m2,show e-1-j=X by omega,hX,Int.one_pow,Int.one_mul,jC x nb,jC x S.ns,di x (bR S.ns _) nl,jC x S.ns]at m1;have key:=quC r1 r2 m1.symm r4;rw[di x (bT (bR nb _) (bR nl _)) (bT (bR (bR S.ns _) _) (bR (bT (bR S.ns _) nl) _)),di x (bR nb _) (bR nl _),di x (bR (bR S.ns _) _) (bR (bT (bR S.ns _) nl) _),jC x nb,jC x nl,jC x (bR S.ns _),jC x S.ns,jC x (bT (bR S.ns _) nl),di x (bR S.ns _) nl,jC x S.ns,di x (bR (bT nt nt) _) (iD h1 h4 nf ng _ _ _),jC x (bT nt nt),di x nt nt,Dt h1 h4 x nE nS];exact key
  have h:=fe x (Ns (bT (bT (bR nb _) (bR nl _)) (bT (bR (bR S.ns _) _) (bR (bT (bR S.ns _) nl) _))) (bT (bR (bT nt nt) _) (iD h1 h4 nf ng _ _ _)) (iD h1 h4 nE nS _ _ _) (nV (bT (bR nb _) (bR nl _)) (bT (bR (bR S.ns _) _) (bR (bT (bR S.ns _) nl) _)) (nV (bR nb _) (bR nl _) (nU nb zlb _) (nU nl zl _)) (nV (bR (bR S.ns _) _) (bR (bT (bR S.ns _) nl) _) (nU (bR S.ns _) (nU S.ns S.zs _) _) (nU (bT (bR S.ns _) nl) (nV (bR S.ns _) nl (nU S.ns S.zs _) zl) _))) hK);rw[di x (bR (bT nt nt) _) (iD h1 h4 nf ng _ _ _),jC x (bT nt nt),di x nt nt,Dt h1 h4 x nE nS]at h;rw[show e-1-j=X by omega];exact h
end
structure EM(B A C G:Nat):Prop where
 n1:B+C<=1000000
 n2:(B+C+1)^4<=1099511627776
 n3:(B+C+1)*(C+1)<=1099511627776
 n4:A+G+10<=549755813888
theorem EM.pow{B A C G D:Nat}(h:EM B A C G)(hD:D<=4):(B+C+1)^D<=1099511627776:=aR (Nat.pow_le_pow_right (by omega) hD) h.n2
theorem qvg{D kn:Nat}{P:Nat->List Tm}{l r q:List Tm}(hD:D+1<=4)(dB:∀i,i<kn->eH D (P i))(hs:af (aQ (D+1) kn P) l)(fr:iK (D+1) r)(nr:NN r)(h:af (aF q r) l)(i:Nat)(hi:i<kn):af (aF (ck (D+1) (i:Int) q) r) (P i):=by
 have h1:=vg hD dB i;rw[ai hi]at h1;exact(qiS (by omega) hD fr nr _).symm.trans ((jk (h.trans hs.symm)).trans h1)
theorem qyY{L J:Nat}(h4:J<=4)(hJ:L<J){l T:List Tm}(hs:af T l)(hT:∀t∈T,∀k:Nat,L<k->k<=4->t.2.get k=0):iK J l:=λm hm=>by
 rw[<-hs m]at hm;refine eF λhc=>hm (rQ λt ht e=>hc ?_);rw[<-e];exact hT t ht J hJ h4
def iA(D:Nat)(q:List Tm)(i:Nat):List Tm:=ck (D+1) (i:Int) q
def vC(D:Nat)(q r:List Tm)(k i:Nat):List Tm:=ck (D+1) (i:Int) (aF (aQ (D+1) k (iA D q)) r)
section
variable{D n V:Nat}{P G:Nat->List Tm}{l r q:List Tm}(hD:D+1<=4)(hG:∀i,i<n+1->eH D (G i))(Dx:af (aQ (D+1) (n+1) G) r)(nr:NN r)(nq:NN q)
include hD hG Dx nr nq
theorem qbH(k i:Nat):af (vC D q r (k+1) i) (vC D q r k i++if i<k then[]else aF (iA D q k) (if i-k<n+1 then G (i-k)else[])):=by
 have nQ:NN (iA D q k):=fK (by omega) hD nq;unfold vC;rw[gT,Eg,Vy];refine(af.refl _).append ?_;refine(jk (I6 _ _ _)).trans ((qiU (by omega) hD (bT nQ nr) k i).trans ?_)
 by_cases h:i<k
 ·rw[ai h,ai h];exact af.refl _
 ·rw[ah h,ah h];exact(AP (by omega) hD (vD (by omega) hD _ _) nQ _).trans (((jk Dx.symm).trans (vg hD hG (i-k))).sI _)
theorem qjU:∀k i,n+k<=i->af (vC D q r k i) []
 |0,i,_=>af.refl _
 |k+1,i,hi=>by
  refine(qbH hD hG Dx nr nq k i).trans ?_;rw[ah (by omega),ah (by omega),Ll,List.append_nil];exact qjU k i (by omega)
theorem qjW(k:Nat):af (aF (iA D q k) (G n)) (vC D q r (k+1) (n+k)):=by
 refine af.symm ((qbH hD hG Dx nr nq k (n+k)).trans ?_);rw[ah (by omega),ai (by omega),show n+k-k=n by omega];exact((qjU hD hG Dx nr nq k (n+k) (aI _)).append (af.refl _))
theorem qve(k:Nat){c:List Tm}(hc:af c (iA D q k))(i:Nat)(hi:i<n+k):af (rj k c G (vC D q r (k+1)) n i) (vC D q r k i):=by
 have h:=qbH hD hG Dx nr nq k i;unfold rj
 by_cases h5:k<=i
 ·rw[ah (by omega),ai (by omega)]at h;rw[ai (by omega)];intro m;have h1:=h m;have h2:=(hc.oC (G (i-k))) m;rw[iZ]at h1⊢;rw[qO];omega
 ·rw[ai (by omega),List.append_nil]at h;rw[ah (by omega)];exact h
omit nq in
theorem que(hz:¬af (G n) []):bE (D+1) r n:=by
 have hc:∀e:Nat,af (ck (D+1) (e:Int) r) (if e<n+1 then G e else[]):=λe=>(jk Dx.symm).trans (vg hD hG e);refine VQ (by omega) hD nr (λi hi=>?_) (.inr λh=>hz ?_)
 ·have:=hc i;rw[ah (by omega)]at this;exact this
 ·have:=hc n;rw[ai (by omega)]at this;exact this.symm.trans h
theorem qjT(hz:¬af (G n) [])(hP:∀i,i<n+V->eH D (P i))(Wt:af (aQ (D+1) (n+V) P) l)(h:af (aF q r) l):af (aQ (D+1) V (iA D q)) q:=by
 have dr:=que hD hG Dx nr hz
 have zr:¬af r []:=λh0=>by
  have hc:=(jk Dx.symm).trans (vg hD hG n);rw[ai (by omega)]at hc;exact hz (hc.symm.trans (jk (r:=[]) h0))
 by_cases hq:af q []
 ·exact(OM λi _=>jk (r:=[]) hq).trans hq.symm
 ·obtain⟨a,ha⟩:=Kg (k:=D+1) nq;have hp:=VR (by omega) hD nq nr hq zr ha dr
  have haV:a<V:=eF λhc=>by
   have h1:=uG (by omega) hD (bT nq nr) hp (nV nq nr hq zr);have h2:=vg hD hP (a+n);rw[ah (by omega)]at h2;exact h1 ((jk (h.trans Wt.symm)).trans h2)
  exact Ng (by omega) hD nq λm hm=>by have:=ha.1 m hm;omega
theorem qvf(hz:¬af (G n) [])(hP:∀i,i<n+V->eH D (P i))(Wt:af (aQ (D+1) (n+V) P) l)(h:af (aF q r) l)(i:Nat)(hi:i<n+V):af (P i) (vC D q r V i):=by
 have h1:=vg hD hP i;rw[ai hi]at h1;refine h1.symm.trans (jk (Wt.trans (h.symm.trans ((qjT hD hG Dx nr nq hz hP Wt h).symm.oC r))))
end
theorem Kj{D B A:Nat}(hD:D+1<=4){q:List Tm}(nq:NN q)(hB:bH B q)(hA:aH (aK q)<=A)(i:Nat):NN (iA D q i)/\bH B (iA D q i)/\aH (aK (iA D q i))<=A:=
 ⟨fK (by omega) hD nq,Qr (by omega) hD hB,aR (jB (GU _ _ _)) hA⟩
theorem qjV{D B A C G k:Nat}(hD:D+1<=4){q r:List Tm}(nq:NN q)(hB:bH B q)(hA:aH (aK q)<=A)(hC:bH C r)(hG:aH (aK r)<=G)(hk:k<=4294967295)(i:Nat):bH (B+C) (vC D q r k i)/\aH (aK (vC D q r k i))<=A+2+G:=by
 have nn:NN (aQ (D+1) k (iA D q)):=NN.aQ λi _=>(Kj hD nq hB hA i).1
 have hd:bH B (aQ (D+1) k (iA D q)):=λm hm j=>by
  have h1:=Vx (J:=D+1) (by omega) hD (P:=iA D q) (λi=>vD (by omega) hD _ _) (m.get (D+1)).toNat k
  have j6:m.nn=true:=by
   cases hq:m.nn with
   |true=>rfl
   |false=>exact absurd (nn m hq) hm
  have h5:=wZ j6 (D+1)
  have e:(((m.get (D+1)).toNat:Nat):Int)=m.get (D+1):=by omega
  rw[e]at h1;have h2:=ET (k:=D+1) (by omega) hD hm
  by_cases hlt:(m.get (D+1)).toNat<k
  ·rw[ai hlt]at h1
   have h3:aL (aQ (D+1) k (iA D q)) m=aL q m:=by
    have c1:=oh (k:=D+1) (by omega) hD (m.get (D+1)) (Mo.sub m (xp (D+1) (m.get (D+1)))) (aQ (D+1) k (iA D q));have c2:=oh (k:=D+1) (by omega) hD (m.get (D+1)) (Mo.sub m (xp (D+1) (m.get (D+1)))) q
    have e0:(Mo.sub m (xp (D+1) (m.get (D+1)))).get (D+1)=0:=by rw[sZ,eQ _ _ _ (by omega) hD,ai rfl];omega
    have e1:Mo.add (Mo.sub m (xp (D+1) (m.get (D+1)))) (xp (D+1) (m.get (D+1)))=m:=(Mo.add_eq _ _ _).2 rfl;rw[ai e0,e1]at c1 c2;rw[<-c1, <-c2,h1 _];unfold iA;rw[e]
   exact hB m (by rw[<-h3];exact hm) j
  ·rw[ah hlt]at h1;exact absurd h1 h2
 refine⟨Qr (by omega) hD (bH.aF hd hC nn),?_⟩;refine aR (jB (GU _ _ _)) ?_;rw[zL];refine aR (pQ _ _) (Nat.add_le_add ?_ hG);exact Yb hk λi _=>(Kj hD nq hB hA i).2.2
def Pe(B A C G L:Nat):Prop:=∀(M:Nat->Prop)(l r u:List Tm)(x y:PE)(w:World),Mb M w->aN M w L x l->aN M w 4 y r->¬af r []->NN u->af (aF u r) l->bH B u->aH (aK u)<=A->bH C r->aH (aK r)<=G->
 Calls Tryz.prog 67 #[.agg (ak x),.agg (ak y)] w (yK M w L l r A)
theorem qvj(B A C G E:Nat)(fI:E+1<=4)(hN:EM B A C G)(ih:Pe B A C G E)(M:Nat->Prop)(l r u:List Tm)(x y:PE)(w:World)(hM:Mb M w)(h:aN M w (E+1) x l)(hl:x.lv=(E:Int)+1)(hy:aN M w 4 y r)(uF:y.lv<x.lv)(hz:¬af r [])(nu:NN u)(hu:af (aF u r) l)(hB:bH B u)(hA:aH (aK u)<=A)(hC:bH C r)(hG:aH (aK r)<=G):
 Calls Tryz.prog 125 #[.agg (ak x),.agg (ak y)] w (yK M w (E+1) l r A):=by
 obtain⟨i0,hi,hz0,hz1,hz2⟩:=info_parts Tryz.zH;obtain⟨aV,ky,vJ,bL,dD⟩:=yN hM x y;obtain⟨E',b,off,P,iJ,qvV,Hd,ll,jg,nT,mg,gH,mi,iB,hb,qC,dB,fQ,fJ,gQ,dP⟩:=h.node (by omega)
 obtain rfl:E'=E:=by omega
 have QT:bH (B+C) l:=(bH.aF hB hC nu).dh hu;have ou:=Dp fI (by omega) dB fQ (QT.dh fJ.symm);have Hg:NN r:=hy.nn;obtain⟨T,KA,wO⟩:=hy.qd2;have og:Hid (∀i,i<x.kn->¬Dv r (P i)->¬Dv r l):=λi hi' hn hd=>hn ((quS fI dB (g:=T) (λt ht=>wO t ht (E'+1) (by omega) fI) (hd.dh KA.symm fJ.symm) i hi').dh KA (af.refl _));have BC:=qvg fI dB fJ (qyY (J:=E'+1) (L:=y.lv.toNat) fI (by omega) KA λt ht k hk mI=>wO t ht k (by omega) mI) Hg hu
 have yt:Hid (∀i,i<x.kn->∃c,jK w b (off+i*4) c/\∀(M':Nat->Prop) W,Mb M' W->(∀g,M' g->M g\/w.heap.size<=g)->Ext w W->Calls Tryz.prog 67 #[.agg (ak c),.agg (ak y)] W (yK M' W E' (P i) r A)):=λi hi'=>by
  obtain⟨c,fF,fw,_⟩:=dP i hi';have hq:=Kj fI nu hB hA i;exact⟨c,fF,λM' W Ku xW he=>ih M' (P i) r (iA E' u i) c y W Ku ((fw.more xW).ext he) ((hy.more xW).ext he) hz hq.1 (BC i hi') hq.2.1 hq.2.2 hC hG⟩
 have yw:Hid (∀Q:Nat->List Tm,(∀i,i<x.kn->af (aF (Q i) r) (P i))->af (aF (aQ (E'+1) x.kn Q) r) l):=λQ hQ=>(Ya (E'+1) x.kn Q r).symm.trans ((tT _ _ _ _ hQ).trans fJ);have JM:Hid (∀Q:Nat->List Tm,af (aF (aQ (E'+1) x.kn Q) r) l->NN (aQ (E'+1) x.kn Q)->af (aQ (E'+1) x.kn Q) u/\af (aF u r) l/\aH (aK u)<=A):=λQ h1 h2=>⟨Lj h2 nu Hg hz (h1.trans hu.symm),hu,hA⟩;have uP:Hid (∀i,i<x.kn->∀q,NN q->af (aF q r) (P i)->bH (B+C) q):=λi hi' q hq hs=>qje hq Hg hz hs (ou.2 i hi');have Rw:x.kn<=B+C+1:=ou.1;have hOk:=hN.pow fI
 have hAL:A+2<=1099511627776:=by have:=hN.n4;omega
 have gK:=ae hM;obtain⟨x0,x1,x2,x3⟩:=ky;obtain⟨y0,y1,y2,y3⟩:=vJ
 have jT:w.heap.size+3=((((w.alloc (.cells (ak x) 33)).alloc (.cells (ak y) 33)).alloc (.cells zA 33))).heap.size:=by simp
 generalize hW:((w.alloc (.cells (ak x) 33)).alloc (.cells (ak y) 33)).alloc (.cells zA 33)=W at*;have HW:=ae hW;have HE:=ae aV;have HS:Hid (jU w.heap.size x y W):=⟨⟨x0,x1,x2,x3⟩,⟨y0,y1,y2,y3⟩⟩;have dY:=ae bL;have hS1:=hN.n1;clear aV bL dD h hl hy uF hz hB hC hA hG hN ih dB fQ fJ gQ dP ou Hg KA wO QT BC nu hu hW hM;rw[nT]at x3
 go_enter Tryz.func125,Tryz.ntmps125
 go_upto_region 1 with(fail)
 rw[HW.out]
 go_wp2_with (first|(refine wpList_make_full _ rfl _ _ _ rfl (w.heap.size+3) 33 i0 (.agg #[.int .i64 0,.bool false,.slice none 0 0,.slice none 0 0]) 4 Tryz.underlying31 hi hz0 hz1 .i64 .i64 _ _ x.kn rfl rfl ?c4 ?c5 ?c2 ?c3 ?c6 ?_))
 case c2=>rw[hz2];omega
 case c3=>unfold maxLen;omega
 case c4=>simp
 case c5=>simp
 case c6=>omega
 intro w1 hown hgrow;rw[<-jT]at hown⊢;have cO:=(aG.made hown rfl (by omega)).congr (f':=gN) (λi _=>Ej i);have az:=nL hgrow;have dF:=ae (dY.out.ext az);have uS:=ae (HS.out.ext az);have aS:=ae (HE.out.trans az)
 have eU:w.heap.size+4<=w1.heap.size:=by have:=cO.lt;omega
 have qm:Hid (Kids (Mx M w.heap.size (w.heap.size+4)) w1 E' (w.heap.size+3) x.kn (λ_=>[])):=Kids.fresh cO;clear x0 x1 x2 x3 y0 y1 y2 y3;obtain⟨⟨x0,x1,x2,x3⟩,_⟩:=uS.out;rw[nT]at x3;clear hown hgrow cO az dY HS HE HW;go_wp2
 go_loopw [18] (λi wr=>∃(k:Nat)(Q:Nat->List Tm),k<=x.kn/\i=.int .i64 k/\w.heap.size+4<=wr.heap.size/\Hid (Kids (Mx M w.heap.size (w.heap.size+4)) wr E' (w.heap.size+3) x.kn (λi=>if i<k then Q i else[]))/\Hid (∀i,i<k->NN (Q i)/\af (aF (Q i) r) (P i)/\aH (aK (Q i))<=A)/\Hid (Ext w wr)/\Hid (jU w.heap.size x y wr)/\Hid (aG wr (w.heap.size+2) 33 4 (arr zA))) (λi _=>x.kn-(intOf i).toNat)
 case atStart=>exact⟨0,λ_=>[],bK _,rfl,eU,qm.out.congr λi _=>by rw[ah (by omega)];exact af.refl _,λi hi=>absurd hi (Nat.not_lt_zero _),aS,uS,dF⟩
 case round=>
  clear qm aS uS dF x0 x1 x2 x3 eU;obtain⟨k,Q,hk,rfl,hsz,HK,HQ,cZ,yD,jJ⟩:=hrel
  by_cases hlt:k<x.kn
  ·obtain⟨c,hc,Hy⟩:=yt.out k hlt;obtain⟨c0,c1,c2,c3⟩:=hc.ext hb cZ.out;have jE:b<wr.heap.size:=dH hb cZ.out.size;obtain⟨_,y0,y1,y2,y3⟩:=yD.out;have aT:=(aA wr).alloc (.cells (ak c) 33)
   have DX:(k:Int)<(x.kn:Int):=by omega
   have hw1:w.heap.size+1<wr.heap.size:=by omega
   have yf:w.heap.size<wr.heap.size:=by omega
   have aW:=ae (Hy (Mx M w.heap.size (w.heap.size+4)) _ (Mx.mb (k:=w.heap.size+4) gK.out (cZ.out.trans aT).size (by simp;omega)) (Mx.more (aI _)) (cZ.out.trans aT));have fH:=ae aT;clear Hy aT hc iJ nT jg ll jT;go_wp2_with (fail);refine(aW.out).mono ?_;rintro e w4 ⟨v,ok,rfl,hR,bB⟩;have bn:=fH.out.trans bB;have KS:=bn.size
   cases ok with
   |false=>
    have EA:=ae (og.out k hlt (hR.2 rfl));obtain⟨⟨q0,q1,q2,q3⟩,⟨f0,f1,f2,f3⟩,⟨r0,r1,r2,r3⟩,HF⟩:=iF (M:=M) (M':=Mx M w.heap.size (w.heap.size+3)) (w:=w) (L:=0) (l:=[]) (y:=PE.z) ((jJ.out.ext bn).ext ((aA w4).alloc (.cells (ak v) 33))) (Mx.at (by omega)) (by omega) ((cZ.out.trans bn).trans ((aA w4).alloc (.cells (ak v) 33))) (CR.zero _ _ 0) Mx.sub;have dI:=ae (HF.out.V4 (L:=E'+1) (A:=A) EA.out);simp only[PE.z]at r0 r1 r2 r3
    have iQ:w.heap.size+2<(w4.alloc (.cells (ak v) 33)).heap.size:=by simp;omega
    clear HF hR bB bn EA c0 c1 c2 c3 y0 y1 y2 y3 aW HK HQ cZ yD jJ yt yw uP JM og fH
    go_upto_region 6 with(fail)
    generalize w4.alloc (.cells (ak v) 33)=W5 at*;clear KS hw1 yf jE;go_wp2;exact bu (v:=.tuple #[.agg (ak PE.z),.bool false]) (by simp[results,Tryz.results125,go_sem,r0,r1,r2,r3,PE.z]) rfl dI.out
   |true=>
    obtain⟨q,hq1,hq2,xZ⟩:=hR.1 rfl;have l8:=(aA w4).alloc (.cells (ak v) 33);have fO:=bn.trans l8;have hq5:=hq1.ext l8;have Xp:P4 (w4.alloc (.cells (ak v) 33)) w4.heap.size v:=(aG.bq w4 (ak v) 33 4 rfl).p4
    have Oh:(w4.alloc (.cells (ak v) 33)).heap.size=w4.heap.size+1:=by simp
    have fT:=ae fO;have Z9:=ae (And.intro hq5 (And.intro hq2 xZ));have j6:=hq1.nn;clear hR bB bn fO l8 hq1 hq2 xZ hq5 aW yt yw uP JM og fH c0 c1 c2 c3 y0 y1 y2 y3
    go_upto_region 6 with(fail)
    generalize w4.alloc (.cells (ak v) 33)=W5 at*;obtain⟨v0,v1,v2,v3⟩:=Xp;have fo:=HK.out.ext fT.out;obtain⟨⟨_,k0⟩,⟨_,k1⟩,⟨_,k2⟩,⟨_,k3⟩,bA,nO⟩:=fo.at k hlt;have fV:=bA (k*4);have fP:=bA (k*4+1);have iU:=bA (k*4+2);have p9:=bA (k*4+3);have NF:=fo.set (Mx.at (by omega)) k hlt Z9.out.1;have hEs:=(cZ.out.trans fT.out).aM (g:=w.heap.size+3) (by omega) (k*4) (.int .i64 v.lv) (.bool v.b) (.slice v.a v.n v.p) (.slice v.ka v.kn v.kp);have hBs:=(jJ.out.ext fT.out).of_heap (iI W5 (w.heap.size+3) (k*4) (.int .i64 v.lv) (.bool v.b) (.slice v.a v.n v.p) (.slice v.ka v.kn v.kp) (w.heap.size+2) (by omega));have hSs:jU w.heap.size x y (aM W5 (w.heap.size+3) (k*4) (.int .i64 v.lv) (.bool v.b) (.slice v.a v.n v.p) (.slice v.ka v.kn v.kp)):=⟨sH (yD.out.1.ext fT.out) (iI _ _ _ _ _ _ _ _ (by omega)),sH (yD.out.2.ext fT.out) (iI _ _ _ _ _ _ _ _ (by omega))⟩
    have IM:w.heap.size+4<=(aM W5 (w.heap.size+3) (k*4) (.int .i64 v.lv) (.bool v.b) (.slice v.a v.n v.p) (.slice v.ka v.kn v.kp)).heap.size:=by rw[nW];omega
    have qy:Hid (∀i,i<k+1->NN (snoc Q k q i)/\af (aF (snoc Q k q i) r) (P i)/\aH (aK (snoc Q k q i))<=A):=λi hi=>by
     by_cases iq:i=k
     ·subst iq;rw[uL];exact⟨j6,Z9.out.2⟩
     ·rw[zN _ _ _ _ (by omega)];exact HQ.out i (by omega)
    have lV:Hid (Kids (Mx M w.heap.size (w.heap.size+4)) (aM W5 (w.heap.size+3) (k*4) (.int .i64 v.lv) (.bool v.b) (.slice v.a v.n v.p) (.slice v.ka v.kn v.kp)) E' (w.heap.size+3) x.kn (λi=>if i<k+1 then snoc Q k q i else[])):=by
     refine NF.congr λi _=>?_
     by_cases iq:i=k
     ·subst iq;rw[ai rfl,ai (by omega),uL];exact af.refl _
     ·rw[ah iq]
      by_cases h3:i<k
      ·rw[ai h3,ai (by omega),zN _ _ _ _ h3];exact af.refl _
      ·rw[ah h3,ah (by omega)];exact af.refl _
    have dV:=ae hEs;have oQ:=ae hBs;have iG:=ae hSs;have rf:=ae IM
    have lC:w.heap.size+3<W5.heap.size:=by omega
    have IC:w4.heap.size<W5.heap.size:=by omega
    clear fo NF hEs hBs hSs IM bA HK HQ cZ yD jJ Z9 fT Oh KS yf hw1 jE;go_wp2
    go_roundw
    case rel=>exact⟨k+1,snoc Q k q,by omega,by go_num,rf.out,lV,qy,dV,iG,oQ⟩
    case measure=>simp[intOf];omega
  ·obtain rfl:k=x.kn:=by omega
   obtain⟨⟨x0,_⟩,_⟩:=yD.out;rw[iJ]at x0
   have qK:eY (Mx M w.heap.size (w.heap.size+3)) wr E' (.slice (some ⟨w.heap.size+3,0,none⟩) x.kn x.kn) x.kn Q:=(HK.out.qyI (λg hg=>.inl (hg.imp id λh=>by omega)) (λhh=>hh.elim (gK.out.new (by omega)) (by omega)) gH).congr λi hi=>by rw[ai hi];exact af.refl _
   have aW:=ae (qd5 (S:=B+C) (A:=A) wr (Mx.mb gK.out cZ.out.size (by omega)) qK fI (λi hi=>uP.out i hi _ (HQ.out i hi).1 (HQ.out i hi).2.1) Rw hOk hS1 (λi hi=>(HQ.out i hi).2.2) (by omega));have UY:=ae (yw.out Q λi hi=>(HQ.out i hi).2.1);have U8:=ae (JM.out Q UY.out (NN.aQ λi hi=>(HQ.out i hi).1));clear qK yt HK uP JM og yw HQ UY iJ nT jg ll jT hlt hOk;go_wp2_with (fail);refine aW.out.mono ?_;rintro e w5 ⟨v,rfl,hv,bn⟩;obtain⟨⟨q0,q1,q2,q3⟩,⟨f0,f1,f2,f3⟩,⟨r0,r1,r2,r3⟩,HF⟩:=iF (M:=M) (w:=w) (jJ.out.ext bn) (Mx.at (by omega)) (by omega) (cZ.out.trans bn) (hv.dh U8.out.1) Mx.sub;have dI:=ae (HF.out.QG U8.out.2.1 U8.out.2.2);clear HF bn hv aW x0 U8;go_wp2;exact bu (v:=.tuple #[.agg (ak v),.bool true]) (by simp[results,Tryz.results125,go_sem,r0,r1,r2,r3]) rfl dI.out
theorem qvk(B A C G E:Nat)(fI:E+1<=4)(hN:EM B A C G)(ih:Pe B A C G E)(M:Nat->Prop)(l r u:List Tm)(x y:PE)(w:World)(hM:Mb M w)(h:aN M w (E+1) x l)(hl:x.lv=(E:Int)+1)(hy:aN M w 4 y r)(uF:y.lv=x.lv)(hz:¬af r [])(nu:NN u)(hu:af (aF u r) l)(hB:bH B u)(hA:aH (aK u)<=A)(hC:bH C r)(hG:aH (aK r)<=G):
 Calls Tryz.prog 67 #[.agg (ak x),.agg (ak y)] w (yK M w (E+1) l r A):=by
 obtain⟨i0,hi,hz0,hz1,hz2⟩:=info_parts Tryz.zH;obtain⟨aV,ky,vJ,bL,dD⟩:=yN hM x y;have CZ:=ae (Jb _ x l _ dD (((h.more (M':=Mx M w.heap.size (w.heap.size+3)) (Mx.more (aI _))).ext aV).pi));obtain⟨E1,b,off,P,iJ,qvV,Hd,ll,jg,nT,mg,gH,mi,iB,hb,qC,dB,fQ,fJ,gQ,dP⟩:=h.node (by omega)
 obtain rfl:E1=E:=by omega
 have RH:¬af l []:=λhs=>fQ (qpm fI dB (λi _ t ht=>by cases ht) ((fJ.trans hs).trans (OM (L:=E1+1) (n:=x.kn) (P:=λ_=>[]) λi _=>af.refl _).symm) (x.kn-1) (by omega));have PL:=ae RH;obtain⟨D,b2,vO,Gk,qmC,_,_,qwm,qxm,qmr,qmL,qxr,qxt,qlS,jR,qv2,Ih,D5,D9,qdp,qc8⟩:=hy.node (by omega)
 obtain rfl:D=E1:=by omega
 have QT:bH (B+C) l:=(bH.aF hB hC nu).dh hu;have ou:=Dp fI (by omega) dB fQ (QT.dh fJ.symm);have DL:=Dp fI (by omega) Ih D5 (hC.dh D9.symm);have Hg:NN r:=hy.nn;obtain⟨n,hn⟩:∃n,y.kn=n+1:=⟨y.kn-1,by omega⟩;rw[hn]at Ih D9 qdp qc8 DL D5 qxt qxr qmL;rw[Nat.add_sub_cancel]at D5
 have qmD:y.lv=(D:Int)+1:=by omega
 obtain⟨xx,IK⟩:=pick PE.z (n:=x.kn) (Q:=λi c=>jK w b (off+i*4) c/\aN M w D c (P i)) (λi hi=>by obtain⟨c,h1,h2,_⟩:=dP i hi;exact⟨c,h1,h2⟩);obtain⟨yy,Oo⟩:=pick PE.z (n:=n+1) (Q:=λi c=>jK w b2 (vO+i*4) c/\aN M w D c (Gk i)) (λi hi=>by obtain⟨c,h1,h2,_⟩:=qc8 i hi;exact⟨c,h1,h2⟩);have HXX:=ae IK;have JR:=ae Oo
 have EA:Hid (x.kn<=n->¬Dv r l):=λhle hd=>by
  obtain⟨q,hq,hs⟩:=hd;have:=quM fI Ih D5 (Hg.dh D9.symm) hq hle dB ((D9.sI q).trans (hs.trans fJ.symm));exact RH (fJ.symm.trans this)
 have qY:=ae Ih;have yx:=ae D5;have xn:=ae D9;have Cq:=ae Hg;have wC:Hid (∀i,i<n+1->bH C (Gk i)/\aH (aK (Gk i))<=G):=λi hi=>⟨DL.2 i hi,aR (jB (aR (Lg (D+1) (n+1) Gk i hi) qdp)) hG⟩;have q9:=ae fJ;have Rw:=ou.1;have gK:=ae hM;have qo:=ae hN;have Kw:Hid (B+C<=1000000/\A+G+10<=549755813888):=⟨hN.n1,hN.n4⟩;have qw:=ae nu;have uT:=ae hu;have Gy:=ae hB;have sS:=ae hA;have UU:=ae hC;have UW:=ae hG;have ZZ:=ae dB;have lU:=ae ih;obtain⟨x0,x1,x2,x3⟩:=ky;obtain⟨y0,y1,y2,y3⟩:=vJ
 have jT:w.heap.size+3=((((w.alloc (.cells (ak x) 33)).alloc (.cells (ak y) 33)).alloc (.cells zA 33))).heap.size:=by simp
 generalize hW:((w.alloc (.cells (ak x) 33)).alloc (.cells (ak y) 33)).alloc (.cells zA 33)=W at*;have HW:=ae hW;have HE:=ae aV;have HS:Hid (jU w.heap.size x y W):=⟨⟨x0,x1,x2,x3⟩,⟨y0,y1,y2,y3⟩⟩;have dY:=ae bL;clear aV bL dD h hl hy uF hz hB hC hA hG hN nu hu QT ih dB fQ fJ gQ dP ou Hg hW hM RH IK Oo Ih D5 D9 qdp qc8 DL;clear x0 x1 x2 x3 y0 y1 y2 y3;obtain⟨⟨x0,x1,x2,x3⟩,⟨y0,y1,y2,y3⟩⟩:=HS.out;have Ck:=ae iJ;have ZN:=ae qmD;have PD:=ae nT;have PG:=ae qmr;have HN:=ae hn;clear iJ qmD nT qmr hn qmC ll jg qwm qxm
 go_enter Tryz.func67,Tryz.ntmps67
 go_upto_region 1 with(fail)
 rw[HW.out];go_wp2_with (fail);refine CZ.out.mono ?_;rintro e w1 ⟨bz,rfl,tJ,az⟩
 obtain rfl:bz=false:=by
  cases bz with
  |false=>rfl
  |true=>exact absurd (tJ.1 rfl) PL.out
 have aS:=ae (HE.out.trans az);have fU:=ae (HS.out.ext az);have dF:=ae (dY.out.ext az)
 have eU:w.heap.size+3<=w1.heap.size:=by have:=az.size;omega
 clear x0 x1 x2 x3 y0 y1 y2 y3 HE HS dY HW az tJ CZ;obtain⟨⟨x0,x1,x2,x3⟩,⟨y0,y1,y2,y3⟩⟩:=fU.out;rw[Ck.out]at x0;rw[ZN.out]at y0;rw[PD.out]at x3;rw[PG.out,HN.out]at y3
 have vE:((D:Int)+1==0)=false:=by simp;omega
 have hks:W.heap.size=w.heap.size+3:=jT.symm;clear jT
 go_upto_region 11 with(fail)
 by_cases hle:x.kn<=n
 ·have hND:=EA.out hle
  have qmw:(x.kn:Int)<=n:=by omega
  obtain⟨⟨q0,q1,q2,q3⟩,⟨f0,f1,f2,f3⟩,⟨r0,r1,r2,r3⟩,HF⟩:=iF (M:=M) (M':=Mx M w.heap.size (w.heap.size+3)) (w:=w) (L:=0) (l:=[]) (y:=PE.z) dF.out (Mx.at (by omega)) (by omega) aS.out (CR.zero _ _ 0) Mx.sub;have dI:=ae (HF.V4 (L:=D+1) (A:=A) hND);simp only[PE.z]at r0 r1 r2 r3
  have iQ:w.heap.size+2<w1.heap.size:=by omega
  clear HF HXX JR EA qY yx xn Cq wC q9 qo Kw qw uT Gy sS UU UW ZZ lU;go_wp2;exact bu (v:=.tuple #[.agg (ak PE.z),.bool false]) (by simp[results,Tryz.results67,go_sem,r0,r1,r2,r3,PE.z]) rfl dI.out
 obtain⟨V,hK⟩:∃V,x.kn=n+V:=⟨x.kn-n,by omega⟩
 have Fe:1<=V:=by omega
 have jX:=ae hK
 have qmw:¬((n+V:Nat):Int)<=n:=by omega
 rw[hK]at x3 mi gH Rw;have EJ:Hid (∀i,i<n+V->jK w b (off+i*4) (xx i)/\aN M w D (xx i) (P i)):=λi hi=>HXX.out i (by omega)
 have Ct:Hid (af (aQ (D+1) (n+V) P) l):=by show af _ _;rw[<-hK];exact q9.out
 have Z0:Hid (∀i,i<n+V->eH D (P i)):=λi hi=>ZZ.out i (by omega);clear HXX q9 ZZ EA hle mg hK
 go_wp2_with (first|(refine wpList_make_full _ rfl _ _ _ rfl w1.heap.size 33 i0 (.agg #[.int .i64 0,.bool false,.slice none 0 0,.slice none 0 0]) 4 Tryz.underlying31 hi hz0 hz1 .i64 .i64 _ _ (n+V) rfl rfl ?c4 ?c5 ?c2 ?c3 ?c6 ?_))
 case c2=>first|(rw[hz2];omega)|omega
 try(case c3=>first|omega|(unfold maxLen;omega))
 try(case c4=>simp)
 try(case c5=>simp)
 try(case c6=>omega)
 intro w2 hown hgrow;have cO:=(aG.made hown rfl (by omega)).congr (f':=gN) (λi _=>Ej i);have aJ:=nL hgrow;have Zz:=ae (aS.out.trans aJ);have eG:=ae (dF.out.ext aJ);have UZ:=ae (fU.out.ext aJ);have hs2:w1.heap.size<w2.heap.size:=cO.lt;have DN:∃g1,g1=w1.heap.size:=⟨_,rfl⟩;obtain⟨g1,qG⟩:=DN;rw[<-qG]at cO hs2⊢
 have sj:w.heap.size+3<=g1:=by omega
 clear qG hown hgrow aJ dF fU aS x0 x1 x2 x3 y0 y1 y2 y3;obtain⟨⟨x0,x1,x2,x3⟩,⟨y0,y1,y2,y3⟩⟩:=UZ.out;rw[Ck.out]at x0;rw[ZN.out]at y0;rw[PD.out,jX.out]at x3;rw[PG.out,HN.out]at y3;have hKC:∀j,j<(n+V)*4->w2.cell? ⟨b,off+j,none⟩=some (px xx j):=qAC λi hi=>(EJ.out i hi).1.ext hb Zz.out
 have KV:(Tryz.prog.info? 33).map (·.size)=some 4:=by rw[hi];simp[hz1]
 go_wp2_with (first|(refine qCJ rfl (.tmp 67) (.tmp 69) _ _ rfl 33 Tryz.underlying31 4 KV (n+V) (n+V) x.kp g1 b off rfl rfl 33 gN cO (px xx) hKC (λj _=>qAE xx j) ?_))
 intro w3 jM kQ;have AZ:Ext w w3:=Zz.out.grown kQ (λk hk=>by cases hk;omega);have qkg:=eG.out.grown kQ (by intro e;cases e;omega);have qlh:jU w.heap.size x y w3:=⟨sH UZ.out.1 (kQ.block _ (by omega) (by intro e;cases e;omega)),sH UZ.out.2 (kQ.block _ (by omega) (by intro e;cases e;omega))⟩;have KS:=kQ.size;have wE:Hid (∀m,Kids (Mx M w.heap.size m) w3 D g1 (n+V) P):=λm=>Kids.qzT jM (λj hj=>by unfold over;rw[ai (by omega),Nat.sub_zero]) (λi hi=>((EJ.out i hi).2.more (Mx.more (aI _))).ext AZ);have dM:=ae AZ;have lT:=ae qkg;have qao:=ae qlh
 have Oh:g1<w3.heap.size:=by omega
 clear AZ qkg qlh jM kQ hKC cO Zz eG UZ x0 x1 x2 x3 y0 y1 y2 y3 hs2 KS EJ;obtain⟨⟨x0,x1,x2,x3⟩,⟨y0,y1,y2,y3⟩⟩:=qao.out;rw[Ck.out]at x0;rw[ZN.out]at y0;rw[PD.out,jX.out]at x3;rw[PG.out,HN.out]at y3
 have hKe:(n:Int)+V-n=V:=by omega
 go_upto_region 15 with(fail)
 go_wp2_with (first|(refine wpList_make_full _ rfl _ _ _ rfl w3.heap.size 33 i0 (.agg #[.int .i64 0,.bool false,.slice none 0 0,.slice none 0 0]) 4 Tryz.underlying31 hi hz0 hz1 .i64 .i64 _ _ V rfl rfl ?d4 ?d5 ?d2 ?d3 ?d6 ?_))
 try(case d2=>first|(rw[hz2];omega)|omega)
 try(case d3=>first|omega|(unfold maxLen;omega))
 try(case d4=>first|omega|simp)
 try(case d5=>first|omega|simp)
 try(case d6=>omega)
 intro w4 hown hgrow;have Wd:=(aG.made hown rfl (by omega)).congr (f':=gN) (λi _=>Ej i);have bB:=nL hgrow;have KT:w3.heap.size<w4.heap.size:=Wd.lt;obtain⟨g2,jq⟩:∃g2,g2=w3.heap.size:=⟨_,rfl⟩;rw[<-jq]at Wd KT⊢
 have hs7:g1<g2:=by omega
 have qgM:Hid (Kids (Mx M w.heap.size (g2+1)) w4 D g1 (n+V) P):=(wE.out _).ext bB
 have qgP:Hid (Kids (Mx M w.heap.size (g2+1)) w4 D g2 V (λi=>if V<=i then[]else[])):=(Kids.fresh Wd).congr λi _=>by rw[ah (by omega)];exact af.refl _
 have eX:=ae (dM.out.trans bB);have rG:=ae (lT.out.ext bB);have qhA:=ae (qao.out.ext bB);have HQA:=ae (qjT fI qY.out xn.out Cq.out qw.out yx.out Z0.out Ct.out uT.out);have qgS:Hid (Kids (Mx M w.heap.size (g2+1)) w4 D g1 (n+V) (vC D u r V)):=qgM.out.congr (qvf fI qY.out xn.out Cq.out qw.out yx.out Z0.out Ct.out uT.out);clear qgM;clear jq bB Wd hown hgrow wE dM lT qao Oh Ct Z0 x0 x1 x2 x3 y0 y1 y2 y3 hKe qmw hi hz0 hz1 hz2 KV;have kT:=Kw.out
 have hVB:V<=B+C+1:=by omega
 have hNB:n<=B+C+1:=by omega
 go_wp2
 go_loopw [11] (λi wr=>∃(k:Nat)(R:Nat->List Tm),k<=V/\i=.int .i64 ((k:Int)-1)/\g2<wr.heap.size/\Hid (Kids (Mx M w.heap.size (g2+1)) wr D g1 (n+V) R)/\Hid (Kids (Mx M w.heap.size (g2+1)) wr D g2 V (λi=>if k<=i then iA D u i else[]))/\Hid (∀i,i<n+k->R i=vC D u r k i)/\Hid (Ext w wr)/\Hid (jU w.heap.size x y wr)/\Hid (aG wr (w.heap.size+2) 33 4 (arr zA))) (λi _=>(intOf i+1).toNat)
 case atStart=>exact⟨V,vC D u r V,aI _,by go_num,by omega,qgS,qgP.out.congr λi hi=>by rw[ah (by omega),ah (by omega)];exact af.refl _,λ_ _=>rfl,eX,qhA,rG⟩
 case round=>
  clear qgS qgP eX qhA rG;obtain⟨k,R,hk,rfl,zn,wE,UC,og,cZ,yD,jJ⟩:=hrel
  by_cases iO:k=0
  ·subst iO;have fZ:=qo.out.pow fI
   have hrb:∀i,i<n->bH (B+C) (R i)/\aH (aK (R i))<=A+2+G:=λi hi=>by rw[og.out i (by omega)];exact qjV fI qw.out Gy.out sS.out UU.out UW.out (by omega) i
   have hqb:=Kj fI qw.out Gy.out sS.out;have jD:Mb (Mx M w.heap.size (w.heap.size+3)) wr:=Mx.mb gK.out cZ.out.size (by omega);have qK:eY (Mx M w.heap.size (w.heap.size+3)) wr D (.slice (some ⟨g1,0,none⟩) n (n+V)) n R:=wE.out.pre (λg hg=>.inl (hg.imp id λh=>by omega)) (λhh=>hh.elim (gK.out.new (by omega)) (by omega)) (by omega) (by omega) (by unfold maxLen;omega);have CJ1:=ae (qd5 (S:=B+C) (A:=A+2+G) wr.drew (jD.ext (aA wr).drew) (qK.ext (aA wr).drew) fI (λi hi=>(hrb i hi).1) hNB fZ kT.1 (λi hi=>(hrb i hi).2) (by omega));have CIZ:Hid (∀(z:PE)(W:World),aN (Mx M w.heap.size (w.heap.size+3)) W (D+1) z (aQ (D+1) n R)->Ext wr.drew W->Calls Tryz.prog 72 #[.agg (ak z)] W (λe w'=>∃b:Bool,e=.returned (.bool b)/\(b=true↔af (aQ (D+1) n R) [])/\Ext W w')):=λz W hz he=>Jb _ z _ W ((jD.ext (aA wr).drew).ext he) hz.pi
   have qmu:eY (Mx M w.heap.size (w.heap.size+3)) wr D (.slice (some ⟨g2,0,none⟩) V V) V (iA D u):=(UC.out.pre (λg hg=>.inl (hg.imp id λh=>by omega)) (λhh=>hh.elim (gK.out.new (by omega)) (by omega)) (by omega) (aI _) (by unfold maxLen;omega)).congr λi _=>by rw[ai (bK _)];exact af.refl _
   have CJ2:Hid (∀W,Ext wr W->Calls Tryz.prog 62 #[.slice (some ⟨g2,0,none⟩) V V,.int .i64 ((D:Int)+1)] W (dO (Mx M w.heap.size (w.heap.size+3)) W (D+1) (aQ (D+1) V (iA D u)))):=λW he=>qd5 (S:=B+C) (A:=A) W (jD.ext he) (qmu.ext he) fI (λi hi=>(hqb i).2.1.mono (by omega)) hVB fZ kT.1 (λi hi=>(hqb i).2.2) (by omega)
   have HPZ:Hid (af (aQ (D+1) n R) []):=OM λi hi=>by rw[og.out i (by omega)];exact af.refl _
   have yg:wr.drew.cell? ⟨w.heap.size,0,none⟩=some (.int .i64 ((D:Int)+1)):=by
    have:=yD.out.1.1;rw[Ck.out]at this;exact this
   have CW:=ae yg
   have yf:w.heap.size<wr.drew.heap.size:=by have:=(aA wr).drew.size;omega
   have hwr:w.heap.size+2<wr.heap.size:=by omega
   have oJ:(n:Int)<=(n:Int)+(V:Int):=by omega
   clear hrb hqb fZ jD qK qmu yg og wE UC JR qY yx xn Cq wC qo Kw qw Gy UU UW lU kT
   go_upto_region 28 with(fail)
   refine gB (λw'=>w'.cell? ⟨w.heap.size,0,none⟩=some (.int .i64 ((D:Int)+1))) 7 (by kernel_rfl) CW.out (λhHeld=>?_);((refine Jp 0 (v:=?_) ?_ ?_;rotate_left 1;(intro wS hSw;obtain S1:=hSw;go_simp;try with_reducible rfl);(try simp only[Act.put,aB,aC,aD]));(refine Jp 1 (v:=?_) ?_ ?_;rotate_left 1;(intro wS hSw;obtain S1:=hSw;go_simp;try with_reducible rfl);(try simp only[Act.put,aB,aC,aD]));(refine Jp 2 (v:=?_) ?_ ?_;rotate_left 1;(intro wS hSw;obtain S1:=hSw;go_simp;try with_reducible rfl);(try simp only[Act.put,aB,aC,aD]));(refine Jp 3 (v:=?_) ?_ ?_;rotate_left 1;(intro wS hSw;obtain S1:=hSw;go_simp;try with_reducible rfl);(try simp only[Act.put,aB,aC,aD]));(refine Jp 4 (v:=?_) ?_ ?_;rotate_left 1;(intro wS hSw;obtain S1:=hSw;go_simp;try with_reducible rfl);(try simp only[Act.put,aB,aC,aD])));(refine aO 5 ?_;intro K hK);go_simp;refine CJ1.out.mono ?_;rintro e wz ⟨z,rfl,hz,az⟩;go_wp2_with (fail)
   have ag:wz.cell? ⟨w.heap.size,0,none⟩=some (.int .i64 ((D:Int)+1)):=by rw[az.cell yf];exact hHeld
   refine hK.out _ _ (λ_=>ag) ?_;clear hK K;(try simp only[Act.put,aB,aC,aD]);(refine aO 6 ?_;intro K hK);go_simp;refine(CIZ.out z wz hz az).mono ?_;rintro e uN ⟨bz,rfl,tJ,aJ⟩;go_wp2_with (fail)
   have Dz:uN.cell? ⟨w.heap.size,0,none⟩=some (.int .i64 ((D:Int)+1)):=by rw[aJ.cell (dH yf az.size)];exact ag
   clear ag;refine hK.out _ _ (λ_=>Dz) ?_;clear hK K;(try simp only[Act.put,aB,aC,aD]);((refine aO 7 ?_;intro K hK);go_simp;(refine hK.out _ _ (λh=>absurd rfl h) ?_);clear hK K;refine dX ?_);have bg:=(aA wr).drew.trans (az.trans aJ);have QU:=jJ.out.ext bg;have hEz:=cZ.out.trans bg
   have lC:w.heap.size+2<uN.heap.size:=by have:=bg.size;omega
   cases bz with
   |false=>exact absurd (tJ.2 HPZ.out) (by simp)
   |true=>
    have CT:=ae (CJ2.out uN bg);have kF:=ae QU;have Pt:=ae hEz;clear hHeld HPZ CJ1 CJ2 CIZ hz az aJ bg QU hEz tJ CW cZ yD jJ;go_wp2_with (fail);refine CT.out.mono ?_;rintro e w5 ⟨v,rfl,hv,bn⟩;obtain⟨⟨q0,q1,q2,q3⟩,⟨f0,f1,f2,f3⟩,⟨r0,r1,r2,r3⟩,HF⟩:=iF (M:=M) (w:=w) (kF.out.ext bn) (Mx.at (by omega)) (by omega) (Pt.out.trans bn) (hv.dh HQA.out) Mx.sub;have dI:=ae (HF.QG uT.out sS.out);clear HF bn hv CT Dz HQA uT sS kF Pt;go_wp2;exact bu (v:=.tuple #[.agg (ak v),.bool true]) (by simp[results,Tryz.results67,go_sem,r0,r1,r2,r3]) rfl dI.out
  ·obtain⟨k,rfl⟩:∃k',k=k'+1:=⟨k-1,by omega⟩
   have DZ:n+k<n+V:=by omega
   have kS:k<V:=by omega
   obtain⟨d,hd1,tK⟩:=wE.out.cells (n+k) DZ;obtain⟨fF,fw⟩:=JR.out n (Nat.lt_succ_self n);have jE:b2<wr.heap.size:=dH jR cZ.out.size;have qht:Hid (Dc (w.heap.size+1) (.slice (some ⟨b2,vO,none⟩) (n+1) y.kp) g1 ((n+k)*4) d b2 (vO+n*4) (yy n) wr.drew):=Dc.ext ⟨by have:=yD.out.2.2.2.2;rw[PG.out,HN.out]at this;exact this,hd1,fF.ext jR cZ.out⟩ (by omega) (by omega) jE (aA wr).drew;have hw1:IntKind.i64.wrap ((n:Int)+(k:Int))=(n:Int)+(k:Int):=IntWalk.i64_in _ (by omega)
   have iQ:(0:Int)<=(n:Int)+(k:Int):=by omega
   have lC:((n:Int)+(k:Int)).toNat=n+k:=by omega
   have IC:(n:Int)+(k:Int)<((n+V:Nat):Int):=by omega
   have FN:(n:Int)<(n:Int)+1:=by omega
   have Q6:Mb (Mx M w.heap.size (g2+1)) wr:=Mx.mb gK.out cZ.out.size (by omega)
   have yt:Hid (∀(M':Nat->Prop) W,Mb M' W->(∀g,M' g->Mx M w.heap.size (g2+1) g\/wr.heap.size<=g)->Ext wr W->Calls Tryz.prog 67 #[.agg (ak d),.agg (ak (yy n))] W (yK M' W D (R (n+k)) (Gk n) A)):=λM' W Ku xW he=>by
    have hq:=Kj fI qw.out Gy.out sS.out k;exact lU.out M' (R (n+k)) (Gk n) (iA D u k) d (yy n) W Ku ((tK.more xW).ext he) (((fw.up (show D<=4 by omega)).more (M':=M') λg hg=>(xW g hg).elim (λh=>h.elim .inl λh=>.inr h.1) λh=>.inr (aR cZ.out.size h)).ext (cZ.out.trans he)) yx.out hq.1 (by rw[og.out (n+k) (by omega)];exact qjW fI qY.out xn.out Cq.out qw.out k) hq.2.1 hq.2.2 (wC.out n (Nat.lt_succ_self n)).1 (wC.out n (Nat.lt_succ_self n)).2
   have qat:Hid (af (aF (iA D u k) (Gk n)) (R (n+k))):=by show af _ _;rw[og.out (n+k) (by omega)];exact qjW fI qY.out xn.out Cq.out qw.out k
   go_upto_region 19 with(fail)
   rw[show(((k+1:Nat):Int)-1)=(k:Int) by omega]
   go_cut [12,13]from 84 to 98 (qfQ (Mx M w.heap.size (g2+1)) wr.drew D (R (n+k)) (Gk n) A)
   case first=>
    refine gB (Dc (w.heap.size+1) (.slice (some ⟨b2,vO,none⟩) (n+1) y.kp) g1 ((n+k)*4) d b2 (vO+n*4) (yy n)) 17 (by kernel_rfl) qht.out (λhHeld=>?_);have bI:Ext wr wr.drew:=(aA wr).drew;have yZ:Mb (Mx M w.heap.size (g2+1)) wr.drew:=Q6.ext bI
    have hz1:w.heap.size+1<wr.drew.heap.size:=by have:=bI.size;omega
    have hz2:g1<wr.drew.heap.size:=by have:=bI.size;omega
    have vN:b2<wr.drew.heap.size:=by have:=bI.size;omega
    have hsd:wr.heap.size<=wr.drew.heap.size:=bI.size;generalize wr.drew=wd at*;(refine cB [0,1,2,3,4,5,6,7,8,9,10] ?_;(iterate 11 (refine bZ (v:=?_) ?_ ?_;rotate_left 1;(intro wS hSw;obtain⟨S0,⟨S1,S2,S3,S4⟩,S5,S6,S7,S8⟩:=hSw;go_simp;try with_reducible rfl);(try simp only[Act.put,aB,aC,aD])));refine cK ?_);(refine pI 11 15 (oi:=?_) (oj:=?_) (by kernel_rfl) ?_ ?_ ?_ ?_;rotate_left 2;(simp only[fC,fD,fE];rfl);(simp only[fC,fD,fE];rfl);all_goals intro K hK)
    ·go_simp;refine(yt.out (Mx M w.heap.size (g2+1)) wd yZ (λg hg=>.inl hg) bI).mono ?_;rintro e wz ⟨v,ok,rfl,hR,az⟩;go_wp2_with (fail);have ag:=hHeld.ext hz1 hz2 vN az;refine hK.out _ _ (λ_=>ag) ?_;clear hK K;(try simp only[Act.put,aB,aC,aD]);(refine cB [12,13,14] ?_;(iterate 3 (refine bZ (v:=?_) ?_ ?_;rotate_left 1;(intro wS hSw;obtain⟨S0,⟨S1,S2,S3,S4⟩,S5,S6,S7,S8⟩:=hSw;go_simp;try with_reducible rfl);(try simp only[Act.put,aB,aC,aD])));refine cK ?_);(refine aO 15 ?_;intro K hK);go_simp;have Dz:=ag.ext (dH hz1 az.size) (dH hz2 az.size) (dH vN az.size) ((aA wz).alloc (.cells zA 33));have Bd:=ag.ext (dH hz1 az.size) (dH hz2 az.size) (dH vN az.size) ((aA wz).alloc (.cells (ak v) 33));clear ag;refine hK.out _ _ (λ_=>Dz) ?_;clear hK K;(try simp only[Act.put,aB,aC,aD]);(refine aO 16 ?_;intro K hK);go_simp;refine hK.out _ _ (λ_=>Bd) ?_;clear hK K;(try simp only[Act.put,aB,aC,aD]);((refine aO 17 ?_;intro K hK);go_simp;(refine hK.out _ _ (λh=>absurd rfl h) ?_);clear hK K;refine dX ?_);go_wp2_with (fail)
     go_meet
     exact⟨wz.heap.size,v,ok,rfl,rfl,(aG.bq wz (ak v) 33 4 rfl).p4,by simp,az.size,hR.ext ((aA wz).alloc _),az.alloc _⟩
    ·go_simp;have tu:Ext wd (wd.alloc (.cells zA 33)):=(aA _).alloc _;have Nz:=aG.bq wd zA 33 4 rfl;have ag:=hHeld.ext hz1 hz2 vN tu;refine hK.out _ _ (λ_=>ag) ?_;clear hK K;(try simp only[Act.put,aB,aC,aD]);(refine aO 11 ?_;intro K hK);go_simp;refine(yt.out (λg=>Mx M w.heap.size (g2+1) g\/g=wd.heap.size) _ (λg hg=>hg.elim (λh=>dH (yZ g h) tu.size) (λh=>by rw[h];exact Nz.lt)) (λg hg=>hg.imp id (λh=>by rw[h];exact hsd)) (bI.trans tu)).mono ?_;rintro e wz ⟨v,ok,rfl,hR,az⟩;go_wp2_with (fail);clear ag;have ag:=hHeld.ext hz1 hz2 vN (tu.trans az);refine hK.out _ _ (λ_=>ag) ?_;clear hK K;(try simp only[Act.put,aB,aC,aD]);(refine cB [12,13,14] ?_;(iterate 3 (refine bZ (v:=?_) ?_ ?_;rotate_left 1;(intro wS hSw;obtain⟨S0,⟨S1,S2,S3,S4⟩,S5,S6,S7,S8⟩:=hSw;go_simp;try with_reducible rfl);(try simp only[Act.put,aB,aC,aD])));refine cK ?_);obtain⟨⟨q0,q1,q2,q3⟩,⟨f0,f1,f2,f3⟩,zw,bD,eO⟩:=AR (M':=λg=>Mx M w.heap.size (g2+1) g\/g=wd.heap.size) (w:=wd) (.int .i64 v.lv) (.bool v.b) (.slice v.a v.n v.p) (.slice v.ka v.kn v.kp) (Nz.ext az) (.inr rfl) (aI _) (tu.trans az);simp only[arr]at q0 q1 q2 q3;(refine aO 16 ?_;intro K hK);go_simp;have Bd:=hHeld.ext hz1 hz2 vN eO;clear ag;refine hK.out _ _ (λ_=>Bd) ?_;clear hK K;(try simp only[Act.put,aB,aC,aD]);((refine aO 17 ?_;intro K hK);go_simp;(refine hK.out _ _ (λh=>absurd rfl h) ?_);clear hK K;refine dX ?_)
     go_wp2_with (fail)
     go_meet
     exact⟨wd.heap.size,v,ok,rfl,rfl,zw,Nat.lt_of_lt_of_eq (dH Nz.lt az.size) (nW _ _ _ _ _ _ _).symm,aI _,(hR.kp bD).more (λg hg=>.inl (.inl hg)),eO⟩
   case rest=>
    obtain⟨gc,v,ok,rfl,rfl,hv,Rs,Bo,hR,Rk⟩:=hcut;have bn:Ext wr wc:=(aA wr).drew.trans Rk;have qEi:wr.heap.size<=gc:=Bo;have hsc:=bn.size;have Jv:=ae bn;have lX:=ae hR;have HV:=ae hv;have qg:=ae (jJ.out.ext bn);have HSC:=ae (yD.out.ext bn);have JQ:=ae (cZ.out.trans bn);clear hR hv Rk bn Bo hw1 iQ lC IC FN qht yt hd1 tK fF fw Q6 DZ
    cases ok with
    |false=>
     exact absurd ⟨_,(Kj fI qw.out Gy.out sS.out k).1,qat.out⟩ (lX.out.2 rfl)
    |true=>
     obtain⟨qq,hq1,hq2,xZ⟩:=lX.out.1 rfl;have x8:=Kj fI qw.out Gy.out sS.out k;have RS:af qq (iA D u k):=Lj hq1.nn x8.1 (JR.out n (Nat.lt_succ_self n)).2.nn yx.out (hq2.trans qat.out.symm);replace hq1:=hq1.dh RS;clear hq2 xZ RS;obtain⟨v0,v1,v2,v3⟩:=HV.out;have fo:=UC.out.ext Jv.out;obtain⟨⟨_,k0⟩,⟨_,k1⟩,⟨_,k2⟩,⟨_,k3⟩,bA,nO⟩:=fo.at k kS;have fV:=bA (k*4);have fP:=bA (k*4+1);have iU:=bA (k*4+2);have p9:=bA (k*4+3);have bD:Kp (Mx M w.heap.size (g2+1)) wc (aM wc g2 (k*4) (.int .i64 v.lv) (.bool v.b) (.slice v.a v.n v.p) (.slice v.ka v.kn v.kp)):=Kp.aM (Mx.at (by omega)) _ _ _ _ _;have xY:∀g,g≠g2->(aM wc g2 (k*4) (.int .i64 v.lv) (.bool v.b) (.slice v.a v.n v.p) (.slice v.ka v.kn v.kp)).heap[g]?=wc.heap[g]?:=λg hg=>iI _ _ _ _ _ _ _ _ hg
     have qgQ:Hid (Kids (Mx M w.heap.size (g2+1)) (aM wc g2 (k*4) (.int .i64 v.lv) (.bool v.b) (.slice v.a v.n v.p) (.slice v.ka v.kn v.kp)) D g2 V (λi=>if k<=i then iA D u i else[])):=(fo.set (Mx.at (by omega)) k kS hq1).congr λi _=>by
      by_cases iq:i=k
      ·rw[ai iq,ai (by omega),iq];exact af.refl _
      ·rw[ah iq]
       by_cases h3:k+1<=i
       ·rw[ai h3,ai (by omega)];exact af.refl _
       ·rw[ah h3,ah (by omega)];exact af.refl _
     have qgR:Hid (Kids (Mx M w.heap.size (g2+1)) (aM wc g2 (k*4) (.int .i64 v.lv) (.bool v.b) (.slice v.a v.n v.p) (.slice v.ka v.kn v.kp)) D g1 (n+V) (rj k (iA D u k) Gk R 0)):=((wE.out.ext Jv.out).kp (xY g1 (by omega)) bD).congr λi _=>by rw[qAO];exact af.refl _
     have qf9:=ae (hq1.kp bD);have sU:Hid (P4 (aM wc g2 (k*4) (.int .i64 v.lv) (.bool v.b) (.slice v.a v.n v.p) (.slice v.ka v.kn v.kp)) gc v):=sH HV.out (xY gc (by omega));have fT:Hid (Ext w (aM wc g2 (k*4) (.int .i64 v.lv) (.bool v.b) (.slice v.a v.n v.p) (.slice v.ka v.kn v.kp))):=JQ.out.aM (by omega) _ _ _ _ _;have qz:Hid (jU w.heap.size x y (aM wc g2 (k*4) (.int .i64 v.lv) (.bool v.b) (.slice v.a v.n v.p) (.slice v.ka v.kn v.kp))):=⟨sH HSC.out.1 (xY _ (by omega)),sH HSC.out.2 (xY _ (by omega))⟩;have oU:Hid (aG (aM wc g2 (k*4) (.int .i64 v.lv) (.bool v.b) (.slice v.a v.n v.p) (.slice v.ka v.kn v.kp)) (w.heap.size+2) 33 4 (arr zA)):=qg.out.of_heap (xY _ (by omega));have qhG:Hid ((aM wc g2 (k*4) (.int .i64 v.lv) (.bool v.b) (.slice v.a v.n v.p) (.slice v.ka v.kn v.kp)).heap.size=wc.heap.size):=nW _ _ _ _ _ _ _;have HQF:Hid (NN (iA D u k)/\aH (aK (iA D u k))<=A):=⟨x8.1,x8.2.2⟩
     have lC:g2<wc.heap.size:=by omega
     have hbc:b2<wc.heap.size:=by omega
     have PS:Hid (bH B (iA D u k)):=x8.2.1;clear fo bA hq1 x8 bD xY qat UC wE lX HV HSC JQ qg Jv cZ yD jJ;go_wp2
     go_loopw [107] (λi uM=>∃j:Nat,j<=n/\i=.int .i64 j/\wc.heap.size<=uM.heap.size/\Hid (Kids (Mx M w.heap.size (g2+1)) uM D g1 (n+V) (rj k (iA D u k) Gk R j))/\Hid (Kids (Mx M w.heap.size (g2+1)) uM D g2 V (λi=>if k<=i then iA D u i else[]))/\Hid (aN (Mx M w.heap.size (g2+1)) uM D v (iA D u k))/\Hid (P4 uM gc v)/\Hid (Ext w uM)/\Hid (jU w.heap.size x y uM)/\Hid (aG uM (w.heap.size+2) 33 4 (arr zA))) (λi _=>n-(intOf i).toNat)
     case atStart=>exact⟨0,bK _,rfl,Nat.le_of_eq qhG.out.symm,qgR,qgQ,qf9,sU,fT,qz,oU⟩
     case round=>
      clear qgR qgQ qf9 sU fT qz oU qhG k0 k1 k2 k3 fV fP iU p9 v0 v1 v2 v3 nO;obtain⟨j,hj,rfl,hsi,PH,ZM,Po,Va,L8,PX,Zk⟩:=hrel
      by_cases Rv:j<n
      ·have qw5:(j:Int)<n:=by omega
       obtain⟨d2,hd1,tK⟩:=PH.out.cells (k+j) (by omega);rw[qAM]at tK;obtain⟨fF,fw⟩:=JR.out j (by omega);have qst:Hid (EN (w.heap.size+1) (.slice (some ⟨b2,vO,none⟩) (n+1) y.kp) g1 ((k+j)*4) d2 b2 (vO+j*4) (yy j) gc v wr.drew):=EN.ext ⟨by have:=PX.out.2.2.2.2;rw[PG.out,HN.out]at this;exact this,hd1,fF.ext jR L8.out,Va.out⟩ (by omega) (by omega) (by omega) (by omega) (aA wr).drew;have hw1:IntKind.i64.wrap ((j:Int)+(k:Int))=(j:Int)+(k:Int):=IntWalk.i64_in _ (by omega)
       have iQ:(0:Int)<=(j:Int)+(k:Int):=by omega
       have lC:((j:Int)+(k:Int)).toNat=k+j:=by omega
       have IC:(j:Int)+(k:Int)<(n:Int)+(V:Int):=by omega
       have FN:(j:Int)<(n:Int)+1:=by omega
       have hMi:Mb (Mx M w.heap.size (g2+1)) wr.drew:=Mx.mb gK.out (L8.out.trans (aA wr).drew).size (by have:=(aA wr).drew.size;omega);have jF:=wC.out j (by omega);have hqf:=HQF.out;have Og:=hqf.2;have fA:=jF.2
       have jZ:aH (aK (R (k+j)))<=A+2+G:=by rw[og.out (k+j) (by omega)];exact(qjV fI qw.out Gy.out sS.out UU.out UW.out (by omega) _).2
       have hn3:=qo.out.n3
       have hpn:aH (aK (aF (iA D u k) (Gk j)))<=aH (aK (iA D u k))+aH (aK (Gk j)):=by rw[zL];exact pQ _ _
       have hsn:aH (aK (R (k+j)++dN (aF (iA D u k) (Gk j))))<=max (aH (aK (R (k+j)))) (aH (aK (aF (iA D u k) (Gk j))))+1:=by rw[lN,qea];exact Nl _ _
       have CM:=ae (Tv (Mx M w.heap.size (g2+1)) v (yy j) (iA D u k) (Gk j) B C wr.drew hMi ((Po.out.ext (aA wr).drew).pi) (((fw.more (Mx.more (aI _))).ext (L8.out.trans (aA wr).drew)).pi) (by omega) PS.out jF.1 (aR (eB _ (by omega)) hn3));have CS:Hid (∀(z:PE)(W:World),aN (Mx M w.heap.size (g2+1)) W 4 z (aF (iA D u k) (Gk j))->Ext wr.drew W->Calls Tryz.prog 38 #[.agg (ak d2),.agg (ak z)] W (dO (Mx M w.heap.size (g2+1)) W 4 (R (k+j)++dN (aF (iA D u k) (Gk j))))):=λz W hz he=>qeG (Mx M w.heap.size (g2+1)) d2 z (R (k+j)) (aF (iA D u k) (Gk j)) (B+C) W (hMi.ext he) ((tK.ext ((aA wr).drew.trans he)).pi) hz.pi (show aH (aK (R (k+j)++dN (aF (iA D u k) (Gk j))))<=1099511627776 by omega) (by omega) ((bH.aF PS.out jF.1 hqf.1).mono (by omega)) (by omega);obtain⟨TR,qlr,qls⟩:=tK.qd1;obtain⟨TQ,qlp,qlq⟩:=Po.out.qd1;obtain⟨TG,qln,qlo⟩:=fw.qd1;have CD:Hid (∀(z:PE)(W:World),aN (Mx M w.heap.size (g2+1)) W 4 z (R (k+j)++dN (aF (iA D u k) (Gk j)))->aN (Mx M w.heap.size (g2+1)) W D z (R (k+j)++dN (aF (iA D u k) (Gk j)))):=λz W hz=>hz.down (qlr.append ((qlp.aF qln).oC _)) (qls.append ((qlq.aF qlo).aF (qyZ D (-1))))
       have IM:w.heap.size+1<wr.drew.heap.size/\g1<wr.drew.heap.size/\b2<wr.drew.heap.size/\gc<wr.drew.heap.size:=by have:=(aA wr).drew.size;omega
       clear hpn hsn Og fA jZ hqf hn3 jF hMi qlr qls qlp qlq qln qlo fF fw hd1 tK
       go_upto_region 26 with(fail)
       refine gB (EN (w.heap.size+1) (.slice (some ⟨b2,vO,none⟩) (n+1) y.kp) g1 ((k+j)*4) d2 b2 (vO+j*4) (yy j) gc v) 19 (by kernel_rfl) qst.out (λhHeld=>?_);obtain⟨hz1,hz2,vN,FP⟩:=IM;(refine cB [0,1,2,3,4,5,6,7,8,9,10,11,12,13,14,15] ?_;(iterate 16 (refine bZ (v:=?_) ?_ ?_;rotate_left 1;(intro wS hSw;obtain⟨S0,⟨S1,S2,S3,S4⟩,⟨S5,S6,S7,S8⟩,S9,rM,uW,uX⟩:=hSw;go_simp;try with_reducible rfl);(try simp only[Act.put,aB,aC,aD])));refine cK ?_);(refine aO 16 ?_;intro K hK);go_simp;refine CM.out.mono ?_;rintro e wz ⟨z,rfl,hz,az⟩;go_wp2_with (fail);have ag:=hHeld.ext hz1 hz2 vN FP az;refine hK.out _ _ (λ_=>ag) ?_;clear hK K;(try simp only[Act.put,aB,aC,aD]);(refine aO 17 ?_;intro K hK);go_simp;refine(CS.out z wz hz az).mono ?_;rintro e uN ⟨z2,rfl,hy,aJ⟩;go_wp2_with (fail);clear ag;have ag:=hHeld.ext hz1 hz2 vN FP (az.trans aJ);refine hK.out _ _ (λ_=>ag) ?_;clear hK K;(try simp only[Act.put,aB,aC,aD]);(refine cB [18] ?_;(iterate 1 (refine bZ (v:=?_) ?_ ?_;rotate_left 1;(intro wS hSw;obtain⟨S0,⟨S1,S2,S3,S4⟩,⟨S5,S6,S7,S8⟩,S9,rM,uW,uX⟩:=hSw;go_simp;try with_reducible rfl);(try simp only[Act.put,aB,aC,aD])));refine cK ?_);have bg:=az.trans aJ;have hKi:=PH.out.ext ((aA wr).drew.trans bg);obtain⟨⟨_,k0⟩,⟨_,k1⟩,⟨_,k2⟩,⟨_,k3⟩,bA,nO⟩:=hKi.at (k+j) (by omega);have fV:=bA ((k+j)*4)
       have fP:=bA ((k+j)*4+1);have iU:=bA ((k+j)*4+2);have p9:=bA ((k+j)*4+3);((refine aO 19 ?_;intro K hK);go_simp;(refine hK.out _ _ (λh=>absurd rfl h) ?_);clear hK K;refine dX ?_);have bD:Kp (Mx M w.heap.size (g2+1)) uN (aM uN g1 ((k+j)*4) (.int .i64 z2.lv) (.bool z2.b) (.slice z2.a z2.n z2.p) (.slice z2.ka z2.kn z2.kp)):=Kp.aM (Mx.at (by omega)) _ _ _ _ _;have xY:∀g,g≠g1->(aM uN g1 ((k+j)*4) (.int .i64 z2.lv) (.bool z2.b) (.slice z2.a z2.n z2.p) (.slice z2.ka z2.kn z2.kp)).heap[g]?=uN.heap[g]?:=λg hg=>iI _ _ _ _ _ _ _ _ hg;have BG:=(aA wr).drew.trans bg
       have qrR:Hid (Kids (Mx M w.heap.size (g2+1)) (aM uN g1 ((k+j)*4) (.int .i64 z2.lv) (.bool z2.b) (.slice z2.a z2.n z2.p) (.slice z2.ka z2.kn z2.kp)) D g1 (n+V) (rj k (iA D u k) Gk R (j+1))):=(hKi.set (Mx.at (by omega)) (k+j) (by omega) (CD.out z2 uN hy)).congr λi _=>by rw[qAN];exact af.refl _
       have qrQ:Hid (Kids (Mx M w.heap.size (g2+1)) (aM uN g1 ((k+j)*4) (.int .i64 z2.lv) (.bool z2.b) (.slice z2.a z2.n z2.p) (.slice z2.ka z2.kn z2.kp)) D g2 V (λi=>if k<=i then iA D u i else[])):=(ZM.out.ext BG).kp (xY g2 (by omega)) bD;have qrs:=ae ((Po.out.ext BG).kp bD);have U9:Hid (P4 (aM uN g1 ((k+j)*4) (.int .i64 z2.lv) (.bool z2.b) (.slice z2.a z2.n z2.p) (.slice z2.ka z2.kn z2.kp)) gc v):=sH (Va.out.ext BG) (xY gc (by omega));have ni:Hid (Ext w (aM uN g1 ((k+j)*4) (.int .i64 z2.lv) (.bool z2.b) (.slice z2.a z2.n z2.p) (.slice z2.ka z2.kn z2.kp))):=(L8.out.trans BG).aM (by omega) _ _ _ _ _;have HS7:Hid (jU w.heap.size x y (aM uN g1 ((k+j)*4) (.int .i64 z2.lv) (.bool z2.b) (.slice z2.a z2.n z2.p) (.slice z2.ka z2.kn z2.kp))):=⟨sH (PX.out.1.ext BG) (xY _ (by omega)),sH (PX.out.2.ext BG) (xY _ (by omega))⟩;have Zd:Hid (aG (aM uN g1 ((k+j)*4) (.int .i64 z2.lv) (.bool z2.b) (.slice z2.a z2.n z2.p) (.slice z2.ka z2.kn z2.kp)) (w.heap.size+2) 33 4 (arr zA)):=(Zk.out.ext BG).of_heap (xY _ (by omega))
       have qsB:Hid (wc.heap.size<=(aM uN g1 ((k+j)*4) (.int .i64 z2.lv) (.bool z2.b) (.slice z2.a z2.n z2.p) (.slice z2.ka z2.kn z2.kp)).heap.size):=by show _<=_;rw[nW];have:=BG.size;omega
       clear hKi bA ag az aJ bg BG hy hz bD xY PH ZM Po Va L8 PX Zk hHeld;go_wp2
       go_roundw
       case rel=>exact⟨j+1,by omega,by go_num,qsB.out,qrR,qrQ,qrs,U9,ni,HS7,Zd⟩
       case measure=>simp[intOf];omega
      ·have hje:j=n:=by omega
       have qw5:¬((j:Int)<n):=by omega
       obtain⟨RN,hRN⟩:∃RN:Nat->List Tm,RN=λi=>if i<n+k then vC D u r k i else rj k (iA D u k) Gk R n i:=⟨_,rfl⟩
       have UD:Hid (Kids (Mx M w.heap.size (g2+1)) wr D g1 (n+V) RN):=PH.out.congr λi _=>by
        rw[hje,hRN]
        by_cases hi:i<n+k
        ·simp only[ai hi];have h9:=qve fI qY.out xn.out Cq.out qw.out k (af.refl (iA D u k)) i hi;refine af.trans ?_ h9;unfold rj;rw[og.out i (by omega)];exact af.refl _
        ·simp only[ah hi];exact af.refl _
       have qrC:Hid (∀i,i<n+k->RN i=vC D u r k i):=λi hi=>by rw[hRN];exact ai hi
       clear hRN
       have qwS:g2<wr.heap.size:=by omega
       clear hje PH og PS HQF Po Va;go_wp2
       go_roundw
       case rel=>exact⟨k,RN,by omega,by go_num,qwS,UD,ZM,qrC,L8,PX,Zk⟩
       case measure=>(simp[intOf];try omega)
theorem qvl(B A C G L:Nat)(xN:L<=4)(hN:EM B A C G)(ih:∀E,E<L->Pe B A C G E):Pe B A C G L:=by
 intro M l r u x y w hM h hy hz nu hu hB hA hC hG;have Ii:=h.mq;have N9:=hy.mq
 by_cases qdB:0<x.lv/\y.lv=x.lv
 ·obtain⟨E,hE⟩:∃E:Nat,x.lv=(E:Int)+1:=⟨x.lv.toNat-1,by omega⟩;exact(qvk B A C G E (by omega) hN (ih E (by omega)) M l r u x y w hM (CR.OP h (by omega)) hE hy qdB.2 hz nu hu hB hA hC hG).mono λe w' hp=>hp.mono (by omega) (aI _)
 obtain⟨aV,ky,vJ,bL,dD⟩:=yN hM x y;have CZ:=ae (Jb _ x l _ dD (((h.more (M':=Mx M w.heap.size (w.heap.size+3)) (Mx.more (aI _))).ext aV).pi));obtain⟨x0,x1,x2,x3⟩:=ky;obtain⟨y0,y1,y2,y3⟩:=vJ
 have jT:w.heap.size+3=((((w.alloc (.cells (ak x) 33)).alloc (.cells (ak y) 33)).alloc (.cells zA 33))).heap.size:=by simp
 generalize hW:((w.alloc (.cells (ak x) 33)).alloc (.cells (ak y) 33)).alloc (.cells zA 33)=W at*;have HW:=ae hW;have HE:=ae aV;have HS:Hid (jU w.heap.size x y W):=⟨⟨x0,x1,x2,x3⟩,⟨y0,y1,y2,y3⟩⟩;have dY:=ae bL;have gK:=ae hM;have Gw:=ae qdB;have HH:=ae h;have HY:=ae hy;have HZ:=ae hz;have Gd:=ae hB;have Cf:=ae hC;have qw:=ae nu;have uT:=ae hu;have sS:=ae hA;have qo:=ae hN
 have hAD:aH (aK (aF u r))<=A+G:=by rw[zL];exact aR (pQ _ _) (Nat.add_le_add hA hG)
 have HAD:=ae hAD;have xX:=hN.n4;have wC:=ae hG;have lU:=ae ih;clear aV bL dD h hy hz hB hC hA hG hN nu hu hAD hW hM qdB ih
 go_enter Tryz.func67,Tryz.ntmps67
 go_upto_region 1 with(fail)
 rw[HW.out];go_wp2_with (fail);refine CZ.out.mono ?_;rintro e w1 ⟨bz,rfl,tJ,az⟩;have aS:=ae (HE.out.trans az);have fU:=ae (HS.out.ext az);have dF:=ae (dY.out.ext az)
 have eU:w.heap.size+3<=w1.heap.size:=by have:=az.size;omega
 have kF:=ae tJ;clear x0 x1 x2 x3 y0 y1 y2 y3 HE HS dY HW az tJ CZ;obtain⟨⟨x0,x1,x2,x3⟩,⟨y0,y1,y2,y3⟩⟩:=fU.out
 have iQ:w.heap.size+2<w1.heap.size:=by omega
 have hks:W.heap.size=w.heap.size+3:=jT.symm;clear jT
 cases bz with
 |true=>
  obtain⟨⟨q0,q1,q2,q3⟩,⟨f0,f1,f2,f3⟩,⟨r0,r1,r2,r3⟩,HF⟩:=iF (M:=M) (M':=Mx M w.heap.size (w.heap.size+3)) (w:=w) (L:=L) (l:=[]) (y:=PE.z) dF.out (Mx.at (by omega)) (by omega) aS.out (CR.zero _ _ L) Mx.sub;have dI:=ae (HF.QG (r:=r) (l:=l) (A:=A) (kF.out.1 rfl).symm (show aH 0<=A from bK _));simp only[PE.z]at r0 r1 r2 r3;clear HF kF HH HY HZ Gd Cf HAD wC qo qw uT sS lU Gw fU dF aS;go_wp2;exact bu (v:=.tuple #[.agg (ak PE.z),.bool true]) (by simp[results,Tryz.results67,go_sem,r0,r1,r2,r3,PE.z]) rfl dI.out
 |false=>
  have PL:Hid (¬af l []):=λhh=>by have:=kF.out.2 hh;cases this
  by_cases hlt:x.lv<y.lv
  ·have EA:Hid (¬Dv r l):=by
    obtain⟨D,b2,vO,Gk,qmC,l7,_,_,_,_,qmL,_,_,_,_,_,Ih,D5,D9,_,_⟩:=HY.out.node (by omega);obtain⟨T,KA,wO⟩:=HH.out.qd2;obtain⟨n,hn⟩:∃n,y.kn=n+1:=⟨y.kn-1,by omega⟩;rw[hn]at Ih D9 D5;rw[Nat.add_sub_cancel]at D5;exactλhd=>quT l7 (by omega) Ih D5 (NN.dh HY.out.nn D9.symm) (λt ht=>wO t ht (D+1) (by omega) l7) (λhh=>PL.out (KA.symm.trans hh)) (hd.dh D9.symm KA.symm)
   obtain⟨⟨q0,q1,q2,q3⟩,⟨f0,f1,f2,f3⟩,⟨r0,r1,r2,r3⟩,HF⟩:=iF (M:=M) (M':=Mx M w.heap.size (w.heap.size+3)) (w:=w) (L:=0) (l:=[]) (y:=PE.z) dF.out (Mx.at (by omega)) (by omega) aS.out (CR.zero _ _ 0) Mx.sub;have dI:=ae (HF.V4 (L:=L) (A:=A) EA.out);simp only[PE.z]at r0 r1 r2 r3;clear HF EA kF HH HY HZ Gd Cf HAD wC qo qw uT sS lU Gw fU dF aS;go_wp2;exact bu (v:=.tuple #[.agg (ak PE.z),.bool false]) (by simp[results,Tryz.results67,go_sem,r0,r1,r2,r3,PE.z]) rfl dI.out
  ·by_cases h0:x.lv=0
   ·have tO:y.lv=0:=by omega
    obtain⟨zl,qnI,_,qnJ⟩:=HH.out.val;obtain⟨zr,qnK,_,qnL⟩:=HY.out.val;obtain⟨Sm,_⟩:=qnJ h0;obtain⟨Sn,_⟩:=qnL tO;have Xz:zr≠0:=λhh=>HZ.out (Sn.symm.trans (λm=>by rw[hh];simp[aL]))
    have rY:zl=aL (aF u r) Mo.zero:=by have:=Sm Mo.zero;rw[uT.out Mo.zero];simpa[aL]using this
    have hzd:aH zl.natAbs<=A+G:=aR (jB (by rw[rY];exact qiY (aF u r) Mo.zero)) HAD.out;have jQ:Mb (Mx M w.heap.size (w.heap.size+3)) w1:=Mx.mb gK.out aS.out.size (by omega);have CE:=ae (quQ (M:=Mx M w.heap.size (w.heap.size+3)) x.b x.a x.n x.p zl y.b y.a y.n y.p zr w1 jQ ((qnI.more (Mx.more (aI _))).ext aS.out) ((qnK.more (Mx.more (aI _))).ext aS.out) Xz (by omega));have og:Hid (Dv r l↔zl.tmod zr=0):=⟨λhd=>(qjy Xz).1 (hd.dh Sn.symm Sm.symm),λhh=>((qjy Xz).2 hh).dh Sn Sm⟩
    have HTD:Hid (zl.tmod zr=0->af (aF [(zl.tdiv zr,Mo.zero)] r) l):=λhh=>by
     have:=Int.tdiv_mul_cancel (Int.dvd_of_tmod_eq_zero hh);refine(Sn.symm.sI _).trans (af.trans (λm=>?_) Sm);simp[aF,shift,smul,aL,Mo.add_zero',this]
    have HQU:Hid (zl.tmod zr=0->af [(zl.tdiv zr,Mo.zero)] u):=λhh=>Lj (oM _) qw.out HY.out.nn HZ.out ((HTD.out hh).trans uT.out.symm);have qv1:=ae jQ;rw[h0]at x0;rw[tO]at y0;clear qnI qnJ qnK qnL Sm Sn rY hzd jQ HH HY HZ Gd Cf HAD wC qo qw lU Gw kF PL hlt h0 tO Ii N9 Xz xX;go_wp2_with (fail);refine CE.out.mono ?_;rintro e w2 ⟨cb,ca,cn,cp,er,rfl,fZ,hno,aJ⟩
    have H5:∃cz,ek (Mx M w.heap.size (w.heap.size+3)) w2 (.bool cb) (.slice ca cn cp) cz/\((er=0/\zl.tmod zr=0/\cz=zl.tdiv zr)\/(er=3/\zl.tmod zr≠0)):=by
     by_cases hd:zl.tmod zr=0
     ·exact⟨_,(fZ hd).2,.inl ⟨(fZ hd).1,hd,rfl⟩⟩
     ·exact⟨_,(hno hd).2,.inr ⟨(hno hd).1,hd⟩⟩
    obtain⟨cz,fF,fw⟩:=H5;have aT:=(aA w2).alloc (.cells #[.bool cb,.slice ca cn cp] 30);have fH:=ae (aJ.trans aT);have CK:=ae (OQ (Mx M w.heap.size (w.heap.size+3)) cb ca cn cp cz _ (qv1.out.ext (aJ.trans aT)) (fF.ext aT).fB);have hs2:=aJ.size
    have lC:w.heap.size+2<w2.heap.size:=by omega
    clear fZ hno aJ fF aT CE x0 x1 x2 x3 y0 y1 y2 y3 iQ fU
    go_upto_region 7 with(fail)
    go_wp2_with (fail);refine CK.out.mono ?_;rintro e w5 ⟨v,rfl,hv,bn⟩;have hq:=iF (M:=M) (w:=w) ((dF.out.ext fH.out).ext bn) (Mx.at (by omega)) (by omega) ((aS.out.trans fH.out).trans bn) (hv.up (bK L)) Mx.sub
    have IC:w.heap.size+2<w5.heap.size:=by have:=fH.out.size;have:=bn.size;omega
    rcases fw with⟨rfl,hd,rfl⟩|⟨rfl,hd⟩
    ·replace hq:=iF (M:=M) (w:=w) ((dF.out.ext fH.out).ext bn) (Mx.at (by omega)) (by omega) ((aS.out.trans fH.out).trans bn) ((hv.up (bK L)).dh (HQU.out hd)) Mx.sub;obtain⟨⟨q0,q1,q2,q3⟩,⟨f0,f1,f2,f3⟩,⟨r0,r1,r2,r3⟩,HF⟩:=hq;have dI:=ae (HF.QG uT.out sS.out);clear HF hv bn CK fH HTD HQU uT sS og hd dF aS lC hs2;go_wp2;exact bu (v:=.tuple #[.agg (ak v),.bool true]) (by simp[results,Tryz.results67,go_sem,r0,r1,r2,r3]) rfl dI.out
    ·obtain⟨⟨q0,q1,q2,q3⟩,⟨f0,f1,f2,f3⟩,⟨r0,r1,r2,r3⟩,HF⟩:=hq;have dI:=ae (HF.V4 (L:=L) (A:=A) λhh=>hd (og.out.1 hh));clear HF hv bn CK fH HTD HQU uT sS og hd dF aS lC hs2;go_wp2;exact bu (v:=.tuple #[.agg (ak v),.bool false]) (by simp[results,Tryz.results67,go_sem,r0,r1,r2,r3]) rfl dI.out
   ·have AU:(x.lv==0)=false:=by simpa using h0
    have kR:y.lv<x.lv:=by have:=Gw.out;omega
    obtain⟨E,hE⟩:∃E:Nat,x.lv=(E:Int)+1:=⟨x.lv.toNat-1,by omega⟩;have CE:=ae (qvj B A C G E (by omega) qo.out (lU.out E (by omega)) (Mx M w.heap.size (w.heap.size+3)) l r u x y w1 (Mx.mb gK.out aS.out.size (by omega)) (CR.OP ((HH.out.more (Mx.more (aI _))).ext aS.out) (by omega)) hE ((HY.out.more (Mx.more (aI _))).ext aS.out) kR HZ.out qw.out uT.out Gd.out sS.out Cf.out wC.out)
    have Hd:E+1<=L:=by omega
    clear hE HH HY HZ Gd Cf HAD wC qo qw uT sS lU Gw kF PL;go_wp2_with (fail);refine CE.out.mono ?_;rintro e w2 ⟨v,ok,rfl,hR,aJ⟩
    cases ok with
    |true=>
     obtain⟨q,hq1,hq2,xZ⟩:=hR.1 rfl;obtain⟨⟨q0,q1,q2,q3⟩,⟨f0,f1,f2,f3⟩,⟨r0,r1,r2,r3⟩,HF⟩:=iF (M:=M) (w:=w) (dF.out.ext aJ) (Mx.at (by omega)) (by omega) (aS.out.trans aJ) (hq1.up Hd) Mx.sub;have dI:=ae (HF.QG hq2 xZ);have lC:w.heap.size+2<w2.heap.size:=dH iQ aJ.size;clear HF hR aJ CE hq1 hq2 xZ fU dF aS x0 x1 x2 x3 y0 y1 y2 y3 iQ;go_wp2;exact bu (v:=.tuple #[.agg (ak v),.bool true]) (by simp[results,Tryz.results67,go_sem,r0,r1,r2,r3]) rfl dI.out
    |false=>
     obtain⟨⟨q0,q1,q2,q3⟩,⟨f0,f1,f2,f3⟩,⟨r0,r1,r2,r3⟩,bD,eO⟩:=AR (M':=Mx M w.heap.size (w.heap.size+3)) (w:=w) (.int .i64 v.lv) (.bool v.b) (.slice v.a v.n v.p) (.slice v.ka v.kn v.kp) (dF.out.ext aJ) (Mx.at (by omega)) (by omega) (aS.out.trans aJ);have dI:Hid (yK M w L l r A (.returned (.tuple #[.agg (ak v),.bool false])) (aM w2 (w.heap.size+2) 0 (.int .i64 v.lv) (.bool v.b) (.slice v.a v.n v.p) (.slice v.ka v.kn v.kp))):=⟨v,false,rfl,⟨λhh=>(by cases hh),λ_=>hR.2 rfl⟩,eO⟩;simp only[arr]at q0 q1 q2 q3;simp only[aM,Nat.zero_add]at r0 r1 r2 r3;have lC:w.heap.size+2<w2.heap.size:=dH iQ aJ.size;clear bD eO hR aJ CE fU dF aS x0 x1 x2 x3 y0 y1 y2 y3 iQ;go_wp2;exact bu (v:=.tuple #[.agg (ak v),.bool false]) (by simp[results,Tryz.results67,go_sem,r0,r1,r2,r3]) rfl dI.out
theorem qvi(B A C G:Nat)(hN:EM B A C G)(L:Nat):L<=4->Pe B A C G L:=by
 induction L using Nat.strongRecOn with
 |_ L ih=>exactλhL=>qvl B A C G L hL hN λE hE=>ih E hE (by omega)
theorem qbI{B A C G:Nat}(hN:EM B A C G)(M:Nat->Prop)(l r u:List Tm)(x y:PE)(w:World)(hM:Mb M w)(h:PI M w x l)(hy:PI M w y r)(nu:NN u)(hu:af (aF u r) l)(hB:bH B u)(hA:aH (aK u)<=A)(hC:bH C r)(hG:aH (aK r)<=G):
 Calls Tryz.prog 14 #[.agg (ak x),.agg (ak y)] w (ML M w l r A):=qAr M l r x y A w hM h hy λM' a b W' h1 h2 h4 h5=>qvi B A C G hN 4 (aI 4) M' l r u a b W' h1 h2 h4 h5 nu hu hB hA hC hG
theorem qvm{B A C G:Nat}(hN:EM B A C G)(M:Nat->Prop)(l r u:List Tm)(x y:PE)(w:World)(hM:Mb M w)(h:PI M w x l)(hy:PI M w y r)(nr:NN r)(zr:¬af r [])(nu:NN u)(hu:af (aF u r) l)(hB:bH B u)(hA:aH (aK u)<=A)(hC:bH C r)(hG:aH (aK r)<=G):
 Calls Tryz.prog 196 #[.agg (ak x),.agg (ak y)] w (dO M w 4 u):=
 (qBD M l r x y A w hM h hy nr λM' W h1 h2 h3=>qbI hN M' l r u x y W h1 h2 h3 nu hu hB hA hC hG).mono λe w'⟨v,h1,h2,_,h4⟩=>by
  rw[qpM nu nr zr hu]at h2;exact⟨v,h1,h2.dh (ow nu),h4⟩
def sB(B:Nat->Nat):Nat->Nat
 |0=>0
 |n+1=>B 0+sB (λr=>B (r+1)) n
theorem qjc:∀(n:Nat)(P:Nat->Nat->List Tm)(B:Nat->Nat),(∀i j,i<n->bH (B i) (P i j))->(∀i j,NN (P i j))->bH (sB B n) (nJ n P)
 |0,_,_,_,_=>λm hm k=>by
  have:Mo.zero=m:=eF λh=>hm (by show(if Mo.zero=m then(1:Int)else 0)+0=0;rw[ah h];rfl);subst this;rw[uw];exact iw _
 |n+1,P,B,h,hN=>by
  have key:∀c,bH (B 0+sB (λr=>B (r+1)) n) (Dq (nJ n) P c):=λc=>by
   induction c with
   |zero=>exactλm hm=>absurd rfl hm
   |succ c ih=>exact ih.append (qt8 ((h 0 c (by omega)).aF (qjc n (Ef P c) (λr=>B (r+1)) (λi j hi=>h _ _ (by omega)) λi j=>hN _ _) (hN 0 c)) _)
  exact key (n+1)
theorem Yp{b c:Nat}:∀(n:Nat)(B:Nat->Nat),(∀r,r+1<n->B r<=b)->(∀r,r+1=n->B r<=c)->b<=c->sB B n<=n*b+(c-b)
 |0,_,_,_,_=>by simp[sB]
 |1,B,_,h2,h3=>by
  have:=h2 0 rfl;simp only[sB];omega
 |n+2,B,h1,h2,h3=>by
  have ih:=Yp (n+1) (λr=>B (r+1)) (λr hr=>h1 _ (by omega)) (λr hr=>h2 _ (by omega)) h3;have:=h1 0 (by omega);show B 0+sB (λr=>B (r+1)) (n+1)<=_;rw[show(n+2)*b=(n+1)*b+b from Nat.succ_mul _ _];omega
theorem qjf{J:Nat}(h1:1<=J)(h4:J<=4){B i:Nat}{l:List Tm}(h:bH B l):bH (B+i) (shift (xp J (i:Int)) l):=λm hm k=>by
 rw[rP]at hm;have:=h _ hm k;rw[sZ]at this
 have e:(xp J (i:Int)).get k<=(i:Int):=by
  by_cases hk:1<=k/\k<=4
  ·rw[eQ J k _ h1 h4];split<;>omega
  ·have:(xp J (i:Int)).get k=0:=by
    unfold Mo.get;rw[ah (by omega),ah (by omega),ah (by omega),ah (by omega)]
   omega
 have e2:((B+i:Nat):Int)=(B:Int)+i:=by omega
 rw[e2];omega
theorem qjX:∀n,n<=12->Nt n<4294967296:=by decide
theorem Nv{P:List Tm->Prop}(r:Nat)(h0:P []):∀(L:List (Nat->List Tm)),(∀p∈L,P (p r))->∀c,P (L.getD c (λ_=>[]) r)
 |[],_,c=>by simpa using h0
 |p::L,h,0=>h p List.mem_cons_self
 |p::L,h,c+1=>Nv r h0 L (λq hq=>h q (List.mem_cons_of_mem _ hq)) c
theorem VS{J j m n A:Nat}{f g:List Tm}(hf:aH (aK f)<=A)(hg:aH (aK g)<=A)(hN:n-j+(m-j)<=12):aH (aK (SJ J j m n f g))<=(n-j+(m-j))*A+1:=by
 have hb:∀(F:List Tm)(N:Nat),aH (aK F)<=A->∀r,∀p∈mU (m+n-j-1) j J F N,aK (p r)<=4294967296^A:=λF N hF r p hp=>by
  obtain⟨i,hi,rfl⟩:=List.mem_map.1 hp;have tF:=Nat.le_of_lt ((lZ _ _).1 hF);show aK (if r<m+n-j-1-j then(if m+n-j-1-r<i then[]else ck J ((m+n-j-1-r-i:Nat):Int) F)else shift (xp J (i:Int)) F)<=_
  split
  ·split
   ·exact bK _
   ·exact aR (GU _ _ _) tF
  ·rw[xg];exact tF
 have hl:=qeg (N:=4294967296^A) (n-j+(m-j)) (λr c=>(mU (m+n-j-1) j J f (n-j)++mU (m+n-j-1) j J g (m-j)).getD c (λ_=>[]) r) (λr c=>Nv (P:=λl=>aK l<=4294967296^A) r (bK _) _ (λp hp=>(List.mem_append.1 hp).elim (hb f (n-j) hf r p) (hb g (m-j) hg r p)) c);have hc:=qjX (n-j+(m-j)) hN;rw[lZ];refine Nat.lt_of_le_of_lt hl ?_;generalize n-j+(m-j)=N at*;rw[<-Nat.pow_mul,Nat.mul_comm A,Nat.pow_succ,Nat.mul_comm];exact Nat.mul_lt_mul_of_pos_left hc (Nat.pow_pos (by decide))
section
variable{J:Nat}(h1:1<=J)(h4:J<=4){B A:Nat}{f g:List Tm}(hf:Sz B A f)(hg:Sz B A g)
include h1 h4 hf hg
theorem qBQ{j m n:Nat}(hj:j<n)(hn:n<=m)(hm:m<=6):Sz ((m+n-2*j)*B+m) ((m+n-2*j)*A+1) (SJ J j m n f g):=by
 have eN:n-j+(m-j)=m+n-2*j:=by omega
 have nn:=λr c=>Tx h1 h4 hf.n hg.n (j:=j) (m:=m) (n:=n) (m+n-j-1) c r;refine⟨iD h1 h4 hf.n hg.n _ _ _,?_,?_⟩
 ·have hb:∀(F:List Tm)(N:Nat),Sz B A F->N<=m->∀r,∀p∈mU (m+n-j-1) j J F N,bH (if r<m+n-j-1-j then B else B+m) (p r):=λF N hF hN r p hp=>by
   obtain⟨i,hi,rfl⟩:=List.mem_map.1 hp;have hi:=IW.1 hi;show bH _ (if r<m+n-j-1-j then(if m+n-j-1-r<i then[]else ck J ((m+n-j-1-r-i:Nat):Int) F)else shift (xp J (i:Int)) F)
   by_cases hr:r<m+n-j-1-j
   ·rw[ai hr,ai hr]
    split
    ·exactλm hm=>absurd rfl hm
    ·exact(hF.ck h1 h4 _).2.2.1
   ·rw[ah hr,ah hr];exact(qjf h1 h4 hF.d).mono (by omega)
  have hd:=qjc (n-j+(m-j)) (λr c=>(mU (m+n-j-1) j J f (n-j)++mU (m+n-j-1) j J g (m-j)).getD c (λ_=>[]) r) (λr=>if r<m+n-j-1-j then B else B+m) (λr c _=>
   Nv (P:=λl=>bH (if r<m+n-j-1-j then B else B+m) l) r (λm hm=>absurd rfl hm) _ (λp hp=>(List.mem_append.1 hp).elim (hb f (n-j) hf (by omega) r p) (hb g (m-j) hg (by omega) r p)) c) nn
  have hs:=Yp (b:=B) (c:=B+m) (n-j+(m-j)) (λr=>if r<m+n-j-1-j then B else B+m) (λr hr=>by
   show(if r<m+n-j-1-j then B else B+m)<=B
   rw[ai (by omega)];exact aI _) (λr hr=>by
   show(if r<m+n-j-1-j then B else B+m)<=B+m
   split<;>omega) (by omega)
  rw[eN]at hs hd;unfold SJ;rw[eN];exact hd.mono (by omega)
 ·have:=VS (J:=J) (j:=j) (m:=m) (n:=n) hf.a hg.a (by omega);rw[eN]at this;exact this
end
theorem SK{J B A n:Nat}{a:List Tm}(h1:1<=J)(h4:J<=4)(h:Sz B A a)(hz:¬af a [])(hd:bE J a n)(hB:B<=1000)(hA:A<=1000000):JW J a (ck J (n:Int) a):=λM W x hM hx=>
 qon M x a J n B W h1 h4 h.n hz hd hM hx.pi h.d (aR (Nat.pow_le_pow_left (show B+1<=1001 by omega) 4) (by decide)) (by omega) (aR h.a (aR hA (by decide)))
theorem OO{B A k:Nat}{a:List Tm}(h:Sz B A a)(hk:k<=100)(hB:k*B<=1000)(hA:k*A<=1000000):MH a k (bO a k):=λM W x hM hx=>by
 have hq:=qeE M x a B (k:Int) W hM hx.pi (by omega) (by
  rw[Int.toNat_natCast];have:=Nat.mul_le_mul_left k h.a
  exact aR (Nat.add_le_add_right this 2) (aR (Nat.add_le_add_right hA 2) (by decide))) h.d (by
  rw[Int.toNat_natCast]
  exact aR (Nat.mul_le_mul (show k*B+1<=1001 by omega) (show k*B+1<=1001 by omega)) (by decide))
 rw[Int.toNat_natCast]at hq;exact hq
theorem qok{B A C D:Nat}{a b:List Tm}(h:Sz B A a)(k:Sz C D b)(hB:B<=1000)(hC:C<=1000)(hA:A<=1000000)(hD:D<=1000000):Vg a b (aF a b):=λM W x y hM hx hy=>
 Tv M x y a b B C W hM hx.pi hy.pi (aR (Nat.add_le_add h.a k.a) (aR (Nat.add_le_add hA hD) (by decide))) h.d k.d (aR (Nat.mul_le_mul (show B+1<=1001 by omega) (show C+1<=1001 by omega)) (by decide))
theorem qpJ{B A C G:Nat}{l r q:List Tm}(hq:Sz B A q)(hr:Sz C G r)(hz:¬af r [])(hs:af (aF q r) l)(hB:B+C<=1000)(hA:A<=1000000)(hG:G<=1000000):Vi l r q:=λM W x y hM hx hy=>
 qvm ⟨by omega,aR (Nat.pow_le_pow_left (show B+C+1<=1001 by omega) 4) (by decide),aR (Nat.mul_le_mul (show B+C+1<=1001 by omega) (show C+1<=1001 by omega)) (by decide),by omega⟩ M l r q x y W hM hx.pi hy.pi hr.n hz hq.n hs hq.d hq.a hr.d hr.a
theorem qpT{J B A C D n V:Nat}{f g:List Tm}(h1:1<=J)(h4:J<=4)(h:Sz B A f)(k:Sz C D g)(hf:¬af f [])(hz:¬af g [])(hd:bE J g n)(hm:bE J f (n+V-1))(hV:1<=V)(rV:C<=1000)(E9:D<=1000000)(hN:Y4 V B C A D):J3 J f g (lQ J n V f (dN g)):=λM W x y hM hx hy=>by
 have hVV:∀n' V':Nat,bE J g n'->uu J f n' V'->n'=n/\V'=V:=λn' V' uA jG=>by
  have e1:n'=n:=G5 k.n hz uA hd;subst e1;rcases jG with⟨h,_⟩|⟨_,a,ha,rfl⟩
  ·exact absurd h hf
  ·have:=G5 h.n hf ha hm;exact⟨rfl,by omega⟩
 refine(qBE V M f g x y J B C A D W h1 h4 hM hx.pi hy.pi h.n k.n hz h.d k.d (aR (Nat.succ_le_succ rV) (by decide)) h.a k.a (aR (Nat.succ_le_succ E9) (by decide)) hN λn' V' uA kC=>by rw[(hVV n' V' uA kC).2];exact aI _).mono ?_;rintro e w' ⟨v,n',V',rfl,uA,jG,hv,wP⟩;obtain⟨rfl,rfl⟩:=hVV n' V' uA jG;exact⟨v,rfl,hv,wP⟩
def Dk(k B:Nat)(l:List Tm):Prop:=∀m,aL l m≠0->m.get k<=B
theorem Dk.mono{k B C:Nat}{l:List Tm}(h:Dk k B l)(hs:B<=C):Dk k C l:=λm hm=>by have:=h m hm;omega
theorem Dk.append{k B:Nat}{l r:List Tm}(h:Dk k B l)(q:Dk k B r):Dk k B (l++r):=λm hm=>by
 rw[iZ]at hm
 by_cases h1:aL l m=0
 ·exact q m (by omega)
 ·exact h m h1
theorem Dk.smul{k B:Nat}{l:List Tm}(h:Dk k B l)(c:Int):Dk k B (smul c l):=λm hm=>h m λh0=>hm (by rw[iM,h0,Int.mul_zero])
theorem Dk.aF{k B C:Nat}{l r:List Tm}(hl:Dk k B l)(hr:Dk k C r)(nl:NN l):Dk k (B+C) (aF l r):=by
 intro m hm;have hs:=ow nl;rw[<-(hs.oC r) m]at hm;obtain⟨m1,h1,h2⟩:=Qu (Qp (sF l)) hm;have a1:=hl m1 (by rw[<-hs m1];exact h1);have a2:=hr _ h2;rw[sZ]at a2;omega
theorem qbw(k:Nat):∀(n:Nat)(P:Nat->Nat->List Tm)(B:Nat->Nat),(∀i j,i<n->Dk k (B i) (P i j))->(∀i j,NN (P i j))->Dk k (sB B n) (nJ n P)
 |0,_,_,_,_=>λm hm=>by
  have:Mo.zero=m:=eF λh=>hm (by show(if Mo.zero=m then(1:Int)else 0)+0=0;rw[ah h];rfl);subst this;rw[uw];exact iw _
 |n+1,P,B,h,hN=>by
  have key:∀c,Dk k (B 0+sB (λr=>B (r+1)) n) (Dq (nJ n) P c):=λc=>by
   induction c with
   |zero=>exactλm hm=>absurd rfl hm
   |succ c ih=>exact ih.append (((h 0 c (by omega)).aF (qbw k n (Ef P c) (λr=>B (r+1)) (λi j hi=>h _ _ (by omega)) λi j=>hN _ _) (hN 0 c)).smul _)
  exact key (n+1)
section
variable{J:Nat}(h1:1<=J)(h4:J<=4){B A:Nat}{f g:List Tm}(hf:Sz B A f)(hg:Sz B A g)
include h1 h4 hf hg
theorem qBR{j m n:Nat}(hj:j<n)(hn:n<=m)(hm:m<=6)(hmB:m<=B):Sz ((m+n-2*j)*B) ((m+n-2*j)*A+1) (SJ J j m n f g):=by
 have h0:=qBQ h1 h4 hf hg hj hn hm;refine⟨h0.n,?_,h0.a⟩
 have eN:n-j+(m-j)=m+n-2*j:=by omega
 have nn:=λr c=>Tx h1 h4 hf.n hg.n (j:=j) (m:=m) (n:=n) (m+n-j-1) c r
 have big:B+m<=(m+n-2*j)*B:=by
  have:=eB B (show 2<=m+n-2*j by omega);omega
 intro q hq k
 by_cases hk:k=J
 ·subst hk
  have hb:∀(F:List Tm)(N:Nat),Sz B A F->N<=m->∀r,∀p∈mU (m+n-j-1) j k F N,Dk k (if r<m+n-j-1-j then 0 else B+m) (p r):=λF N hF hN r p hp=>by
   obtain⟨i,hi,rfl⟩:=List.mem_map.1 hp;have hi:=IW.1 hi;show Dk k _ (if r<m+n-j-1-j then(if m+n-j-1-r<i then[]else ck k ((m+n-j-1-r-i:Nat):Int) F)else shift (xp k (i:Int)) F)
   by_cases hr:r<m+n-j-1-j
   ·rw[ai hr,ai hr]
    split
    ·exactλm hm=>absurd rfl hm
    ·exactλm hm=>by rw[(vD h1 h4 _ F) m hm];exact Int.le_refl _
   ·rw[ah hr,ah hr];exactλq hq=>(qjf h1 h4 hF.d).mono (by omega) q hq k
  have hd:=qbw k (n-j+(m-j)) (λr c=>(mU (m+n-j-1) j k f (n-j)++mU (m+n-j-1) j k g (m-j)).getD c (λ_=>[]) r) (λr=>if r<m+n-j-1-j then 0 else B+m) (λr c _=>
   Nv (P:=λl=>Dk k (if r<m+n-j-1-j then 0 else B+m) l) r (λm hm=>absurd rfl hm) _ (λp hp=>(List.mem_append.1 hp).elim (hb f (n-j) hf (by omega) r p) (hb g (m-j) hg (by omega) r p)) c) nn
  have hs:=Yp (b:=0) (c:=B+m) (n-j+(m-j)) (λr=>if r<m+n-j-1-j then 0 else B+m) (λr hr=>by
   show(if r<m+n-j-1-j then 0 else B+m)<=0
   rw[ai (by omega)];exact aI _) (λr hr=>by
   show(if r<m+n-j-1-j then 0 else B+m)<=B+m
   split<;>omega) (by omega)
  exact(hd.mono (by omega)) q hq
 ·have hb:∀(F:List Tm)(N:Nat),Sz B A F->∀r,∀p∈mU (m+n-j-1) j J F N,Dk k B (p r):=λF N hF r p hp=>by
   obtain⟨i,hi,rfl⟩:=List.mem_map.1 hp;show Dk k _ (if r<m+n-j-1-j then(if m+n-j-1-r<i then[]else ck J ((m+n-j-1-r-i:Nat):Int) F)else shift (xp J (i:Int)) F)
   by_cases hr:r<m+n-j-1-j
   ·rw[ai hr]
    split
    ·exactλm hm=>absurd rfl hm
    ·exactλq hq=>(hF.ck h1 h4 _).2.2.1 q hq k
   ·rw[ah hr];intro q hq;rw[rP]at hq;have:=hF.d _ hq k;rw[sZ,eQ J k _ h1 h4,ah hk]at this;omega
  have hd:=qbw k (n-j+(m-j)) (λr c=>(mU (m+n-j-1) j J f (n-j)++mU (m+n-j-1) j J g (m-j)).getD c (λ_=>[]) r) (λ_=>B) (λr c _=>
   Nv (P:=λl=>Dk k B l) r (λm hm=>absurd rfl hm) _ (λp hp=>(List.mem_append.1 hp).elim (hb f (n-j) hf r p) (hb g (m-j) hg r p)) c) nn
  have hs:=Yp (b:=B) (c:=B) (n-j+(m-j)) (λ_=>B) (λr hr=>aI _) (λr hr=>aI _) (aI _);rw[eN]at hs;rw[eN]at hd;have:=(hd.mono (show _<=(m+n-2*j)*B by omega)) q (by unfold SJ at hq;rw[eN]at hq;exact hq);exact this
end
theorem qBT{B A C D:Nat}{l r:List Tm}(h:Sz B A l)(k:Sz C D r):Sz (B+C) (A+D) (aF l r):=⟨bT h.n k.n,bH.aF h.d k.d h.n,by rw[zL];exact aR (pQ _ _) (Nat.add_le_add h.a k.a)⟩
def bJ(m n β j:Nat):Nat:=(m+n-2*j)*β
def bU(m n β d:Nat):Nat:=if d=n then β else bJ m n β d
def bS(m n β d:Nat):Nat:=if d=n then(m-n)*β else bJ m n β d
def qqw(m n β d e:Nat):Bool:=
 decide (bJ m n β (d-1)<=1000)&&decide (bU m n β d<=1000)&&decide (bJ m n β e<=1000)&&decide ((d-e-1)*bJ m n β (d-1)<=1000)&&decide (bJ m n β e+(d-e-1)*bS m n β d<=1000)&&decide (bJ m n β (e-1)+((d-e)*bS m n β d+bU m n β d)<=1000)&&
 decide (bU m n β d+(d-e+1)*bJ m n β (d-1)+bJ m n β (d-1)+10<=100000)&&decide ((bU m n β d+bJ m n β (d-1)+2)*(bU m n β d+(d-e+1)*bJ m n β (d-1)+bJ m n β (d-1)+1)^4<=1099511627776)
def vP(m n β:Nat):Bool:=((List.range (n+1)).all λd=>(List.range d).all λe=>qqw m n β d e)&&decide (β<=1000)&&decide ((m-n)*β<=1000)&&decide (β+(m-n+1)*β+β+10<=100000)&&decide ((β+β+2)*(β+(m-n+1)*β+β+1)^4<=1099511627776)&&decide (m<=β)
structure StN(m n β d e:Nat):Prop where
 c1:bJ m n β (d-1)<=1000
 c2:bU m n β d<=1000
 c3:bJ m n β e<=1000
 c4:(d-e-1)*bJ m n β (d-1)<=1000
 c5:bJ m n β e+(d-e-1)*bS m n β d<=1000
 c6:bJ m n β (e-1)+((d-e)*bS m n β d+bU m n β d)<=1000
 c7:bU m n β d+(d-e+1)*bJ m n β (d-1)+bJ m n β (d-1)+10<=100000
 c8:(bU m n β d+bJ m n β (d-1)+2)*(bU m n β d+(d-e+1)*bJ m n β (d-1)+bJ m n β (d-1)+1)^4<=1099511627776
theorem qen{m n β:Nat}(h:vP m n β=true){d e:Nat}(hd:d<=n)(he:e<d):StN m n β d e:=by
 unfold vP at h;simp only[Bool.and_eq_true,List.all_eq_true,List.mem_range,decide_eq_true_eq]at h;have:=h.1.1.1.1.1 d (by omega) e he;unfold qqw at this;simp only[Bool.and_eq_true,decide_eq_true_eq]at this;obtain⟨⟨⟨⟨⟨⟨⟨c1,c2⟩,c3⟩,c4⟩,c5⟩,c6⟩,c7⟩,c8⟩:=this;exact⟨c1,c2,c3,c4,c5,c6,c7,c8⟩
theorem qzW{m n β:Nat}(h:vP m n β=true):β<=1000/\(m-n)*β<=1000/\β+(m-n+1)*β+β+10<=100000/\(β+β+2)*(β+(m-n+1)*β+β+1)^4<=1099511627776:=by
 unfold vP at h;simp only[Bool.and_eq_true,decide_eq_true_eq]at h;exact⟨h.1.1.1.1.2,h.1.1.1.2,h.1.1.2,h.1.2⟩
theorem qzU{m n β:Nat}(h:vP m n β=true):m<=β:=by
 unfold vP at h;simp only[Bool.and_eq_true,decide_eq_true_eq]at h;exact h.2
section
variable{J m n β:Nat}(h1:1<=J)(h4:J<=4){f g:List Tm}(hf:Sz β 1000 f)(hg:Sz β 1000 g)(iP:n<=m)(hm:m<=6)
include h1 h4 hf hg iP hm
variable(fZ:vP m n β=true)
include fZ
theorem Tz{j:Nat}(hj:j<n):Sz (bJ m n β j) 12001 (SJ J j m n f g):=(qBR h1 h4 hf hg hj iP hm (qzU fZ)).mono (aI _) (by
 have:=eB 1000 (show m+n-2*j<=12 by omega)
 omega)
theorem qjt:∀(fuel d:Nat)(a s:List Tm)(L:Nat->List Tm),d<=n->d<=fuel->uq J m n f g d a s->Sz (bU m n β d) 12001 a->Sz (bS m n β d) 12001 s->(∀i,i<n->af (L i) (if d<=i then SJ J i m n f g else[]))->O6 J n (λj=>SJ J j m n f g) fuel a (SJ J (d-1) m n f g) s L
 |0,d,a,s,L,_,hd,S,_,_,_=>absurd S.pos (by omega)
 |fuel+1,d,a,s,L,ou,hd,S,sa,ss,hL=>by
  have hpos:=S.pos;have nB:=iD h1 h4 hf.n hg.n (d-1) m n;have sb:=Tz h1 h4 hf hg iP hm fZ (j:=d-1) (by omega);refine⟨(d:Int),qbs h1 h4 S.na (.inr ⟨S.za,d,S.da,rfl⟩),by omega,by omega,?_⟩
  by_cases hz:af (SJ J (d-1) m n f g) []
  ·refine .inl ⟨qbs h1 h4 nB (.inl ⟨hz,rfl⟩),λi hi=>(hL i hi).trans ?_⟩
   by_cases hdi:d<=i
   ·rw[ai hdi];exact af.refl _
   ·rw[ah hdi];exact(S.fin h1 h4 hf.n hg.n hz i (by omega)).symm
  ·obtain⟨e,hb⟩:=Kg (k:=J) nB;have kz:=S.lt h1 h4 hf.n hg.n hb hz;have K:=qen fZ ou kz;have se:=Tz h1 h4 hf hg iP hm fZ (j:=e) (by omega);have slb:=(sb.ck h1 h4 (e:Int)).sz
   have hc:∃c L',c=SJ J e m n f g/\YT J (SJ J (d-1) m n f g) s (d-e) e (Ei L (d-1) (SJ J (d-1) m n f g)) L' c/\∀i,i<n->af (L' i) (if e<=i then SJ J i m n f g else[]):=by
    by_cases h1g:d-e=1
    ·refine⟨SJ J (d-1) m n f g,_,by rw[show d-1=e by omega],.inl ⟨h1g,rfl,rfl⟩,λi hi=>?_⟩;unfold Ei
     by_cases hid:i=d-1
     ·rw[ai hid,ai (by omega),hid];exact af.refl _
     ·rw[ah hid];refine(hL i hi).trans ?_
      by_cases h5:d<=i
      ·rw[ai h5,ai (by omega)];exact af.refl _
      ·rw[ah h5,ah (by omega)];exact af.refl _
    ·have sp:=Yy (k:=d-e-1) slb;have sq:=Yy (k:=d-e-1) ss
     have hk:d-e-1<=6:=by omega
     have jf:(d-e-1)*12001<=6*12001:=eB _ hk;have gW:=K.c5;refine⟨SJ J e m n f g,_,rfl,.inr ⟨by omega,rfl,ck J (e:Int) (SJ J (d-1) m n f g),bO (ck J (e:Int) (SJ J (d-1) m n f g)) (d-e-1),_,bO s (d-e-1),SK h1 h4 sb hz hb K.c1 (by omega),OO slb (by omega) K.c4 (by omega),qok sp sb K.c4 K.c1 (by omega) (by omega),OO ss (by omega) (by omega) (by omega),qpJ se sq (nU S.ns S.zs _) ((af.uI _ _).trans (S.sub h1 h4 hf.n hg.n hb hz)) K.c5 (by omega) (by omega)⟩,λi hi=>?_⟩;unfold Ei
     by_cases NY:i=e
     ·rw[ai NY,ai (by omega),NY];exact af.refl _
     ·rw[ah NY]
      by_cases hid:i=d-1
      ·rw[ai hid,ai (by omega),hid];exact af.refl _
      ·rw[ah hid];refine(hL i hi).trans ?_
       by_cases h5:d<=i
       ·rw[ai h5,ai (by omega)];exact af.refl _
       ·rw[ah h5]
        by_cases h6:e<=i
        ·rw[ai h6];exact(S.gap h1 h4 hf.n hg.n hb i (by omega) (by omega)).symm
        ·rw[ah h6];exact af.refl _
   obtain⟨c,L',rfl,hC,Ff⟩:=hc;refine .inr ⟨d,e,_,L',rfl,qbs h1 h4 nB (.inr ⟨hz,e,hb,rfl⟩),kz,ou,hC,?_⟩
   by_cases p8:e=0
   ·exact .inl ⟨p8,λi hi=>by
     have:=Ff i hi
     rw[ai (by omega)]at this;exact this⟩
   ·have az:1<=e:=by omega
    have S':=S.next h1 h4 hf.n hg.n hb hz az;have nl:NN (ck J (d:Int) a):=fK h1 h4 S.na;have sla:=(sa.ck h1 h4 (d:Int)).sz;have sp:=Yy (k:=d-e) ss
    have hk:d-e<=6:=by omega
    have jf:(d-e)*12001<=6*12001:=eB _ hk;have hc6:=K.c6;have sd:=qBT sp sla;have s1:=Tz h1 h4 hf hg iP hm fZ (j:=e-1) (by omega);refine .inr ⟨az,_,_,_,_,SJ J (e-1) m n f g,_,OO ss (by omega) (by omega) (by omega),SK h1 h4 sa S.za S.da K.c2 (by omega),qok sp sla (by omega) K.c2 (by omega) (by omega),qpT (V:=d-e+1) h1 h4 sa sb S.za hz hb (by rw[show e+(d-e+1)-1=d by omega];exact S.da) (by omega) K.c1 (by omega) ⟨⟨by omega,K.c7⟩,K.c8,?_⟩,qpJ s1 sd (nV (bR S.ns _) nl (nU S.ns S.zs _) (uG h1 h4 S.na S.da S.za)) ((af.uI _ _).trans (S.rem h1 h4 hf.n hg.n hb hz az).symm) (by omega) (by omega) (by omega),SK h1 h4 se S'.za S'.da K.c3 (by omega),qjt fuel e _ _ L' (by omega) (by omega) S' ?_ ?_ Ff⟩
    ·have:=eB (12001+1) (show d-e+1<=7 by omega);omega
    ·unfold bU;rw[ah (by omega)];exact se
    ·unfold bS;rw[ah (by omega)];exact(se.ck h1 h4 _).sz
theorem qqu(hn:1<=n)(df:bE J f m)(dg:bE J g n)(M:Nat->Prop)(x y:PE)(w:World)(hM:Mb M w)(hx:aN M w 4 x f)(hy:aN M w 4 y g):
 Calls Tryz.prog 164 #[.agg (ak x),.agg (ak y),.int .i64 (J:Int),.int .i64 (m:Int),.int .i64 (n:Int)] w (J2 M w n λj=>SJ J j m n f g):=by
 obtain⟨δ,rfl⟩:∃δ,m=n+δ:=⟨m-n,by omega⟩;have zf:=df.nz h1 h4 (by omega);have zg:=dg.nz h1 h4 hn;obtain⟨hs,S⟩:=qeU h1 h4 hf.n hg.n hn zf zg df dg;obtain⟨k1,k2,k3,k4⟩:=qzW fZ
 have hd:n+δ-n=δ:=by omega
 have sl:=(hg.ck h1 h4 (n:Int)).sz;rw[hd]at k2 k3 k4;have jf:δ*1000<=6*1000:=eB _ (by omega);refine qBC M x y J (n+δ) n n f g (ck J (n:Int) g) (bO (ck J (n:Int) g) δ) (SJ J (n-1) (n+δ) n f g) _ w hM hn (by omega) (by omega) hx hy (SK h1 h4 hg zg dg k1 (by omega)) ?_ ?_ ?_
 ·rw[hd];exact OO sl (by omega) k2 (by omega)
 ·refine(qpT (V:=δ+1) h1 h4 hf hg zf zg dg (by rw[show n+(δ+1)-1=n+δ by omega];exact df) (by omega) k1 (by omega) ⟨⟨by omega,k3⟩,k4,?_⟩).dh (af.refl _) (af.refl _) hs.symm;have:=eB (1000+1) (show δ+1<=7 by omega);omega
 ·refine qjt h1 h4 hf hg iP hm fZ n n g _ _ (aI _) (aI _) S ?_ ?_ λi hi=>?_
  ·unfold bU;rw[ai rfl];exact hg.mono (aI _) (by omega)
  ·unfold bS;rw[ai rfl,hd];exact(Yy sl).mono (aI _) (by omega)
  ·rw[ah (by omega)];exact af.refl _
end
structure Gn(J m n β:Nat)(f g:List Tm):Prop where
 h1:1<=J
 h4:J<=4
 sf:Sz β 1000 f
 sg:Sz β 1000 g
 zf:¬af f []
 zg:¬af g []
 df:bE J f m
 dg:bE J g n
 m6:m<=6
 n6:n<=6
 oa:n<=m->vP m n β=true
 ob:m<=n->vP n m β=true
theorem Gn.swap{J m n β:Nat}{f g:List Tm}(h:Gn J m n β f g):Gn J n m β g f:=⟨h.h1,h.h4,h.sg,h.sf,h.zg,h.zf,h.dg,h.df,h.n6,h.m6,h.ob,h.oa⟩
theorem Ty{J:Nat}(h1:1<=J)(h4:J<=4){f g:List Tm}(nf:NN f)(ng:NN g)(j m n:Nat):(((m-j)*(n-j))%2=0->af (SJ J j n m g f) (SJ J j m n f g))/\(((m-j)*(n-j))%2=1->af (SJ J j n m g f) (dN (SJ J j m n f g))):=by
 have key:∀x,ev x (SJ J j n m g f)=kW ((m-j)*(n-j))*ev x (SJ J j m n f g):=λx=>by
  rw[Dt h1 h4 x ng nf,Dt h1 h4 x nf ng,qt1]
 refine⟨λh=>tY (iD h1 h4 ng nf _ _ _) (iD h1 h4 nf ng _ _ _) λx=>?_,λh=>tY (iD h1 h4 ng nf _ _ _) (qP (iD h1 h4 nf ng _ _ _)) λx=>?_⟩
 ·rw[key,qqd h,Int.one_mul]
 ·rw[key,E5 x (iD h1 h4 nf ng _ _ _),show kW ((m-j)*(n-j))= -1 from ah (by omega)];omega
section
variable{J m n β:Nat}{f g:List Tm}(H:Gn J m n β f g)
include H
theorem Gn.bound{j:Nat}(hm:j<m)(hn:j<n):Sz 1000 12001 (SJ J j m n f g):=by
 rcases Nat.le_total n m with h|h
 ·have:=(qen (H.oa h) (d:=j+1) (e:=j) (by omega) (by omega)).c3;exact(Tz H.h1 H.h4 H.sf H.sg h H.m6 (H.oa h) hn).mono this (aI _)
 ·have hb:=(qen (H.ob h) (d:=j+1) (e:=j) (by omega) (by omega)).c3;have hs:=(Tz H.h1 H.h4 H.sg H.sf h H.n6 (H.ob h) hm).mono hb (aI _);refine⟨iD H.h1 H.h4 H.sf.n H.sg.n _ _ _,?_,?_⟩
  ·rcases Nat.mod_two_eq_zero_or_one ((n-j)*(m-j))with h|h
   ·exact hs.d.dh ((Ty H.h1 H.h4 H.sg.n H.sf.n j n m).1 h).symm
   ·exact(Tf hs.d).dh ((Ty H.h1 H.h4 H.sg.n H.sf.n j n m).2 h).symm
  ·have h6:=H.n6;have h7:=H.m6;refine aR (VS (A:=1000) H.sf.a H.sg.a (by omega)) ?_;have:=eB 1000 (show n-j+(m-j)<=12 by omega);omega
theorem Gn.check(M:Nat->Prop)(x y:PE)(w:World)(hM:Mb M w)(hx:aN M w 4 x f)(hy:aN M w 4 y g):Calls Tryz.prog 163 #[.agg (ak x),.agg (ak y),.int .i64 (J:Int)] w λe w'=>e=.returned (.int .i64 0)/\Ext w w':=by
 refine(qBB M f g x y (J:Int) w hM hx.pi hy.pi).mono ?_;rintro e w' ⟨er,rfl,hc,he⟩;have h1:=H.h1;have h4:=H.h4;rcases hc with⟨h,_⟩|⟨_,h,_⟩|⟨_,_,_,rfl⟩
 ·exact absurd ⟨by omega,by omega⟩ h
 ·exact absurd h λhh=>hh.elim H.zf H.zg
 ·exact⟨rfl,he⟩
theorem Gn.Qy(M:Nat->Prop)(x:PE)(w:World)(hM:Mb M w)(hx:aN M w 4 x f):Calls Tryz.prog 43 #[.agg (ak x),.int .i64 (J:Int)] w λe w'=>e=.returned (.int .i64 (m:Int))/\Ext w w':=Oy M x f J (m:Int) w H.h1 H.h4 H.sf.n (.inr ⟨H.zf,m,H.df,rfl⟩) hM hx.pi
theorem Gn.chain(M:Nat->Prop)(x y:PE)(w:World)(hM:Mb M w)(hx:aN M w 4 x f)(hy:aN M w 4 y g):Calls Tryz.prog 133 #[.agg (ak x),.agg (ak y),.int .i64 (J:Int)] w (Qj M w (min m n) (λj=>SJ J j m n f g) 0):=by
 have Oa:=H.m6;have hn6:=H.n6;have Fy:∀wk,Ext w wk->Calls Tryz.prog 43 #[.agg (ak x),.int .i64 (J:Int)] wk λe w'=>e=.returned (.int .i64 (m:Int))/\Ext wk w':=λwk he=>H.Qy M x wk (hM.ext he) (hx.ext he);have NU:∀wk,Ext w wk->Calls Tryz.prog 43 #[.agg (ak y),.int .i64 (J:Int)] wk λe w'=>e=.returned (.int .i64 (n:Int))/\Ext wk w':=λwk he=>H.swap.Qy M y wk (hM.ext he) (hy.ext he);have Bj:∀wk,Ext w wk->Calls Tryz.prog 163 #[.agg (ak x),.agg (ak y),.int .i64 (J:Int)] wk λe w'=>e=.returned (.int .i64 0)/\Ext wk w':=λwk he=>H.check M x y wk (hM.ext he) (hx.ext he) (hy.ext he)
 by_cases h0:m=0\/n=0
 ·rw[show min m n=0 by omega];exact qBA M x y J m n _ w h0 Bj Fy NU
 ·by_cases iP:n<=m
  ·refine(qqt M x y J m n (min m n) (λj=>SJ J j m n f g) (λj=>SJ J j m n f g) w hM (by omega) (by omega) (by omega) (by omega) rfl ⟨Bj,Fy,NU,λ_ wk he=>?_,λBq wk he=>by omega⟩ λj hj=>.inr ⟨λh=>by omega,af.refl _⟩).mono λe w' h=>h.li;rw[show min m n=n by omega];exact qqu H.h1 H.h4 H.sf H.sg iP Oa (H.oa iP) (by omega) H.df H.dg M x y wk (hM.ext he) (hx.ext he) (hy.ext he)
  ·refine(qqt M x y J m n (min m n) (λj=>SJ J j n m g f) (λj=>SJ J j m n f g) w hM (by omega) (by omega) (by omega) (by omega) rfl ⟨Bj,Fy,NU,λh wk he=>by omega,λBq wk he=>?_⟩ λj hj=>?_).mono λe w' h=>h.li
   ·rw[show min m n=m by omega];exact qqu H.h1 H.h4 H.sg H.sf (by omega) hn6 (H.ob (by omega)) (by omega) H.dg H.df M y x wk (hM.ext he) (hy.ext he) (hx.ext he)
   ·have hx:=Ty H.h1 H.h4 H.sg.n H.sf.n j n m;rw[Nat.mul_comm]at hx;rcases Nat.mod_two_eq_zero_or_one ((m-j)*(n-j))with h|h
    ·exact .inr ⟨λh2=>by omega,(hx.1 h).symm⟩
    ·refine .inl ⟨by omega,h,λMk W z Wp hz=>?_⟩;have hb:=H.swap.bound (j:=j) (by omega) (by omega);have hl:aH (aK (SJ J j n m g f))<=12001:=hb.a;exact(Yn Mk z _ 1000 W Wp hz.pi (aR (Nat.succ_le_succ hl) (by decide)) hb.d (by decide)).mono λe w' h3=>h3.dh (hx.2 h).symm
end
end Go.Proofs.YtmcfpnmoklnhoaaGreat
