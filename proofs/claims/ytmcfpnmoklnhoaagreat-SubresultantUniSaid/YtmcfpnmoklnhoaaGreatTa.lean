/- Ta -/
import Derived.Test.YtmcfpnmoklnhoaaGreatRc
import Derived.Test.YtmcfpnmoklnhoaaGreatSa
import Derived.Test.YtmcfpnmoklnhoaaGreatSb
set_option linter.unusedVariables false
set_option maxRecDepth 100000
set_option maxHeartbeats 400000000
set_option linter.unusedSimpArgs false
namespace Go.Proofs.YtmcfpnmoklnhoaaGreat
theorem qn2(c:Nat):mZ (c+1)= -mZ c:=by
 unfold mZ
 by_cases h:c%2=0
 ·rw[if_pos h,if_neg (by omega)]
 ·rw[if_neg h,if_pos (by omega)];rfl
theorem qhq{D E F:(Nat->Nat->Int)->Int}{a b c:Nat->Nat->Int}{s t:Int}:∀n,(∀d,d<n->a 0 d*D (iJ a d)=s*(b 0 d*E (iJ b d))+t*(c 0 d*F (iJ c d)))->jY D a n=s*jY E b n+t*jY F c n
 |0,_=>by simp[jY]
 |n+1,h=>by
  have ih:=qhq n λd hd=>h d (by omega);have h1:=h n (by omega);simp only[jY];rw[ih,h1];generalize b 0 n*E (iJ b n)=u;generalize c 0 n*F (iJ c n)=v;generalize jY E b n=p;generalize jY F c n=q;generalize mZ n=g
  grind
theorem qhp:∀(n:Nat)(a b c:Nat->Nat->Int)(k:Nat)(s t:Int),k<n->(∀r i,i≠k->a r i=b r i)->(∀r i,i≠k->a r i=c r i)->(∀r,a r k=s*b r k+t*c r k)->jN n a=s*jN n b+t*jN n c
 |0,_,_,_,_,_,_,hk,_,_,_=>absurd hk (Nat.not_lt_zero _)
 |n+1,a,b,c,k,s,t,hk,hb,hc,hw=>by
  refine qhq (n+1) λd hd=>?_
  by_cases wJ:d=k
  ·subst wJ;have e1:iJ a d=iJ b d:=funext λr=>funext λj=>hb _ _ (by split<;>omega);have e2:iJ a d=iJ c d:=funext λr=>funext λj=>hc _ _ (by split<;>omega);rw[<-e1, <-e2,hw];generalize jN n (iJ a d)=u;generalize b 0 d=p;generalize c 0 d=q
   grind
  ·rw[hb 0 d wJ, <-hc 0 d wJ,hb 0 d wJ]
   have ih:=qhp n (iJ a d) (iJ b d) (iJ c d) (if k<d then k else k-1) s t (by split<;>omega) (λr i hi=>hb _ _ (by split at hi<;>split<;>omega)) (λr i hi=>hc _ _ (by split at hi<;>split<;>omega)) λr=>by
    have e:(if(if k<d then k else k-1)<d then(if k<d then k else k-1)else(if k<d then k else k-1)+1)=k:=by
     by_cases h:k<d
     ·simp[h]
     ·simp only[h,if_false];rw[if_neg (by omega)];omega
    show a (r+1) _=s*b (r+1) _+t*c (r+1) _;rw[e];exact hw _
   rw[ih];generalize jN n (iJ b d)=u;generalize jN n (iJ c d)=v;generalize b 0 d=p
   grind
theorem qht{D:(Nat->Nat->Int)->Int}{a:Nat->Nat->Int}:∀n,(∀d,d<n->a 0 d*D (iJ a d)=0)->jY D a n=0
 |0,_=>rfl
 |n+1,h=>by
  simp only[jY];rw[qht n λd hd=>h d (by omega),h n (by omega)];simp
theorem qhs{D:(Nat->Nat->Int)->Int}{a:Nat->Nat->Int}{k:Nat}(h2:a 0 k*D (iJ a k)=a 0 (k+1)*D (iJ a (k+1))):∀n,k+1<n->(∀d,d<n->d≠k->d≠k+1->a 0 d*D (iJ a d)=0)->jY D a n=0
 |0,h,_=>absurd h (Nat.not_lt_zero _)
 |n+1,hn,h=>by
  by_cases e:n=k+1
  ·subst e;simp only[jY];rw[qht k λd hd=>h d (by omega) (by omega) (by omega),h2,qn2];generalize a 0 (k+1)*D (iJ a (k+1))=u;generalize mZ k=g
   grind
  ·simp only[jY];rw[qhs h2 n (by omega) λd hd=>h d (by omega),h n (by omega) (by omega) (by omega)];simp
theorem qah:∀(n:Nat)(a:Nat->Nat->Int)(k:Nat),k+1<n->(∀r,a r k=a r (k+1))->jN n a=0
 |0,_,_,hk,_=>absurd hk (Nat.not_lt_zero _)
 |n+1,a,k,hk,h=>by
  refine qhs (k:=k) ?_ (n+1) hk λd hd h1 h2=>?_
  ·have e:iJ a k=iJ a (k+1):=funext λr=>funext λj=>by
    show a (r+1) _=a (r+1) _
    by_cases hj:j=k
    ·subst hj;rw[if_neg (Nat.lt_irrefl _),if_pos (by omega)];exact(h _).symm
    ·by_cases hl:j<k
     ·rw[if_pos hl,if_pos (by omega)]
     ·rw[if_neg hl,if_neg (by omega)]
   rw[e,h 0]
  ·have hz:jN n (iJ a d)=0:=by
    by_cases hl:d<k
    ·refine qah n _ (k-1) (by omega) λr=>?_;show a (r+1) _=a (r+1) _;rw[if_neg (by omega),if_neg (by omega),show k-1+1=k by omega];exact h _
    ·refine qah n _ k (by omega) λr=>?_;show a (r+1) _=a (r+1) _;rw[if_pos (by omega),if_pos (by omega)];exact h _
   rw[hz,Int.mul_zero]
def OL(L:List (Nat->Int)):Nat->Nat->Int:=λr c=>L.getD c (λ_=>0) r
def dt(L:List (Nat->Int)):Int:=jN L.length (OL L)
theorem qic{A B:List (Nat->Int)}{u v:Nat->Int}:∀{c:Nat},c≠A.length->(A++u::B).getD c (λ_=>0)=(A++v::B).getD c (λ_=>0):=by
 induction A with
 |nil=>intro c hc;cases c with
  |zero=>exact absurd rfl hc
  |succ c=>rfl
 |cons a A ih=>intro c hc;cases c with
  |zero=>rfl
  |succ c=>exact ih (c:=c) (λe=>hc (by simp[e]))
theorem getD_at{A B:List (Nat->Int)}{u:Nat->Int}:(A++u::B).getD A.length (λ_=>0)=u:=by
 induction A with
 |nil=>rfl
 |cons a A ih=>exact ih
theorem Lh{A B:List (Nat->Int)}{w u v:Nat->Int}(s t:Int)(h:∀r,w r=s*u r+t*v r):dt (A++w::B)=s*dt (A++u::B)+t*dt (A++v::B):=by
 have e:∀u:Nat->Int,dt (A++u::B)=jN (A.length+(B.length+1)) (OL (A++u::B)):=λu=>by unfold dt;rw[List.length_append,List.length_cons]
 rw[e,e,e];refine qhp _ _ _ _ A.length s t (by omega) (λr i hi=>congrFun (qic hi) r) (λr i hi=>congrFun (qic hi) r) λr=>?_;show(A++w::B).getD A.length (λ_=>0) r=s*(A++u::B).getD A.length (λ_=>0) r+t*(A++v::B).getD A.length (λ_=>0) r;rw[getD_at,getD_at,getD_at];exact h r
theorem Ui(A B:List (Nat->Int))(u:Nat->Int):dt (A++u::u::B)=0:=by
 unfold dt;refine qah _ _ A.length (by simp) λr=>?_;show(A++u::u::B).getD A.length (λ_=>0) r=(A++u::u::B).getD (A.length+1) (λ_=>0) r;rw[getD_at,show A++u::u::B=(A++[u])++u::B by simp,show A.length+1=(A++[u]).length by simp,getD_at]
theorem qsn(A B:List (Nat->Int))(u v:Nat->Int):dt (A++u::v::B)= -dt (A++v::u::B):=by
 have h0:=Ui A B (λr=>u r+v r)
 have h1:=Lh (A:=A) (B:=(λr=>u r+v r)::B) (w:=λr=>u r+v r) (u:=u) (v:=v) 1 1 λr=>by omega
 have h2:=Lh (A:=A++[u]) (B:=B) (w:=λr=>u r+v r) (u:=u) (v:=v) 1 1 λr=>by omega
 have h3:=Lh (A:=A++[v]) (B:=B) (w:=λr=>u r+v r) (u:=u) (v:=v) 1 1 λr=>by omega
 simp only[List.append_assoc,List.singleton_append]at h2 h3;have h4:=Ui A B u;have h5:=Ui A B v;omega
def jU(k:Nat):Int:=if k%2=0 then 1 else-1
theorem V7(k:Nat):jU (k+1)= -jU k:=qn2 k
theorem qn3(j k:Nat):jU (j+k)=jU j*jU k:=by
 induction k with
 |zero=>simp[jU]
 |succ k ih=>rw[<-Nat.add_assoc,V7,V7,ih];grind
theorem qyJ(k:Nat):jU k*jU k=1:=by unfold jU;split<;>rfl
theorem qn4{k:Nat}(h:k%2=0):jU k=1:=if_pos h
theorem qdq(k:Nat):(-1:Int)^k=jU k:=by
 induction k with
 |zero=>rfl
 |succ k ih=>rw[Int.pow_succ,ih,V7];omega
theorem qao(B:List (Nat->Int))(u:Nat->Int):∀(X A:List (Nat->Int)),dt (A++u::(X++B))=jU X.length*dt (A++(X++u::B))
 |[],A=>by simp[jU]
 |x::X,A=>by
  rw[List.cons_append,qsn A (X++B) u x,show A++x::u::(X++B)=(A++[x])++u::(X++B) by simp,qao B u X (A++[x]),List.length_cons,V7];simp only[List.append_assoc,List.cons_append,List.nil_append];generalize dt (A++x::(X++u::B))=d;generalize jU _=g
  grind
theorem qhG(Y B:List (Nat->Int)):∀(X A:List (Nat->Int)),dt (A++(X++(Y++B)))=jU (X.length*Y.length)*dt (A++(Y++(X++B)))
 |[],A=>by simp[jU]
 |x::X,A=>by
  have h1:=qhG Y B X (A++[x]);have h2:=qao (X++B) x Y A;rw[List.length_cons,Nat.add_mul,Nat.one_mul,qn3];simp only[List.append_assoc,List.cons_append,List.nil_append]at h1 h2⊢;rw[h1,h2];generalize dt _=d;generalize jU (X.length*Y.length)=g;generalize jU Y.length=k
  grind
theorem qsj(A B:List (Nat->Int)){u:Nat->Int}(h:u∈B):dt (A++u::B)=0:=by
 obtain⟨X,Y,rfl⟩:=List.append_of_mem h;rw[qao (u::Y) u X A, <-List.append_assoc,Ui,Int.mul_zero]
def Ak:List (Int × (Nat->Int))->Nat->Int
 |[],_=>0
 |p::l,r=>p.1*p.2 r+Ak l r
theorem qhE(A B:List (Nat->Int))(u:Nat->Int)(s:Int):∀(ps:List (Int × (Nat->Int)))(w:Nat->Int),(∀p∈ps,p.2∈B)->(∀r,w r=s*u r+Ak ps r)->dt (A++w::B)=s*dt (A++u::B)
 |[],w,_,h=>by
  have:=Lh (A:=A) (B:=B) (w:=w) (u:=u) (v:=u) s 0 λr=>by rw[h r];simp[Ak]
  rw[this];simp
 |p::ps,w,hm,h=>by
  have h1:=Lh (A:=A) (B:=B) (w:=w) (u:=λr=>s*u r+Ak ps r) (v:=p.2) 1 p.1 λr=>by rw[h r];simp only[Ak];omega
  rw[h1,qhE A B u s ps _ (λq hq=>hm q (List.mem_cons_of_mem _ hq)) λr=>rfl,qsj A B (hm p List.mem_cons_self)];omega
theorem qhF{α:Type}(B:List (Nat->Int))(s:Int)(W U:α->Nat->Int):∀(ks:List α)(A:List (Nat->Int)),(∀k∈ks,∃ps:List (Int × (Nat->Int)),(∀p∈ps,p.2∈B)/\∀r,W k r=s*U k r+Ak ps r)->dt (A++(ks.map W++B))=s^ks.length*dt (A++(ks.map U++B))
 |[],A,_=>by simp
 |k::ks,A,h=>by
  obtain⟨ps,h1,h2⟩:=h k List.mem_cons_self;have ih:=qhF B s W U ks (A++[U k]) λq hq=>h q (List.mem_cons_of_mem _ hq);have h3:=qhE A (ks.map W++B) (U k) s ps (W k) (λp hp=>List.mem_append_right _ (h1 p hp)) h2;simp only[List.append_assoc,List.map_cons,List.cons_append,List.nil_append,List.length_cons]at ih h3⊢;rw[h3,ih,Int.pow_succ];generalize dt _=d;generalize s^ks.length=q
  grind
theorem qsk(A B:List (Nat->Int)){w:Nat->Int}(h:∀r,w r=0):dt (A++w::B)=0:=by
 rw[Lh (u:=w) (v:=w) 0 0 λr=>by rw[h r];rfl];simp
def M7(v:Nat->Int):Nat->Int:=λr=>v (r+1)
theorem qid:∀(B:List (Nat->Int))(c r:Nat),(B.map M7).getD c (λ_=>0) r=B.getD c (λ_=>0) (r+1)
 |[],_,_=>by simp
 |b::B,0,r=>rfl
 |b::B,c+1,r=>qid B c r
theorem qhr{D:(Nat->Nat->Int)->Int}{a:Nat->Nat->Int}:∀n,(∀d,1<=d->d<n+1->a 0 d=0)->jY D a (n+1)=a 0 0*D (iJ a 0)
 |0,_=>by simp[jY,mZ]
 |n+1,h=>by
  show jY D a (n+1)+mZ (n+1)*(a 0 (n+1)*D (iJ a (n+1)))=_;rw[qhr n λd h1 h2=>h d h1 (by omega),h (n+1) (by omega) (by omega)];simp
theorem qs8{B:List (Nat->Int)}(h:∀v∈B,v 0=0):∀c,B.getD c (λ_=>0) 0=0:=by
 induction B with
 |nil=>intro c;simp
 |cons b B ih=>intro c;cases c with
  |zero=>exact h b List.mem_cons_self
  |succ c=>exact ih (λv hv=>h v (List.mem_cons_of_mem _ hv)) c
theorem qap(u:Nat->Int){B:List (Nat->Int)}(h:∀v∈B,v 0=0):dt (u::B)=u 0*dt (B.map M7):=by
 unfold dt;rw[List.length_map];show jY (jN B.length) (OL (u::B)) (B.length+1)=_
 rw[qhr B.length λd h1 h2=>by
  obtain⟨c,rfl⟩:∃c,d=c+1:=⟨d-1,by omega⟩
  exact qs8 h c]
 have e:iJ (OL (u::B)) 0=OL (B.map M7):=funext λr=>funext λj=>(qid B j r).symm;rw[e];rfl
theorem qsm{B:List (Nat->Int)}(hB:B≠[])(h:∀v∈B,v 0=0):dt B=0:=by
 cases B with
 |nil=>exact absurd rfl hB
 |cons u B=>rw[qap u λv hv=>h v (List.mem_cons_of_mem _ hv),h u List.mem_cons_self,Int.zero_mul]
theorem qsl(u:Nat->Int):dt [u]=u 0:=by
 rw[qap u λv hv=>absurd hv (by simp)];show u 0*jN 0 _=_;simp[jN]
structure Pv where
 c:Nat->Int
 v:Int
def Pv.sh(ξ:Int)(i:Nat)(p:Pv):Pv:=⟨λk=>if k<i then 0 else p.c (k-i),ξ^i*p.v⟩
def Pv.vec(T j:Nat)(p:Pv):Nat->Int:=λr=>if r<T-j then p.c (T-r)else p.v
def dn:Nat->List Nat
 |0=>[]
 |n+1=>n::dn n
theorem GV{k:Nat}:∀{n:Nat},k∈dn n↔k<n
 |0=>by simp[dn]
 |n+1=>by simp only[dn,List.mem_cons,GV];omega
theorem QN:∀n,(dn n).length=n
 |0=>rfl
 |n+1=>by simp only[dn,List.length_cons,QN]
def sm(f:Nat->Int):Nat->Int
 |0=>0
 |n+1=>f n+sm f n
theorem Rf{f g:Nat->Int}:∀n,(∀i,i<n->f i=g i)->sm f n=sm g n
 |0,_=>rfl
 |n+1,h=>by simp only[sm];rw[h n (by omega),Rf n λi hi=>h i (by omega)]
theorem We(c:Int)(f:Nat->Int):∀n,sm (λi=>c*f i) n=c*sm f n
 |0=>by simp[sm]
 |n+1=>by simp only[sm];rw[We c f n,Int.mul_add]
theorem qog{f:Nat->Int}:∀n,(∀i,i<n->f i=0)->sm f n=0
 |0,_=>rfl
 |n+1,h=>by simp only[sm];rw[h n (by omega),qog n λi hi=>h i (by omega)];rfl
theorem qmg(g:Nat->Int × (Nat->Int))(r:Nat):∀n,Ak ((dn n).map g) r=sm (λi=>(g i).1*(g i).2 r) n
 |0=>rfl
 |n+1=>by simp only[dn,List.map_cons,Ak,sm];rw[qmg g r n]
def bl(ξ:Int)(P:Pv)(n:Nat):List Pv:=(dn n).map λi=>P.sh ξ i
theorem qcF(ξ:Int)(P:Pv)(n:Nat):(bl ξ P n).length=n:=by unfold bl;rw[List.length_map,QN]
theorem QR{ξ:Int}{P w:Pv}{n:Nat}(h:w∈bl ξ P n):∃i,i<n/\w=P.sh ξ i:=by
 obtain⟨i,hi,e⟩:=List.mem_map.1 h;exact⟨i,GV.1 hi,e.symm⟩
def DD(T j:Nat)(L:List Pv):Int:=dt (L.map (Pv.vec T j))
def dS(ξ:Int)(j m n:Nat)(F G:Pv):Int:=DD (m+n-j-1) j (bl ξ F (n-j)++bl ξ G (m-j))
theorem qzv{T j:Nat}(h:j<=T)(p:Pv):M7 (p.vec (T+1) j)=p.vec T j:=funext λr=>by
 unfold M7 Pv.vec
 by_cases hr:r<T-j
 ·rw[if_pos (by omega),if_pos hr,show T+1-(r+1)=T-r by omega]
 ·rw[if_neg (by omega),if_neg hr]
theorem qdE{T j:Nat}(h:j<T)(p:Pv):p.vec T j 0=p.c T:=by
 unfold Pv.vec;rw[if_pos (by omega)];rfl
theorem Q6{ξ:Int}{j d p T:Nat}{P:Pv}{R:List Pv}(hT:T+1=d+p)(hj:j<=T)(hP:∀k,d<k->P.c k=0)(hR:∀w∈R,∀k,T<k->w.c k=0):∀q,DD (T+q) j (bl ξ P (q+p)++R)=P.c d^q*DD T j (bl ξ P p++R)
 |0=>by rw[Nat.zero_add];simp
 |q+1=>by
  rw[show q+1+p=(q+p)+1 by omega,show T+(q+1)=(T+q)+1 by omega];show dt ((P.sh ξ (q+p)).vec (T+q+1) j::(bl ξ P (q+p)++R).map (Pv.vec (T+q+1) j))=_;rw[qap _ λv hv=>?_,List.map_map,show(M7∘Pv.vec (T+q+1) j)=Pv.vec (T+q) j from funext λp=>qzv (by omega) p]
  ·show _*DD (T+q) j (bl ξ P (q+p)++R)=_;rw[Q6 hT hj hP hR q,qdE (by omega)]
   have e:(P.sh ξ (q+p)).c (T+q+1)=P.c d:=by
    show(if T+q+1<q+p then 0 else P.c (T+q+1-(q+p)))=_
    by_cases h:T+q+1<q+p
    ·omega
    ·rw[if_neg h];congr 1;omega
   rw[e,Int.pow_succ];generalize DD T j _=u;generalize P.c d^q=v
   grind
  ·obtain⟨w,hw,rfl⟩:=List.mem_map.1 hv;rw[qdE (by omega)];rcases List.mem_append.1 hw with h|h
   ·obtain⟨i,hi,rfl⟩:=QR h;show(if T+q+1<i then 0 else P.c (T+q+1-i))=0
    split
    ·rfl
    ·exact hP _ (by omega)
   ·exact hR w h _ (by omega)
theorem qec(T j:Nat)(X Y:List Pv):DD T j (X++Y)=jU (X.length*Y.length)*DD T j (Y++X):=by
 have h:=qhG (Y.map (Pv.vec T j)) [] (X.map (Pv.vec T j)) [];simp only[List.nil_append,List.append_nil,List.length_map]at h;unfold DD;rw[List.map_append,List.map_append];exact h
theorem qrP(ξ:Int)(j m n:Nat)(F G:Pv):dS ξ j n m G F=jU ((m-j)*(n-j))*dS ξ j m n F G:=by
 unfold dS;rw[qec,qcF,qcF,Nat.add_comm n m]
theorem WV(ξ:Int)(T j n:Nat)(s:Int)(A B:List Pv)(W U:Pv)(h:∀k,k<n->∃ps:List (Int × (Nat->Int)),(∀p∈ps,p.2∈B.map (Pv.vec T j))/\∀r,(W.sh ξ k).vec T j r=s*(U.sh ξ k).vec T j r+Ak ps r):DD T j (A++(bl ξ W n++B))=s^n*DD T j (A++(bl ξ U n++B)):=by
 have h1:=qhF (B.map (Pv.vec T j)) s (λk=>(W.sh ξ k).vec T j) (λk=>(U.sh ξ k).vec T j) (dn n) (A.map (Pv.vec T j)) λk hk=>h k (GV.1 hk);rw[QN]at h1;unfold DD bl;simp only[List.map_append,List.map_map];exact h1
def Pv.Mul(s:Int)(U W:Pv):Prop:=(∀k,W.c k=s*U.c k)/\W.v=s*U.v
theorem Pv.Mul.vec{s:Int}{U W:Pv}(h:Pv.Mul s U W)(ξ:Int)(T j k r:Nat):(W.sh ξ k).vec T j r=s*(U.sh ξ k).vec T j r+Ak [] r:=by
 show(if r<T-j then(if T-r<k then 0 else W.c (T-r-k))else ξ^k*W.v)=s*(if r<T-j then(if T-r<k then 0 else U.c (T-r-k))else ξ^k*U.v)+0;rw[h.1,h.2]
 split
 ·split
  ·simp
  ·simp
 ·generalize ξ^k=q
  grind
theorem qhj{ξ:Int}{c d:Int}{F F' G G':Pv}(h:Pv.Mul c F F')(k:Pv.Mul d G G')(j m n:Nat):dS ξ j m n F' G'=c^(n-j)*(d^(m-j)*dS ξ j m n F G):=by
 unfold dS;have h1:=WV ξ (m+n-j-1) j (n-j) c [] (bl ξ G' (m-j)) F' F λi _=>⟨[],λp hp=>absurd hp (by simp),h.vec ξ _ _ i⟩;have h2:=WV ξ (m+n-j-1) j (m-j) d (bl ξ F (n-j)) [] G' G λi _=>⟨[],λp hp=>absurd hp (by simp),k.vec ξ _ _ i⟩;simp only[List.nil_append,List.append_nil]at h1 h2;rw[h1,h2]
structure Eu(ξ s:Int)(q:Nat->Int)(V:Nat)(F G R:Pv):Prop where
 c:∀k,R.c k=s*F.c k+sm (λi=>q i*(G.sh ξ i).c k) V
 v:R.v=s*F.v+sm (λi=>q i*(G.sh ξ i).v) V
theorem Eu.vec{ξ s:Int}{q:Nat->Int}{V:Nat}{F G R:Pv}(h:Eu ξ s q V F G R)(T j k r:Nat):(R.sh ξ k).vec T j r=s*(F.sh ξ k).vec T j r+Ak ((dn V).map λi=>(q i,(G.sh ξ (i+k)).vec T j)) r:=by
 rw[qmg];show(if r<T-j then(if T-r<k then 0 else R.c (T-r-k))else ξ^k*R.v)=s*(if r<T-j then(if T-r<k then 0 else F.c (T-r-k))else ξ^k*F.v)+sm (λi=>q i*(if r<T-j then(if T-r<i+k then 0 else G.c (T-r-(i+k)))else ξ^(i+k)*G.v)) V
 by_cases hr:r<T-j
 ·simp only[if_pos hr]
  by_cases hk:T-r<k
  ·simp only[if_pos hk];rw[qog V λi _=>by rw[if_pos (by omega),Int.mul_zero]];simp
  ·simp only[if_neg hk];rw[h.c]
   congr 1
   refine Rf V λi _=>?_
   congr 1
   show(if T-r-k<i then 0 else G.c (T-r-k-i))=_
   by_cases hi:T-r-k<i
   ·rw[if_pos hi,if_pos (by omega)]
   ·rw[if_neg hi,if_neg (by omega),show T-r-(i+k)=T-r-k-i by omega]
 ·simp only[if_neg hr];rw[h.v,Int.mul_add, <-We]
  congr 1
  ·generalize ξ^k=u
   grind
  ·refine Rf V λi _=>?_;show ξ^k*(q i*(ξ^i*G.v))=_;rw[Int.pow_add];generalize ξ^k=u;generalize ξ^i=w
   grind
theorem qrO{ξ s:Int}{q:Nat->Int}{j m n δ:Nat}{F G R:Pv}(hm:m=n+δ)(hj:j<n)(hG:∀k,n<k->G.c k=0)(hR:∀k,n<=k->R.c k=0)(h:Eu ξ s q (δ+1) F G R):s^(n-j)*dS ξ j m n F G=jU ((n-j)*(m-j))*(G.c n^(δ+1)*dS ξ j n (n-1) G R):=by
 have h1:=WV ξ (m+n-j-1) j (n-j) s [] (bl ξ G (m-j)) R F λk hk=>⟨_,λp hp=>by
  obtain⟨i,hi,rfl⟩:=List.mem_map.1 hp;refine List.mem_map.2 ⟨G.sh ξ (i+k),List.mem_map.2 ⟨i+k,GV.2 ?_,rfl⟩,rfl⟩;have:=GV.1 hi
  omega,h.vec (m+n-j-1) j k⟩
 have h2:=qec (m+n-j-1) j (bl ξ R (n-j)) (bl ξ G (m-j))
 have h3:=Q6 (ξ:=ξ) (j:=j) (d:=n) (p:=n-1-j) (T:=n+(n-1)-j-1) (P:=G) (R:=bl ξ R (n-j)) (by omega) (by omega) hG (λw hw k hk=>by
  obtain⟨i,hi,rfl⟩:=QR hw;show(if k<i then 0 else R.c (k-i))=0
  split
  ·rfl
  ·exact hR _ (by omega)) (δ+1)
 simp only[List.nil_append,qcF]at h1 h2;rw[show n+(n-1)-j-1+(δ+1)=m+n-j-1 by omega,show δ+1+(n-1-j)=m-j by omega]at h3;rw[h2,h3]at h1;exact h1.symm
theorem qhi{ξ:Int}{q:Nat->Int}{j m n δ:Nat}{F G R:Pv}(hm:m=n+δ)(hj:j<n)(hG:∀k,n<k->G.c k=0)(hR:∀k,n<=k->R.c k=0)(h:Eu ξ ((-G.c n)^(δ+1)) q (δ+1) F G R):(G.c n^(δ+1))^(n-j)*dS ξ j m n F G=G.c n^(δ+1)*dS ξ j n (n-1) G R:=by
 have h1:=qrO hm hj hG hR h
 have e1:(-G.c n)^(δ+1)=jU (δ+1)*G.c n^(δ+1):=by
  rw[show-G.c n=(-1)*G.c n by omega,Int.mul_pow,qdq]
 have e2:(jU (δ+1)*G.c n^(δ+1))^(n-j)=jU ((δ+1)*(n-j))*(G.c n^(δ+1))^(n-j):=by
  rw[Int.mul_pow, <-qdq (δ+1), <-Int.pow_mul,qdq]
 have e3:jU ((δ+1)*(n-j))*jU ((n-j)*(m-j))=1:=by
  rw[<-qn3];refine qn4 ?_;obtain⟨a,ha⟩:∃a,n=j+a:=⟨n-j,by omega⟩;subst ha;subst hm;rw[show j+a-j=a by omega,show j+a+δ-j=a+δ by omega,Nat.mul_comm (δ+1) a, <-Nat.mul_add];rw[show δ+1+(a+δ)=a+1+2*δ by omega,Nat.mul_add]
  have h5:a*(a+1)%2=0:=by
   rcases Nat.mod_two_eq_zero_or_one a with h|h
   ·rw[Nat.mul_mod,h];simp
   ·rw[Nat.mul_mod,Nat.add_mod,h]
  have h6:a*(2*δ)%2=0:=by rw[Nat.mul_left_comm];omega
  omega
 rw[e1,e2]at h1;generalize dS ξ j m n F G=A at*;generalize dS ξ j n (n-1) G R=B at*;generalize (G.c n^(δ+1))^(n-j)=u at*;generalize G.c n^(δ+1)=w at*;generalize hx:jU ((δ+1)*(n-j))=x at*;generalize hy:jU ((n-j)*(m-j))=y at*
 have GQ:x*x=1:=by rw[<-hx];exact qyJ _
 have h7:x*(x*u*A)=x*(y*(w*B)):=by rw[h1]
 have h8:x*(x*u*A)=u*A:=by
  have:x*(x*u*A)=(x*x)*(u*A):=by grind
  rw[this,GQ,Int.one_mul]
 have h9:x*(y*(w*B))=w*B:=by
  have:x*(y*(w*B))=(x*y)*(w*B):=by grind
  rw[this,e3,Int.one_mul]
 rw[<-h8, <-h9];exact h7
theorem qad{ξ:Int}{j d e:Nat}{A B:Pv}(hje:j<=e)(he:e<d)(hA:∀k,d<k->A.c k=0)(hB:∀k,e<k->B.c k=0):dS ξ j d (d-1) A B=A.c d^(d-1-e)*dS ξ j d e A B:=by
 have h3:=Q6 (ξ:=ξ) (j:=j) (d:=d) (p:=e-j) (T:=d+e-j-1) (P:=A) (R:=bl ξ B (d-j)) (by omega) (by omega) hA (λw hw k hk=>by
  obtain⟨i,hi,rfl⟩:=QR hw;show(if k<i then 0 else B.c (k-i))=0
  split
  ·rfl
  ·exact hB _ (by omega)) (d-1-e)
 rw[show d+e-j-1+(d-1-e)=d+(d-1)-j-1 by omega,show d-1-e+(e-j)=d-1-j by omega]at h3;exact h3
theorem qae{ξ:Int}{d e:Nat}{A B:Pv}(he:e<d)(hB:∀k,e<k->B.c k=0):dS ξ e d e A B=B.c e^(d-e-1)*B.v:=by
 have h3:=Q6 (ξ:=ξ) (j:=e) (d:=e) (p:=1) (T:=e) (P:=B) (R:=[]) (by omega) (by omega) hB (λw hw=>absurd hw (by simp)) (d-e-1);rw[show e+(d-e-1)=d+e-e-1 by omega,show d-e-1+1=d-e by omega,List.append_nil,List.append_nil]at h3;unfold dS;rw[show e-e=0 by omega];show DD (d+e-e-1) e ([]++bl ξ B (d-e))=_;rw[List.nil_append,h3]
 congr 1
 show dt [(B.sh ξ 0).vec e e]=_;rw[qsl];show(if 0<e-e then _ else ξ^0*B.v)=_;rw[if_neg (by omega)];simp
theorem qrQ{ξ:Int}{j d:Nat}{A B:Pv}(hj:j+1<d)(hA:∀k,d<k->A.c k=0)(hB:∀k,j<=k->B.c k=0):dS ξ j d (d-1) A B=0:=by
 have h3:=Q6 (ξ:=ξ) (j:=j) (d:=d) (p:=0) (T:=d-1) (P:=A) (R:=bl ξ B (d-j)) (by omega) (by omega) hA (λw hw k hk=>by
  obtain⟨i,hi,rfl⟩:=QR hw;show(if k<i then 0 else B.c (k-i))=0
  split
  ·rfl
  ·exact hB _ (by omega)) (d-1-j)
 rw[show d-1+(d-1-j)=d+(d-1)-j-1 by omega,Nat.add_zero]at h3
 have h4:DD (d-1) j (bl ξ A 0++bl ξ B (d-j))=0:=by
  refine qsm ?_ λv hv=>?_
  ·rw[show d-j=(d-j-1)+1 by omega];simp[bl,dn]
  ·obtain⟨w,hw,rfl⟩:=List.mem_map.1 hv;rw[qdE (by omega)];rcases List.mem_append.1 hw with h|h
   ·exact absurd h (by simp[bl,dn])
   ·obtain⟨i,hi,rfl⟩:=QR h;show(if d-1<i then 0 else B.c (d-1-i))=0
    split
    ·rfl
    ·exact hB _ (by omega)
 rw[h4,Int.mul_zero]at h3;exact h3
theorem qrR{ξ:Int}{j m n:Nat}{A B:Pv}(hj:j<m)(hB:∀k,B.c k=0)(hv:B.v=0):dS ξ j m n A B=0:=by
 unfold dS DD bl;rw[show m-j=(m-j-1)+1 by omega,List.map_append];refine qsk _ _ (w:=(B.sh ξ (m-j-1)).vec (m+n-j-1) j) λr=>?_;show(if _ then(if _ then 0 else B.c _)else ξ^_*B.v)=0;rw[hB,hv]
 split
 ·split<;>rfl
 ·simp
end Go.Proofs.YtmcfpnmoklnhoaaGreat
namespace Go.Proofs.YtmcfpnmoklnhoaaGreat
open Go.RowKit
def qnD(T j J i:Nat)(F:List Tm):Nat->List Tm:=λr=>if r<T-j then(if T-r<i then[]else ck J ((T-r-i:Nat):Int) F)else shift (xp J (i:Int)) F
def nW(T j J:Nat)(F:List Tm)(n:Nat):List (Nat->List Tm):=(dn n).map λi=>qnD T j J i F
def SJ(J j m n:Nat)(F G:List Tm):List Tm:=lV (n-j+(m-j)) λr c=>(nW (m+n-j-1) j J F (n-j)++nW (m+n-j-1) j J G (m-j)).getD c (λ_=>[]) r
def pv(J:Nat)(x:Nat->Int)(F:List Tm):Pv:=⟨λk=>ev x (ck J (k:Int) F),ev x F⟩
theorem qia{P:List Tm->Prop}(h0:P []):∀(L:List (Nat->List Tm)),(∀p∈L,∀r,P (p r))->∀c r,P (L.getD c (λ_=>[]) r)
 |[],_,c,r=>by simpa using h0
 |p::L,h,0,r=>h p List.mem_cons_self r
 |p::L,h,c+1,r=>qia h0 L (λq hq=>h q (List.mem_cons_of_mem _ hq)) c r
theorem qxy{P:List Tm->Prop}(h0:P []){T j J n:Nat}{F:List Tm}(h1:∀k:Nat,P (ck J (k:Int) F))(h2:∀i,i<n->P (shift (xp J (i:Int)) F)):∀p∈nW T j J F n,∀r,P (p r):=λp hp r=>by
 obtain⟨i,hi,rfl⟩:=List.mem_map.1 hp;show P (if r<T-j then(if T-r<i then[]else ck J ((T-r-i:Nat):Int) F)else shift (xp J (i:Int)) F)
 split
 ·split
  ·exact h0
  ·exact h1 _
 ·exact h2 i (GV.1 hi)
theorem qib(x:Nat->Int):∀(L:List (Nat->List Tm))(c r:Nat),ev x (L.getD c (λ_=>[]) r)=(L.map λp r=>ev x (p r)).getD c (λ_=>0) r
 |[],c,r=>by simp[ev]
 |p::L,0,r=>rfl
 |p::L,c+1,r=>qib x L c r
section
variable{J:Nat}(h1:1<=J)(h4:J<=4)
include h1 h4
theorem qnd{T j n:Nat}{F:List Tm}(hF:NN F):∀p∈nW T j J F n,∀r,NN (p r):=qxy NN.nil (λ_=>eQ h1 h4 hF) λ_ _=>hF.shift
theorem Wd{j m n:Nat}{F G:List Tm}(hF:NN F)(hG:NN G)(T c r:Nat):NN ((nW T j J F (n-j)++nW T j J G (m-j)).getD c (λ_=>[]) r):=
 qia NN.nil _ (λp hp=>(List.mem_append.1 hp).elim (qnd h1 h4 hF p) (qnd h1 h4 hG p)) c r
theorem gZ{F G:List Tm}(hF:NN F)(hG:NN G)(j m n:Nat):NN (SJ J j m n F G):=QW _ _ λi k=>Wd h1 h4 hF hG _ k i
theorem qnE(x:Nat->Int){F:List Tm}(hF:NN F)(T j i:Nat):(λr=>ev x (qnD T j J i F r))=((pv J x F).sh (x (J-1)) i).vec T j:=funext λr=>by
 show ev x (if r<T-j then(if T-r<i then[]else ck J ((T-r-i:Nat):Int) F)else shift (xp J (i:Int)) F)=if r<T-j then(if T-r<i then 0 else ev x (ck J ((T-r-i:Nat):Int) F))else x (J-1)^i*ev x F
 split
 ·split
  ·rfl
  ·rfl
 ·rw[Uk x _ (WG J i) hF,qaq x J i h1 h4]
theorem FP(x:Nat->Int){F G:List Tm}(hF:NN F)(hG:NN G)(j m n:Nat):ev x (SJ J j m n F G)=dS (x (J-1)) j m n (pv J x F) (pv J x G):=by
 unfold SJ;rw[OP x _ _ λi k=>Wd h1 h4 hF hG _ k i];unfold dS DD dt
 have e:((bl (x (J-1)) (pv J x F) (n-j)++bl (x (J-1)) (pv J x G) (m-j)).map (Pv.vec (m+n-j-1) j))=(nW (m+n-j-1) j J F (n-j)++nW (m+n-j-1) j J G (m-j)).map λp r=>ev x (p r):=by
  unfold bl nW;simp only[List.map_append,List.map_map]
  congr 1
  ·refine List.map_congr_left λi _=>?_;exact(qnE h1 h4 x hF _ _ i).symm
  ·refine List.map_congr_left λi _=>?_;exact(qnE h1 h4 x hG _ _ i).symm
 rw[e,List.length_map,List.length_append];unfold nW;rw[List.length_map,List.length_map,QN,QN]
 congr 1
 funext r c
 exact qib x _ c r
theorem qg2{q c:List Tm}(hc:gK J c)(nc:NN c)(e:Int):ae (ck J e (ai q c)) (ai (ck J e q) c):=by
 have hs:=l7 nc;refine(gV (hs.symm.rf q)).trans ?_;rw[ZW h1 h4 (λt ht=>hc _ (by rw[<-hs t.2];exact IP (qZ c) ht)) q];exact hs.rf _
theorem y8{q c:List Tm}(hc:gK J c)(nc:NN c)(e:Int):ae (ck J e (ai c q)) (ai c (ck J e q)):=
 (gV (ae.sW _ _)).trans ((qg2 h1 h4 hc nc e).trans (ae.sW _ _))
theorem qg4{l:List Tm}(nl:NN l)(i k:Nat):ae (ck J (k:Int) (shift (xp J (i:Int)) l)) (if k<i then[]else ck J ((k-i:Nat):Int) l):=λm=>by
 rw[mE h1 h4,rG]
 by_cases h:m.get J=0
 ·rw[if_pos h]
  by_cases hk:k<i
  ·rw[if_pos hk];show _=0;refine nl _ ?_
   cases hn:(Mo.sub (Mo.add m (xp J (k:Int))) (xp J (i:Int))).nn with
   |false=>rfl
   |true=>
    have:=vL hn J;rw[sJ,gL,dX J J _ h1 h4,dX J J _ h1 h4,if_pos rfl,if_pos rfl,h]at this;omega
  ·rw[if_neg hk,mE h1 h4,if_pos h]
   congr 1
   refine Mo.ext_get λa _ _=>?_;rw[sJ,gL,gL,dX _ _ _ h1 h4,dX _ _ _ h1 h4,dX _ _ _ h1 h4]
   split<;>omega
 ·rw[if_neg h]
  by_cases hk:k<i
  ·rw[if_pos hk];rfl
  ·rw[if_neg hk,mE h1 h4,if_neg h]
theorem qh0(x:Nat->Int){Q:Nat->List Tm}{G:List Tm}(hG:NN G):∀V,(∀i,i<V->NN (Q i))->ev x (ai (aJ J V Q) G)=sm (λi=>ev x (Q i)*((pv J x G).sh (x (J-1)) i).v) V
 |0,_=>rfl
 |V+1,hQ=>by
  rw[fK,Cw,lW,qh0 x hG V λi hi=>hQ i (by omega),bQ x (hQ V (by omega)).shift hG,Uk x _ (WG J V) (hQ V (by omega)),qaq x J V h1 h4];show _=ev x (Q V)*(x (J-1)^V*ev x G)+_;generalize sm _ V=s;generalize x (J-1)^V=t
  grind
theorem qhZ(x:Nat->Int){Q:Nat->List Tm}{G:List Tm}(hG:NN G)(k:Nat):∀V,(∀i,i<V->NN (Q i)/\gK J (Q i))->ev x (ck J (k:Int) (ai (aJ J V Q) G))=sm (λi=>ev x (Q i)*((pv J x G).sh (x (J-1)) i).c k) V
 |0,_=>rfl
 |V+1,hQ=>by
  rw[fK,Cw,TP,lW,qhZ x hG k V λi hi=>hQ i (by omega),eT x (gV (G7 _ _ _)),eT x (qg4 h1 h4 (bE (hQ V (by omega)).1 hG) V k)];show _=ev x (Q V)*(if k<V then 0 else ev x (ck J ((k-V:Nat):Int) G))+_
  by_cases h:k<V
  ·simp only[if_pos h];show _+0=_;generalize sm _ V=s;omega
  ·simp only[if_neg h];rw[eT x (y8 h1 h4 (hQ V (by omega)).2 (hQ V (by omega)).1 _),bQ x (hQ V (by omega)).1 (eQ h1 h4 hG),Int.add_comm]
theorem qsF{c F G R:List Tm}{Q:Nat->List Tm}{V:Nat}(nc:NN c)(fc:gK J c)(nF:NN F)(nG:NN G)(hQ:∀i,i<V->NN (Q i)/\gK J (Q i))(h:ae (ai c F) (ai (aJ J V Q) (di G)++R))(x:Nat->Int):Eu (x (J-1)) (ev x c) (λi=>ev x (Q i)) V (pv J x F) (pv J x G) (pv J x R):=by
 have JH:=qB nG;refine⟨λk=>?_,?_⟩
 ·have e:=eT x (gV (k:=J) (e:=(k:Int)) h);rw[eT x (y8 h1 h4 fc nc _),bQ x nc (eQ h1 h4 nF),TP,lW,qhZ h1 h4 x JH k V hQ]at e
  have e2:sm (λi=>ev x (Q i)*((pv J x (di G)).sh (x (J-1)) i).c k) V= -sm (λi=>ev x (Q i)*((pv J x G).sh (x (J-1)) i).c k) V:=by
   rw[show∀z:Int, -z=(-1)*z fromλz=>by omega, <-We];refine Rf V λi _=>?_;show ev x (Q i)*(if k<i then 0 else ev x (ck J ((k-i:Nat):Int) (di G)))= -1*(ev x (Q i)*(if k<i then 0 else ev x (ck J ((k-i:Nat):Int) G)))
   split
   ·simp
   ·rw[eT x (ZV h1 h4 _ G),FQ x (eQ h1 h4 nG)];generalize ev x (Q i)=a;generalize ev x _=b
    grind
  rw[e2]at e;show ev x (ck J (k:Int) R)=ev x c*ev x (ck J (k:Int) F)+_;omega
 ·have e:=eT x h;rw[bQ x nc nF,lW,qh0 h1 h4 x JH V λi hi=>(hQ i hi).1]at e
  have e2:sm (λi=>ev x (Q i)*((pv J x (di G)).sh (x (J-1)) i).v) V= -sm (λi=>ev x (Q i)*((pv J x G).sh (x (J-1)) i).v) V:=by
   rw[show∀z:Int, -z=(-1)*z fromλz=>by omega, <-We];refine Rf V λi _=>?_;show ev x (Q i)*(x (J-1)^i*ev x (di G))= -1*(ev x (Q i)*(x (J-1)^i*ev x G));rw[FQ x nG];generalize ev x (Q i)=a;generalize x (J-1)^i=t
   grind
  rw[e2]at e;show ev x R=ev x c*ev x F+_;omega
end
theorem Li{p u v:List Tm}(np:NN p)(nu:NN u)(nv:NN v)(hz:¬ae p [])(h:∀x,ev x p*ev x u=ev x p*ev x v):ae u v:=
 Q7 nu nv np hz (vM (bE nu np) (bE nv np) λx=>by
  rw[bQ x nu np,bQ x nv np,Int.mul_comm,h x,Int.mul_comm])
theorem bC{l:List Tm}(h:NN l):∀k,NN (bA l k)
 |0=>qW 1
 |k+1=>bE (bC h k) h
theorem iY(x:Nat->Int){l:List Tm}(h:NN l):∀k,ev x (bA l k)=ev x l^k
 |0=>by rw[qh1,Int.pow_zero]
 |k+1=>by rw[JO,bQ x (bC h k) h,iY x h k,Int.pow_succ]
theorem GZ:¬ae [((1:Int),Mo.zero)] []:=λh=>by have:=h Mo.zero;simp[aB]at this
theorem mV{l:List Tm}(h:NN l)(hz:¬ae l []):∀k,¬ae (bA l k) []
 |0=>GZ
 |k+1=>lT (bC h k) h (mV h hz k) hz
theorem FR(J:Nat):gK J [((1:Int),Mo.zero)]:=λm hm=>by
 have h:m=Mo.zero:=Classical.byContradiction λhc=>hm (by simp only[aB];rw[if_neg λe=>hc e.symm];rfl);rw[h,ve]
theorem uZ{J:Nat}{l:List Tm}(h:NN l)(hf:gK J l):∀k,gK J (bA l k)
 |0=>FR J
 |k+1=>(uZ h hf k).ai hf (bC h k)
theorem qdf{J:Nat}{l r:List Tm}(h:ae l r)(x:Nat->Int):pv J x l=pv J x r:=by
 unfold pv;rw[eT x h]
 congr 1
 funext k
 exact eT x (gV h)
theorem VW{J d:Nat}{l:List Tm}(h:∀k:Nat,d<=k->ae (ck J (k:Int) l) [])(x:Nat->Int)(k:Nat)(hk:d<=k):(pv J x l).c k=0:=eT x (h k hk)
theorem y9{J n:Nat}(h1:1<=J)(h4:J<=4){l:List Tm}(h:bD J l n)(x:Nat->Int)(k:Nat)(hk:n<k):(pv J x l).c k=0:=eT x (h.ZX h1 h4 hk)
theorem uE{J n:Nat}(h1:1<=J)(h4:J<=4){l:List Tm}(nl:NN l)(h:bD J l n)(hz:¬ae l []):¬ae (ck J (n:Int) l) []:=by
 cases n with
 |succ n=>exact h.ckn h1 h4 (by omega)
 |zero=>exactλh0=>hz (qw0 h1 h4 nl λi=>by
  cases i with
  |zero=>exact h0
  |succ i=>exact h.ZX h1 h4 (by omega))
theorem VY{J n δ:Nat}{f g:List Tm}(h1:1<=J)(h4:J<=4)(nf:NN f)(ng:NN g)(zf:¬ae f [])(df:bD J f (n+δ))(dg:bD J g n):NN (kg J n (δ+1) f (di g))/\(∀k:Nat,n<=k->ae (ck J (k:Int) (kg J n (δ+1) f (di g))) [])/\∀x,∃q,Eu (x (J-1)) ((-(pv J x g).c n)^(δ+1)) q (δ+1) (pv J x f) (pv J x g) (pv J x (kg J n (δ+1) f (di g))):=by
 obtain⟨B,hB⟩:=BC f;obtain⟨C,hC⟩:=BC g;have Ue:bD J (di g) n:=⟨λm hm=>dg.1 m λe=>hm (by rw[qA,e];rfl),dg.2.imp id λ⟨m,hm,e⟩=>⟨m,λe0=>hm (by rw[qA]at e0;omega),e⟩⟩;have H:kX J n (δ+1) B C _ _ f (di g):=⟨h1,h4,nf,qB ng,hB,QV hC,Nat.le_refl _,Nat.le_refl _,Ue,.inr ⟨zf,n+δ,df,by omega⟩⟩;refine⟨H.qdj,λk hk=>?_,λx=>?_⟩
 ·have e:kg J n (δ+1) f (di g)=aJ J n λi=>if i<n then fT n (δ+1) (eZ J (di g)) (eZ J f) (δ+1) i else[]:=VQ _ _ _ _ λi hi=>(if_pos hi).symm
  have e2:=ZR h1 h4 (P:=λi=>if i<n then fT n (δ+1) (eZ J (di g)) (eZ J f) (δ+1) i else[]) (λi=>by
   by_cases h:i<n
   ·rw[if_pos h];exact(H.rest i h).2.1
   ·rw[if_neg h];exact gK.nil _) k n
  rw[if_neg (by omega)]at e2;rw[e];exact e2
 ·have nc:=eQ h1 h4 (e:=(n:Int)) (qB ng);have h:=qsF h1 h4 (bC nc _) (uZ nc (uY h1 h4 _ _) _) nf ng (λi hi=>⟨(H.quo i hi).1,(H.quo i hi).2.1⟩) H.law x;rw[iY x nc,eT x (ZV h1 h4 _ g),FQ x (eQ h1 h4 ng)]at h;exact⟨_,h⟩
theorem qsi{s la lb t Sj D1 D2 D3:Int}{g1 X:Nat}(r1:(s*la)^(g1+1+X)*Sj=la^g1*D1)(r2:(lb^(g1+2))^(X+1)*D1=lb^(g1+2)*D2)(r3:(s^g1)^X*((s^(g1+1)*la)^(X+1)*D3)=(lb^g1)^X*D2)(r4:s^g1*t=lb^(g1+1)):
 (lb^(g1+2)*la^g1*((s^g1)^X*(s^(g1+1)*la)^(X+1)))*((t*t)^X*Sj)=(lb^(g1+2)*la^g1*((s^g1)^X*(s^(g1+1)*la)^(X+1)))*D3:=by
 have e1:(lb^g1)^X*(lb^(g1+2))^X=(s^g1)^X*(s^g1)^X*(t*t)^X:=by
  rw[<-Int.mul_pow, <-Int.mul_pow, <-Int.mul_pow]
  congr 1
  have:lb^g1*lb^(g1+2)=lb^(g1+1)*lb^(g1+1):=by rw[<-Int.pow_add, <-Int.pow_add];congr 1;omega
  rw[this, <-r4];generalize s^g1=u
  grind
 have e2:(s^(g1+1)*la)^(X+1)=(s^g1)^X*(s*la)^X*(s^g1*s*la):=by
  rw[Int.pow_succ (s^(g1+1)*la),Int.pow_succ s g1,Int.mul_assoc (s^g1) s la,Int.mul_pow]
 have e3:(s*la)^(g1+1+X)=s^g1*s*(la^g1*la)*(s*la)^X:=by
  rw[Int.pow_add,Int.mul_pow,Int.pow_succ,Int.pow_succ]
 have e4:(lb^(g1+2))^(X+1)=(lb^(g1+2))^X*lb^(g1+2):=Int.pow_succ _ _;rw[e2]at r3⊢;rw[e3]at r1;rw[e4]at r2;generalize (lb^(g1+2))^X=LX at*;generalize lb^(g1+2)=L at*;generalize (lb^g1)^X=M at*;generalize (s^g1)^X=sX at*;generalize (s*la)^X=pX at*;generalize (t*t)^X=tX at*;generalize la^g1=lm at*;generalize s^g1=sg at*
 have a1:L*lm*(sX*(sX*pX*(sg*s*la)))*D3=L*lm*(M*D2):=by rw[<-r3];simp only[Int.mul_assoc]
 have a2:L*lm*(M*D2)=lm*M*(LX*L*D1):=by rw[r2];ac_rfl
 have a3:lm*M*(LX*L*D1)=(M*LX)*L*(lm*D1):=by ac_rfl
 rw[a1,a2,a3,e1, <-r1]
 ac_rfl
structure sI(J m n:Nat)(f g:List Tm)(d:Nat)(a s:List Tm):Prop where
 pos:1<=d
 na:NN a
 za:¬ae a []
 ns:NN s
 fs:gK J s
 zs:¬ae s []
 da:bD J a d
 low:∀k:Nat,d<=k->ae (ck J (k:Int) (SJ J (d-1) m n f g)) []
 id:∀j,j<d->∀x,(ev x s*ev x (ck J (d:Int) a))^(d-1-j)*ev x (SJ J j m n f g)=dS (x (J-1)) j d (d-1) (pv J x a) (pv J x (SJ J (d-1) m n f g))
theorem qm1{p u:List Tm}(np:NN p)(nu:NN u)(h:¬ae p [])(k:ae (ai p u) []):ae u []:=Classical.byContradiction λhc=>lT np nu h hc k
theorem qde{J:Nat}(h1:1<=J)(h4:J<=4){c l:List Tm}(nc:NN c)(fc:gK J c)(nl:NN l)(x:Nat->Int):Pv.Mul (ev x c) (pv J x l) (pv J x (ai c l)):=
 ⟨λk=>by
  show ev x (ck J (k:Int) (ai c l))=ev x c*ev x (ck J (k:Int) l)
  rw[eT x (y8 h1 h4 fc nc _),bQ x nc (eQ h1 h4 nl)],bQ x nc nl⟩
section
variable{J:Nat}(h1:1<=J)(h4:J<=4){f g:List Tm}(nf:NN f)(ng:NN g)
include h1 h4 nf ng
theorem qdu{n δ:Nat}(hn:1<=n)(zf:¬ae f [])(zg:¬ae g [])(df:bD J f (n+δ))(dg:bD J g n):ae (SJ J (n-1) (n+δ) n f g) (kg J n (δ+1) f (di g))/\sI J (n+δ) n f g n g (bA (ck J (n:Int) g) δ):=by
 obtain⟨nR,lR,eR⟩:=VY h1 h4 nf ng zf df dg;have nl:NN (ck J (n:Int) g):=eQ h1 h4 ng;have zl:=uE h1 h4 ng dg zg;have fl:=uY h1 h4 (n:Int) g;generalize kg J n (δ+1) f (di g)=R at*
 have E:∀j,j<n->∀x,ev x (bA (ck J (n:Int) g) (δ+1))*ev x (ai (bA (bA (ck J (n:Int) g) (δ+1)) (n-1-j)) (SJ J j (n+δ) n f g))=ev x (bA (ck J (n:Int) g) (δ+1))*ev x (SJ J j n (n-1) g R):=λj hj x=>by
  obtain⟨q,hq⟩:=eR x;have:=qhi (ξ:=x (J-1)) (j:=j) rfl hj (λk hk=>y9 h1 h4 dg x k hk) (λk hk=>VW lR x k hk) hq;rw[<-FP h1 h4 x nf ng, <-FP h1 h4 x ng nR]at this;rw[bQ x (bC (bC nl _) _) (gZ h1 h4 nf ng _ _ _),iY x (bC nl _),iY x nl];have e:(pv J x g).c n=ev x (ck J (n:Int) g):=rfl;rw[e,show n-j=(n-1-j)+1 by omega,Int.pow_succ]at this;rw[<-this]
  ac_rfl
 have E2:∀j,j<n->ae (ai (bA (bA (ck J (n:Int) g) (δ+1)) (n-1-j)) (SJ J j (n+δ) n f g)) (SJ J j n (n-1) g R):=λj hj=>
  Li (bC nl _) (bE (bC (bC nl _) _) (gZ h1 h4 nf ng _ _ _)) (gZ h1 h4 ng nR _ _ _) (mV nl zl _) (E j hj)
 have hs:ae (SJ J (n-1) (n+δ) n f g) R:=vM (gZ h1 h4 nf ng _ _ _) nR λx=>by
  have h:=eT x (E2 (n-1) (by omega));rw[bQ x (bC (bC nl _) _) (gZ h1 h4 nf ng _ _ _),Nat.sub_self,qh1,Int.one_mul,FP h1 h4 x ng nR,qae (d:=n) (e:=n-1) (by omega) (λk hk=>VW lR x k (by omega)),show n-(n-1)-1=0 by omega,Int.pow_zero,Int.one_mul]at h;exact h
 refine⟨hs,hn,ng,zg,bC nl _,uZ nl fl _,mV nl zl _,dg,λk hk=>(gV hs).trans (lR k hk),λj hj x=>?_⟩;have h:=eT x (E2 j hj);rw[bQ x (bC (bC nl _) _) (gZ h1 h4 nf ng _ _ _),iY x (bC nl _),iY x nl,FP h1 h4 x ng nR,Int.pow_succ]at h;rw[qdf hs x,iY x nl,h]
variable{m n d:Nat}{a s:List Tm}(S:sI J m n f g d a s)
include S
theorem sI.fin(hz:ae (SJ J (d-1) m n f g) [])(j:Nat)(hj:j<d):ae (SJ J j m n f g) []:=by
 have nS:=gZ h1 h4 nf ng j m n;have nl:NN (ck J (d:Int) a):=eQ h1 h4 S.na;refine Li (p:=bA (ai s (ck J (d:Int) a)) (d-1-j)) (bC (bE S.ns nl) _) nS NN.nil (mV (bE S.ns nl) (lT S.ns nl S.zs (uE h1 h4 S.na S.da S.za)) _) λx=>?_;rw[iY x (bE S.ns nl),bQ x S.ns nl,S.id j hj x,qrR hj (λk=>eT x (gV (r:=[]) hz)) (eT x hz)];simp[ev]
variable{e:Nat}(hb:bD J (SJ J (d-1) m n f g) e)(zb:¬ae (SJ J (d-1) m n f g) [])
include zb hb
theorem sI.lt:e<d:=by
 refine Classical.byContradiction λhc=>?_;exact uE h1 h4 (gZ h1 h4 nf ng _ _ _) hb zb (S.low e (by omega))
omit zb in
theorem sI.gap(j:Nat)(hj:e<j)(hd:j+1<d):ae (SJ J j m n f g) []:=by
 have nS:=gZ h1 h4 nf ng j m n;have nl:NN (ck J (d:Int) a):=eQ h1 h4 S.na;refine Li (p:=bA (ai s (ck J (d:Int) a)) (d-1-j)) (bC (bE S.ns nl) _) nS NN.nil (mV (bE S.ns nl) (lT S.ns nl S.zs (uE h1 h4 S.na S.da S.za)) _) λx=>?_;rw[iY x (bE S.ns nl),bQ x S.ns nl,S.id j (by omega) x,qrQ hd (λk hk=>y9 h1 h4 S.da x k hk) (λk hk=>y9 h1 h4 hb x k (by omega))];simp[ev]
theorem sI.sub:ae (ai (bA s (d-e-1)) (SJ J e m n f g)) (ai (bA (ck J (e:Int) (SJ J (d-1) m n f g)) (d-e-1)) (SJ J (d-1) m n f g)):=by
 have jA:=S.lt h1 h4 nf ng hb zb;have nS:=gZ h1 h4 nf ng e m n;have nB:=gZ h1 h4 nf ng (d-1) m n;have nl:NN (ck J (d:Int) a):=eQ h1 h4 S.na;have nb:NN (ck J (e:Int) (SJ J (d-1) m n f g)):=eQ h1 h4 nB;refine Li (p:=bA (ck J (d:Int) a) (d-e-1)) (bC nl _) (bE (bC S.ns _) nS) (bE (bC nb _) nB) (mV nl (uE h1 h4 S.na S.da S.za) _) λx=>?_;have h:=S.id e jA x;rw[qad (Nat.le_refl e) jA (λk hk=>y9 h1 h4 S.da x k hk) (λk hk=>y9 h1 h4 hb x k hk),qae jA (λk hk=>y9 h1 h4 hb x k hk),Int.mul_pow]at h;rw[bQ x (bC S.ns _) nS,bQ x (bC nb _) nB,iY x nl,iY x S.ns,iY x nb];have e1:(pv J x a).c d=ev x (ck J (d:Int) a):=rfl;have e2:(pv J x (SJ J (d-1) m n f g)).c e=ev x (ck J (e:Int) (SJ J (d-1) m n f g)):=rfl;have e3:(pv J x (SJ J (d-1) m n f g)).v=ev x (SJ J (d-1) m n f g):=rfl;rw[e1,e2,e3,show d-1-e=d-e-1 by omega]at h;rw[<-h]
 ac_rfl
theorem sI.qon(i:Nat)(hi:e<i):ae (ck J (i:Int) (SJ J e m n f g)) []:=by
 have nS:=gZ h1 h4 nf ng e m n;have nB:=gZ h1 h4 nf ng (d-1) m n;have nb:NN (ck J (e:Int) (SJ J (d-1) m n f g)):=eQ h1 h4 nB;refine qm1 (bC S.ns (d-e-1)) (eQ h1 h4 nS) (mV S.ns S.zs _) ?_;refine(y8 h1 h4 (uZ S.ns S.fs _) (bC S.ns _) _).symm.trans ((gV (S.sub h1 h4 nf ng hb zb)).trans ((y8 h1 h4 (uZ nb (uY h1 h4 _ _) _) (bC nb _) _).trans ?_));have:=(hb.ZX h1 h4 hi).rf (bA (ck J (e:Int) (SJ J (d-1) m n f g)) (d-e-1));rw[JN]at this;exact this
theorem sI.qdv:ae (ai (bA s (d-e-1)) (ck J (e:Int) (SJ J e m n f g))) (bA (ck J (e:Int) (SJ J (d-1) m n f g)) (d-e)):=by
 have jA:=S.lt h1 h4 nf ng hb zb;have nB:=gZ h1 h4 nf ng (d-1) m n;have nb:NN (ck J (e:Int) (SJ J (d-1) m n f g)):=eQ h1 h4 nB;refine(y8 h1 h4 (uZ S.ns S.fs _) (bC S.ns _) _).symm.trans ((gV (S.sub h1 h4 nf ng hb zb)).trans ((y8 h1 h4 (uZ nb (uY h1 h4 _ _) _) (bC nb _) _).trans ?_));rw[show d-e=(d-e-1)+1 by omega,JO];exact ae.refl _
theorem sI.Wj:¬ae (ck J (e:Int) (SJ J e m n f g)) []:=λh=>by
 have nB:=gZ h1 h4 nf ng (d-1) m n;have nb:NN (ck J (e:Int) (SJ J (d-1) m n f g)):=eQ h1 h4 nB;have h2:=h.rf (bA s (d-e-1));rw[JN]at h2;exact mV nb (uE h1 h4 nB hb zb) _ ((S.qdv h1 h4 nf ng hb zb).symm.trans h2)
variable(he:1<=e)
include he
omit he in
theorem sI.euc:∀j,j<e->∀x,(ev x (ck J (e:Int) (SJ J (d-1) m n f g))^(d-e+1))^(e-j)*dS (x (J-1)) j d e (pv J x a) (pv J x (SJ J (d-1) m n f g))=ev x (ck J (e:Int) (SJ J (d-1) m n f g))^(d-e+1)*dS (x (J-1)) j e (e-1) (pv J x (SJ J (d-1) m n f g)) (pv J x (kg J e (d-e+1) a (di (SJ J (d-1) m n f g)))):=λj hj x=>by
 have jA:=S.lt h1 h4 nf ng hb zb;have nB:=gZ h1 h4 nf ng (d-1) m n;obtain⟨nR,lR,eR⟩:=VY (δ:=d-e) h1 h4 S.na nB S.za (by rw[show e+(d-e)=d by omega];exact S.da) hb;obtain⟨q,hq⟩:=eR x;exact qhi (ξ:=x (J-1)) (j:=j) (by omega) hj (λk hk=>y9 h1 h4 hb x k hk) (λk hk=>VW lR x k hk) hq
theorem sI.rem:ae (kg J e (d-e+1) a (di (SJ J (d-1) m n f g))) (ai (ai (bA s (d-e)) (ck J (d:Int) a)) (SJ J (e-1) m n f g)):=by
 have jA:=S.lt h1 h4 nf ng hb zb;have nB:=gZ h1 h4 nf ng (d-1) m n;have nS:=gZ h1 h4 nf ng (e-1) m n;have nl:NN (ck J (d:Int) a):=eQ h1 h4 S.na;have nb:NN (ck J (e:Int) (SJ J (d-1) m n f g)):=eQ h1 h4 nB;have E:=S.euc h1 h4 nf ng hb zb (e-1) (by omega);obtain⟨nR,lR,_⟩:=VY (δ:=d-e) h1 h4 S.na nB S.za (by rw[show e+(d-e)=d by omega];exact S.da) hb;generalize kg J e (d-e+1) a (di (SJ J (d-1) m n f g))=R at*;refine ae.symm (Li (p:=ai (bA (ck J (e:Int) (SJ J (d-1) m n f g)) (d-e+1)) (bA (ck J (d:Int) a) (d-e-1))) (bE (bC nb _) (bC nl _)) (bE (bE (bC S.ns _) nl) nS) nR (lT (bC nb _) (bC nl _) (mV nb (uE h1 h4 nB hb zb) _) (mV nl (uE h1 h4 S.na S.da S.za) _)) λx=>?_);have h:=S.id (e-1) (by omega) x;have E:=E x;rw[qad (show e-1<=e by omega) jA (λk hk=>y9 h1 h4 S.da x k hk) (λk hk=>y9 h1 h4 hb x k hk),Int.mul_pow]at h;rw[qae (d:=e) (e:=e-1) (by omega) (λk hk=>VW lR x k (by omega)),show e-(e-1)-1=0 by omega,show e-(e-1)=0+1 by omega,Int.pow_succ,Int.pow_zero,Int.one_mul,Int.pow_zero,Int.one_mul]at E;have e1:(pv J x a).c d=ev x (ck J (d:Int) a):=rfl;have e3:(pv J x R).v=ev x R:=rfl;rw[e1,show d-1-e=d-e-1 by omega,show d-1-(e-1)=d-e by omega]at h;rw[e3]at E;rw[bQ x (bC nb _) (bC nl _),bQ x (bE (bC S.ns _) nl) nS,bQ x (bC S.ns _) nl,iY x nl,iY x S.ns,iY x nb]
 have e2:ev x (ck J (d:Int) a)^(d-e)=ev x (ck J (d:Int) a)^(d-e-1)*ev x (ck J (d:Int) a):=by
  rw[show d-e=(d-e-1)+1 by omega,Int.pow_succ,show d-e-1+1-1=d-e-1 by omega]
 rw[e2]at h;generalize dS _ _ _ _ _ _=D at*
 have a1:ev x (ck J (e:Int) (SJ J (d-1) m n f g))^(d-e+1)*ev x (ck J (d:Int) a)^(d-e-1)*ev x R=ev x (ck J (d:Int) a)^(d-e-1)*(ev x (ck J (e:Int) (SJ J (d-1) m n f g))^(d-e+1)*ev x R):=by ac_rfl
 have a2:ev x (ck J (d:Int) a)^(d-e-1)*(ev x (ck J (e:Int) (SJ J (d-1) m n f g))^(d-e+1)*D)=ev x (ck J (e:Int) (SJ J (d-1) m n f g))^(d-e+1)*(ev x (ck J (d:Int) a)^(d-e-1)*D):=by ac_rfl
 rw[a1, <-E,a2, <-h]
 ac_rfl
theorem sI.next:sI J m n f g e (SJ J e m n f g) (ck J (e:Int) (SJ J e m n f g)):=by
 have jA:=S.lt h1 h4 nf ng hb zb;have nB:=gZ h1 h4 nf ng (d-1) m n;have nS:=gZ h1 h4 nf ng (e-1) m n;have nE:=gZ h1 h4 nf ng e m n;have nl:NN (ck J (d:Int) a):=eQ h1 h4 S.na;have nb:NN (ck J (e:Int) (SJ J (d-1) m n f g)):=eQ h1 h4 nB;have nt:NN (ck J (e:Int) (SJ J e m n f g)):=eQ h1 h4 nE;have zt:=S.Wj h1 h4 nf ng hb zb;have hR:=S.rem h1 h4 nf ng hb zb he;have E:=S.euc h1 h4 nf ng hb zb;have zl:=uE h1 h4 S.na S.da S.za;have zlb:=uE h1 h4 nB hb zb;have fp:gK J (ai (bA s (d-e)) (ck J (d:Int) a)):=(uZ S.ns S.fs _).ai (uY h1 h4 _ _) (bC S.ns _);have np:NN (ai (bA s (d-e)) (ck J (d:Int) a)):=bE (bC S.ns _) nl;obtain⟨nR,lR,_⟩:=VY (δ:=d-e) h1 h4 S.na nB S.za (by rw[show e+(d-e)=d by omega];exact S.da) hb;generalize kg J e (d-e+1) a (di (SJ J (d-1) m n f g))=R at*;refine⟨he,nE,λh=>zt (gV (r:=[]) h),nt,uY h1 h4 _ _,zt,qal h1 h4 nE (λi hi=>S.qon h1 h4 nf ng hb zb i hi) (.inr zt),λk hk=>?_,λj hj x=>?_⟩
 ·refine qm1 np (eQ h1 h4 nS) (lT (bC S.ns _) nl (mV S.ns S.zs _) zl) ?_;exact(y8 h1 h4 fp np _).symm.trans ((gV hR.symm).trans (lR k hk))
 ·obtain⟨g1,mI⟩:∃g1,d-e=g1+1:=⟨d-e-1,by omega⟩;obtain⟨X,hX⟩:∃X,e-j=X+1:=⟨e-j-1,by omega⟩
  have hK:∀x,ev x (ai (ai (bA (ck J (e:Int) (SJ J (d-1) m n f g)) (g1+2)) (bA (ck J (d:Int) a) g1)) (ai (bA (bA s g1) X) (bA (ai (bA s (g1+1)) (ck J (d:Int) a)) (X+1))))*ev x (ai (bA (ai (ck J (e:Int) (SJ J e m n f g)) (ck J (e:Int) (SJ J e m n f g))) X) (SJ J j m n f g))=ev x (ai (ai (bA (ck J (e:Int) (SJ J (d-1) m n f g)) (g1+2)) (bA (ck J (d:Int) a) g1)) (ai (bA (bA s g1) X) (bA (ai (bA s (g1+1)) (ck J (d:Int) a)) (X+1))))*ev x (SJ J j e (e-1) (SJ J e m n f g) (SJ J (e-1) m n f g)):=λx=>by
   have r1:=S.id j (by omega) x;rw[qad (show j<=e by omega) jA (λk hk=>y9 h1 h4 S.da x k hk) (λk hk=>y9 h1 h4 hb x k hk),show d-1-j=g1+1+X by omega,show d-1-e=g1 by omega]at r1;have r2:=E j hj x;rw[hX,mI]at r2;have r4:=eT x (S.qdv h1 h4 nf ng hb zb);rw[bQ x (bC S.ns _) nt,iY x S.ns,iY x nb,mI,show g1+1-1=g1 by omega]at r4
   have hC:pv J x (ai (bA s g1) (SJ J e m n f g))=pv J x (ai (bA (ck J (e:Int) (SJ J (d-1) m n f g)) g1) (SJ J (d-1) m n f g)):=by
    have:=qdf (J:=J) (S.sub h1 h4 nf ng hb zb) x;rw[show d-e-1=g1 by omega]at this;exact this
   have hR':pv J x R=pv J x (ai (ai (bA s (g1+1)) (ck J (d:Int) a)) (SJ J (e-1) m n f g)):=by
    have:=qdf (J:=J) hR x;rw[mI]at this;exact this
   have fq:gK J (ai (bA s (g1+1)) (ck J (d:Int) a)):=by rw[<-mI];exact fp
   have nq:NN (ai (bA s (g1+1)) (ck J (d:Int) a)):=by rw[<-mI];exact np
   have m1:=qhj (ξ:=x (J-1)) (qde h1 h4 (bC S.ns g1) (uZ S.ns S.fs _) nE x) (qde h1 h4 nq fq nS x) j e (e-1);have m2:=qhj (ξ:=x (J-1)) (qde h1 h4 (bC nb g1) (uZ nb (uY h1 h4 _ _) _) nB x) (show Pv.Mul 1 (pv J x R) (pv J x R)from⟨λk=>(Int.one_mul _).symm,(Int.one_mul _).symm⟩) j e (e-1);rw[hC, <-hR',m2,show e-1-j=X by omega,hX,Int.one_pow,Int.one_mul,iY x nb,iY x S.ns,bQ x (bC S.ns _) nl,iY x S.ns]at m1;have key:=qsi r1 r2 m1.symm r4;rw[bQ x (bE (bC nb _) (bC nl _)) (bE (bC (bC S.ns _) _) (bC (bE (bC S.ns _) nl) _)),bQ x (bC nb _) (bC nl _),bQ x (bC (bC S.ns _) _) (bC (bE (bC S.ns _) nl) _),iY x nb,iY x nl,iY x (bC S.ns _),iY x S.ns,iY x (bE (bC S.ns _) nl),bQ x (bC S.ns _) nl,iY x S.ns,bQ x (bC (bE nt nt) _) (gZ h1 h4 nf ng _ _ _),iY x (bE nt nt),bQ x nt nt,FP h1 h4 x nE nS];exact key
  have h:=eT x (Li (bE (bE (bC nb _) (bC nl _)) (bE (bC (bC S.ns _) _) (bC (bE (bC S.ns _) nl) _))) (bE (bC (bE nt nt) _) (gZ h1 h4 nf ng _ _ _)) (gZ h1 h4 nE nS _ _ _) (lT (bE (bC nb _) (bC nl _)) (bE (bC (bC S.ns _) _) (bC (bE (bC S.ns _) nl) _)) (lT (bC nb _) (bC nl _) (mV nb zlb _) (mV nl zl _)) (lT (bC (bC S.ns _) _) (bC (bE (bC S.ns _) nl) _) (mV (bC S.ns _) (mV S.ns S.zs _) _) (mV (bE (bC S.ns _) nl) (lT (bC S.ns _) nl (mV S.ns S.zs _) zl) _))) hK);rw[bQ x (bC (bE nt nt) _) (gZ h1 h4 nf ng _ _ _),iY x (bE nt nt),bQ x nt nt,FP h1 h4 x nE nS]at h;rw[show e-1-j=X by omega];exact h
end
structure FD(B A C G:Nat):Prop where
 n1:B+C<=1000000
 n2:(B+C+1)^4<=1099511627776
 n3:(B+C+1)*(C+1)<=1099511627776
 n4:A+G+10<=549755813888
theorem FD.pow{B A C G D:Nat}(h:FD B A C G)(hD:D<=4):(B+C+1)^D<=1099511627776:=Nat.le_trans (Nat.pow_le_pow_right (by omega) hD) h.n2
theorem qsP{D kn:Nat}{P:Nat->List Tm}{l r q:List Tm}(hD:D+1<=4)(bT:∀i,i<kn->dN D (P i))(hs:ae (aJ (D+1) kn P) l)(fr:gK (D+1) r)(nr:NN r)(h:ae (ai q r) l)(i:Nat)(hi:i<kn):ae (ai (ck (D+1) (i:Int) q) r) (P i):=by
 have h1:=uk hD bT i;rw[if_pos hi]at h1;exact(qg2 (by omega) hD fr nr _).symm.trans ((gV (h.trans hs.symm)).trans h1)
theorem qwr{L J:Nat}(h4:J<=4)(hJ:L<J){l T:List Tm}(hs:ae T l)(hT:∀t∈T,∀k:Nat,L<k->k<=4->t.2.get k=0):gK J l:=λm hm=>by
 rw[<-hs m]at hm;refine Classical.byContradiction λhc=>hm (qh λt ht e=>hc ?_);rw[<-e];exact hT t ht J hJ h4
def fQ(D:Nat)(q:List Tm)(i:Nat):List Tm:=ck (D+1) (i:Int) q
def uq(D:Nat)(q r:List Tm)(k i:Nat):List Tm:=ck (D+1) (i:Int) (ai (aJ (D+1) k (fQ D q)) r)
section
variable{D n V:Nat}{P G:Nat->List Tm}{l r q:List Tm}(hD:D+1<=4)(hG:∀i,i<n+1->dN D (G i))(BN:ae (aJ (D+1) (n+1) G) r)(nr:NN r)(nq:NN q)
include hD hG BN nr nq
theorem qau(k i:Nat):ae (uq D q r (k+1) i) (uq D q r k i++if i<k then[]else ai (fQ D q k) (if i-k<n+1 then G (i-k)else[])):=by
 have nQ:NN (fQ D q k):=eQ (by omega) hD nq;unfold uq;rw[fK,Cw,TP];refine(ae.refl _).append ?_;refine(gV (G7 _ _ _)).trans ((qg4 (by omega) hD (bE nQ nr) k i).trans ?_)
 by_cases h:i<k
 ·rw[if_pos h,if_pos h];exact ae.refl _
 ·rw[if_neg h,if_neg h];exact(y8 (by omega) hD (uY (by omega) hD _ _) nQ _).trans (((gV BN.symm).trans (uk hD hG (i-k))).rf _)
theorem qh3:∀k i,n+k<=i->ae (uq D q r k i) []
 |0,i,_=>ae.refl _
 |k+1,i,hi=>by
  refine(qau hD hG BN nr nq k i).trans ?_;rw[if_neg (by omega),if_neg (by omega),JN,List.append_nil];exact qh3 k i (by omega)
theorem qh5(k:Nat):ae (ai (fQ D q k) (G n)) (uq D q r (k+1) (n+k)):=by
 refine ae.symm ((qau hD hG BN nr nq k (n+k)).trans ?_);rw[if_neg (by omega),if_pos (by omega),show n+k-k=n by omega];exact((qh3 hD hG BN nr nq k (n+k) (Nat.le_refl _)).append (ae.refl _))
theorem qsM(k:Nat){c:List Tm}(hc:ae c (fQ D q k))(i:Nat)(hi:i<n+k):ae (rj k c G (uq D q r (k+1)) n i) (uq D q r k i):=by
 have h:=qau hD hG BN nr nq k i;unfold rj
 by_cases h5:k<=i
 ·rw[if_neg (by omega),if_pos (by omega)]at h;rw[if_pos (by omega)];intro m;have h1:=h m;have h2:=(hc.mY (G (i-k))) m;rw[gW]at h1⊢;rw[qA];omega
 ·rw[if_pos (by omega),List.append_nil]at h;rw[if_neg (by omega)];exact h
omit nq in
theorem qrY(hz:¬ae (G n) []):bD (D+1) r n:=by
 have hc:∀e:Nat,ae (ck (D+1) (e:Int) r) (if e<n+1 then G e else[]):=λe=>(gV BN.symm).trans (uk hD hG e);refine qal (by omega) hD nr (λi hi=>?_) (.inr λh=>hz ?_)
 ·have:=hc i;rw[if_neg (by omega)]at this;exact this
 ·have:=hc n;rw[if_pos (by omega)]at this;exact this.symm.trans h
theorem qh2(hz:¬ae (G n) [])(hP:∀i,i<n+V->dN D (P i))(UB:ae (aJ (D+1) (n+V) P) l)(h:ae (ai q r) l):ae (aJ (D+1) V (fQ D q)) q:=by
 have dr:=qrY hD hG BN nr hz
 have zr:¬ae r []:=λh0=>by
  have hc:=(gV BN.symm).trans (uk hD hG n);rw[if_pos (by omega)]at hc;exact hz (hc.symm.trans (gV (r:=[]) h0))
 by_cases hq:ae q []
 ·exact(MS λi _=>gV (r:=[]) hq).trans hq.symm
 ·obtain⟨a,ha⟩:=Ld (k:=D+1) nq;have hp:=Uf (by omega) hD nq nr hq zr ha dr
  have haV:a<V:=Classical.byContradiction λhc=>by
   have h1:=uE (by omega) hD (bE nq nr) hp (lT nq nr hq zr);have h2:=uk hD hP (a+n);rw[if_neg (by omega)]at h2;exact h1 ((gV (h.trans UB.symm)).trans h2)
  exact OI (by omega) hD nq λm hm=>by have:=ha.1 m hm;omega
theorem qsN(hz:¬ae (G n) [])(hP:∀i,i<n+V->dN D (P i))(UB:ae (aJ (D+1) (n+V) P) l)(h:ae (ai q r) l)(i:Nat)(hi:i<n+V):ae (P i) (uq D q r V i):=by
 have h1:=uk hD hP i;rw[if_pos hi]at h1;refine h1.symm.trans (gV (UB.trans (h.symm.trans ((qh2 hD hG BN nr nq hz hP UB h).symm.mY r))))
end
theorem IU{D B A:Nat}(hD:D+1<=4){q:List Tm}(nq:NN q)(hB:bn B q)(hA:az (aC q)<=A)(i:Nat):NN (fQ D q i)/\bn B (fQ D q i)/\az (aC (fQ D q i))<=A:=
 ⟨eQ (by omega) hD nq,ZT (by omega) hD hB,Nat.le_trans (ji (TT _ _ _)) hA⟩
theorem qh4{D B A C G k:Nat}(hD:D+1<=4){q r:List Tm}(nq:NN q)(hB:bn B q)(hA:az (aC q)<=A)(hC:bn C r)(hG:az (aC r)<=G)(hk:k<=4294967295)(i:Nat):bn (B+C) (uq D q r k i)/\az (aC (uq D q r k i))<=A+2+G:=by
 have nn:NN (aJ (D+1) k (fQ D q)):=NN.aJ λi _=>(IU hD nq hB hA i).1
 have hd:bn B (aJ (D+1) k (fQ D q)):=λm hm j=>by
  have h1:=ZR (J:=D+1) (by omega) hD (P:=fQ D q) (λi=>uY (by omega) hD _ _) (m.get (D+1)).toNat k
  have jm:m.nn=true:=by
   cases hq:m.nn with
   |true=>rfl
   |false=>exact absurd (nn m hq) hm
  have h5:=vL jm (D+1)
  have e:(((m.get (D+1)).toNat:Nat):Int)=m.get (D+1):=by omega
  rw[e]at h1;have h2:=DT (k:=D+1) (by omega) hD hm
  by_cases hlt:(m.get (D+1)).toNat<k
  ·rw[if_pos hlt]at h1
   have h3:aB (aJ (D+1) k (fQ D q)) m=aB q m:=by
    have c1:=mE (k:=D+1) (by omega) hD (m.get (D+1)) (Mo.sub m (xp (D+1) (m.get (D+1)))) (aJ (D+1) k (fQ D q));have c2:=mE (k:=D+1) (by omega) hD (m.get (D+1)) (Mo.sub m (xp (D+1) (m.get (D+1)))) q
    have e0:(Mo.sub m (xp (D+1) (m.get (D+1)))).get (D+1)=0:=by rw[sJ,dX _ _ _ (by omega) hD,if_pos rfl];omega
    have e1:Mo.add (Mo.sub m (xp (D+1) (m.get (D+1)))) (xp (D+1) (m.get (D+1)))=m:=(Mo.add_eq _ _ _).2 rfl;rw[if_pos e0,e1]at c1 c2;rw[<-c1, <-c2,h1 _];unfold fQ;rw[e]
   exact hB m (by rw[<-h3];exact hm) j
  ·rw[if_neg hlt]at h1;exact absurd h1 h2
 refine⟨ZT (by omega) hD (bn.ai hd hC nn),?_⟩;refine Nat.le_trans (ji (TT _ _ _)) ?_;rw[Cu];refine Nat.le_trans (qJ _ _) (Nat.add_le_add ?_ hG);exact VP hk λi _=>(IU hD nq hB hA i).2.2
def Nr(B A C G L:Nat):Prop:=∀(M:Nat->Prop)(l r u:List Tm)(x y:PE)(w:World),Mb M w->aI M w L x l->aI M w 4 y r->¬ae r []->NN u->ae (ai u r) l->bn B u->az (aC u)<=A->bn C r->az (aC r)<=G->
 Calls Tryz.prog 67 #[.agg (ah x),.agg (ah y)] w (xK M w L l r A)
theorem qsR(B A C G E:Nat)(eU:E+1<=4)(hN:FD B A C G)(ih:Nr B A C G E)(M:Nat->Prop)(l r u:List Tm)(x y:PE)(w:World)(hM:Mb M w)(h:aI M w (E+1) x l)(hl:x.lv=(E:Int)+1)(hy:aI M w 4 y r)(sU:y.lv<x.lv)(hz:¬ae r [])(nu:NN u)(hu:ae (ai u r) l)(hB:bn B u)(hA:az (aC u)<=A)(hC:bn C r)(hG:az (aC r)<=G):
 Calls Tryz.prog 125 #[.agg (ah x),.agg (ah y)] w (xK M w (E+1) l r A):=by
 obtain⟨i0,hi,hz0,hz1,hz2⟩:=info_parts Tryz.yo;obtain⟨aQ,nO,BR,bO,dw⟩:=Bu hM x y;obtain⟨E',b,off,P,gI,qts,FX,jZ,iw,lS,lu,eu,kP,gm,hb,pq,bT,fF,eB,jo,dh⟩:=h.node (by omega)
 obtain rfl:E'=E:=by omega
 have O6:bn (B+C) l:=(bn.ai hB hC nu).bZ hu;have lZ:=BD eU (by omega) bT fF (O6.bZ eB.symm);have F4:NN r:=hy.nn;obtain⟨T,I9,vC⟩:=hy.qcH;have om:Hid (∀i,i<x.kn->¬Dv r (P i)->¬Dv r l):=λi hi' hn hd=>hn ((qsv eU bT (g:=T) (λt ht=>vC t ht (E'+1) (by omega) eU) (hd.bZ I9.symm eB.symm) i hi').bZ I9 (ae.refl _));have Af:=qsP eU bT eB (qwr (J:=E'+1) (L:=y.lv.toNat) eU (by omega) I9 λt ht k hk ll=>vC t ht k (by omega) ll) F4 hu
 have xg:Hid (∀i,i<x.kn->∃c,eX w b (off+i*4) c/\∀(M':Nat->Prop) W,Mb M' W->(∀g,M' g->M g\/w.heap.size<=g)->Ext w W->Calls Tryz.prog 67 #[.agg (ah c),.agg (ah y)] W (xK M' W E' (P i) r A)):=λi hi'=>by
  obtain⟨c,dR,dO,_⟩:=dh i hi';have hq:=IU eU nu hB hA i;exact⟨c,dR,λM' W I5 wO he=>ih M' (P i) r (fQ E' u i) c y W I5 ((dO.more wO).ext he) ((hy.more wO).ext he) hz hq.1 (Af i hi') hq.2.1 hq.2.2 hC hG⟩
 have xh:Hid (∀Q:Nat->List Tm,(∀i,i<x.kn->ae (ai (Q i) r) (P i))->ae (ai (aJ (E'+1) x.kn Q) r) l):=λQ hQ=>(VN (E'+1) x.kn Q r).symm.trans ((sZ _ _ _ _ hQ).trans eB);have Dy:Hid (∀Q:Nat->List Tm,ae (ai (aJ (E'+1) x.kn Q) r) l->NN (aJ (E'+1) x.kn Q)->ae (aJ (E'+1) x.kn Q) u/\ae (ai u r) l/\az (aC u)<=A):=λQ h1 h2=>⟨Q7 h2 nu F4 hz (h1.trans hu.symm),hu,hA⟩;have tO:Hid (∀i,i<x.kn->∀q,NN q->ae (ai q r) (P i)->bn (B+C) q):=λi hi' q hq hs=>qrS hq F4 hz hs (lZ.2 i hi');have PV:x.kn<=B+C+1:=lZ.1;have hOk:=hN.pow eU
 have hAL:A+2<=1099511627776:=by have:=hN.n4;omega
 have jG:=Lib.hid hM;obtain⟨x0,x1,x2,x3⟩:=nO;obtain⟨y0,y1,y2,y3⟩:=BR
 have oI:w.heap.size+3=((((w.alloc (.cells (ah x) 33)).alloc (.cells (ah y) 33)).alloc (.cells zA 33))).heap.size:=by simp
 generalize hW:((w.alloc (.cells (ah x) 33)).alloc (.cells (ah y) 33)).alloc (.cells zA 33)=W at*;have HW:=Lib.hid hW;have HE:=Lib.hid aQ;have HS:Hid (jM w.heap.size x y W):=⟨⟨x0,x1,x2,x3⟩,⟨y0,y1,y2,y3⟩⟩;have gQ:=Lib.hid bO;have hS1:=hN.n1;clear aQ bO dw h hl hy sU hz hB hC hA hG hN ih bT fF eB jo dh lZ F4 I9 vC O6 Af nu hu hW hM;rw[lS]at x3
 go_enter Tryz.func125,Tryz.ntmps125
 go_upto_region 1 with(fail)
 rw[HW.out]
 go_wp2_with (first|(refine wpList_make_full _ rfl _ _ _ rfl (w.heap.size+3) 33 i0 (.agg #[.int .i64 0,.bool false,.slice none 0 0,.slice none 0 0]) 4 Tryz.underlying31 hi hz0 hz1 .i64 .i64 _ _ x.kn rfl rfl ?c4 ?c5 ?c2 ?c3 ?c6 ?_))
 case c2=>rw[hz2];omega
 case c3=>unfold maxLen;omega
 case c4=>simp
 case c5=>simp
 case c6=>omega
 intro w1 hown hgrow;rw[<-oI]at hown⊢;have bI:=(ak.made hown rfl (by omega)).congr (f':=fu) (λi _=>CY i);have af:=lM hgrow;have cB:=Lib.hid (gQ.out.ext af);have uf:=Lib.hid (HS.out.ext af);have aL:=Lib.hid (HE.out.trans af)
 have dP:w.heap.size+4<=w1.heap.size:=by have:=bI.lt;omega
 have oP:Hid (Kids (Mx M w.heap.size (w.heap.size+4)) w1 E' (w.heap.size+3) x.kn (λ_=>[])):=Kids.fresh bI;clear x0 x1 x2 x3 y0 y1 y2 y3;obtain⟨⟨x0,x1,x2,x3⟩,_⟩:=uf.out;rw[lS]at x3;clear hown hgrow bI af gQ HS HE HW;go_wp2
 go_loopw [18] (λi wr=>∃(k:Nat)(Q:Nat->List Tm),k<=x.kn/\i=.int .i64 k/\w.heap.size+4<=wr.heap.size/\Hid (Kids (Mx M w.heap.size (w.heap.size+4)) wr E' (w.heap.size+3) x.kn (λi=>if i<k then Q i else[]))/\Hid (∀i,i<k->NN (Q i)/\ae (ai (Q i) r) (P i)/\az (aC (Q i))<=A)/\Hid (Ext w wr)/\Hid (jM w.heap.size x y wr)/\Hid (ak wr (w.heap.size+2) 33 4 (arr zA))) (λi _=>x.kn-(intOf i).toNat)
 case atStart=>exact⟨0,λ_=>[],Nat.zero_le _,rfl,dP,oP.out.congr λi _=>by rw[if_neg (by omega)];exact ae.refl _,λi hi=>absurd hi (Nat.not_lt_zero _),aL,uf,cB⟩
 case round=>
  clear oP aL uf cB x0 x1 x2 x3 dP;obtain⟨k,Q,hk,rfl,hsz,HK,HQ,bL,xE,jD⟩:=hrel
  by_cases hlt:k<x.kn
  ·obtain⟨c,hc,Gc⟩:=xg.out k hlt;obtain⟨c0,c1,c2,c3⟩:=hc.ext hb bL.out;have iH:b<wr.heap.size:=Nat.lt_of_lt_of_le hb bL.out.size;obtain⟨_,y0,y1,y2,y3⟩:=xE.out;have aN:=(Ext.refl wr).alloc (.cells (ah c) 33)
   have Gs:(k:Int)<(x.kn:Int):=by omega
   have hw1:w.heap.size+1<wr.heap.size:=by omega
   have wT:w.heap.size<wr.heap.size:=by omega
   have aO:=Lib.hid (Gc (Mx M w.heap.size (w.heap.size+4)) _ (Mx.mb (k:=w.heap.size+4) jG.out (bL.out.trans aN).size (by simp;omega)) (Mx.more (Nat.le_refl _)) (bL.out.trans aN));have dW:=Lib.hid aN;clear Gc aN hc gI lS iw jZ oI;go_wp2_with (fail);refine(aO.out).mono ?_;rintro e w4 ⟨v,ok,rfl,hR,aW⟩;have aR:=dW.out.trans aW;have Jq:=aR.size
   cases ok with
   |false=>
    have Dp:=Lib.hid (om.out k hlt (hR.2 rfl));obtain⟨⟨q0,q1,q2,q3⟩,⟨f0,f1,f2,f3⟩,⟨r0,r1,r2,r3⟩,HF⟩:=iW (M:=M) (M':=Mx M w.heap.size (w.heap.size+3)) (w:=w) (L:=0) (l:=[]) (y:=PE.z) ((jD.out.ext aR).ext ((Ext.refl w4).alloc (.cells (ah v) 33))) (Mx.at (by omega)) (by omega) ((bL.out.trans aR).trans ((Ext.refl w4).alloc (.cells (ah v) 33))) (CR.zero _ _ 0) Mx.sub;have dY:=Lib.hid (HF.out.Ul (L:=E'+1) (A:=A) Dp.out);simp only[PE.z]at r0 r1 r2 r3
    have kQ:w.heap.size+2<(w4.alloc (.cells (ah v) 33)).heap.size:=by simp;omega
    clear HF hR aW aR Dp c0 c1 c2 c3 y0 y1 y2 y3 aO HK HQ bL xE jD xg xh tO Dy om dW
    go_upto_region 6 with(fail)
    generalize w4.alloc (.cells (ah v) 33)=W5 at*;clear Jq hw1 wT iH;go_wp2;exact bodyPost_ret (v:=.tuple #[.agg (ah PE.z),.bool false]) (by simp[results,Tryz.results125,go_sem,r0,r1,r2,r3,PE.z]) rfl dY.out
   |true=>
    obtain⟨q,hq1,hq2,wP⟩:=hR.1 rfl;have kK:=(Ext.refl w4).alloc (.cells (ah v) 33);have fe:=aR.trans kK;have hq5:=hq1.ext kK;have Vg:P4 (w4.alloc (.cells (ah v) 33)) w4.heap.size v:=(ak.bf w4 (ah v) 33 4 rfl).p4
    have Mi:(w4.alloc (.cells (ah v) 33)).heap.size=w4.heap.size+1:=by simp
    have fw:=Lib.hid fe;have Yo:=Lib.hid (And.intro hq5 (And.intro hq2 wP));have jm:=hq1.nn;clear hR aW aR fe kK hq1 hq2 wP hq5 aO xg xh tO Dy om dW c0 c1 c2 c3 y0 y1 y2 y3
    go_upto_region 6 with(fail)
    generalize w4.alloc (.cells (ah v) 33)=W5 at*;obtain⟨v0,v1,v2,v3⟩:=Vg;have eF:=HK.out.ext fw.out;obtain⟨⟨_,k0⟩,⟨_,k1⟩,⟨_,k2⟩,⟨_,k3⟩,aV,l5⟩:=eF.at k hlt;have fB:=aV (k*4);have fo:=aV (k*4+1);have lh:=aV (k*4+2);have pG:=aV (k*4+3);have LA:=eF.set (Mx.at (by omega)) k hlt Yo.out.1;have hEs:=(bL.out.trans fw.out).aH (g:=w.heap.size+3) (by omega) (k*4) (.int .i64 v.lv) (.bool v.b) (.slice v.a v.n v.p) (.slice v.ka v.kn v.kp);have hBs:=(jD.out.ext fw.out).of_heap (il W5 (w.heap.size+3) (k*4) (.int .i64 v.lv) (.bool v.b) (.slice v.a v.n v.p) (.slice v.ka v.kn v.kp) (w.heap.size+2) (by omega));have hSs:jM w.heap.size x y (aH W5 (w.heap.size+3) (k*4) (.int .i64 v.lv) (.bool v.b) (.slice v.a v.n v.p) (.slice v.ka v.kn v.kp)):=⟨rW (xE.out.1.ext fw.out) (il _ _ _ _ _ _ _ _ (by omega)),rW (xE.out.2.ext fw.out) (il _ _ _ _ _ _ _ _ (by omega))⟩
    have Cr:w.heap.size+4<=(aH W5 (w.heap.size+3) (k*4) (.int .i64 v.lv) (.bool v.b) (.slice v.a v.n v.p) (.slice v.ka v.kn v.kp)).heap.size:=by rw[lU];omega
    have oW:Hid (∀i,i<k+1->NN (snoc Q k q i)/\ae (ai (snoc Q k q i) r) (P i)/\az (aC (snoc Q k q i))<=A):=λi hi=>by
     by_cases gH:i=k
     ·subst gH;rw[tH];exact⟨jm,Yo.out.2⟩
     ·rw[yA _ _ _ _ (by omega)];exact HQ.out i (by omega)
    have lJ:Hid (Kids (Mx M w.heap.size (w.heap.size+4)) (aH W5 (w.heap.size+3) (k*4) (.int .i64 v.lv) (.bool v.b) (.slice v.a v.n v.p) (.slice v.ka v.kn v.kp)) E' (w.heap.size+3) x.kn (λi=>if i<k+1 then snoc Q k q i else[])):=by
     refine LA.congr λi _=>?_
     by_cases gH:i=k
     ·subst gH;rw[if_pos rfl,if_pos (by omega),tH];exact ae.refl _
     ·rw[if_neg gH]
      by_cases h3:i<k
      ·rw[if_pos h3,if_pos (by omega),yA _ _ _ _ h3];exact ae.refl _
      ·rw[if_neg h3,if_neg (by omega)];exact ae.refl _
    have eD:=Lib.hid hEs;have vQ:=Lib.hid hBs;have iC:=Lib.hid hSs;have p8:=Lib.hid Cr
    have l6:w.heap.size+3<W5.heap.size:=by omega
    have GL:w4.heap.size<W5.heap.size:=by omega
    clear eF LA hEs hBs hSs Cr aV HK HQ bL xE jD Yo fw Mi Jq wT hw1 iH;go_wp2
    go_roundw
    case rel=>exact⟨k+1,snoc Q k q,by omega,by go_num,p8.out,lJ,oW,eD,iC,vQ⟩
    case measure=>simp[intOf];omega
  ·obtain rfl:k=x.kn:=by omega
   obtain⟨⟨x0,_⟩,_⟩:=xE.out;rw[gI]at x0
   have rQ:dV (Mx M w.heap.size (w.heap.size+3)) wr E' (.slice (some ⟨w.heap.size+3,0,none⟩) x.kn x.kn) x.kn Q:=(HK.out.qwd (λg hg=>.inl (hg.imp id λh=>by omega)) (λhh=>hh.elim (jG.out.new (by omega)) (by omega)) eu).congr λi hi=>by rw[if_pos hi];exact ae.refl _
   have aO:=Lib.hid (qcK (S:=B+C) (A:=A) wr (Mx.mb jG.out bL.out.size (by omega)) rQ eU (λi hi=>tO.out i hi _ (HQ.out i hi).1 (HQ.out i hi).2.1) PV hOk hS1 (λi hi=>(HQ.out i hi).2.2) (by omega));have SI:=Lib.hid (xh.out Q λi hi=>(HQ.out i hi).2.1);have SV:=Lib.hid (Dy.out Q SI.out (NN.aJ λi hi=>(HQ.out i hi).1));clear rQ xg HK tO Dy om xh HQ SI gI lS iw jZ oI hlt hOk;go_wp2_with (fail);refine aO.out.mono ?_;rintro e w5 ⟨v,rfl,hv,aR⟩;obtain⟨⟨q0,q1,q2,q3⟩,⟨f0,f1,f2,f3⟩,⟨r0,r1,r2,r3⟩,HF⟩:=iW (M:=M) (w:=w) (jD.out.ext aR) (Mx.at (by omega)) (by omega) (bL.out.trans aR) (hv.bZ SV.out.1) Mx.sub;have dY:=Lib.hid (HF.out.OQ SV.out.2.1 SV.out.2.2);clear HF aR hv aO x0 SV;go_wp2;exact bodyPost_ret (v:=.tuple #[.agg (ah v),.bool true]) (by simp[results,Tryz.results125,go_sem,r0,r1,r2,r3]) rfl dY.out
theorem qsS(B A C G E:Nat)(eU:E+1<=4)(hN:FD B A C G)(ih:Nr B A C G E)(M:Nat->Prop)(l r u:List Tm)(x y:PE)(w:World)(hM:Mb M w)(h:aI M w (E+1) x l)(hl:x.lv=(E:Int)+1)(hy:aI M w 4 y r)(sU:y.lv=x.lv)(hz:¬ae r [])(nu:NN u)(hu:ae (ai u r) l)(hB:bn B u)(hA:az (aC u)<=A)(hC:bn C r)(hG:az (aC r)<=G):
 Calls Tryz.prog 67 #[.agg (ah x),.agg (ah y)] w (xK M w (E+1) l r A):=by
 obtain⟨i0,hi,hz0,hz1,hz2⟩:=info_parts Tryz.yo;obtain⟨aQ,nO,BR,bO,dw⟩:=Bu hM x y;have CZ:=Lib.hid (ES _ x l _ dw (((h.more (M':=Mx M w.heap.size (w.heap.size+3)) (Mx.more (Nat.le_refl _))).ext aQ).pi));obtain⟨E1,b,off,P,gI,qts,FX,jZ,iw,lS,lu,eu,kP,gm,hb,pq,bT,fF,eB,jo,dh⟩:=h.node (by omega)
 obtain rfl:E1=E:=by omega
 have P7:¬ae l []:=λhs=>fF (qnk eU bT (λi _ t ht=>by cases ht) ((eB.trans hs).trans (MS (L:=E1+1) (n:=x.kn) (P:=λ_=>[]) λi _=>ae.refl _).symm) (x.kn-1) (by omega));have NQ:=Lib.hid P7;obtain⟨D,b2,uF,Gk,qkO,_,_,qtR,quT,qkC,qkX,quY,qu0,qj3,gX,qty,Gp,Ci,Cn,qb2,qbK⟩:=hy.node (by omega)
 obtain rfl:D=E1:=by omega
 have O6:bn (B+C) l:=(bn.ai hB hC nu).bZ hu;have lZ:=BD eU (by omega) bT fF (O6.bZ eB.symm);have BZ:=BD eU (by omega) Gp Ci (hC.bZ Cn.symm);have F4:NN r:=hy.nn;obtain⟨n,hn⟩:∃n,y.kn=n+1:=⟨y.kn-1,by omega⟩;rw[hn]at Gp Cn qb2 qbK BZ Ci qu0 quY qkX;rw[Nat.add_sub_cancel]at Ci
 have qkP:y.lv=(D:Int)+1:=by omega
 obtain⟨xx,GQ⟩:=pick PE.z (n:=x.kn) (Q:=λi c=>eX w b (off+i*4) c/\aI M w D c (P i)) (λi hi=>by obtain⟨c,h1,h2,_⟩:=dh i hi;exact⟨c,h1,h2⟩);obtain⟨yy,Mr⟩:=pick PE.z (n:=n+1) (Q:=λi c=>eX w b2 (uF+i*4) c/\aI M w D c (Gk i)) (λi hi=>by obtain⟨c,h1,h2,_⟩:=qbK i hi;exact⟨c,h1,h2⟩);have YX:=Lib.hid GQ;have Iu:=Lib.hid Mr
 have Dp:Hid (x.kn<=n->¬Dv r l):=λhle hd=>by
  obtain⟨q,hq,hs⟩:=hd;have:=qsp eU Gp Ci (F4.bZ Cn.symm) hq hle bT ((Cn.rf q).trans (hs.trans eB.symm));exact P7 (eB.symm.trans this)
 have mi:=Lib.hid Gp;have xn:=Lib.hid Ci;have vS:=Lib.hid Cn;have A7:=Lib.hid F4;have uO:Hid (∀i,i<n+1->bn C (Gk i)/\az (aC (Gk i))<=G):=λi hi=>⟨BZ.2 i hi,Nat.le_trans (ji (Nat.le_trans (JL (D+1) (n+1) Gk i hi) qb2)) hG⟩;have pW:=Lib.hid eB;have PV:=lZ.1;have jG:=Lib.hid hM;have oQ:=Lib.hid hN;have BP:Hid (B+C<=1000000/\A+G+10<=549755813888):=⟨hN.n1,hN.n4⟩;have oU:=Lib.hid nu;have ug:=Lib.hid hu;have Fx:=Lib.hid hB;have rA:=Lib.hid hA;have SF:=Lib.hid hC;have SG:=Lib.hid hG;have Yi:=Lib.hid bT;have kG:=Lib.hid ih;obtain⟨x0,x1,x2,x3⟩:=nO;obtain⟨y0,y1,y2,y3⟩:=BR
 have oI:w.heap.size+3=((((w.alloc (.cells (ah x) 33)).alloc (.cells (ah y) 33)).alloc (.cells zA 33))).heap.size:=by simp
 generalize hW:((w.alloc (.cells (ah x) 33)).alloc (.cells (ah y) 33)).alloc (.cells zA 33)=W at*;have HW:=Lib.hid hW;have HE:=Lib.hid aQ;have HS:Hid (jM w.heap.size x y W):=⟨⟨x0,x1,x2,x3⟩,⟨y0,y1,y2,y3⟩⟩;have gQ:=Lib.hid bO;clear aQ bO dw h hl hy sU hz hB hC hA hG hN nu hu O6 ih bT fF eB jo dh lZ F4 hW hM P7 GQ Mr Gp Ci Cn qb2 qbK BZ;clear x0 x1 x2 x3 y0 y1 y2 y3;obtain⟨⟨x0,x1,x2,x3⟩,⟨y0,y1,y2,y3⟩⟩:=HS.out;have AY:=Lib.hid gI;have X5:=Lib.hid qkP;have NK:=Lib.hid lS;have NL:=Lib.hid qkC;have HN:=Lib.hid hn;clear gI qkP lS qkC hn qkO jZ iw qtR quT
 go_enter Tryz.func67,Tryz.ntmps67
 go_upto_region 1 with(fail)
 rw[HW.out];go_wp2_with (fail);refine CZ.out.mono ?_;rintro e w1 ⟨bz,rfl,rJ,af⟩
 obtain rfl:bz=false:=by
  cases bz with
  |false=>rfl
  |true=>exact absurd (rJ.1 rfl) NQ.out
 have aL:=Lib.hid (HE.out.trans af);have fO:=Lib.hid (HS.out.ext af);have cB:=Lib.hid (gQ.out.ext af)
 have dP:w.heap.size+3<=w1.heap.size:=by have:=af.size;omega
 clear x0 x1 x2 x3 y0 y1 y2 y3 HE HS gQ HW af rJ CZ;obtain⟨⟨x0,x1,x2,x3⟩,⟨y0,y1,y2,y3⟩⟩:=fO.out;rw[AY.out]at x0;rw[X5.out]at y0;rw[NK.out]at x3;rw[NL.out,HN.out]at y3
 have uu:((D:Int)+1==0)=false:=by simp;omega
 have hks:W.heap.size=w.heap.size+3:=oI.symm;clear oI
 go_upto_region 11 with(fail)
 by_cases hle:x.kn<=n
 ·have hND:=Dp.out hle
  have qkI:(x.kn:Int)<=n:=by omega
  obtain⟨⟨q0,q1,q2,q3⟩,⟨f0,f1,f2,f3⟩,⟨r0,r1,r2,r3⟩,HF⟩:=iW (M:=M) (M':=Mx M w.heap.size (w.heap.size+3)) (w:=w) (L:=0) (l:=[]) (y:=PE.z) cB.out (Mx.at (by omega)) (by omega) aL.out (CR.zero _ _ 0) Mx.sub;have dY:=Lib.hid (HF.Ul (L:=D+1) (A:=A) hND);simp only[PE.z]at r0 r1 r2 r3
  have kQ:w.heap.size+2<w1.heap.size:=by omega
  clear HF YX Iu Dp mi xn vS A7 uO pW oQ BP oU ug Fx rA SF SG Yi kG;go_wp2;exact bodyPost_ret (v:=.tuple #[.agg (ah PE.z),.bool false]) (by simp[results,Tryz.results67,go_sem,r0,r1,r2,r3,PE.z]) rfl dY.out
 obtain⟨V,hK⟩:∃V,x.kn=n+V:=⟨x.kn-n,by omega⟩
 have D7:1<=V:=by omega
 have gF:=Lib.hid hK
 have qkI:¬((n+V:Nat):Int)<=n:=by omega
 rw[hK]at x3 kP eu PV;have DC:Hid (∀i,i<n+V->eX w b (off+i*4) (xx i)/\aI M w D (xx i) (P i)):=λi hi=>YX.out i (by omega)
 have Ba:Hid (ae (aJ (D+1) (n+V) P) l):=by show ae _ _;rw[<-hK];exact pW.out
 have Yj:Hid (∀i,i<n+V->dN D (P i)):=λi hi=>Yi.out i (by omega);clear YX pW Yi Dp hle lu hK
 go_wp2_with (first|(refine wpList_make_full _ rfl _ _ _ rfl w1.heap.size 33 i0 (.agg #[.int .i64 0,.bool false,.slice none 0 0,.slice none 0 0]) 4 Tryz.underlying31 hi hz0 hz1 .i64 .i64 _ _ (n+V) rfl rfl ?c4 ?c5 ?c2 ?c3 ?c6 ?_))
 case c2=>first|(rw[hz2];omega)|omega
 try(case c3=>first|omega|(unfold maxLen;omega))
 try(case c4=>simp)
 try(case c5=>simp)
 try(case c6=>omega)
 intro w2 hown hgrow;have bI:=(ak.made hown rfl (by omega)).congr (f':=fu) (λi _=>CY i);have aA:=lM hgrow;have XM:=Lib.hid (aL.out.trans aA);have fH:=Lib.hid (cB.out.ext aA);have SK:=Lib.hid (fO.out.ext aA);have hs2:w1.heap.size<w2.heap.size:=bI.lt;have Cb:∃g1,g1=w1.heap.size:=⟨_,rfl⟩;obtain⟨g1,mI⟩:=Cb;rw[<-mI]at bI hs2⊢
 have qR:w.heap.size+3<=g1:=by omega
 clear mI hown hgrow aA cB fO aL x0 x1 x2 x3 y0 y1 y2 y3;obtain⟨⟨x0,x1,x2,x3⟩,⟨y0,y1,y2,y3⟩⟩:=SK.out;rw[AY.out]at x0;rw[X5.out]at y0;rw[NK.out,gF.out]at x3;rw[NL.out,HN.out]at y3;have hKC:∀j,j<(n+V)*4->w2.cell? ⟨b,off+j,none⟩=some (px xx j):=qx2 λi hi=>(DC.out i hi).1.ext hb XM.out
 have Jt:(Tryz.prog.info? 33).map (·.size)=some 4:=by rw[hi];simp[hz1]
 go_wp2_with (first|(refine qz9 rfl (.tmp 67) (.tmp 69) _ _ rfl 33 Tryz.underlying31 4 Jt (n+V) (n+V) x.kp g1 b off rfl rfl 33 fu bI (px xx) hKC (λj _=>qx4 xx j) ?_))
 intro w3 jK jQ;have zo:Ext w w3:=XM.out.grown jQ (λk hk=>by cases hk;omega);have qin:=fH.out.grown jQ (by intro e;cases e;omega);have qjp:jM w.heap.size x y w3:=⟨rW SK.out.1 (jQ.block _ (by omega) (by intro e;cases e;omega)),rW SK.out.2 (jQ.block _ (by omega) (by intro e;cases e;omega))⟩;have Jq:=jQ.size;have uP:Hid (∀m,Kids (Mx M w.heap.size m) w3 D g1 (n+V) P):=λm=>Kids.qxl jK (λj hj=>by unfold over;rw[if_pos (by omega),Nat.sub_zero]) (λi hi=>((DC.out i hi).2.more (Mx.more (Nat.le_refl _))).ext zo);have eP:=Lib.hid zo;have og:=Lib.hid qin;have YF:=Lib.hid qjp
 have Mi:g1<w3.heap.size:=by omega
 clear zo qin qjp jK jQ hKC bI XM fH SK x0 x1 x2 x3 y0 y1 y2 y3 hs2 Jq DC;obtain⟨⟨x0,x1,x2,x3⟩,⟨y0,y1,y2,y3⟩⟩:=YF.out;rw[AY.out]at x0;rw[X5.out]at y0;rw[NK.out,gF.out]at x3;rw[NL.out,HN.out]at y3
 have hKe:(n:Int)+V-n=V:=by omega
 go_upto_region 15 with(fail)
 go_wp2_with (first|(refine wpList_make_full _ rfl _ _ _ rfl w3.heap.size 33 i0 (.agg #[.int .i64 0,.bool false,.slice none 0 0,.slice none 0 0]) 4 Tryz.underlying31 hi hz0 hz1 .i64 .i64 _ _ V rfl rfl ?d4 ?d5 ?d2 ?d3 ?d6 ?_))
 try(case d2=>first|(rw[hz2];omega)|omega)
 try(case d3=>first|omega|(unfold maxLen;omega))
 try(case d4=>first|omega|simp)
 try(case d5=>first|omega|simp)
 try(case d6=>omega)
 intro w4 hown hgrow;have Us:=(ak.made hown rfl (by omega)).congr (f':=fu) (λi _=>CY i);have aW:=lM hgrow;have Jr:w3.heap.size<w4.heap.size:=Us.lt;obtain⟨g2,iI⟩:∃g2,g2=w3.heap.size:=⟨_,rfl⟩;rw[<-iI]at Us Jr⊢
 have hs7:g1<g2:=by omega
 have qe2:Hid (Kids (Mx M w.heap.size (g2+1)) w4 D g1 (n+V) P):=(uP.out _).ext aW
 have qe3:Hid (Kids (Mx M w.heap.size (g2+1)) w4 D g2 V (λi=>if V<=i then[]else[])):=(Kids.fresh Us).congr λi _=>by rw[if_neg (by omega)];exact ae.refl _
 have fV:=Lib.hid (eP.out.trans aW);have tL:=Lib.hid (og.out.ext aW);have qfI:=Lib.hid (YF.out.ext aW);have HQA:=Lib.hid (qh2 eU mi.out vS.out A7.out oU.out xn.out Yj.out Ba.out ug.out);have qe6:Hid (Kids (Mx M w.heap.size (g2+1)) w4 D g1 (n+V) (uq D u r V)):=qe2.out.congr (qsN eU mi.out vS.out A7.out oU.out xn.out Yj.out Ba.out ug.out);clear qe2;clear iI aW Us hown hgrow uP eP og YF Mi Ba Yj x0 x1 x2 x3 y0 y1 y2 y3 hKe qkI hi hz0 hz1 hz2 Jt;have mJ:=BP.out
 have hVB:V<=B+C+1:=by omega
 have hNB:n<=B+C+1:=by omega
 go_wp2
 go_loopw [11] (λi wr=>∃(k:Nat)(R:Nat->List Tm),k<=V/\i=.int .i64 ((k:Int)-1)/\g2<wr.heap.size/\Hid (Kids (Mx M w.heap.size (g2+1)) wr D g1 (n+V) R)/\Hid (Kids (Mx M w.heap.size (g2+1)) wr D g2 V (λi=>if k<=i then fQ D u i else[]))/\Hid (∀i,i<n+k->R i=uq D u r k i)/\Hid (Ext w wr)/\Hid (jM w.heap.size x y wr)/\Hid (ak wr (w.heap.size+2) 33 4 (arr zA))) (λi _=>(intOf i+1).toNat)
 case atStart=>exact⟨V,uq D u r V,Nat.le_refl _,by go_num,by omega,qe6,qe3.out.congr λi hi=>by rw[if_neg (by omega),if_neg (by omega)];exact ae.refl _,λ_ _=>rfl,fV,qfI,tL⟩
 case round=>
  clear qe6 qe3 fV qfI tL;obtain⟨k,R,hk,rfl,yg,uP,Sd,om,bL,xE,jD⟩:=hrel
  by_cases fJ:k=0
  ·subst fJ;have gJ:=oQ.out.pow eU
   have hrb:∀i,i<n->bn (B+C) (R i)/\az (aC (R i))<=A+2+G:=λi hi=>by rw[om.out i (by omega)];exact qh4 eU oU.out Fx.out rA.out SF.out SG.out (by omega) i
   have hqb:=IU eU oU.out Fx.out rA.out;have jf:Mb (Mx M w.heap.size (w.heap.size+3)) wr:=Mx.mb jG.out bL.out.size (by omega);have rQ:dV (Mx M w.heap.size (w.heap.size+3)) wr D (.slice (some ⟨g1,0,none⟩) n (n+V)) n R:=uP.out.pre (λg hg=>.inl (hg.imp id λh=>by omega)) (λhh=>hh.elim (jG.out.new (by omega)) (by omega)) (by omega) (by omega) (by unfold maxLen;omega);have CJ1:=Lib.hid (qcK (S:=B+C) (A:=A+2+G) wr.drew (jf.ext (Ext.refl wr).drew) (rQ.ext (Ext.refl wr).drew) eU (λi hi=>(hrb i hi).1) hNB gJ mJ.1 (λi hi=>(hrb i hi).2) (by omega));have CIZ:Hid (∀(z:PE)(W:World),aI (Mx M w.heap.size (w.heap.size+3)) W (D+1) z (aJ (D+1) n R)->Ext wr.drew W->Calls Tryz.prog 72 #[.agg (ah z)] W (λe w'=>∃b:Bool,e=.returned (.bool b)/\(b=true↔ae (aJ (D+1) n R) [])/\Ext W w')):=λz W hz he=>ES _ z _ W ((jf.ext (Ext.refl wr).drew).ext he) hz.pi
   have qkG:dV (Mx M w.heap.size (w.heap.size+3)) wr D (.slice (some ⟨g2,0,none⟩) V V) V (fQ D u):=(Sd.out.pre (λg hg=>.inl (hg.imp id λh=>by omega)) (λhh=>hh.elim (jG.out.new (by omega)) (by omega)) (by omega) (Nat.le_refl _) (by unfold maxLen;omega)).congr λi _=>by rw[if_pos (Nat.zero_le _)];exact ae.refl _
   have CJ2:Hid (∀W,Ext wr W->Calls Tryz.prog 62 #[.slice (some ⟨g2,0,none⟩) V V,.int .i64 ((D:Int)+1)] W (dH (Mx M w.heap.size (w.heap.size+3)) W (D+1) (aJ (D+1) V (fQ D u)))):=λW he=>qcK (S:=B+C) (A:=A) W (jf.ext he) (qkG.ext he) eU (λi hi=>(hqb i).2.1.mono (by omega)) hVB gJ mJ.1 (λi hi=>(hqb i).2.2) (by omega)
   have NW:Hid (ae (aJ (D+1) n R) []):=MS λi hi=>by rw[om.out i (by omega)];exact ae.refl _
   have wU:wr.drew.cell? ⟨w.heap.size,0,none⟩=some (.int .i64 ((D:Int)+1)):=by
    have:=xE.out.1.1;rw[AY.out]at this;exact this
   have Ky:=Lib.hid wU
   have wT:w.heap.size<wr.drew.heap.size:=by have:=(Ext.refl wr).drew.size;omega
   have hwr:w.heap.size+2<wr.heap.size:=by omega
   have mK:(n:Int)<=(n:Int)+(V:Int):=by omega
   clear hrb hqb gJ jf rQ qkG wU om uP Sd Iu mi xn vS A7 uO oQ BP oU Fx SF SG kG mJ
   go_upto_region 28 with(fail)
   refine fM (λw'=>w'.cell? ⟨w.heap.size,0,none⟩=some (.int .i64 ((D:Int)+1))) 7 (by kernel_rfl) Ky.out (λhHeld=>?_);((refine Hr 0 (v:=?_) ?_ ?_;rotate_left 1;(intro wS hSw;obtain S1:=hSw;go_simp;try with_reducible rfl);(try simp only[Act.put,aD,aF,aG]));(refine Hr 1 (v:=?_) ?_ ?_;rotate_left 1;(intro wS hSw;obtain S1:=hSw;go_simp;try with_reducible rfl);(try simp only[Act.put,aD,aF,aG]));(refine Hr 2 (v:=?_) ?_ ?_;rotate_left 1;(intro wS hSw;obtain S1:=hSw;go_simp;try with_reducible rfl);(try simp only[Act.put,aD,aF,aG]));(refine Hr 3 (v:=?_) ?_ ?_;rotate_left 1;(intro wS hSw;obtain S1:=hSw;go_simp;try with_reducible rfl);(try simp only[Act.put,aD,aF,aG]));(refine Hr 4 (v:=?_) ?_ ?_;rotate_left 1;(intro wS hSw;obtain S1:=hSw;go_simp;try with_reducible rfl);(try simp only[Act.put,aD,aF,aG])));(refine aK 5 ?_;intro K hK);go_simp;refine CJ1.out.mono ?_;rintro e wz ⟨z,rfl,hz,af⟩;go_wp2_with (fail)
   have ag:wz.cell? ⟨w.heap.size,0,none⟩=some (.int .i64 ((D:Int)+1)):=by rw[af.cell wT];exact hHeld
   refine hK.out _ _ (λ_=>ag) ?_;clear hK K;(try simp only[Act.put,aD,aF,aG]);(refine aK 6 ?_;intro K hK);go_simp;refine(CIZ.out z wz hz af).mono ?_;rintro e tK ⟨bz,rfl,rJ,aA⟩;go_wp2_with (fail)
   have BQ:tK.cell? ⟨w.heap.size,0,none⟩=some (.int .i64 ((D:Int)+1)):=by rw[aA.cell (Nat.lt_of_lt_of_le wT af.size)];exact ag
   clear ag;refine hK.out _ _ (λ_=>BQ) ?_;clear hK K;(try simp only[Act.put,aD,aF,aG]);((refine aK 7 ?_;intro K hK);go_simp;(refine hK.out _ _ (λh=>absurd rfl h) ?_);clear hK K;refine ek ?_);have aT:=(Ext.refl wr).drew.trans (af.trans aA);have FU:=jD.out.ext aT;have Pf:=bL.out.trans aT
   have l6:w.heap.size+2<tK.heap.size:=by have:=aT.size;omega
   cases bz with
   |false=>exact absurd (rJ.2 NW.out) (by simp)
   |true=>
    have CT:=Lib.hid (CJ2.out tK aT);have jE:=Lib.hid FU;have NF:=Lib.hid Pf;clear hHeld NW CJ1 CJ2 CIZ hz af aA aT FU Pf rJ Ky bL xE jD;go_wp2_with (fail);refine CT.out.mono ?_;rintro e w5 ⟨v,rfl,hv,aR⟩;obtain⟨⟨q0,q1,q2,q3⟩,⟨f0,f1,f2,f3⟩,⟨r0,r1,r2,r3⟩,HF⟩:=iW (M:=M) (w:=w) (jE.out.ext aR) (Mx.at (by omega)) (by omega) (NF.out.trans aR) (hv.bZ HQA.out) Mx.sub;have dY:=Lib.hid (HF.OQ ug.out rA.out);clear HF aR hv CT BQ HQA ug rA jE NF;go_wp2;exact bodyPost_ret (v:=.tuple #[.agg (ah v),.bool true]) (by simp[results,Tryz.results67,go_sem,r0,r1,r2,r3]) rfl dY.out
  ·obtain⟨k,rfl⟩:∃k',k=k'+1:=⟨k-1,by omega⟩
   have Ch:n+k<n+V:=by omega
   have jS:k<V:=by omega
   obtain⟨d,hd1,rM⟩:=uP.out.cells (n+k) Ch;obtain⟨dR,dO⟩:=Iu.out n (Nat.lt_succ_self n);have iH:b2<wr.heap.size:=Nat.lt_of_lt_of_le gX bL.out.size;have qfA:Hid (KT (w.heap.size+1) (.slice (some ⟨b2,uF,none⟩) (n+1) y.kp) g1 ((n+k)*4) d b2 (uF+n*4) (yy n) wr.drew):=KT.ext ⟨by have:=xE.out.2.2.2.2;rw[NL.out,HN.out]at this;exact this,hd1,dR.ext gX bL.out⟩ (by omega) (by omega) iH (Ext.refl wr).drew;have hw1:IntKind.i64.wrap ((n:Int)+(k:Int))=(n:Int)+(k:Int):=IntWalk.i64_in _ (by omega)
   have kQ:(0:Int)<=(n:Int)+(k:Int):=by omega
   have l6:((n:Int)+(k:Int)).toNat=n+k:=by omega
   have GL:(n:Int)+(k:Int)<((n+V:Nat):Int):=by omega
   have ED:(n:Int)<(n:Int)+1:=by omega
   have hMB:Mb (Mx M w.heap.size (g2+1)) wr:=Mx.mb jG.out bL.out.size (by omega)
   have xg:Hid (∀(M':Nat->Prop) W,Mb M' W->(∀g,M' g->Mx M w.heap.size (g2+1) g\/wr.heap.size<=g)->Ext wr W->Calls Tryz.prog 67 #[.agg (ah d),.agg (ah (yy n))] W (xK M' W D (R (n+k)) (Gk n) A)):=λM' W I5 wO he=>by
    have hq:=IU eU oU.out Fx.out rA.out k;exact kG.out M' (R (n+k)) (Gk n) (fQ D u k) d (yy n) W I5 ((rM.more wO).ext he) (((dO.up (show D<=4 by omega)).more (M':=M') λg hg=>(wO g hg).elim (λh=>h.elim .inl λh=>.inr h.1) λh=>.inr (Nat.le_trans bL.out.size h)).ext (bL.out.trans he)) xn.out hq.1 (by rw[om.out (n+k) (by omega)];exact qh5 eU mi.out vS.out A7.out oU.out k) hq.2.1 hq.2.2 (uO.out n (Nat.lt_succ_self n)).1 (uO.out n (Nat.lt_succ_self n)).2
   have YK:Hid (ae (ai (fQ D u k) (Gk n)) (R (n+k))):=by show ae _ _;rw[om.out (n+k) (by omega)];exact qh5 eU mi.out vS.out A7.out oU.out k
   go_upto_region 19 with(fail)
   rw[show(((k+1:Nat):Int)-1)=(k:Int) by omega]
   go_cut [12,13]from 84 to 98 (qef (Mx M w.heap.size (g2+1)) wr.drew D (R (n+k)) (Gk n) A)
   case first=>
    refine fM (KT (w.heap.size+1) (.slice (some ⟨b2,uF,none⟩) (n+1) y.kp) g1 ((n+k)*4) d b2 (uF+n*4) (yy n)) 17 (by kernel_rfl) qfA.out (λhHeld=>?_);have cO:Ext wr wr.drew:=(Ext.refl wr).drew;have xW:Mb (Mx M w.heap.size (g2+1)) wr.drew:=hMB.ext cO
    have hz1:w.heap.size+1<wr.drew.heap.size:=by have:=cO.size;omega
    have hz2:g1<wr.drew.heap.size:=by have:=cO.size;omega
    have uD:b2<wr.drew.heap.size:=by have:=cO.size;omega
    have hsd:wr.heap.size<=wr.drew.heap.size:=cO.size;generalize wr.drew=wd at*;(refine dF [0,1,2,3,4,5,6,7,8,9,10] ?_;(iterate 11 (refine dD (v:=?_) ?_ ?_;rotate_left 1;(intro wS hSw;obtain⟨S0,⟨S1,S2,S3,S4⟩,S5,S6,S7,S8⟩:=hSw;go_simp;try with_reducible rfl);(try simp only[Act.put,aD,aF,aG])));refine dG ?_);(refine xe 11 15 (oi:=?_) (oj:=?_) (by kernel_rfl) ?_ ?_ ?_ ?_;rotate_left 2;(simp only[iL,iM,iN];rfl);(simp only[iL,iM,iN];rfl);all_goals intro K hK)
    ·go_simp;refine(xg.out (Mx M w.heap.size (g2+1)) wd xW (λg hg=>.inl hg) cO).mono ?_;rintro e wz ⟨v,ok,rfl,hR,af⟩;go_wp2_with (fail);have ag:=hHeld.ext hz1 hz2 uD af;refine hK.out _ _ (λ_=>ag) ?_;clear hK K;(try simp only[Act.put,aD,aF,aG]);(refine dF [12,13,14] ?_;(iterate 3 (refine dD (v:=?_) ?_ ?_;rotate_left 1;(intro wS hSw;obtain⟨S0,⟨S1,S2,S3,S4⟩,S5,S6,S7,S8⟩:=hSw;go_simp;try with_reducible rfl);(try simp only[Act.put,aD,aF,aG])));refine dG ?_);(refine aK 15 ?_;intro K hK);go_simp;have BQ:=ag.ext (Nat.lt_of_lt_of_le hz1 af.size) (Nat.lt_of_lt_of_le hz2 af.size) (Nat.lt_of_lt_of_le uD af.size) ((Ext.refl wz).alloc (.cells zA 33));have zF:=ag.ext (Nat.lt_of_lt_of_le hz1 af.size) (Nat.lt_of_lt_of_le hz2 af.size) (Nat.lt_of_lt_of_le uD af.size) ((Ext.refl wz).alloc (.cells (ah v) 33));clear ag;refine hK.out _ _ (λ_=>BQ) ?_;clear hK K;(try simp only[Act.put,aD,aF,aG]);(refine aK 16 ?_;intro K hK);go_simp;refine hK.out _ _ (λ_=>zF) ?_;clear hK K;(try simp only[Act.put,aD,aF,aG]);((refine aK 17 ?_;intro K hK);go_simp;(refine hK.out _ _ (λh=>absurd rfl h) ?_);clear hK K;refine ek ?_);go_wp2_with (fail)
     go_meet
     exact⟨wz.heap.size,v,ok,rfl,rfl,(ak.bf wz (ah v) 33 4 rfl).p4,by simp,af.size,hR.ext ((Ext.refl wz).alloc _),af.alloc _⟩
    ·go_simp;have oF:Ext wd (wd.alloc (.cells zA 33)):=(Ext.refl _).alloc _;have Lr:=ak.bf wd zA 33 4 rfl;have ag:=hHeld.ext hz1 hz2 uD oF;refine hK.out _ _ (λ_=>ag) ?_;clear hK K;(try simp only[Act.put,aD,aF,aG]);(refine aK 11 ?_;intro K hK);go_simp;refine(xg.out (λg=>Mx M w.heap.size (g2+1) g\/g=wd.heap.size) _ (λg hg=>hg.elim (λh=>Nat.lt_of_lt_of_le (xW g h) oF.size) (λh=>by rw[h];exact Lr.lt)) (λg hg=>hg.imp id (λh=>by rw[h];exact hsd)) (cO.trans oF)).mono ?_;rintro e wz ⟨v,ok,rfl,hR,af⟩;go_wp2_with (fail);clear ag;have ag:=hHeld.ext hz1 hz2 uD (oF.trans af);refine hK.out _ _ (λ_=>ag) ?_;clear hK K;(try simp only[Act.put,aD,aF,aG]);(refine dF [12,13,14] ?_;(iterate 3 (refine dD (v:=?_) ?_ ?_;rotate_left 1;(intro wS hSw;obtain⟨S0,⟨S1,S2,S3,S4⟩,S5,S6,S7,S8⟩:=hSw;go_simp;try with_reducible rfl);(try simp only[Act.put,aD,aF,aG])));refine dG ?_);obtain⟨⟨q0,q1,q2,q3⟩,⟨f0,f1,f2,f3⟩,yj,aZ,dM⟩:=BI (M':=λg=>Mx M w.heap.size (g2+1) g\/g=wd.heap.size) (w:=wd) (.int .i64 v.lv) (.bool v.b) (.slice v.a v.n v.p) (.slice v.ka v.kn v.kp) (Lr.ext af) (.inr rfl) (Nat.le_refl _) (oF.trans af);simp only[arr]at q0 q1 q2 q3;(refine aK 16 ?_;intro K hK);go_simp;have zF:=hHeld.ext hz1 hz2 uD dM;clear ag;refine hK.out _ _ (λ_=>zF) ?_;clear hK K;(try simp only[Act.put,aD,aF,aG]);((refine aK 17 ?_;intro K hK);go_simp;(refine hK.out _ _ (λh=>absurd rfl h) ?_);clear hK K;refine ek ?_)
     go_wp2_with (fail)
     go_meet
     exact⟨wd.heap.size,v,ok,rfl,rfl,yj,Nat.lt_of_lt_of_eq (Nat.lt_of_lt_of_le Lr.lt af.size) (lU _ _ _ _ _ _ _).symm,Nat.le_refl _,(hR.kp aZ).more (λg hg=>.inl (.inl hg)),dM⟩
   case rest=>
    obtain⟨gc,v,ok,rfl,rfl,hv,PS,zU,hR,PK⟩:=hcut;have aR:Ext wr wc:=(Ext.refl wr).drew.trans PK;have qBI:wr.heap.size<=gc:=zU;have hsc:=aR.size;have H6:=Lib.hid aR;have ou:=Lib.hid hR;have HV:=Lib.hid hv;have oL:=Lib.hid (jD.out.ext aR);have YA:=Lib.hid (xE.out.ext aR);have Iq:=Lib.hid (bL.out.trans aR);clear hR hv PK aR zU hw1 kQ l6 GL ED qfA xg hd1 rM dR dO hMB Ch
    cases ok with
    |false=>
     exact absurd ⟨_,(IU eU oU.out Fx.out rA.out k).1,YK.out⟩ (ou.out.2 rfl)
    |true=>
     obtain⟨qq,hq1,hq2,wP⟩:=ou.out.1 rfl;have wQ:=IU eU oU.out Fx.out rA.out k;have Qe:ae qq (fQ D u k):=Q7 hq1.nn wQ.1 (Iu.out n (Nat.lt_succ_self n)).2.nn xn.out (hq2.trans YK.out.symm);replace hq1:=hq1.bZ Qe;clear hq2 wP Qe;obtain⟨v0,v1,v2,v3⟩:=HV.out;have eF:=Sd.out.ext H6.out;obtain⟨⟨_,k0⟩,⟨_,k1⟩,⟨_,k2⟩,⟨_,k3⟩,aV,l5⟩:=eF.at k jS;have fB:=aV (k*4);have fo:=aV (k*4+1);have lh:=aV (k*4+2);have pG:=aV (k*4+3);have aZ:Kp (Mx M w.heap.size (g2+1)) wc (aH wc g2 (k*4) (.int .i64 v.lv) (.bool v.b) (.slice v.a v.n v.p) (.slice v.ka v.kn v.kp)):=Kp.aH (Mx.at (by omega)) _ _ _ _ _;have rR:∀g,g≠g2->(aH wc g2 (k*4) (.int .i64 v.lv) (.bool v.b) (.slice v.a v.n v.p) (.slice v.ka v.kn v.kp)).heap[g]?=wc.heap[g]?:=λg hg=>il _ _ _ _ _ _ _ _ hg
     have qe4:Hid (Kids (Mx M w.heap.size (g2+1)) (aH wc g2 (k*4) (.int .i64 v.lv) (.bool v.b) (.slice v.a v.n v.p) (.slice v.ka v.kn v.kp)) D g2 V (λi=>if k<=i then fQ D u i else[])):=(eF.set (Mx.at (by omega)) k jS hq1).congr λi _=>by
      by_cases gH:i=k
      ·rw[if_pos gH,if_pos (by omega),gH];exact ae.refl _
      ·rw[if_neg gH]
       by_cases h3:k+1<=i
       ·rw[if_pos h3,if_pos (by omega)];exact ae.refl _
       ·rw[if_neg h3,if_neg (by omega)];exact ae.refl _
     have qe5:Hid (Kids (Mx M w.heap.size (g2+1)) (aH wc g2 (k*4) (.int .i64 v.lv) (.bool v.b) (.slice v.a v.n v.p) (.slice v.ka v.kn v.kp)) D g1 (n+V) (rj k (fQ D u k) Gk R 0)):=((uP.out.ext H6.out).kp (rR g1 (by omega)) aZ).congr λi _=>by rw[qyl];exact ae.refl _
     have qev:=Lib.hid (hq1.kp aZ);have rC:Hid (P4 (aH wc g2 (k*4) (.int .i64 v.lv) (.bool v.b) (.slice v.a v.n v.p) (.slice v.ka v.kn v.kp)) gc v):=rW HV.out (rR gc (by omega));have fw:Hid (Ext w (aH wc g2 (k*4) (.int .i64 v.lv) (.bool v.b) (.slice v.a v.n v.p) (.slice v.ka v.kn v.kp))):=Iq.out.aH (by omega) _ _ _ _ _;have oZ:Hid (jM w.heap.size x y (aH wc g2 (k*4) (.int .i64 v.lv) (.bool v.b) (.slice v.a v.n v.p) (.slice v.ka v.kn v.kp))):=⟨rW YA.out.1 (rR _ (by omega)),rW YA.out.2 (rR _ (by omega))⟩;have jV:Hid (ak (aH wc g2 (k*4) (.int .i64 v.lv) (.bool v.b) (.slice v.a v.n v.p) (.slice v.ka v.kn v.kp)) (w.heap.size+2) 33 4 (arr zA)):=oL.out.of_heap (rR _ (by omega));have qfL:Hid ((aH wc g2 (k*4) (.int .i64 v.lv) (.bool v.b) (.slice v.a v.n v.p) (.slice v.ka v.kn v.kp)).heap.size=wc.heap.size):=lU _ _ _ _ _ _ _;have HQF:Hid (NN (fQ D u k)/\az (aC (fQ D u k))<=A):=⟨wQ.1,wQ.2.2⟩
     have l6:g2<wc.heap.size:=by omega
     have hbc:b2<wc.heap.size:=by omega
     have NZ:Hid (bn B (fQ D u k)):=wQ.2.1;clear eF aV hq1 wQ aZ rR YK Sd uP ou HV YA Iq oL H6 bL xE jD;go_wp2
     go_loopw [107] (λi tJ=>∃j:Nat,j<=n/\i=.int .i64 j/\wc.heap.size<=tJ.heap.size/\Hid (Kids (Mx M w.heap.size (g2+1)) tJ D g1 (n+V) (rj k (fQ D u k) Gk R j))/\Hid (Kids (Mx M w.heap.size (g2+1)) tJ D g2 V (λi=>if k<=i then fQ D u i else[]))/\Hid (aI (Mx M w.heap.size (g2+1)) tJ D v (fQ D u k))/\Hid (P4 tJ gc v)/\Hid (Ext w tJ)/\Hid (jM w.heap.size x y tJ)/\Hid (ak tJ (w.heap.size+2) 33 4 (arr zA))) (λi _=>n-(intOf i).toNat)
     case atStart=>exact⟨0,Nat.zero_le _,rfl,Nat.le_of_eq qfL.out.symm,qe5,qe4,qev,rC,fw,oZ,jV⟩
     case round=>
      clear qe5 qe4 qev rC fw oZ jV qfL k0 k1 k2 k3 fB fo lh pG v0 v1 v2 v3 l5;obtain⟨j,hj,rfl,hsi,NM,XY,NA,Tc,Ke,Oc,Xw⟩:=hrel
      by_cases PU:j<n
      ·have quC:(j:Int)<n:=by omega
       obtain⟨d2,hd1,rM⟩:=NM.out.cells (k+j) (by omega);rw[qyj]at rM;obtain⟨dR,dO⟩:=Iu.out j (by omega);have qqf:Hid (KU (w.heap.size+1) (.slice (some ⟨b2,uF,none⟩) (n+1) y.kp) g1 ((k+j)*4) d2 b2 (uF+j*4) (yy j) gc v wr.drew):=KU.ext ⟨by have:=Oc.out.2.2.2.2;rw[NL.out,HN.out]at this;exact this,hd1,dR.ext gX Ke.out,Tc.out⟩ (by omega) (by omega) (by omega) (by omega) (Ext.refl wr).drew;have hw1:IntKind.i64.wrap ((j:Int)+(k:Int))=(j:Int)+(k:Int):=IntWalk.i64_in _ (by omega)
       have kQ:(0:Int)<=(j:Int)+(k:Int):=by omega
       have l6:((j:Int)+(k:Int)).toNat=k+j:=by omega
       have GL:(j:Int)+(k:Int)<(n:Int)+(V:Int):=by omega
       have ED:(j:Int)<(n:Int)+1:=by omega
       have hMi:Mb (Mx M w.heap.size (g2+1)) wr.drew:=Mx.mb jG.out (Ke.out.trans (Ext.refl wr).drew).size (by have:=(Ext.refl wr).drew.size;omega);have iF:=uO.out j (by omega);have hqf:=HQF.out;have Mh:=hqf.2;have dZ:=iF.2
       have ky:az (aC (R (k+j)))<=A+2+G:=by rw[om.out (k+j) (by omega)];exact(qh4 eU oU.out Fx.out rA.out SF.out SG.out (by omega) _).2
       have hn3:=oQ.out.n3
       have hpn:az (aC (ai (fQ D u k) (Gk j)))<=az (aC (fQ D u k))+az (aC (Gk j)):=by rw[Cu];exact qJ _ _
       have hsn:az (aC (R (k+j)++di (ai (fQ D u k) (Gk j))))<=max (az (aC (R (k+j)))) (az (aC (ai (fQ D u k) (Gk j))))+1:=by rw[kT,qcP];exact Lf _ _
       have CM:=Lib.hid (V3 (Mx M w.heap.size (g2+1)) v (yy j) (fQ D u k) (Gk j) B C wr.drew hMi ((NA.out.ext (Ext.refl wr).drew).pi) (((dO.more (Mx.more (Nat.le_refl _))).ext (Ke.out.trans (Ext.refl wr).drew)).pi) (by omega) NZ.out iF.1 (Nat.le_trans (Nat.mul_le_mul_right _ (by omega)) hn3));have CS:Hid (∀(z:PE)(W:World),aI (Mx M w.heap.size (g2+1)) W 4 z (ai (fQ D u k) (Gk j))->Ext wr.drew W->Calls Tryz.prog 38 #[.agg (ah d2),.agg (ah z)] W (dH (Mx M w.heap.size (g2+1)) W 4 (R (k+j)++di (ai (fQ D u k) (Gk j))))):=λz W hz he=>qnR (Mx M w.heap.size (g2+1)) d2 z (R (k+j)) (ai (fQ D u k) (Gk j)) (B+C) W (hMi.ext he) ((rM.ext ((Ext.refl wr).drew.trans he)).pi) hz.pi (show az (aC (R (k+j)++di (ai (fQ D u k) (Gk j))))<=1099511627776 by omega) (by omega) ((bn.ai NZ.out iF.1 hqf.1).mono (by omega)) (by omega);obtain⟨TR,qjz,qjA⟩:=rM.qcG;obtain⟨TQ,qjx,qjy⟩:=NA.out.qcG;obtain⟨TG,qjv,qjw⟩:=dO.qcG;have CD:Hid (∀(z:PE)(W:World),aI (Mx M w.heap.size (g2+1)) W 4 z (R (k+j)++di (ai (fQ D u k) (Gk j)))->aI (Mx M w.heap.size (g2+1)) W D z (R (k+j)++di (ai (fQ D u k) (Gk j)))):=λz W hz=>hz.down (qjz.append ((qjx.ai qjv).mY _)) (qjA.append ((qjy.ai qjw).ai (qws D (-1))))
       have Cr:w.heap.size+1<wr.drew.heap.size/\g1<wr.drew.heap.size/\b2<wr.drew.heap.size/\gc<wr.drew.heap.size:=by have:=(Ext.refl wr).drew.size;omega
       clear hpn hsn Mh dZ ky hqf hn3 iF hMi qjz qjA qjx qjy qjv qjw dR dO hd1 rM
       go_upto_region 26 with(fail)
       refine fM (KU (w.heap.size+1) (.slice (some ⟨b2,uF,none⟩) (n+1) y.kp) g1 ((k+j)*4) d2 b2 (uF+j*4) (yy j) gc v) 19 (by kernel_rfl) qqf.out (λhHeld=>?_);obtain⟨hz1,hz2,uD,EG⟩:=Cr;(refine dF [0,1,2,3,4,5,6,7,8,9,10,11,12,13,14,15] ?_;(iterate 16 (refine dD (v:=?_) ?_ ?_;rotate_left 1;(intro wS hSw;obtain⟨S0,⟨S1,S2,S3,S4⟩,⟨S5,S6,S7,S8⟩,S9,vZ,yZ,wh⟩:=hSw;go_simp;try with_reducible rfl);(try simp only[Act.put,aD,aF,aG])));refine dG ?_);(refine aK 16 ?_;intro K hK);go_simp;refine CM.out.mono ?_;rintro e wz ⟨z,rfl,hz,af⟩;go_wp2_with (fail);have ag:=hHeld.ext hz1 hz2 uD EG af;refine hK.out _ _ (λ_=>ag) ?_;clear hK K;(try simp only[Act.put,aD,aF,aG]);(refine aK 17 ?_;intro K hK);go_simp;refine(CS.out z wz hz af).mono ?_;rintro e tK ⟨z2,rfl,hy,aA⟩;go_wp2_with (fail);clear ag;have ag:=hHeld.ext hz1 hz2 uD EG (af.trans aA);refine hK.out _ _ (λ_=>ag) ?_;clear hK K;(try simp only[Act.put,aD,aF,aG]);(refine dF [18] ?_;(iterate 1 (refine dD (v:=?_) ?_ ?_;rotate_left 1;(intro wS hSw;obtain⟨S0,⟨S1,S2,S3,S4⟩,⟨S5,S6,S7,S8⟩,S9,vZ,yZ,wh⟩:=hSw;go_simp;try with_reducible rfl);(try simp only[Act.put,aD,aF,aG])));refine dG ?_);have aT:=af.trans aA;have hKi:=NM.out.ext ((Ext.refl wr).drew.trans aT);obtain⟨⟨_,k0⟩,⟨_,k1⟩,⟨_,k2⟩,⟨_,k3⟩,aV,l5⟩:=hKi.at (k+j) (by omega);have fB:=aV ((k+j)*4)
       have fo:=aV ((k+j)*4+1);have lh:=aV ((k+j)*4+2);have pG:=aV ((k+j)*4+3);((refine aK 19 ?_;intro K hK);go_simp;(refine hK.out _ _ (λh=>absurd rfl h) ?_);clear hK K;refine ek ?_);have aZ:Kp (Mx M w.heap.size (g2+1)) tK (aH tK g1 ((k+j)*4) (.int .i64 z2.lv) (.bool z2.b) (.slice z2.a z2.n z2.p) (.slice z2.ka z2.kn z2.kp)):=Kp.aH (Mx.at (by omega)) _ _ _ _ _;have rR:∀g,g≠g1->(aH tK g1 ((k+j)*4) (.int .i64 z2.lv) (.bool z2.b) (.slice z2.a z2.n z2.p) (.slice z2.ka z2.kn z2.kp)).heap[g]?=tK.heap[g]?:=λg hg=>il _ _ _ _ _ _ _ _ hg;have Ai:=(Ext.refl wr).drew.trans aT
       have qpD:Hid (Kids (Mx M w.heap.size (g2+1)) (aH tK g1 ((k+j)*4) (.int .i64 z2.lv) (.bool z2.b) (.slice z2.a z2.n z2.p) (.slice z2.ka z2.kn z2.kp)) D g1 (n+V) (rj k (fQ D u k) Gk R (j+1))):=(hKi.set (Mx.at (by omega)) (k+j) (by omega) (CD.out z2 tK hy)).congr λi _=>by rw[qyk];exact ae.refl _
       have qpC:Hid (Kids (Mx M w.heap.size (g2+1)) (aH tK g1 ((k+j)*4) (.int .i64 z2.lv) (.bool z2.b) (.slice z2.a z2.n z2.p) (.slice z2.ka z2.kn z2.kp)) D g2 V (λi=>if k<=i then fQ D u i else[])):=(XY.out.ext Ai).kp (rR g2 (by omega)) aZ;have qpe:=Lib.hid ((NA.out.ext Ai).kp aZ);have Ta:Hid (P4 (aH tK g1 ((k+j)*4) (.int .i64 z2.lv) (.bool z2.b) (.slice z2.a z2.n z2.p) (.slice z2.ka z2.kn z2.kp)) gc v):=rW (Tc.out.ext Ai) (rR gc (by omega));have iB:Hid (Ext w (aH tK g1 ((k+j)*4) (.int .i64 z2.lv) (.bool z2.b) (.slice z2.a z2.n z2.p) (.slice z2.ka z2.kn z2.kp))):=(Ke.out.trans Ai).aH (by omega) _ _ _ _ _;have HS7:Hid (jM w.heap.size x y (aH tK g1 ((k+j)*4) (.int .i64 z2.lv) (.bool z2.b) (.slice z2.a z2.n z2.p) (.slice z2.ka z2.kn z2.kp))):=⟨rW (Oc.out.1.ext Ai) (rR _ (by omega)),rW (Oc.out.2.ext Ai) (rR _ (by omega))⟩;have EZ:Hid (ak (aH tK g1 ((k+j)*4) (.int .i64 z2.lv) (.bool z2.b) (.slice z2.a z2.n z2.p) (.slice z2.ka z2.kn z2.kp)) (w.heap.size+2) 33 4 (arr zA)):=(Xw.out.ext Ai).of_heap (rR _ (by omega))
       have qqn:Hid (wc.heap.size<=(aH tK g1 ((k+j)*4) (.int .i64 z2.lv) (.bool z2.b) (.slice z2.a z2.n z2.p) (.slice z2.ka z2.kn z2.kp)).heap.size):=by show _<=_;rw[lU];have:=Ai.size;omega
       clear hKi aV ag af aA aT Ai hy hz aZ rR NM XY NA Tc Ke Oc Xw hHeld;go_wp2
       go_roundw
       case rel=>exact⟨j+1,by omega,by go_num,qqn.out,qpD,qpC,qpe,Ta,iB,HS7,EZ⟩
       case measure=>simp[intOf];omega
      ·have hje:j=n:=by omega
       have quC:¬((j:Int)<n):=by omega
       obtain⟨RN,hRN⟩:∃RN:Nat->List Tm,RN=λi=>if i<n+k then uq D u r k i else rj k (fQ D u k) Gk R n i:=⟨_,rfl⟩
       have Sg:Hid (Kids (Mx M w.heap.size (g2+1)) wr D g1 (n+V) RN):=NM.out.congr λi _=>by
        rw[hje,hRN]
        by_cases hi:i<n+k
        ·simp only[if_pos hi];have h9:=qsM eU mi.out vS.out A7.out oU.out k (ae.refl (fQ D u k)) i hi;refine ae.trans ?_ h9;unfold rj;rw[om.out i (by omega)];exact ae.refl _
        ·simp only[if_neg hi];exact ae.refl _
       have qpo:Hid (∀i,i<n+k->RN i=uq D u r k i):=λi hi=>by rw[hRN];exact if_pos hi
       clear hRN
       have qun:g2<wr.heap.size:=by omega
       clear hje NM om NZ HQF NA Tc;go_wp2
       go_roundw
       case rel=>exact⟨k,RN,by omega,by go_num,qun,Sg,XY,qpo,Ke,Oc,Xw⟩
       case measure=>(simp[intOf];try omega)
theorem qsT(B A C G L:Nat)(wC:L<=4)(hN:FD B A C G)(ih:∀E,E<L->Nr B A C G E):Nr B A C G L:=by
 intro M l r u x y w hM h hy hz nu hu hB hA hC hG;have Gt:=h.kR;have L9:=hy.kR
 by_cases qcg:0<x.lv/\y.lv=x.lv
 ·obtain⟨E,hE⟩:∃E:Nat,x.lv=(E:Int)+1:=⟨x.lv.toNat-1,by omega⟩;exact(qsS B A C G E (by omega) hN (ih E (by omega)) M l r u x y w hM (CR.MU h (by omega)) hE hy qcg.2 hz nu hu hB hA hC hG).mono λe w' hp=>hp.mono (by omega) (Nat.le_refl _)
 obtain⟨aQ,nO,BR,bO,dw⟩:=Bu hM x y;have CZ:=Lib.hid (ES _ x l _ dw (((h.more (M':=Mx M w.heap.size (w.heap.size+3)) (Mx.more (Nat.le_refl _))).ext aQ).pi));obtain⟨x0,x1,x2,x3⟩:=nO;obtain⟨y0,y1,y2,y3⟩:=BR
 have oI:w.heap.size+3=((((w.alloc (.cells (ah x) 33)).alloc (.cells (ah y) 33)).alloc (.cells zA 33))).heap.size:=by simp
 generalize hW:((w.alloc (.cells (ah x) 33)).alloc (.cells (ah y) 33)).alloc (.cells zA 33)=W at*;have HW:=Lib.hid hW;have HE:=Lib.hid aQ;have HS:Hid (jM w.heap.size x y W):=⟨⟨x0,x1,x2,x3⟩,⟨y0,y1,y2,y3⟩⟩;have gQ:=Lib.hid bO;have jG:=Lib.hid hM;have xC:=Lib.hid qcg;have HH:=Lib.hid h;have HY:=Lib.hid hy;have HZ:=Lib.hid hz;have E5:=Lib.hid hB;have AQ:=Lib.hid hC;have oU:=Lib.hid nu;have ug:=Lib.hid hu;have rA:=Lib.hid hA;have oQ:=Lib.hid hN
 have hAD:az (aC (ai u r))<=A+G:=by rw[Cu];exact Nat.le_trans (qJ _ _) (Nat.add_le_add hA hG)
 have HAD:=Lib.hid hAD;have hn4:=hN.n4;have uO:=Lib.hid hG;have kG:=Lib.hid ih;clear aQ bO dw h hy hz hB hC hA hG hN nu hu hAD hW hM qcg ih
 go_enter Tryz.func67,Tryz.ntmps67
 go_upto_region 1 with(fail)
 rw[HW.out];go_wp2_with (fail);refine CZ.out.mono ?_;rintro e w1 ⟨bz,rfl,rJ,af⟩;have aL:=Lib.hid (HE.out.trans af);have fO:=Lib.hid (HS.out.ext af);have cB:=Lib.hid (gQ.out.ext af)
 have dP:w.heap.size+3<=w1.heap.size:=by have:=af.size;omega
 have jE:=Lib.hid rJ;clear x0 x1 x2 x3 y0 y1 y2 y3 HE HS gQ HW af rJ CZ;obtain⟨⟨x0,x1,x2,x3⟩,⟨y0,y1,y2,y3⟩⟩:=fO.out
 have kQ:w.heap.size+2<w1.heap.size:=by omega
 have hks:W.heap.size=w.heap.size+3:=oI.symm;clear oI
 cases bz with
 |true=>
  obtain⟨⟨q0,q1,q2,q3⟩,⟨f0,f1,f2,f3⟩,⟨r0,r1,r2,r3⟩,HF⟩:=iW (M:=M) (M':=Mx M w.heap.size (w.heap.size+3)) (w:=w) (L:=L) (l:=[]) (y:=PE.z) cB.out (Mx.at (by omega)) (by omega) aL.out (CR.zero _ _ L) Mx.sub;have dY:=Lib.hid (HF.OQ (r:=r) (l:=l) (A:=A) (jE.out.1 rfl).symm (show az 0<=A from Nat.zero_le _));simp only[PE.z]at r0 r1 r2 r3;clear HF jE HH HY HZ E5 AQ HAD uO oQ oU ug rA kG xC fO cB aL;go_wp2;exact bodyPost_ret (v:=.tuple #[.agg (ah PE.z),.bool true]) (by simp[results,Tryz.results67,go_sem,r0,r1,r2,r3,PE.z]) rfl dY.out
 |false=>
  have NQ:Hid (¬ae l []):=λhh=>by have:=jE.out.2 hh;cases this
  by_cases hlt:x.lv<y.lv
  ·have Dp:Hid (¬Dv r l):=by
    obtain⟨D,b2,uF,Gk,qkO,jk,_,_,_,_,qkX,_,_,_,_,_,Gp,Ci,Cn,_,_⟩:=HY.out.node (by omega);obtain⟨T,I9,vC⟩:=HH.out.qcH;obtain⟨n,hn⟩:∃n,y.kn=n+1:=⟨y.kn-1,by omega⟩;rw[hn]at Gp Cn Ci;rw[Nat.add_sub_cancel]at Ci;exactλhd=>qsw jk (by omega) Gp Ci (NN.bZ HY.out.nn Cn.symm) (λt ht=>vC t ht (D+1) (by omega) jk) (λhh=>NQ.out (I9.symm.trans hh)) (hd.bZ Cn.symm I9.symm)
   obtain⟨⟨q0,q1,q2,q3⟩,⟨f0,f1,f2,f3⟩,⟨r0,r1,r2,r3⟩,HF⟩:=iW (M:=M) (M':=Mx M w.heap.size (w.heap.size+3)) (w:=w) (L:=0) (l:=[]) (y:=PE.z) cB.out (Mx.at (by omega)) (by omega) aL.out (CR.zero _ _ 0) Mx.sub;have dY:=Lib.hid (HF.Ul (L:=L) (A:=A) Dp.out);simp only[PE.z]at r0 r1 r2 r3;clear HF Dp jE HH HY HZ E5 AQ HAD uO oQ oU ug rA kG xC fO cB aL;go_wp2;exact bodyPost_ret (v:=.tuple #[.agg (ah PE.z),.bool false]) (by simp[results,Tryz.results67,go_sem,r0,r1,r2,r3,PE.z]) rfl dY.out
  ·by_cases h0:x.lv=0
   ·have rU:y.lv=0:=by omega
    obtain⟨zl,qlL,_,qlM⟩:=HH.out.val;obtain⟨zr,qlN,_,qlO⟩:=HY.out.val;obtain⟨Qz,_⟩:=qlM h0;obtain⟨QC,_⟩:=qlO rU;have Vm:zr≠0:=λhh=>HZ.out (QC.symm.trans (λm=>by rw[hh];simp[aB]))
    have qO:zl=aB (ai u r) Mo.zero:=by have:=Qz Mo.zero;rw[ug.out Mo.zero];simpa[aB]using this
    have hzd:az zl.natAbs<=A+G:=Nat.le_trans (ji (by rw[qO];exact qru (ai u r) Mo.zero)) HAD.out;have lg:Mb (Mx M w.heap.size (w.heap.size+3)) w1:=Mx.mb jG.out aL.out.size (by omega);have CE:=Lib.hid (qst (M:=Mx M w.heap.size (w.heap.size+3)) x.b x.a x.n x.p zl y.b y.a y.n y.p zr w1 lg ((qlL.more (Mx.more (Nat.le_refl _))).ext aL.out) ((qlN.more (Mx.more (Nat.le_refl _))).ext aL.out) Vm (by omega));have om:Hid (Dv r l↔zl.tmod zr=0):=⟨λhd=>(qhH Vm).1 (hd.bZ QC.symm Qz.symm),λhh=>((qhH Vm).2 hh).bZ QC Qz⟩
    have YI:Hid (zl.tmod zr=0->ae (ai [(zl.tdiv zr,Mo.zero)] r) l):=λhh=>by
     have:=Int.tdiv_mul_cancel (Int.dvd_of_tmod_eq_zero hh);refine(QC.symm.rf _).trans (ae.trans (λm=>?_) Qz);simp[ai,shift,smul,aB,Mo.add_zero',this]
    have Yp:Hid (zl.tmod zr=0->ae [(zl.tdiv zr,Mo.zero)] u):=λhh=>Q7 (qW _) oU.out HY.out.nn HZ.out ((YI.out hh).trans ug.out.symm);have qtx:=Lib.hid lg;rw[h0]at x0;rw[rU]at y0;clear qlL qlM qlN qlO Qz QC qO hzd lg HH HY HZ E5 AQ HAD uO oQ oU kG xC jE NQ hlt h0 rU Gt L9 Vm hn4;go_wp2_with (fail);refine CE.out.mono ?_;rintro e w2 ⟨cb,ca,cn,cp,er,rfl,gJ,hno,aA⟩
    have Gd:∃cz,dJ (Mx M w.heap.size (w.heap.size+3)) w2 (.bool cb) (.slice ca cn cp) cz/\((er=0/\zl.tmod zr=0/\cz=zl.tdiv zr)\/(er=3/\zl.tmod zr≠0)):=by
     by_cases hd:zl.tmod zr=0
     ·exact⟨_,(gJ hd).2,.inl ⟨(gJ hd).1,hd,rfl⟩⟩
     ·exact⟨_,(hno hd).2,.inr ⟨(hno hd).1,hd⟩⟩
    obtain⟨cz,dR,dO⟩:=Gd;have aN:=(Ext.refl w2).alloc (.cells #[.bool cb,.slice ca cn cp] 30);have dW:=Lib.hid (aA.trans aN);have CK:=Lib.hid (VZ (Mx M w.heap.size (w.heap.size+3)) cb ca cn cp cz _ (qtx.out.ext (aA.trans aN)) (dR.ext aN).eH);have hs2:=aA.size
    have l6:w.heap.size+2<w2.heap.size:=by omega
    clear gJ hno aA dR aN CE x0 x1 x2 x3 y0 y1 y2 y3 kQ fO
    go_upto_region 7 with(fail)
    go_wp2_with (fail);refine CK.out.mono ?_;rintro e w5 ⟨v,rfl,hv,aR⟩;have hq:=iW (M:=M) (w:=w) ((cB.out.ext dW.out).ext aR) (Mx.at (by omega)) (by omega) ((aL.out.trans dW.out).trans aR) (hv.up (Nat.zero_le L)) Mx.sub
    have GL:w.heap.size+2<w5.heap.size:=by have:=dW.out.size;have:=aR.size;omega
    rcases dO with⟨rfl,hd,rfl⟩|⟨rfl,hd⟩
    ·replace hq:=iW (M:=M) (w:=w) ((cB.out.ext dW.out).ext aR) (Mx.at (by omega)) (by omega) ((aL.out.trans dW.out).trans aR) ((hv.up (Nat.zero_le L)).bZ (Yp.out hd)) Mx.sub;obtain⟨⟨q0,q1,q2,q3⟩,⟨f0,f1,f2,f3⟩,⟨r0,r1,r2,r3⟩,HF⟩:=hq;have dY:=Lib.hid (HF.OQ ug.out rA.out);clear HF hv aR CK dW YI Yp ug rA om hd cB aL l6 hs2;go_wp2;exact bodyPost_ret (v:=.tuple #[.agg (ah v),.bool true]) (by simp[results,Tryz.results67,go_sem,r0,r1,r2,r3]) rfl dY.out
    ·obtain⟨⟨q0,q1,q2,q3⟩,⟨f0,f1,f2,f3⟩,⟨r0,r1,r2,r3⟩,HF⟩:=hq;have dY:=Lib.hid (HF.Ul (L:=L) (A:=A) λhh=>hd (om.out.1 hh));clear HF hv aR CK dW YI Yp ug rA om hd cB aL l6 hs2;go_wp2;exact bodyPost_ret (v:=.tuple #[.agg (ah v),.bool false]) (by simp[results,Tryz.results67,go_sem,r0,r1,r2,r3]) rfl dY.out
   ·have zh:(x.lv==0)=false:=by simpa using h0
    have jR:y.lv<x.lv:=by have:=xC.out;omega
    obtain⟨E,hE⟩:∃E:Nat,x.lv=(E:Int)+1:=⟨x.lv.toNat-1,by omega⟩;have CE:=Lib.hid (qsR B A C G E (by omega) oQ.out (kG.out E (by omega)) (Mx M w.heap.size (w.heap.size+3)) l r u x y w1 (Mx.mb jG.out aL.out.size (by omega)) (CR.MU ((HH.out.more (Mx.more (Nat.le_refl _))).ext aL.out) (by omega)) hE ((HY.out.more (Mx.more (Nat.le_refl _))).ext aL.out) jR HZ.out oU.out ug.out E5.out rA.out AQ.out uO.out)
    have FX:E+1<=L:=by omega
    clear hE HH HY HZ E5 AQ HAD uO oQ oU ug rA kG xC jE NQ;go_wp2_with (fail);refine CE.out.mono ?_;rintro e w2 ⟨v,ok,rfl,hR,aA⟩
    cases ok with
    |true=>
     obtain⟨q,hq1,hq2,wP⟩:=hR.1 rfl;obtain⟨⟨q0,q1,q2,q3⟩,⟨f0,f1,f2,f3⟩,⟨r0,r1,r2,r3⟩,HF⟩:=iW (M:=M) (w:=w) (cB.out.ext aA) (Mx.at (by omega)) (by omega) (aL.out.trans aA) (hq1.up FX) Mx.sub;have dY:=Lib.hid (HF.OQ hq2 wP);have l6:w.heap.size+2<w2.heap.size:=Nat.lt_of_lt_of_le kQ aA.size;clear HF hR aA CE hq1 hq2 wP fO cB aL x0 x1 x2 x3 y0 y1 y2 y3 kQ;go_wp2;exact bodyPost_ret (v:=.tuple #[.agg (ah v),.bool true]) (by simp[results,Tryz.results67,go_sem,r0,r1,r2,r3]) rfl dY.out
    |false=>
     obtain⟨⟨q0,q1,q2,q3⟩,⟨f0,f1,f2,f3⟩,⟨r0,r1,r2,r3⟩,aZ,dM⟩:=BI (M':=Mx M w.heap.size (w.heap.size+3)) (w:=w) (.int .i64 v.lv) (.bool v.b) (.slice v.a v.n v.p) (.slice v.ka v.kn v.kp) (cB.out.ext aA) (Mx.at (by omega)) (by omega) (aL.out.trans aA);have dY:Hid (xK M w L l r A (.returned (.tuple #[.agg (ah v),.bool false])) (aH w2 (w.heap.size+2) 0 (.int .i64 v.lv) (.bool v.b) (.slice v.a v.n v.p) (.slice v.ka v.kn v.kp))):=⟨v,false,rfl,⟨λhh=>(by cases hh),λ_=>hR.2 rfl⟩,dM⟩;simp only[arr]at q0 q1 q2 q3;simp only[aH,Nat.zero_add]at r0 r1 r2 r3;have l6:w.heap.size+2<w2.heap.size:=Nat.lt_of_lt_of_le kQ aA.size;clear aZ dM hR aA CE fO cB aL x0 x1 x2 x3 y0 y1 y2 y3 kQ;go_wp2;exact bodyPost_ret (v:=.tuple #[.agg (ah v),.bool false]) (by simp[results,Tryz.results67,go_sem,r0,r1,r2,r3]) rfl dY.out
theorem qsQ(B A C G:Nat)(hN:FD B A C G)(L:Nat):L<=4->Nr B A C G L:=by
 induction L using Nat.strongRecOn with
 |_ L ih=>exactλhL=>qsT B A C G L hL hN λE hE=>ih E hE (by omega)
theorem qsO{B A C G:Nat}(hN:FD B A C G)(M:Nat->Prop)(l r u:List Tm)(x y:PE)(w:World)(hM:Mb M w)(h:PI M w x l)(hy:PI M w y r)(nu:NN u)(hu:ae (ai u r) l)(hB:bn B u)(hA:az (aC u)<=A)(hC:bn C r)(hG:az (aC r)<=G):
 Calls Tryz.prog 14 #[.agg (ah x),.agg (ah y)] w (KQ M w l r A):=qxS M l r x y A w hM h hy λM' a b W' h1 h2 h4 h5=>qsQ B A C G hN 4 (Nat.le_refl 4) M' l r u a b W' h1 h2 h4 h5 nu hu hB hA hC hG
theorem qsU{B A C G:Nat}(hN:FD B A C G)(M:Nat->Prop)(l r u:List Tm)(x y:PE)(w:World)(hM:Mb M w)(h:PI M w x l)(hy:PI M w y r)(nr:NN r)(zr:¬ae r [])(nu:NN u)(hu:ae (ai u r) l)(hB:bn B u)(hA:az (aC u)<=A)(hC:bn C r)(hG:az (aC r)<=G):
 Calls Tryz.prog 196 #[.agg (ah x),.agg (ah y)] w (dH M w 4 u):=
 (qza M l r x y A w hM h hy nr λM' W h1 h2 h3=>qsO hN M' l r u x y W h1 h2 h3 nu hu hB hA hC hG).mono λe w'⟨v,h1,h2,_,h4⟩=>by
  rw[qnK nu nr zr hu]at h2;exact⟨v,h1,h2.bZ (l7 nu),h4⟩
def sB(B:Nat->Nat):Nat->Nat
 |0=>0
 |n+1=>B 0+sB (λr=>B (r+1)) n
theorem qhl:∀(n:Nat)(P:Nat->Nat->List Tm)(B:Nat->Nat),(∀i j,i<n->bn (B i) (P i j))->(∀i j,NN (P i j))->bn (sB B n) (lV n P)
 |0,_,_,_,_=>λm hm k=>by
  have:Mo.zero=m:=Classical.byContradiction λh=>hm (by show(if Mo.zero=m then(1:Int)else 0)+0=0;rw[if_neg h];rfl);subst this;rw[ve];exact Int.natCast_nonneg _
 |n+1,P,B,h,hN=>by
  have key:∀c,bn (B 0+sB (λr=>B (r+1)) n) (BF (lV n) P c):=λc=>by
   induction c with
   |zero=>exactλm hm=>absurd rfl hm
   |succ c ih=>exact ih.append (qrU ((h 0 c (by omega)).ai (qhl n (Ct P c) (λr=>B (r+1)) (λi j hi=>h _ _ (by omega)) λi j=>hN _ _) (hN 0 c)) _)
  exact key (n+1)
theorem V5{b c:Nat}:∀(n:Nat)(B:Nat->Nat),(∀r,r+1<n->B r<=b)->(∀r,r+1=n->B r<=c)->b<=c->sB B n<=n*b+(c-b)
 |0,_,_,_,_=>by simp[sB]
 |1,B,_,h2,h3=>by
  have:=h2 0 rfl;simp only[sB];omega
 |n+2,B,h1,h2,h3=>by
  have ih:=V5 (n+1) (λr=>B (r+1)) (λr hr=>h1 _ (by omega)) (λr hr=>h2 _ (by omega)) h3;have:=h1 0 (by omega);show B 0+sB (λr=>B (r+1)) (n+1)<=_;rw[show(n+2)*b=(n+1)*b+b from Nat.succ_mul _ _];omega
theorem qho{J:Nat}(h1:1<=J)(h4:J<=4){B i:Nat}{l:List Tm}(h:bn B l):bn (B+i) (shift (xp J (i:Int)) l):=λm hm k=>by
 rw[rG]at hm;have:=h _ hm k;rw[sJ]at this
 have e:(xp J (i:Int)).get k<=(i:Int):=by
  by_cases hk:1<=k/\k<=4
  ·rw[dX J k _ h1 h4];split<;>omega
  ·have:(xp J (i:Int)).get k=0:=by
    unfold Mo.get;rw[if_neg (by omega),if_neg (by omega),if_neg (by omega),if_neg (by omega)]
   omega
 have e2:((B+i:Nat):Int)=(B:Int)+i:=by omega
 rw[e2];omega
theorem qsV:∀n,n<=12->Lj n<4294967296:=by decide
theorem OV{P:List Tm->Prop}(r:Nat)(h0:P []):∀(L:List (Nat->List Tm)),(∀p∈L,P (p r))->∀c,P (L.getD c (λ_=>[]) r)
 |[],_,c=>by simpa using h0
 |p::L,h,0=>h p List.mem_cons_self
 |p::L,h,c+1=>OV r h0 L (λq hq=>h q (List.mem_cons_of_mem _ hq)) c
theorem qhx{J j m n A:Nat}{f g:List Tm}(hf:az (aC f)<=A)(hg:az (aC g)<=A)(hN:n-j+(m-j)<=12):az (aC (SJ J j m n f g))<=(n-j+(m-j))*A+1:=by
 have hb:∀(F:List Tm)(N:Nat),az (aC F)<=A->∀r,∀p∈nW (m+n-j-1) j J F N,aC (p r)<=4294967296^A:=λF N hF r p hp=>by
  obtain⟨i,hi,rfl⟩:=List.mem_map.1 hp;have vg:=Nat.le_of_lt ((o9 _ _).1 hF);show aC (if r<m+n-j-1-j then(if m+n-j-1-r<i then[]else ck J ((m+n-j-1-r-i:Nat):Int) F)else shift (xp J (i:Int)) F)<=_
  split
  ·split
   ·exact Nat.zero_le _
   ·exact Nat.le_trans (TT _ _ _) vg
  ·rw[yu];exact vg
 have hl:=qmO (N:=4294967296^A) (n-j+(m-j)) (λr c=>(nW (m+n-j-1) j J f (n-j)++nW (m+n-j-1) j J g (m-j)).getD c (λ_=>[]) r) (λr c=>OV (P:=λl=>aC l<=4294967296^A) r (Nat.zero_le _) _ (λp hp=>(List.mem_append.1 hp).elim (hb f (n-j) hf r p) (hb g (m-j) hg r p)) c);have hc:=qsV (n-j+(m-j)) hN;rw[o9];refine Nat.lt_of_le_of_lt hl ?_;generalize n-j+(m-j)=N at*;rw[<-Nat.pow_mul,Nat.mul_comm A,Nat.pow_succ,Nat.mul_comm];exact Nat.mul_lt_mul_of_pos_left hc (Nat.pow_pos (by decide))
section
variable{J:Nat}(h1:1<=J)(h4:J<=4){B A:Nat}{f g:List Tm}(hf:Sz B A f)(hg:Sz B A g)
include h1 h4 hf hg
theorem qzn{j m n:Nat}(hj:j<n)(hn:n<=m)(hm:m<=6):Sz ((m+n-2*j)*B+m) ((m+n-2*j)*A+1) (SJ J j m n f g):=by
 have eN:n-j+(m-j)=m+n-2*j:=by omega
 have nn:=λr c=>Wd h1 h4 hf.n hg.n (j:=j) (m:=m) (n:=n) (m+n-j-1) c r;refine⟨gZ h1 h4 hf.n hg.n _ _ _,?_,?_⟩
 ·have hb:∀(F:List Tm)(N:Nat),Sz B A F->N<=m->∀r,∀p∈nW (m+n-j-1) j J F N,bn (if r<m+n-j-1-j then B else B+m) (p r):=λF N hF hN r p hp=>by
   obtain⟨i,hi,rfl⟩:=List.mem_map.1 hp;have hi:=GV.1 hi;show bn _ (if r<m+n-j-1-j then(if m+n-j-1-r<i then[]else ck J ((m+n-j-1-r-i:Nat):Int) F)else shift (xp J (i:Int)) F)
   by_cases hr:r<m+n-j-1-j
   ·rw[if_pos hr,if_pos hr]
    split
    ·exactλm hm=>absurd rfl hm
    ·exact(hF.ck h1 h4 _).2.2.1
   ·rw[if_neg hr,if_neg hr];exact(qho h1 h4 hF.d).mono (by omega)
  have hd:=qhl (n-j+(m-j)) (λr c=>(nW (m+n-j-1) j J f (n-j)++nW (m+n-j-1) j J g (m-j)).getD c (λ_=>[]) r) (λr=>if r<m+n-j-1-j then B else B+m) (λr c _=>
   OV (P:=λl=>bn (if r<m+n-j-1-j then B else B+m) l) r (λm hm=>absurd rfl hm) _ (λp hp=>(List.mem_append.1 hp).elim (hb f (n-j) hf (by omega) r p) (hb g (m-j) hg (by omega) r p)) c) nn
  have hs:=V5 (b:=B) (c:=B+m) (n-j+(m-j)) (λr=>if r<m+n-j-1-j then B else B+m) (λr hr=>by
   show(if r<m+n-j-1-j then B else B+m)<=B
   rw[if_pos (by omega)];exact Nat.le_refl _) (λr hr=>by
   show(if r<m+n-j-1-j then B else B+m)<=B+m
   split<;>omega) (by omega)
  rw[eN]at hs hd;unfold SJ;rw[eN];exact hd.mono (by omega)
 ·have:=qhx (J:=J) (j:=j) (m:=m) (n:=n) hf.a hg.a (by omega);rw[eN]at this;exact this
end
theorem Vw{J B A n:Nat}{a:List Tm}(h1:1<=J)(h4:J<=4)(h:Sz B A a)(hz:¬ae a [])(hd:bD J a n)(hB:B<=1000)(hA:A<=1000000):Iy J a (ck J (n:Int) a):=λM W x hM hx=>
 qwJ M x a J n B W h1 h4 h.n hz hd hM hx.pi h.d (Nat.le_trans (Nat.pow_le_pow_left (show B+1<=1001 by omega) 4) (by decide)) (by omega) (Nat.le_trans h.a (Nat.le_trans hA (by decide)))
theorem VX{B A k:Nat}{a:List Tm}(h:Sz B A a)(hk:k<=100)(hB:k*B<=1000)(hA:k*A<=1000000):KL a k (bA a k):=λM W x hM hx=>by
 have hq:=qnQ M x a B (k:Int) W hM hx.pi (by omega) (by
  rw[Int.toNat_natCast];have:=Nat.mul_le_mul_left k h.a
  exact Nat.le_trans (Nat.add_le_add_right this 2) (Nat.le_trans (Nat.add_le_add_right hA 2) (by decide))) h.d (by
  rw[Int.toNat_natCast]
  exact Nat.le_trans (Nat.mul_le_mul (show k*B+1<=1001 by omega) (show k*B+1<=1001 by omega)) (by decide))
 rw[Int.toNat_natCast]at hq;exact hq
theorem qmn{B A C D:Nat}{a b:List Tm}(h:Sz B A a)(k:Sz C D b)(hB:B<=1000)(hC:C<=1000)(hA:A<=1000000)(hD:D<=1000000):Ti a b (ai a b):=λM W x y hM hx hy=>
 V3 M x y a b B C W hM hx.pi hy.pi (Nat.le_trans (Nat.add_le_add h.a k.a) (Nat.le_trans (Nat.add_le_add hA hD) (by decide))) h.d k.d (Nat.le_trans (Nat.mul_le_mul (show B+1<=1001 by omega) (show C+1<=1001 by omega)) (by decide))
theorem qnH{B A C G:Nat}{l r q:List Tm}(hq:Sz B A q)(hr:Sz C G r)(hz:¬ae r [])(hs:ae (ai q r) l)(hB:B+C<=1000)(hA:A<=1000000)(hG:G<=1000000):Tk l r q:=λM W x y hM hx hy=>
 qsU ⟨by omega,Nat.le_trans (Nat.pow_le_pow_left (show B+C+1<=1001 by omega) 4) (by decide),Nat.le_trans (Nat.mul_le_mul (show B+C+1<=1001 by omega) (show C+1<=1001 by omega)) (by decide),by omega⟩ M l r q x y W hM hx.pi hy.pi hr.n hz hq.n hs hq.d hq.a hr.d hr.a
theorem qnO{J B A C D n V:Nat}{f g:List Tm}(h1:1<=J)(h4:J<=4)(h:Sz B A f)(k:Sz C D g)(hf:¬ae f [])(hz:¬ae g [])(hd:bD J g n)(hm:bD J f (n+V-1))(hV:1<=V)(qN:C<=1000)(DZ:D<=1000000)(hN:WZ V B C A D):IG J f g (kg J n V f (di g)):=λM W x y hM hx hy=>by
 have hVV:∀n' V':Nat,bD J g n'->rF J f n' V'->n'=n/\V'=V:=λn' V' vE iT=>by
  have e1:n'=n:=Le k.n hz vE hd;subst e1;rcases iT with⟨h,_⟩|⟨_,a,ha,rfl⟩
  ·exact absurd h hf
  ·have:=Le h.n hf ha hm;exact⟨rfl,by omega⟩
 refine(qzb V M f g x y J B C A D W h1 h4 hM hx.pi hy.pi h.n k.n hz h.d k.d (Nat.le_trans (Nat.succ_le_succ qN) (by decide)) h.a k.a (Nat.le_trans (Nat.succ_le_succ DZ) (by decide)) hN λn' V' vE kC=>by rw[(hVV n' V' vE kC).2];exact Nat.le_refl _).mono ?_;rintro e w' ⟨v,n',V',rfl,vE,iT,hv,Jg⟩;obtain⟨rfl,rfl⟩:=hVV n' V' vE iT;exact⟨v,rfl,hv,Jg⟩
def Dk(k B:Nat)(l:List Tm):Prop:=∀m,aB l m≠0->m.get k<=B
theorem Dk.mono{k B C:Nat}{l:List Tm}(h:Dk k B l)(hs:B<=C):Dk k C l:=λm hm=>by have:=h m hm;omega
theorem Dk.append{k B:Nat}{l r:List Tm}(h:Dk k B l)(q:Dk k B r):Dk k B (l++r):=λm hm=>by
 rw[gW]at hm
 by_cases h1:aB l m=0
 ·exact q m (by omega)
 ·exact h m h1
theorem Dk.smul{k B:Nat}{l:List Tm}(h:Dk k B l)(c:Int):Dk k B (smul c l):=λm hm=>h m λh0=>hm (by rw[iD,h0,Int.mul_zero])
theorem Dk.ai{k B C:Nat}{l r:List Tm}(hl:Dk k B l)(hr:Dk k C r)(nl:NN l):Dk k (B+C) (ai l r):=by
 intro m hm;have hs:=l7 nl;rw[<-(hs.mY r) m]at hm;obtain⟨m1,h1,h2⟩:=OJ (OG (qZ l)) hm;have a1:=hl m1 (by rw[<-hs m1];exact h1);have a2:=hr _ h2;rw[sJ]at a2;omega
theorem qam(k:Nat):∀(n:Nat)(P:Nat->Nat->List Tm)(B:Nat->Nat),(∀i j,i<n->Dk k (B i) (P i j))->(∀i j,NN (P i j))->Dk k (sB B n) (lV n P)
 |0,_,_,_,_=>λm hm=>by
  have:Mo.zero=m:=Classical.byContradiction λh=>hm (by show(if Mo.zero=m then(1:Int)else 0)+0=0;rw[if_neg h];rfl);subst this;rw[ve];exact Int.natCast_nonneg _
 |n+1,P,B,h,hN=>by
  have key:∀c,Dk k (B 0+sB (λr=>B (r+1)) n) (BF (lV n) P c):=λc=>by
   induction c with
   |zero=>exactλm hm=>absurd rfl hm
   |succ c ih=>exact ih.append (((h 0 c (by omega)).ai (qam k n (Ct P c) (λr=>B (r+1)) (λi j hi=>h _ _ (by omega)) λi j=>hN _ _) (hN 0 c)).smul _)
  exact key (n+1)
section
variable{J:Nat}(h1:1<=J)(h4:J<=4){B A:Nat}{f g:List Tm}(hf:Sz B A f)(hg:Sz B A g)
include h1 h4 hf hg
theorem qzo{j m n:Nat}(hj:j<n)(hn:n<=m)(hm:m<=6)(hmB:m<=B):Sz ((m+n-2*j)*B) ((m+n-2*j)*A+1) (SJ J j m n f g):=by
 have h0:=qzn h1 h4 hf hg hj hn hm;refine⟨h0.n,?_,h0.a⟩
 have eN:n-j+(m-j)=m+n-2*j:=by omega
 have nn:=λr c=>Wd h1 h4 hf.n hg.n (j:=j) (m:=m) (n:=n) (m+n-j-1) c r
 have ZJ:B+m<=(m+n-2*j)*B:=by
  have:=Nat.mul_le_mul_right B (show 2<=m+n-2*j by omega);omega
 intro q hq k
 by_cases hk:k=J
 ·subst hk
  have hb:∀(F:List Tm)(N:Nat),Sz B A F->N<=m->∀r,∀p∈nW (m+n-j-1) j k F N,Dk k (if r<m+n-j-1-j then 0 else B+m) (p r):=λF N hF hN r p hp=>by
   obtain⟨i,hi,rfl⟩:=List.mem_map.1 hp;have hi:=GV.1 hi;show Dk k _ (if r<m+n-j-1-j then(if m+n-j-1-r<i then[]else ck k ((m+n-j-1-r-i:Nat):Int) F)else shift (xp k (i:Int)) F)
   by_cases hr:r<m+n-j-1-j
   ·rw[if_pos hr,if_pos hr]
    split
    ·exactλm hm=>absurd rfl hm
    ·exactλm hm=>by rw[(uY h1 h4 _ F) m hm];exact Int.le_refl _
   ·rw[if_neg hr,if_neg hr];exactλq hq=>(qho h1 h4 hF.d).mono (by omega) q hq k
  have hd:=qam k (n-j+(m-j)) (λr c=>(nW (m+n-j-1) j k f (n-j)++nW (m+n-j-1) j k g (m-j)).getD c (λ_=>[]) r) (λr=>if r<m+n-j-1-j then 0 else B+m) (λr c _=>
   OV (P:=λl=>Dk k (if r<m+n-j-1-j then 0 else B+m) l) r (λm hm=>absurd rfl hm) _ (λp hp=>(List.mem_append.1 hp).elim (hb f (n-j) hf (by omega) r p) (hb g (m-j) hg (by omega) r p)) c) nn
  have hs:=V5 (b:=0) (c:=B+m) (n-j+(m-j)) (λr=>if r<m+n-j-1-j then 0 else B+m) (λr hr=>by
   show(if r<m+n-j-1-j then 0 else B+m)<=0
   rw[if_pos (by omega)];exact Nat.le_refl _) (λr hr=>by
   show(if r<m+n-j-1-j then 0 else B+m)<=B+m
   split<;>omega) (by omega)
  exact(hd.mono (by omega)) q hq
 ·have hb:∀(F:List Tm)(N:Nat),Sz B A F->∀r,∀p∈nW (m+n-j-1) j J F N,Dk k B (p r):=λF N hF r p hp=>by
   obtain⟨i,hi,rfl⟩:=List.mem_map.1 hp;show Dk k _ (if r<m+n-j-1-j then(if m+n-j-1-r<i then[]else ck J ((m+n-j-1-r-i:Nat):Int) F)else shift (xp J (i:Int)) F)
   by_cases hr:r<m+n-j-1-j
   ·rw[if_pos hr]
    split
    ·exactλm hm=>absurd rfl hm
    ·exactλq hq=>(hF.ck h1 h4 _).2.2.1 q hq k
   ·rw[if_neg hr];intro q hq;rw[rG]at hq;have:=hF.d _ hq k;rw[sJ,dX J k _ h1 h4,if_neg hk]at this;omega
  have hd:=qam k (n-j+(m-j)) (λr c=>(nW (m+n-j-1) j J f (n-j)++nW (m+n-j-1) j J g (m-j)).getD c (λ_=>[]) r) (λ_=>B) (λr c _=>
   OV (P:=λl=>Dk k B l) r (λm hm=>absurd rfl hm) _ (λp hp=>(List.mem_append.1 hp).elim (hb f (n-j) hf r p) (hb g (m-j) hg r p)) c) nn
  have hs:=V5 (b:=B) (c:=B) (n-j+(m-j)) (λ_=>B) (λr hr=>Nat.le_refl _) (λr hr=>Nat.le_refl _) (Nat.le_refl _);rw[eN]at hs;rw[eN]at hd;have:=(hd.mono (show _<=(m+n-2*j)*B by omega)) q (by unfold SJ at hq;rw[eN]at hq;exact hq);exact this
end
theorem qzp{B A C D:Nat}{l r:List Tm}(h:Sz B A l)(k:Sz C D r):Sz (B+C) (A+D) (ai l r):=⟨bE h.n k.n,bn.ai h.d k.d h.n,by rw[Cu];exact Nat.le_trans (qJ _ _) (Nat.add_le_add h.a k.a)⟩
def bJ(m n β j:Nat):Nat:=(m+n-2*j)*β
def bU(m n β d:Nat):Nat:=if d=n then β else bJ m n β d
def bS(m n β d:Nat):Nat:=if d=n then(m-n)*β else bJ m n β d
def qol(m n β d e:Nat):Bool:=
 decide (bJ m n β (d-1)<=1000)&&decide (bU m n β d<=1000)&&decide (bJ m n β e<=1000)&&decide ((d-e-1)*bJ m n β (d-1)<=1000)&&decide (bJ m n β e+(d-e-1)*bS m n β d<=1000)&&decide (bJ m n β (e-1)+((d-e)*bS m n β d+bU m n β d)<=1000)&&
 decide (bU m n β d+(d-e+1)*bJ m n β (d-1)+bJ m n β (d-1)+10<=100000)&&decide ((bU m n β d+bJ m n β (d-1)+2)*(bU m n β d+(d-e+1)*bJ m n β (d-1)+bJ m n β (d-1)+1)^4<=1099511627776)
def yw(m n β:Nat):Bool:=((List.range (n+1)).all λd=>(List.range d).all λe=>qol m n β d e)&&decide (β<=1000)&&decide ((m-n)*β<=1000)&&decide (β+(m-n+1)*β+β+10<=100000)&&decide ((β+β+2)*(β+(m-n+1)*β+β+1)^4<=1099511627776)&&decide (m<=β)
structure StN(m n β d e:Nat):Prop where
 c1:bJ m n β (d-1)<=1000
 c2:bU m n β d<=1000
 c3:bJ m n β e<=1000
 c4:(d-e-1)*bJ m n β (d-1)<=1000
 c5:bJ m n β e+(d-e-1)*bS m n β d<=1000
 c6:bJ m n β (e-1)+((d-e)*bS m n β d+bU m n β d)<=1000
 c7:bU m n β d+(d-e+1)*bJ m n β (d-1)+bJ m n β (d-1)+10<=100000
 c8:(bU m n β d+bJ m n β (d-1)+2)*(bU m n β d+(d-e+1)*bJ m n β (d-1)+bJ m n β (d-1)+1)^4<=1099511627776
theorem qcY{m n β:Nat}(h:yw m n β=true){d e:Nat}(hd:d<=n)(he:e<d):StN m n β d e:=by
 unfold yw at h;simp only[Bool.and_eq_true,List.all_eq_true,List.mem_range,decide_eq_true_eq]at h;have:=h.1.1.1.1.1 d (by omega) e he;unfold qol at this;simp only[Bool.and_eq_true,decide_eq_true_eq]at this;obtain⟨⟨⟨⟨⟨⟨⟨c1,c2⟩,c3⟩,c4⟩,c5⟩,c6⟩,c7⟩,c8⟩:=this;exact⟨c1,c2,c3,c4,c5,c6,c7,c8⟩
theorem qxo{m n β:Nat}(h:yw m n β=true):β<=1000/\(m-n)*β<=1000/\β+(m-n+1)*β+β+10<=100000/\(β+β+2)*(β+(m-n+1)*β+β+1)^4<=1099511627776:=by
 unfold yw at h;simp only[Bool.and_eq_true,decide_eq_true_eq]at h;exact⟨h.1.1.1.1.2,h.1.1.1.2,h.1.1.2,h.1.2⟩
theorem qxm{m n β:Nat}(h:yw m n β=true):m<=β:=by
 unfold yw at h;simp only[Bool.and_eq_true,decide_eq_true_eq]at h;exact h.2
section
variable{J m n β:Nat}(h1:1<=J)(h4:J<=4){f g:List Tm}(hf:Sz β 1000 f)(hg:Sz β 1000 g)(gY:n<=m)(hm:m<=6)
include h1 h4 hf hg gY hm
variable(gJ:yw m n β=true)
include gJ
theorem Rh{j:Nat}(hj:j<n):Sz (bJ m n β j) 12001 (SJ J j m n f g):=(qzo h1 h4 hf hg hj gY hm (qxm gJ)).mono (Nat.le_refl _) (by
 have:=Nat.mul_le_mul_right 1000 (show m+n-2*j<=12 by omega)
 omega)
theorem qhD:∀(fuel d:Nat)(a s:List Tm)(L:Nat->List Tm),d<=n->d<=fuel->sI J m n f g d a s->Sz (bU m n β d) 12001 a->Sz (bS m n β d) 12001 s->(∀i,i<n->ae (L i) (if d<=i then SJ J i m n f g else[]))->Nk J n (λj=>SJ J j m n f g) fuel a (SJ J (d-1) m n f g) s L
 |0,d,a,s,L,_,hd,S,_,_,_=>absurd S.pos (by omega)
 |fuel+1,d,a,s,L,lZ,hd,S,sa,ss,hL=>by
  have hpos:=S.pos;have nB:=gZ h1 h4 hf.n hg.n (d-1) m n;have sb:=Rh h1 h4 hf hg gY hm gJ (j:=d-1) (by omega);refine⟨(d:Int),qaj h1 h4 S.na (.inr ⟨S.za,d,S.da,rfl⟩),by omega,by omega,?_⟩
  by_cases hz:ae (SJ J (d-1) m n f g) []
  ·refine .inl ⟨qaj h1 h4 nB (.inl ⟨hz,rfl⟩),λi hi=>(hL i hi).trans ?_⟩
   by_cases hdi:d<=i
   ·rw[if_pos hdi];exact ae.refl _
   ·rw[if_neg hdi];exact(S.fin h1 h4 hf.n hg.n hz i (by omega)).symm
  ·obtain⟨e,hb⟩:=Ld (k:=J) nB;have jA:=S.lt h1 h4 hf.n hg.n hb hz;have K:=qcY gJ lZ jA;have se:=Rh h1 h4 hf hg gY hm gJ (j:=e) (by omega);have slb:=(sb.ck h1 h4 (e:Int)).sz
   have hc:∃c L',c=SJ J e m n f g/\WQ J (SJ J (d-1) m n f g) s (d-e) e (CW L (d-1) (SJ J (d-1) m n f g)) L' c/\∀i,i<n->ae (L' i) (if e<=i then SJ J i m n f g else[]):=by
    by_cases h1g:d-e=1
    ·refine⟨SJ J (d-1) m n f g,_,by rw[show d-1=e by omega],.inl ⟨h1g,rfl,rfl⟩,λi hi=>?_⟩;unfold CW
     by_cases hid:i=d-1
     ·rw[if_pos hid,if_pos (by omega),hid];exact ae.refl _
     ·rw[if_neg hid];refine(hL i hi).trans ?_
      by_cases h5:d<=i
      ·rw[if_pos h5,if_pos (by omega)];exact ae.refl _
      ·rw[if_neg h5,if_neg (by omega)];exact ae.refl _
    ·have sp:=Wl (k:=d-e-1) slb;have sq:=Wl (k:=d-e-1) ss
     have hk:d-e-1<=6:=by omega
     have kz:(d-e-1)*12001<=6*12001:=Nat.mul_le_mul_right _ hk;have fD:=K.c5;refine⟨SJ J e m n f g,_,rfl,.inr ⟨by omega,rfl,ck J (e:Int) (SJ J (d-1) m n f g),bA (ck J (e:Int) (SJ J (d-1) m n f g)) (d-e-1),_,bA s (d-e-1),Vw h1 h4 sb hz hb K.c1 (by omega),VX slb (by omega) K.c4 (by omega),qmn sp sb K.c4 K.c1 (by omega) (by omega),VX ss (by omega) (by omega) (by omega),qnH se sq (mV S.ns S.zs _) ((ae.sW _ _).trans (S.sub h1 h4 hf.n hg.n hb hz)) K.c5 (by omega) (by omega)⟩,λi hi=>?_⟩;unfold CW
     by_cases LZ:i=e
     ·rw[if_pos LZ,if_pos (by omega),LZ];exact ae.refl _
     ·rw[if_neg LZ]
      by_cases hid:i=d-1
      ·rw[if_pos hid,if_pos (by omega),hid];exact ae.refl _
      ·rw[if_neg hid];refine(hL i hi).trans ?_
       by_cases h5:d<=i
       ·rw[if_pos h5,if_pos (by omega)];exact ae.refl _
       ·rw[if_neg h5]
        by_cases h6:e<=i
        ·rw[if_pos h6];exact(S.gap h1 h4 hf.n hg.n hb i (by omega) (by omega)).symm
        ·rw[if_neg h6];exact ae.refl _
   obtain⟨c,L',rfl,hC,D8⟩:=hc;refine .inr ⟨d,e,_,L',rfl,qaj h1 h4 nB (.inr ⟨hz,e,hb,rfl⟩),jA,lZ,hC,?_⟩
   by_cases kM:e=0
   ·exact .inl ⟨kM,λi hi=>by
     have:=D8 i hi
     rw[if_pos (by omega)]at this;exact this⟩
   ·have af:1<=e:=by omega
    have S':=S.next h1 h4 hf.n hg.n hb hz af;have nl:NN (ck J (d:Int) a):=eQ h1 h4 S.na;have sla:=(sa.ck h1 h4 (d:Int)).sz;have sp:=Wl (k:=d-e) ss
    have hk:d-e<=6:=by omega
    have kz:(d-e)*12001<=6*12001:=Nat.mul_le_mul_right _ hk;have hc6:=K.c6;have sd:=qzp sp sla;have s1:=Rh h1 h4 hf hg gY hm gJ (j:=e-1) (by omega);refine .inr ⟨af,_,_,_,_,SJ J (e-1) m n f g,_,VX ss (by omega) (by omega) (by omega),Vw h1 h4 sa S.za S.da K.c2 (by omega),qmn sp sla (by omega) K.c2 (by omega) (by omega),qnO (V:=d-e+1) h1 h4 sa sb S.za hz hb (by rw[show e+(d-e+1)-1=d by omega];exact S.da) (by omega) K.c1 (by omega) ⟨⟨by omega,K.c7⟩,K.c8,?_⟩,qnH s1 sd (lT (bC S.ns _) nl (mV S.ns S.zs _) (uE h1 h4 S.na S.da S.za)) ((ae.sW _ _).trans (S.rem h1 h4 hf.n hg.n hb hz af).symm) (by omega) (by omega) (by omega),Vw h1 h4 se S'.za S'.da K.c3 (by omega),qhD fuel e _ _ L' (by omega) (by omega) S' ?_ ?_ D8⟩
    ·have:=Nat.mul_le_mul_right (12001+1) (show d-e+1<=7 by omega);omega
    ·unfold bU;rw[if_neg (by omega)];exact se
    ·unfold bS;rw[if_neg (by omega)];exact(se.ck h1 h4 _).sz
theorem qoj(hn:1<=n)(df:bD J f m)(dg:bD J g n)(M:Nat->Prop)(x y:PE)(w:World)(hM:Mb M w)(hx:aI M w 4 x f)(hy:aI M w 4 y g):
 Calls Tryz.prog 164 #[.agg (ah x),.agg (ah y),.int .i64 (J:Int),.int .i64 (m:Int),.int .i64 (n:Int)] w (IC M w n λj=>SJ J j m n f g):=by
 obtain⟨δ,rfl⟩:∃δ,m=n+δ:=⟨m-n,by omega⟩;have zf:=df.nz h1 h4 (by omega);have zg:=dg.nz h1 h4 hn;obtain⟨hs,S⟩:=qdu h1 h4 hf.n hg.n hn zf zg df dg;obtain⟨k1,k2,k3,k4⟩:=qxo gJ
 have hd:n+δ-n=δ:=by omega
 have sl:=(hg.ck h1 h4 (n:Int)).sz;rw[hd]at k2 k3 k4;have kz:δ*1000<=6*1000:=Nat.mul_le_mul_right _ (by omega);refine qy9 M x y J (n+δ) n n f g (ck J (n:Int) g) (bA (ck J (n:Int) g) δ) (SJ J (n-1) (n+δ) n f g) _ w hM hn (by omega) (by omega) hx hy (Vw h1 h4 hg zg dg k1 (by omega)) ?_ ?_ ?_
 ·rw[hd];exact VX sl (by omega) k2 (by omega)
 ·refine(qnO (V:=δ+1) h1 h4 hf hg zf zg dg (by rw[show n+(δ+1)-1=n+δ by omega];exact df) (by omega) k1 (by omega) ⟨⟨by omega,k3⟩,k4,?_⟩).bZ (ae.refl _) (ae.refl _) hs.symm;have:=Nat.mul_le_mul_right (1000+1) (show δ+1<=7 by omega);omega
 ·refine qhD h1 h4 hf hg gY hm gJ n n g _ _ (Nat.le_refl _) (Nat.le_refl _) S ?_ ?_ λi hi=>?_
  ·unfold bU;rw[if_pos rfl];exact hg.mono (Nat.le_refl _) (by omega)
  ·unfold bS;rw[if_pos rfl,hd];exact(Wl sl).mono (Nat.le_refl _) (by omega)
  ·rw[if_neg (by omega)];exact ae.refl _
end
structure Gn(J m n β:Nat)(f g:List Tm):Prop where
 h1:1<=J
 h4:J<=4
 sf:Sz β 1000 f
 sg:Sz β 1000 g
 zf:¬ae f []
 zg:¬ae g []
 df:bD J f m
 dg:bD J g n
 m6:m<=6
 n6:n<=6
 oa:n<=m->yw m n β=true
 ob:m<=n->yw n m β=true
theorem Gn.swap{J m n β:Nat}{f g:List Tm}(h:Gn J m n β f g):Gn J n m β g f:=⟨h.h1,h.h4,h.sg,h.sf,h.zg,h.zf,h.dg,h.df,h.n6,h.m6,h.ob,h.oa⟩
theorem Re{J:Nat}(h1:1<=J)(h4:J<=4){f g:List Tm}(nf:NN f)(ng:NN g)(j m n:Nat):(((m-j)*(n-j))%2=0->ae (SJ J j n m g f) (SJ J j m n f g))/\(((m-j)*(n-j))%2=1->ae (SJ J j n m g f) (di (SJ J j m n f g))):=by
 have key:∀x,ev x (SJ J j n m g f)=jU ((m-j)*(n-j))*ev x (SJ J j m n f g):=λx=>by
  rw[FP h1 h4 x ng nf,FP h1 h4 x nf ng,qrP]
 refine⟨λh=>vM (gZ h1 h4 ng nf _ _ _) (gZ h1 h4 nf ng _ _ _) λx=>?_,λh=>vM (gZ h1 h4 ng nf _ _ _) (qB (gZ h1 h4 nf ng _ _ _)) λx=>?_⟩
 ·rw[key,qn4 h,Int.one_mul]
 ·rw[key,FQ x (gZ h1 h4 nf ng _ _ _),show jU ((m-j)*(n-j))= -1 from if_neg (by omega)];omega
section
variable{J m n β:Nat}{f g:List Tm}(H:Gn J m n β f g)
include H
theorem Gn.bound{j:Nat}(hm:j<m)(hn:j<n):Sz 1000 12001 (SJ J j m n f g):=by
 rcases Nat.le_total n m with h|h
 ·have:=(qcY (H.oa h) (d:=j+1) (e:=j) (by omega) (by omega)).c3;exact(Rh H.h1 H.h4 H.sf H.sg h H.m6 (H.oa h) hn).mono this (Nat.le_refl _)
 ·have hb:=(qcY (H.ob h) (d:=j+1) (e:=j) (by omega) (by omega)).c3;have hs:=(Rh H.h1 H.h4 H.sg H.sf h H.n6 (H.ob h) hm).mono hb (Nat.le_refl _);refine⟨gZ H.h1 H.h4 H.sf.n H.sg.n _ _ _,?_,?_⟩
  ·rcases Nat.mod_two_eq_zero_or_one ((n-j)*(m-j))with h|h
   ·exact hs.d.bZ ((Re H.h1 H.h4 H.sg.n H.sf.n j n m).1 h).symm
   ·exact(QV hs.d).bZ ((Re H.h1 H.h4 H.sg.n H.sf.n j n m).2 h).symm
  ·have h6:=H.n6;have h7:=H.m6;refine Nat.le_trans (qhx (A:=1000) H.sf.a H.sg.a (by omega)) ?_;have:=Nat.mul_le_mul_right 1000 (show n-j+(m-j)<=12 by omega);omega
theorem Gn.check(M:Nat->Prop)(x y:PE)(w:World)(hM:Mb M w)(hx:aI M w 4 x f)(hy:aI M w 4 y g):Calls Tryz.prog 163 #[.agg (ah x),.agg (ah y),.int .i64 (J:Int)] w λe w'=>e=.returned (.int .i64 0)/\Ext w w':=by
 refine(qy8 M f g x y (J:Int) w hM hx.pi hy.pi).mono ?_;rintro e w' ⟨er,rfl,hc,he⟩;have h1:=H.h1;have h4:=H.h4;rcases hc with⟨h,_⟩|⟨_,h,_⟩|⟨_,_,_,rfl⟩
 ·exact absurd ⟨by omega,by omega⟩ h
 ·exact absurd h λhh=>hh.elim H.zf H.zg
 ·exact⟨rfl,he⟩
theorem Gn.Ud(M:Nat->Prop)(x:PE)(w:World)(hM:Mb M w)(hx:aI M w 4 x f):Calls Tryz.prog 43 #[.agg (ah x),.int .i64 (J:Int)] w λe w'=>e=.returned (.int .i64 (m:Int))/\Ext w w':=qmo M x f J (m:Int) w H.h1 H.h4 H.sf.n (.inr ⟨H.zf,m,H.df,rfl⟩) hM hx.pi
theorem Gn.chain(M:Nat->Prop)(x y:PE)(w:World)(hM:Mb M w)(hx:aI M w 4 x f)(hy:aI M w 4 y g):Calls Tryz.prog 133 #[.agg (ah x),.agg (ah y),.int .i64 (J:Int)] w (Bo M w (min m n) (λj=>SJ J j m n f g) 0):=by
 have yh:=H.m6;have Md:=H.n6;have Ei:∀wk,Ext w wk->Calls Tryz.prog 43 #[.agg (ah x),.int .i64 (J:Int)] wk λe w'=>e=.returned (.int .i64 (m:Int))/\Ext wk w':=λwk he=>H.Ud M x wk (hM.ext he) (hx.ext he);have LV:∀wk,Ext w wk->Calls Tryz.prog 43 #[.agg (ah y),.int .i64 (J:Int)] wk λe w'=>e=.returned (.int .i64 (n:Int))/\Ext wk w':=λwk he=>H.swap.Ud M y wk (hM.ext he) (hy.ext he);have zN:∀wk,Ext w wk->Calls Tryz.prog 163 #[.agg (ah x),.agg (ah y),.int .i64 (J:Int)] wk λe w'=>e=.returned (.int .i64 0)/\Ext wk w':=λwk he=>H.check M x y wk (hM.ext he) (hx.ext he) (hy.ext he)
 by_cases h0:m=0\/n=0
 ·rw[show min m n=0 by omega];exact qy5 M x y J m n _ w h0 zN Ei LV
 ·by_cases gY:n<=m
  ·refine(qoi M x y J m n (min m n) (λj=>SJ J j m n f g) (λj=>SJ J j m n f g) w hM (by omega) (by omega) (by omega) (by omega) rfl ⟨zN,Ei,LV,λ_ wk he=>?_,λvH wk he=>by omega⟩ λj hj=>.inr ⟨λh=>by omega,ae.refl _⟩).mono λe w' h=>h.li;rw[show min m n=n by omega];exact qoj H.h1 H.h4 H.sf H.sg gY yh (H.oa gY) (by omega) H.df H.dg M x y wk (hM.ext he) (hx.ext he) (hy.ext he)
  ·refine(qoi M x y J m n (min m n) (λj=>SJ J j n m g f) (λj=>SJ J j m n f g) w hM (by omega) (by omega) (by omega) (by omega) rfl ⟨zN,Ei,LV,λh wk he=>by omega,λvH wk he=>?_⟩ λj hj=>?_).mono λe w' h=>h.li
   ·rw[show min m n=m by omega];exact qoj H.h1 H.h4 H.sg H.sf (by omega) Md (H.ob (by omega)) (by omega) H.dg H.df M y x wk (hM.ext he) (hy.ext he) (hx.ext he)
   ·have hx:=Re H.h1 H.h4 H.sg.n H.sf.n j n m;rw[Nat.mul_comm]at hx;rcases Nat.mod_two_eq_zero_or_one ((m-j)*(n-j))with h|h
    ·exact .inr ⟨λh2=>by omega,(hx.1 h).symm⟩
    ·refine .inl ⟨by omega,h,λMk W z LB hz=>?_⟩;have hb:=H.swap.bound (j:=j) (by omega) (by omega);have hl:az (aC (SJ J j n m g f))<=12001:=hb.a;exact(qnP Mk z _ 1000 W LB hz.pi (Nat.le_trans (Nat.succ_le_succ hl) (by decide)) hb.d (by decide)).mono λe w' h3=>h3.bZ (hx.2 h).symm
theorem Gn.psc(M:Nat->Prop)(x y:PE)(w:World)(hM:Mb M w)(hx:aI M w 4 x f)(hy:aI M w 4 y g):Calls Tryz.prog 85 #[.agg (ah x),.agg (ah y),.int .i64 (J:Int)] w (Bo M w (min m n) (λj=>ck J (j:Int) (SJ J j m n f g)) 0):=
 qy7 M x y (J:Int) 0 (min m n) (λj=>SJ J j m n f g) (λj=>ck J (j:Int) (SJ J j m n f g)) w hM (by have:=H.m6;omega) (λwk he=>H.chain M x y wk (hM.ext he) (hx.ext he) (hy.ext he)) λj hj Mk wk z LB hz=>by
  have hb:=H.bound (j:=j) (by omega) (by omega);have hl:az (aC (SJ J j m n f g))<=12001:=hb.a;exact qwF Mk z _ J j 1000 wk H.h1 H.h4 hb.n LB hz.pi hb.d (by decide) (by decide) (Nat.le_trans hl (by decide))
end
theorem qye:Gn 1 2 1 2 qF qG:=⟨by decide,by decide,⟨qdg,qx6.mono (by omega),Nat.le_trans qx8 (by decide)⟩,⟨qdh,qya.mono (by omega),Nat.le_trans qyc (by decide)⟩,qx9,qyd,qx7,qyb,by decide,by decide,λ_=>by decide+kernel,λh=>absurd h (by decide)⟩
theorem qyf:ae (ck 1 ((0:Nat):Int) (SJ 1 0 2 1 qF qG)) qY:=qyW (eQ (by decide) (by decide) (gZ (by decide) (by decide) qdg qdh _ _ _)) (Aq (by decide)) (by decide+kernel)
theorem qyg:qgs:=λM w x y hM hx hy=>(qye.psc M x y w hM hx hy).mono λe w' h=>by
 obtain⟨v,rfl,hv,he⟩:=h;rcases hv with⟨h0,_⟩|⟨gl,rfl,h1,h2⟩
 ·exact absurd h0 (by decide)
 ·exact⟨gl,rfl,h1,h2.congr λi hi=>by
   obtain rfl:i=0:=by
    have:min 2 1=1:=rfl;omega
   exact qyf,he⟩
theorem qwi(w:World):Calls Tryz.prog 30 #[] w λe w'=>e=.returned (.bool true)/\Ext w w':=qwh qyg w
def Zt(ga gb o gd:Nat)(za zb:PE)(dm dn:Int)(w:World):Prop:=(eX w ga o za/\ga<w.heap.size)/\(eX w gb o zb/\gb<w.heap.size)/\(w.cell? ⟨gd,0,none⟩=some (.int .i64 dm)/\w.cell? ⟨gd,1,none⟩=some (.int .i64 dn))/\gd<w.heap.size
theorem Zt.ext{ga gb o gd:Nat}{za zb:PE}{dm dn:Int}{w w':World}(h:Zt ga gb o gd za zb dm dn w)(he:Ext w w'):Zt ga gb o gd za zb dm dn w':=⟨⟨h.1.1.ext h.1.2 he,Nat.lt_of_lt_of_le h.1.2 he.size⟩,⟨h.2.1.1.ext h.2.1.2 he,Nat.lt_of_lt_of_le h.2.1.2 he.size⟩,⟨by rw[he.cell h.2.2.2];exact h.2.2.1.1,by rw[he.cell h.2.2.2];exact h.2.2.1.2⟩,Nat.lt_of_lt_of_le h.2.2.2 he.size⟩
end Go.Proofs.YtmcfpnmoklnhoaaGreat
