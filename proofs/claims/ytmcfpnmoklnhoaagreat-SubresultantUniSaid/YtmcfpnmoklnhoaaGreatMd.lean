/- Md -/
import Derived.Test.YtmcfpnmoklnhoaaGreatMb
import Derived.Test.YtmcfpnmoklnhoaaGreatMo
import Derived.Test.YtmcfpnmoklnhoaaGreatMc
set_option linter.unusedVariables false
set_option maxRecDepth 100000
set_option maxHeartbeats 400000000
set_option linter.unusedSimpArgs false
namespace Go.Proofs.YtmcfpnmoklnhoaaGreat
def ae(l r:List Tm):Prop:=∀m,aB l m=aB r m
theorem ae.refl(l:List Tm):ae l l:=λ_=>rfl
theorem ae.symm{l r:List Tm}(h:ae l r):ae r l:=λm=>(h m).symm
theorem ae.trans{a b c:List Tm}(h:ae a b)(k:ae b c):ae a c:=λm=>(h m).trans (k m)
theorem ae.append{a b c d:List Tm}(h:ae a b)(k:ae c d):ae (a++c) (b++d):=λm=>by rw[gW,gW,h m,k m]
theorem ae.norm{l r:List Tm}(h:ae l r):norm l=norm r:=qw4 λm _=>h m
def Mo.zero:Mo:=⟨0,0,0,0⟩
def Mo.add(x y:Mo):Mo:=⟨x.a+y.a,x.b+y.b,x.c+y.c,x.d+y.d⟩
def Mo.sub(x y:Mo):Mo:=⟨x.a-y.a,x.b-y.b,x.c-y.c,x.d-y.d⟩
theorem Mo.add_eq(x y z:Mo):Mo.add x y=z↔x=Mo.sub z y:=by
 constructor
 ·rintro rfl;cases x;cases y;simp[Mo.add,Mo.sub]
 ·rintro rfl;cases y;cases z;simp[Mo.add,Mo.sub]
theorem Mo.TF(x y:Mo):Mo.add x y=Mo.add y x:=by cases x;cases y;simp[Mo.add];omega
theorem Mo.qqP(x y z:Mo):Mo.add (Mo.add x y) z=Mo.add x (Mo.add y z):=by cases x;cases y;cases z;simp[Mo.add];omega
theorem Mo.add_zero'(x:Mo):Mo.add x Mo.zero=x:=by cases x;simp[Mo.add,Mo.zero]
theorem Mo.qdL(x:Mo):Mo.add Mo.zero x=x:=by cases x;simp[Mo.add,Mo.zero]
theorem Mo.qzj(x y z:Mo):Mo.sub (Mo.sub x y) z=Mo.sub x (Mo.add y z):=by cases x;cases y;cases z;simp[Mo.add,Mo.sub];omega
def shift(k:Mo)(l:List Tm):List Tm:=l.map λt=>(t.1,Mo.add t.2 k)
theorem rG(k:Mo)(l:List Tm)(m:Mo):aB (shift k l) m=aB l (Mo.sub m k):=by
 induction l with
 |nil=>rfl
 |cons t l ih=>
  show(if Mo.add t.2 k=m then t.1 else 0)+aB (shift k l) m=_;rw[ih];simp only[aB];have:(Mo.add t.2 k=m)↔(t.2=Mo.sub m k):=Mo.add_eq _ _ _
  by_cases h:t.2=Mo.sub m k
  ·rw[if_pos (this.2 h),if_pos h]
  ·rw[if_neg (λe=>h (this.1 e)),if_neg h]
theorem V8(k:Mo)(l r:List Tm):shift k (l++r)=shift k l++shift k r:=by simp[shift]
theorem qdr(j k:Mo)(l:List Tm):shift j (shift k l)=shift (Mo.add k j) l:=by
 simp[shift,List.map_map,Function.comp_def,Mo.qqP]
theorem Rc(l:List Tm):shift Mo.zero l=l:=by simp[shift,Mo.add_zero']
theorem ae.shift{l r:List Tm}(h:ae l r)(k:Mo):ae (shift k l) (shift k r):=λm=>by rw[rG,rG];exact h _
theorem yu(k:Mo)(l:List Tm):aC (shift k l)=aC l:=by
 induction l with
 |nil=>rfl
 |cons t l ih=>show t.1.natAbs+aC (Go.Proofs.YtmcfpnmoklnhoaaGreat.shift k l)=_;rw[ih];rfl
def smul(c:Int)(l:List Tm):List Tm:=l.map λt=>(c*t.1,t.2)
theorem iD(c:Int)(l:List Tm)(m:Mo):aB (smul c l) m=c*aB l m:=by
 induction l with
 |nil=>simp[smul,aB]
 |cons t l ih=>
  show(if t.2=m then c*t.1 else 0)+aB (smul c l) m=_;rw[ih];simp only[aB]
  split<;>simp[Int.mul_add]
theorem qmU(c:Int)(l:List Tm):aC (smul c l)=c.natAbs*aC l:=by
 induction l with
 |nil=>simp[smul,aC]
 |cons t l ih=>show(c*t.1).natAbs+aC (smul c l)=_;rw[ih];simp[aC,Int.natAbs_mul,Nat.mul_add]
theorem ae.smul{l r:List Tm}(h:ae l r)(c:Int):ae (smul c l) (smul c r):=λm=>by rw[iD,iD,h m]
def ai:List Tm->List Tm->List Tm
 |[],_=>[]
 |s::l,r=>shift s.2 (smul s.1 r)++ai l r
theorem JN(l:List Tm):ai l []=[]:=by
 induction l with
 |nil=>rfl
 |cons s l ih=>simp[ai,ih,smul,shift]
theorem um(s:Tm)(l r:List Tm)(m:Mo):aB (ai (s::l) r) m=s.1*aB r (Mo.sub m s.2)+aB (ai l r) m:=by
 rw[ai,gW,rG,iD]
theorem ae.rf{r r':List Tm}(h:ae r r')(l:List Tm):ae (ai l r) (ai l r'):=by
 induction l with
 |nil=>exact ae.refl _
 |cons s l ih=>intro m;rw[um,um,h,ih m]
theorem Cw(a b r:List Tm):ai (a++b) r=ai a r++ai b r:=by
 induction a with
 |nil=>rfl
 |cons s a ih=>simp[ai,ih]
theorem ae.qng(l a b:List Tm):ae (ai l (a++b)) (ai l a++ai l b):=by
 induction l with
 |nil=>exact ae.refl _
 |cons s l ih=>
  intro m;rw[gW,um,um,um,gW,ih m,gW,Int.mul_add];omega
theorem VO(l:List Tm)(t:Tm):ae (ai l [t]) (shift t.2 (smul t.1 l)):=by
 induction l with
 |nil=>exact ae.refl _
 |cons s l ih=>
  intro m;rw[um,ih m,rG,rG,iD,iD];simp only[aB];rw[Int.mul_add,Int.mul_add]
  have e:(t.2=Mo.sub m s.2)↔(s.2=Mo.sub m t.2):=by
   rw[<-Mo.add_eq, <-Mo.add_eq,Mo.TF]
  by_cases h:t.2=Mo.sub m s.2
  ·rw[if_pos h,if_pos (e.1 h),Int.mul_comm t.1 s.1];simp
  ·rw[if_neg h,if_neg (λk=>h (e.2 k))];simp
theorem ae.sW(l r:List Tm):ae (ai l r) (ai r l):=by
 induction r with
 |nil=>rw[JN];exact ae.refl _
 |cons t r ih=>
  have h1:ae (ai l (t::r)) (ai l [t]++ai l r):=ae.qng l [t] r;refine h1.trans ?_;rw[ai];exact(VO l t).append ih
theorem ae.mY{l l':List Tm}(h:ae l l')(r:List Tm):ae (ai l r) (ai l' r):=
 (ae.sW l r).trans ((h.rf r).trans (ae.sW r l'))
theorem ae.ai{l l' r r':List Tm}(h:ae l l')(k:ae r r'):ae (ai l r) (ai l' r'):=(h.mY r).trans (k.rf l')
theorem G7(k:Mo)(l r:List Tm):ae (ai (shift k l) r) (shift k (ai l r)):=by
 induction l with
 |nil=>exact ae.refl _
 |cons s l ih=>
  intro m;show aB (ai ((s.1,Mo.add s.2 k)::shift k l) r) m=_;rw[um,ih m,rG,rG,um,Mo.qzj,Mo.TF s.2 k]
theorem Cu(l r:List Tm):aC (ai l r)=aC l*aC r:=by
 induction l with
 |nil=>simp[ai,aC]
 |cons s l ih=>rw[ai,kT,yu,qmU,ih];simp[aC,Nat.add_mul]
theorem ae.MO(a b c:List Tm):ae (Go.Proofs.YtmcfpnmoklnhoaaGreat.ai (Go.Proofs.YtmcfpnmoklnhoaaGreat.ai a b) c) (Go.Proofs.YtmcfpnmoklnhoaaGreat.ai a (Go.Proofs.YtmcfpnmoklnhoaaGreat.ai b c)):=by
 induction a with
 |nil=>exact ae.refl _
 |cons s a ih=>
  rw[Go.Proofs.YtmcfpnmoklnhoaaGreat.ai,Cw,Go.Proofs.YtmcfpnmoklnhoaaGreat.ai];refine ae.append ?_ ih;refine(G7 _ _ _).trans (ae.shift ?_ _);intro m;clear ih
  induction b with
  |nil=>simp[Go.Proofs.YtmcfpnmoklnhoaaGreat.ai,Go.Proofs.YtmcfpnmoklnhoaaGreat.smul]
  |cons t b ih=>
   show aB (Go.Proofs.YtmcfpnmoklnhoaaGreat.ai ((s.1*t.1,t.2)::Go.Proofs.YtmcfpnmoklnhoaaGreat.smul s.1 b) c) m=_;rw[um,ih,iD,iD,um,Int.mul_add,Int.mul_assoc]
def Mo.get(m:Mo)(k:Nat):Int:=if k=1 then m.a else if k=2 then m.b else if k=3 then m.c else if k=4 then m.d else 0
def xp(k:Nat)(i:Int):Mo:=⟨if k=1 then i else 0,if k=2 then i else 0,if k=3 then i else 0,if k=4 then i else 0⟩
theorem ME{k:Nat}(h1:1<=k)(h4:k<=4):k=1\/k=2\/k=3\/k=4:=by omega
theorem dX(k j:Nat)(i:Int)(h1:1<=k)(h4:k<=4):(xp k i).get j=if j=k then i else 0:=by
 rcases ME h1 h4 with rfl|rfl|rfl|rfl<;>simp only[Mo.get,xp]<;>(repeat' split)<;>simp_all
theorem gL(x y:Mo)(k:Nat):(Mo.add x y).get k=x.get k+y.get k:=by
 simp only[Mo.get,Mo.add];(repeat' split)<;>simp
theorem sJ(x y:Mo)(k:Nat):(Mo.sub x y).get k=x.get k-y.get k:=by
 simp only[Mo.get,Mo.sub];(repeat' split)<;>simp
theorem ve(k:Nat):Mo.zero.get k=0:=by simp[Mo.get,Mo.zero]
theorem Mo.ext_get{x y:Mo}(h:∀k,1<=k->k<=4->x.get k=y.get k):x=y:=by
 have h1:=h 1 (by omega) (by omega);have h2:=h 2 (by omega) (by omega);have h3:=h 3 (by omega) (by omega);have h4:=h 4 (by omega) (by omega);simp[Mo.get]at h1 h2 h3 h4;exact Mo.ext' h1 h2 h3 h4
def dN(L:Nat)(l:List Tm):Prop:=∀t∈l,∀k,L<k->k<=4->t.2.get k=0
theorem dN.append{L:Nat}{l r:List Tm}(h:dN L l)(k:dN L r):dN L (l++r):=λt ht=>(List.mem_append.1 ht).elim (h t) (k t)
theorem dN.mono{L L':Nat}{l:List Tm}(h:dN L l)(hL:L<=L'):dN L' l:=λt ht k h1 h2=>h t ht k (by omega) h2
theorem dN.uX{L:Nat}{l:List Tm}(h:dN L l){m:Mo}{k:Nat}(h1:L<k)(h2:k<=4)(hm:m.get k≠0):aB l m=0:=
 qh λt ht e=>hm (by rw[<-e];exact h t ht k h1 h2)
def aJ(L:Nat)(n:Nat)(P:Nat->List Tm):List Tm:=(List.range n).flatMap λ(i:Nat)=>shift (xp L (i:Int)) (P i)
theorem EO(L:Nat)(P:Nat->List Tm):aJ L 0 P=[]:=rfl
theorem fK(L n:Nat)(P:Nat->List Tm):aJ L (n+1) P=aJ L n P++shift (xp L (n:Int)) (P n):=by
 unfold aJ;rw[List.range_succ,List.flatMap_append];simp
theorem sZ(L n:Nat)(P Q:Nat->List Tm)(h:∀i,i<n->ae (P i) (Q i)):ae (aJ L n P) (aJ L n Q):=by
 induction n with
 |zero=>exact ae.refl _
 |succ n ih=>rw[fK,fK];exact(ih λi hi=>h i (by omega)).append ((h n (by omega)).shift _)
theorem qdb(L n:Nat)(P:Nat->List Tm)(h1:1<=L)(h4:L<=4)(h:∀i,i<n->dN (L-1) (P i)):dN L (aJ L n P):=by
 intro t ht k hk ll;obtain⟨i,hi,ht⟩:=List.mem_flatMap.1 ht;obtain⟨s,hs,rfl⟩:=List.mem_map.1 ht;rw[gL,dX L k _ h1 h4,if_neg (by omega),h i (by simpa using hi) s hs k (by omega) ll];rfl
theorem DV(L n:Nat)(P:Nat->List Tm)(h1:1<=L)(h4:L<=4)(h:∀i,i<n->dN (L-1) (P i))(m:Mo)(e:Nat)(he:m.get L=e):
 aB (aJ L n P) m=if e<n then aB (P e) (Mo.sub m (xp L e))else 0:=by
 induction n with
 |zero=>simp[EO,aB]
 |succ n ih=>
  rw[fK,gW,ih λi hi=>h i (by omega),rG]
  by_cases wL:e=n
  ·subst wL;rw[if_neg (by omega),if_pos (by omega)];omega
  ·have:aB (P n) (Mo.sub m (xp L (n:Int)))=0:=by
    refine(h n (by omega)).uX (k:=L) (by omega) h4 ?_;rw[sJ,dX L L _ h1 h4,if_pos rfl,he];omega
   rw[this]
   by_cases h2:e<n
   ·rw[if_pos h2,if_pos (by omega)];omega
   ·rw[if_neg h2,if_neg (by omega)];rfl
theorem Z6(L n:Nat)(P:Nat->List Tm)(h1:1<=L)(h4:L<=4)(h:∀i,i<n->dN (L-1) (P i))(m:Mo)(he:m.get L<0):aB (aJ L n P) m=0:=by
 induction n with
 |zero=>simp[EO,aB]
 |succ n ih=>
  rw[fK,gW,ih λi hi=>h i (by omega),rG]
  have:aB (P n) (Mo.sub m (xp L (n:Int)))=0:=by
   refine(h n (by omega)).uX (k:=L) (by omega) h4 ?_;rw[sJ,dX L L _ h1 h4,if_pos rfl];omega
  rw[this];rfl
structure gU where
 neg:Bool
 n:Nat
 dg:Nat->Nat
def gU.val(r:gU):Int:=bP r.neg (nv r.dg r.n)
def gU.can(r:gU):Bool:=(r.n==0&& !r.neg)||(decide (0<r.n)&&r.dg (r.n-1)!=0)
def gU.blank(r:gU):Bool:=r.n==0&& !r.neg
def gU.ok(r:gU):Prop:=∀i,i<r.n->r.dg i<4294967296
def RT:Nat->Type
 |0=>Unit
 |d+1=>Int × gU × Nat × (Nat->RT d)
def kR:(d:Nat)->RT d->Int
 |0,_=>0
 |_+1,t=>t.1
def qU:(d:Nat)->RT d->Bool
 |0,_=>false
 |_+1,t=>decide (t.1=0)&&t.2.1.n==0
def fC:(d:Nat)->RT d->Bool
 |0,_=>false
 |d+1,t=>if t.1=0 then(t.2.2.1==0)&&t.2.1.can
  else decide (1<=t.1/\t.1<=4)&&(t.2.1.blank&&(decide (2<=t.2.2.1)&&((List.range t.2.2.1).all (λi=>decide (kR d (t.2.2.2 i)<t.1)&&fC d (t.2.2.2 i))&& !(qU d (t.2.2.2 (t.2.2.1-1))))))
def terms:(d:Nat)->RT d->List Tm
 |0,_=>[]
 |d+1,t=>if t.1<=0 then[(t.2.1.val,Mo.zero)]else if 4<t.1 then[]else aJ t.1.toNat t.2.2.1 (λi=>terms d (t.2.2.2 i))
def Cv:(d:Nat)->RT d->Prop
 |0,_=>True
 |d+1,t=>t.2.1.ok/\∀i,i<t.2.2.1->Cv d (t.2.2.2 i)
theorem gU.y7{r:gU}(h:r.can=true)(ho:r.ok):r.val=0↔r.n=0:=by
 unfold gU.can at h;constructor
 ·intro hv
  by_cases h0:r.n=0
  ·exact h0
  ·exfalso
   have h1:r.dg (r.n-1)≠0:=by
    have h2:=h;simp[h0]at h2;exact h2.2
   obtain⟨m,hm⟩:∃m,r.n=m+1:=⟨r.n-1,by omega⟩;have h2:=QZ r.dg m (by rw[hm]at h1;simpa using h1);have h3:=VT m;unfold gU.val bP at hv;rw[hm]at hv
   split at hv<;>omega
 ·intro h0
  have hn:r.neg=false:=by simpa[h0]using h
  unfold gU.val bP;rw[h0,hn];rfl
section
variable{d:Nat}{t:RT (d+1)}
theorem FL(h:fC (d+1) t=true)(hl:t.1=0):t.2.2.1=0/\t.2.1.can=true:=by
 unfold fC at h;rw[if_pos hl]at h;simpa using h
theorem wm(h:fC (d+1) t=true)(hl:t.1≠0):(1<=t.1/\t.1<=4)/\t.2.1.n=0/\t.2.1.neg=false/\2<=t.2.2.1/\(∀i,i<t.2.2.1->kR d (t.2.2.2 i)<t.1/\fC d (t.2.2.2 i)=true)/\qU d (t.2.2.2 (t.2.2.1-1))=false:=by
 unfold fC at h;rw[if_neg hl]at h;simp only[Bool.and_eq_true,decide_eq_true_eq,List.all_eq_true,List.mem_range,Bool.not_eq_true',gU.blank,beq_iff_eq]at h;obtain⟨h1,⟨h2,h3⟩,h4,h5,h6⟩:=h;exact⟨h1,h2,h3,h4,h5,h6⟩
theorem FM(h:fC (d+1) t=true):0<=t.1/\t.1<=4:=by
 by_cases hl:t.1=0
 ·omega
 ·have:=(wm h hl).1;omega
theorem vN(hl:t.1<=0):terms (d+1) t=[(t.2.1.val,Mo.zero)]:=by unfold terms;rw[if_pos hl]
theorem yC(h1:1<=t.1)(h4:t.1<=4):terms (d+1) t=aJ t.1.toNat t.2.2.1 (λi=>terms d (t.2.2.2 i)):=by
 conv=>lhs;unfold terms
 rw[if_neg (by omega),if_neg (by omega)]
end
theorem Vz(c:Int):dN 0 [(c,Mo.zero)]:=by
 intro t ht k _ _;simp at ht;subst ht;exact ve k
theorem IM:∀(d:Nat)(t:RT d),fC d t=true->dN (kR d t).toNat (terms d t)
 |0,_,h=>by cases h
 |d+1,t,h=>by
  show dN t.1.toNat _
  by_cases hl:t.1=0
  ·rw[vN (by omega),hl];exact Vz _
  ·obtain⟨h1,_,_,_,h5,_⟩:=wm h hl;rw[yC h1.1 h1.2];refine qdb _ _ _ (by omega) (by omega) λi hi=>?_;have:=IM d (t.2.2.2 i) (h5 i hi).2;exact this.mono (by have:=(h5 i hi).1;omega)
theorem wV{d:Nat}{t:RT (d+1)}(h:fC (d+1) t=true)(hl:t.1≠0)(i:Nat)(hi:i<t.2.2.1):dN (t.1.toNat-1) (terms d (t.2.2.2 i)):=by
 obtain⟨_,_,_,_,h5,_⟩:=wm h hl;exact(IM d _ (h5 i hi).2).mono (by have:=(h5 i hi).1;omega)
theorem y7:∀(d:Nat)(t:RT d),fC d t=true->Cv d t->qU d t=false->∃m,aB (terms d t) m≠0
 |0,_,h,_,_=>by cases h
 |d+1,t,h,ho,hz=>by
  by_cases hl:t.1=0
  ·obtain⟨_,hc⟩:=FL h hl;refine⟨Mo.zero,?_⟩;rw[vN (by omega)];simp only[aB,if_true];intro h0;have h1:=(gU.y7 hc ho.1).1 (by omega);unfold qU at hz;simp[hl,h1]at hz
  ·obtain⟨h1,_,_,h4,h5,h6⟩:=wm h hl;obtain⟨m,hm⟩:=y7 d (t.2.2.2 (t.2.2.1-1)) (h5 _ (by omega)).2 (ho.2 _ (by omega)) h6
   have sQ:m.get t.1.toNat=0:=by
    by_cases he:m.get t.1.toNat=0
    ·exact he
    ·exact absurd ((wV h hl _ (by omega)).uX (k:=t.1.toNat) (by omega) (by omega) he) hm
   refine⟨Mo.add m (xp t.1.toNat ((t.2.2.1-1:Nat):Int)),?_⟩;rw[yC h1.1 h1.2,DV t.1.toNat t.2.2.1 _ (by omega) (by omega) (λi hi=>wV h hl i hi) _ (t.2.2.1-1) (by rw[gL,sQ,dX _ _ _ (by omega) (by omega),if_pos rfl];omega),if_pos (by omega)];rw[show Mo.sub (Mo.add m (xp t.1.toNat ((t.2.2.1-1:Nat):Int))) (xp t.1.toNat ((t.2.2.1-1:Nat):Int))=m from((Mo.add_eq _ _ _).1 rfl).symm];exact hm
theorem ql1{d:Nat}{t:RT d}(h:fC d t=true)(hz:qU d t=true):ae (terms d t) []:=by
 cases d with
 |zero=>cases h
 |succ d=>
  unfold qU at hz;simp only[Bool.and_eq_true,decide_eq_true_eq,beq_iff_eq]at hz;obtain⟨_,hc⟩:=FL h hz.1;rw[vN (by omega)];intro m
  have hn:t.2.1.neg=false:=by unfold gU.can at hc;simpa[hz.2]using hc
  have:t.2.1.val=0:=by unfold gU.val bP;rw[hz.2,hn];rfl
  simp[aB,this]
theorem qq7{d d':Nat}{t:RT (d+1)}{u:RT (d'+1)}(h:fC (d+1) t=true)(k:fC (d'+1) u=true)(ho:Cv (d+1) t)(ko:Cv (d'+1) u)(hs:ae (terms (d+1) t) (terms (d'+1) u)):
 t.1=u.1/\t.2.2.1=u.2.2.1/\(t.1=0->t.2.1.val=u.2.1.val)/\(t.1≠0->∀i,i<t.2.2.1->ae (terms d (t.2.2.2 i)) (terms d' (u.2.2.2 i))):=by
 have ZJ:∀{d d':Nat}{t:RT (d+1)}{u:RT (d'+1)},fC (d+1) t=true->fC (d'+1) u=true->Cv (d'+1) u->ae (terms (d+1) t) (terms (d'+1) u)->¬t.1<u.1:=by
  intro d d' t u h k ko hs hlt
  have hl:u.1≠0:=by have:=FM h;omega
  obtain⟨h1,_,_,h4,h5,h6⟩:=wm k hl;obtain⟨m,hm⟩:=y7 d' (u.2.2.2 (u.2.2.1-1)) (h5 _ (by omega)).2 (ko.2 _ (by omega)) h6
  have sQ:m.get u.1.toNat=0:=by
   by_cases he:m.get u.1.toNat=0
   ·exact he
   ·exact absurd ((wV k hl _ (by omega)).uX (k:=u.1.toNat) (by omega) (by omega) he) hm
  have hg:(Mo.add m (xp u.1.toNat ((u.2.2.1-1:Nat):Int))).get u.1.toNat=((u.2.2.1-1:Nat):Int):=by rw[gL,sQ,dX _ _ _ (by omega) (by omega),if_pos rfl];omega
  have e1:=hs (Mo.add m (xp u.1.toNat ((u.2.2.1-1:Nat):Int)));have bT:dN t.1.toNat (terms (d+1) t):=IM (d+1) t h;rw[bT.uX (k:=u.1.toNat) (by have:=FM h;omega) (by omega) (by rw[hg];omega)]at e1;rw[yC h1.1 h1.2,DV u.1.toNat u.2.2.1 _ (by omega) (by omega) (λi hi=>wV k hl i hi) _ (u.2.2.1-1) hg,if_pos (by omega)]at e1;rw[show Mo.sub (Mo.add m (xp u.1.toNat ((u.2.2.1-1:Nat):Int))) (xp u.1.toNat ((u.2.2.1-1:Nat):Int))=m from((Mo.add_eq _ _ _).1 rfl).symm]at e1;exact hm e1.symm
 have wN:t.1=u.1:=by
  have b1:=ZJ h k ko hs;have b2:=ZJ k h ho hs.symm;omega
 by_cases hl:t.1=0
 ·have Ev:u.1=0:=by omega
  have c1:=FL h hl;have c2:=FL k Ev;refine⟨wN,by rw[c1.1,c2.1],λ_=>?_,λhn=>absurd hl hn⟩;have:=hs Mo.zero;rw[vN (by omega),vN (by omega)]at this;simp only[aB,if_true]at this;omega
 ·have Ev:u.1≠0:=by omega
  obtain⟨h1,_,_,h4,h5,h6⟩:=wm h hl;obtain⟨k1,_,_,k4,k5,k6⟩:=wm k Ev
  have key:∀(m:Mo)(e:Nat),m.get t.1.toNat=0->(if e<t.2.2.1 then aB (terms d (t.2.2.2 e)) m else 0)=(if e<u.2.2.1 then aB (terms d' (u.2.2.2 e)) m else 0):=by
   intro m e hm;have e1:=hs (Mo.add m (xp t.1.toNat (e:Int)))
   have hg:(Mo.add m (xp t.1.toNat (e:Int))).get t.1.toNat=(e:Int):=by rw[gL,hm,dX _ _ _ (by omega) (by omega),if_pos rfl];omega
   rw[yC h1.1 h1.2,yC k1.1 k1.2,DV t.1.toNat t.2.2.1 _ (by omega) (by omega) (λi hi=>wV h hl i hi) _ e hg]at e1;rw[show u.1.toNat=t.1.toNat from by rw[wN]]at e1;rw[DV t.1.toNat u.2.2.1 _ (by omega) (by omega) (λi hi=>by have:=wV k Ev i hi;rw[<-wN]at this;exact this) _ e hg]at e1;rw[show Mo.sub (Mo.add m (xp t.1.toNat (e:Int))) (xp t.1.toNat (e:Int))=m from((Mo.add_eq _ _ _).1 rfl).symm]at e1;exact e1
  have Vy:∀{l:List Tm},dN (t.1.toNat-1) l->∀m,m.get t.1.toNat≠0->aB l m=0:=λbT m hm=>bT.uX (k:=t.1.toNat) (by omega) (by omega) hm
  have qmb:∀i,i<u.2.2.1->dN (t.1.toNat-1) (terms d' (u.2.2.2 i)):=λi hi=>by have:=wV k Ev i hi;rw[<-wN]at this;exact this
  have hn:t.2.2.1=u.2.2.1:=by
   rcases Nat.lt_trichotomy t.2.2.1 u.2.2.1 with hlt|heq|jR
   ·exfalso;obtain⟨m,hm⟩:=y7 d' (u.2.2.2 (u.2.2.1-1)) (k5 _ (by omega)).2 (ko.2 _ (by omega)) k6
    have sQ:m.get t.1.toNat=0:=by
     by_cases he:m.get t.1.toNat=0
     ·exact he
     ·exact absurd (Vy (qmb _ (by omega)) m he) hm
    have:=key m (u.2.2.1-1) sQ;rw[if_neg (by omega),if_pos (by omega)]at this;exact hm this.symm
   ·exact heq
   ·exfalso;obtain⟨m,hm⟩:=y7 d (t.2.2.2 (t.2.2.1-1)) (h5 _ (by omega)).2 (ho.2 _ (by omega)) h6
    have sQ:m.get t.1.toNat=0:=by
     by_cases he:m.get t.1.toNat=0
     ·exact he
     ·exact absurd (Vy (wV h hl _ (by omega)) m he) hm
    have:=key m (t.2.2.1-1) sQ;rw[if_pos (by omega),if_neg (by omega)]at this;exact hm this
  refine⟨wN,hn,λh0=>absurd h0 hl,λ_ i hi m=>?_⟩
  by_cases hm:m.get t.1.toNat=0
  ·have:=key m i hm;rw[if_pos hi,if_pos (by omega)]at this;exact this
  ·rw[Vy (wV h hl i hi) m hm,Vy (qmb i (by omega)) m hm]
def AO(l:List Tm):Prop:=l.Pairwise (λs t=>s.2≠t.2)
theorem qw8(p:Tm->Bool)(l:List Tm):aC l=aC (l.filter p)+aC (l.filter (λt=> !p t)):=by
 induction l with
 |nil=>rfl
 |cons t l ih=>
  rw[List.filter_cons,List.filter_cons];cases h:p t
  ·simp only[Bool.false_eq_true,if_false,Bool.not_false,if_true,aC];omega
  ·simp only[if_true,Bool.not_true,Bool.false_eq_true,if_false,aC];omega
theorem ZZ(l:List Tm)(q m:Mo):aB (l.filter (λt=>decide (t.2≠q))) m=if m=q then 0 else aB l m:=by
 induction l with
 |nil=>simp[aB]
 |cons t l ih=>
  rw[List.filter_cons]
  by_cases h:t.2=q
  ·rw[if_neg (by simp[h]),ih]
   split
   ·rfl
   ·rename_i hm;simp only[aB];rw[if_neg (λe=>hm (e.symm.trans h))];omega
  ·rw[if_pos (by simp[h])];simp only[aB,ih]
   by_cases hm:m=q
   ·rw[if_pos hm,if_pos hm,if_neg (λe=>h (e.trans hm))];rfl
   ·rw[if_neg hm,if_neg hm]
theorem qrt(l:List Tm)(q:Mo):(aB l q).natAbs<=aC (l.filter (λt=> !decide (t.2≠q))):=by
 induction l with
 |nil=>simp[aB,aC]
 |cons t l ih=>
  rw[List.filter_cons];simp only[aB]
  by_cases h:t.2=q
  ·rw[if_pos h,if_pos (by simp[h])];simp only[aC];omega
  ·rw[if_neg h,if_neg (by simp[h])];omega
theorem qrZ{l:List Tm}(hd:AO l):∀{r:List Tm},ae l r->aC l<=aC r:=by
 induction l with
 |nil=>intro r _;exact Nat.zero_le _
 |cons t l ih=>
  intro r hs;obtain⟨h1,h2⟩:=List.pairwise_cons.1 hd;have h0:aB l t.2=0:=qh λs hs=>(h1 s hs).symm
  have h3:ae l (r.filter (λs=>decide (s.2≠t.2))):=by
   intro m;rw[ZZ]
   split
   ·rename_i hm;rw[hm];exact h0
   ·rename_i hm;rw[<-hs m];simp only[aB];rw[if_neg (λe=>hm e.symm)];omega
  have h4:=ih h2 h3;have h5:=qw8 (λs=>decide (s.2≠t.2)) r;have h6:=qrt r t.2;have h7:=hs t.2;simp only[aB,if_true]at h7;rw[h0]at h7;simp only[aC]
  have:aB r t.2=t.1:=by omega
  rw[this]at h6;omega
theorem qyN{l:List Tm}(h:AO l)(k:Mo):AO (shift k l):=by
 unfold AO shift;rw[List.pairwise_map];exact h.imp λ{s t} iT e=>iT (by rw[(Mo.add_eq _ _ _).1 e, <-(Mo.add_eq t.2 k _).1 rfl])
theorem EN{L n:Nat}{P:Nat->List Tm}{t:Tm}(h:t∈aJ L n P):∃i,i<n/\∃s∈P i,t=(s.1,Mo.add s.2 (xp L (i:Int))):=by
 obtain⟨i,hi,ht⟩:=List.mem_flatMap.1 h;obtain⟨s,hs,rfl⟩:=List.mem_map.1 ht;exact⟨i,by simpa using hi,s,hs,rfl⟩
theorem qxL(L n:Nat)(P:Nat->List Tm)(h1:1<=L)(h4:L<=4)(hl:∀i,i<n->dN (L-1) (P i))(h:∀i,i<n->AO (P i)):AO (aJ L n P):=by
 induction n with
 |zero=>exact List.Pairwise.nil
 |succ n ih=>
  rw[fK];refine List.pairwise_append.2 ⟨ih (λi hi=>hl i (by omega)) (λi hi=>h i (by omega)),qyN (h n (by omega)) _,λs hs t ht e=>?_⟩;obtain⟨i,hi,s',kC,rfl⟩:=EN hs;obtain⟨t',ht',rfl⟩:=List.mem_map.1 ht;have e1:=congrArg (λm=>Mo.get m L) e;simp only[gL,dX L L _ h1 h4,if_true]at e1;rw[hl i (by omega) s' kC L (by omega) h4,hl n (by omega) t' ht' L (by omega) h4]at e1;omega
theorem qgZ:∀(d:Nat)(t:RT d),fC d t=true->AO (terms d t)
 |0,_,h=>by cases h
 |d+1,t,h=>by
  by_cases hl:t.1=0
  ·rw[vN (by omega)];exact List.pairwise_singleton _ _
  ·obtain⟨h1,_,_,_,h5,_⟩:=wm h hl;rw[yC h1.1 h1.2];exact qxL _ _ _ (by omega) (by omega) (λi hi=>wV h hl i hi) λi hi=>qgZ d _ (h5 i hi).2
theorem OE{d:Nat}{t:RT d}(h:fC d t=true){l:List Tm}(hs:ae (terms d t) l):aC (terms d t)<=aC l:=qrZ (qgZ d t h) hs
theorem JL(L n:Nat)(P:Nat->List Tm)(i:Nat)(hi:i<n):aC (P i)<=aC (aJ L n P):=by
 induction n with
 |zero=>omega
 |succ n ih=>
  rw[fK,kT,yu]
  by_cases h:i=n
  ·subst h;omega
  ·have:=ih (by omega);omega
theorem Ub{L n:Nat}{P:Nat->List Tm}(h1:1<=L)(h4:L<=4)(h:∀i,i<n->dN (L-1) (P i))(i:Nat)(hi:i<n)(m:Mo)(hm:m.get L=0):aB (aJ L n P) (Mo.add m (xp L (i:Int)))=aB (P i) m:=by
 rw[DV L n P h1 h4 h _ i (by rw[gL,hm,dX L L _ h1 h4,if_pos rfl];omega),if_pos hi, <-(Mo.add_eq m _ _).1 rfl]
def qi(L:Nat)(m:Mo):Mo:=⟨if 1<=L then m.a else 0,if 2<=L then m.b else 0,if 3<=L then m.c else 0,if 4<=L then m.d else 0⟩
def lL(L:Nat)(l:List Tm):List Tm:=l.map λt=>(t.1,qi L t.2)
theorem IV(L:Nat)(m:Mo)(k:Nat):(qi L m).get k=if k<=L then m.get k else 0:=by
 simp only[qi,Mo.get]
 by_cases h1:k=1
 ·subst h1;simp
 ·by_cases h2:k=2
  ·subst h2;simp
  ·by_cases h3:k=3
   ·subst h3;simp
   ·by_cases h4:k=4
    ·subst h4;simp
    ·simp[h1,h2,h3,h4]
theorem qrI(l:List Tm):lL 4 l=l:=by
 unfold lL
 conv=>rhs;rw[<-List.map_id l]
 apply List.map_congr_left;intro t _;simp[qi]
theorem qrJ(L:Nat)(l:List Tm):dN L (lL L l):=by
 intro t ht k hk _;obtain⟨s,_,rfl⟩:=List.mem_map.1 ht;rw[IV,if_neg (by omega)]
def Agree(L:Nat)(l:List Tm):Prop:=∀s∈l,∀t∈l,∀k,L<k->k<=4->s.2.get k=t.2.get k
def qL(L:Nat)(e:Int)(l:List Tm):List Tm:=l.filter λt=>decide (t.2.get L=e)
theorem qtb(L:Nat)(e:Int)(l r:List Tm):qL L e (l++r)=qL L e l++qL L e r:=by simp[qL]
theorem qhg(L:Nat)(m:Mo)(h1:1<=L)(h4:L<=4):qi L m=Mo.add (qi (L-1) m) (xp L (m.get L)):=by
 apply Mo.ext_get;intro k _ _;rw[gL,IV,IV,dX L k _ h1 h4]
 by_cases h:k=L
 ·subst h;rw[if_pos (Nat.le_refl _),if_neg (by omega),if_pos rfl];omega
 ·rw[if_neg h]
  by_cases h2:k<=L
  ·rw[if_pos h2,if_pos (by omega)];omega
  ·rw[if_neg h2,if_neg (by omega)];rfl
theorem qyU(L n:Nat)(l:List Tm)(h1:1<=L)(h4:L<=4)(hn:∀t∈l,0<=t.2.get L/\t.2.get L<n):ae (aJ L n (λi=>lL (L-1) (qL L (i:Int) l))) (lL L l):=by
 intro m
 induction l with
 |nil=>
  have:∀n,aJ L n (λi=>lL (L-1) (qL L (i:Int) []))=[]:=by
   intro n
   induction n with
   |zero=>rfl
   |succ n ih=>rw[fK,ih];rfl
  rw[this];rfl
 |cons t l ih=>
  have hl:∀(l:List Tm)(i:Nat),i<n->dN (L-1) (lL (L-1) (qL L (i:Int) l)):=λl i _=>qrJ _ _;have ih:=ih λs hs=>hn s (List.mem_cons_of_mem _ hs);obtain⟨h5,h6⟩:=hn t (List.mem_cons_self ..);show _=(if qi L t.2=m then t.1 else 0)+aB (lL L l) m;rw[<-ih]
  by_cases hm:0<=m.get L
  ·obtain⟨e,he⟩:∃e:Nat,m.get L=(e:Int):=⟨(m.get L).toNat,by omega⟩;rw[DV L n _ h1 h4 (hl _) m e he,DV L n _ h1 h4 (hl _) m e he]
   by_cases wL:e<n
   ·rw[if_pos wL,if_pos wL]
    by_cases Ve:t.2.get L=(e:Int)
    ·rw[show qL L (e:Int) (t::l)=t::qL L (e:Int) l from List.filter_cons_of_pos (by simp[Ve])];show(if qi (L-1) t.2=Mo.sub m (xp L (e:Int))then t.1 else 0)+_=_
     congr 1
     have:(qi (L-1) t.2=Mo.sub m (xp L (e:Int)))↔qi L t.2=m:=by
      rw[<-Mo.add_eq,qhg L t.2 h1 h4,Ve]
     by_cases hc:qi L t.2=m
     ·rw[if_pos hc,if_pos (this.2 hc)]
     ·rw[if_neg hc,if_neg (λh=>hc (this.1 h))]
    ·rw[show qL L (e:Int) (t::l)=qL L (e:Int) l from List.filter_cons_of_neg (by simp[Ve])];rw[if_neg,Int.zero_add];intro hc;apply Ve;rw[<-he, <-hc,IV,if_pos (Nat.le_refl _)]
   ·rw[if_neg wL,if_neg wL,if_neg,Int.zero_add];intro hc
    have:m.get L=t.2.get L:=by rw[<-hc,IV,if_pos (Nat.le_refl _)]
    omega
  ·rw[Z6 L n _ h1 h4 (hl _) m (by omega),Z6 L n _ h1 h4 (hl _) m (by omega),if_neg,Int.zero_add];intro hc
   have:m.get L=t.2.get L:=by rw[<-hc,IV,if_pos (Nat.le_refl _)]
   omega
theorem qwt{x y:Mo}{L:Nat}(h1:1<=L)(h4:L<=4)(h:Mo.lt x y)(ha:∀k,L<k->k<=4->x.get k=y.get k):x.get L<=y.get L:=by
 have a2:=ha 2;have a3:=ha 3;have a4:=ha 4;unfold Mo.lt at h;rcases ME h1 h4 with rfl|rfl|rfl|rfl<;>simp[Mo.get]at a2 a3 a4⊢ <;>omega
theorem Agree.sub{L:Nat}{l r:List Tm}(h:Agree L l)(hs:∀t∈r,t∈l):Agree L r:=λs kC t ht=>h s (hs s kC) t (hs t ht)
theorem Agree.next{L:Nat}{l:List Tm}(h:Agree L l)(he:∀s∈l,∀t∈l,s.2.get L=t.2.get L):Agree (L-1) l:=by
 intro s hs t ht k hk h4
 by_cases UX:k=L
 ·subst UX;exact he s hs t ht
 ·exact h s hs t ht k (by omega) h4
theorem qrK{L:Nat}{l:List Tm}(h1:1<=L)(h4:L<=4)(h:∀t∈l,t.2.get L=0):lL (L-1) l=lL L l:=by
 unfold lL;apply List.map_congr_left;intro t ht;rw[qhg L t.2 h1 h4,h t ht]
 congr 1
 apply Mo.ext_get;intro k _ _;rw[gL,dX L k _ h1 h4]
 split<;>omega
end Go.Proofs.YtmcfpnmoklnhoaaGreat
namespace Go.Proofs.YtmcfpnmoklnhoaaGreat
open Go.RowKit
def vW(M:Nat->Prop)(w:World)(c0 c1:Value)(r:gU):Prop:=c0=.bool r.neg/\dK M w c1 r.n r.dg
theorem vW.eH{M:Nat->Prop}{w:World}{c0 c1:Value}{r:gU}(h:vW M w c0 c1 r):dB M w c0 c1 r.val:=⟨r.neg,_,h.1,⟨_,_,h.2,rfl⟩,rfl⟩
theorem dJ.raw{M:Nat->Prop}{w:World}{c0 c1:Value}{z:Int}(h:dJ M w c0 c1 z):∃r:gU,vW M w c0 c1 r/\r.val=z/\r.can=true:=by
 obtain⟨⟨n,d,hr,hv,hc⟩,h0⟩:=h;refine⟨⟨decide (z<0),n,d⟩,⟨h0,hr⟩,?_,?_⟩
 ·show bP (decide (z<0)) (nv d n)=z;rw[hv];unfold bP
  by_cases hz:z<0
  ·simp[hz];omega
  ·simp[hz];omega
 ·unfold gU.can;rcases Nat.eq_zero_or_pos n with h1|h1
  ·subst h1
   have:z=0:=by simp[nv]at hv;omega
   subst this;simp
  ·have:d (n-1)≠0:=by omega
   simp[h1,this]
theorem vW.qq6{M:Nat->Prop}{w:World}{c0 c1:Value}{r:gU}(h:vW M w c0 c1 r)(hc:r.can=true):dJ M w c0 c1 r.val:=by
 obtain⟨h0,hr⟩:=h;refine⟨⟨r.n,r.dg,hr,by unfold gU.val;rw[tu],?_⟩,?_⟩
 ·unfold gU.can at hc;rcases Nat.eq_zero_or_pos r.n with h1|h1
  ·exact .inl h1
  ·have hne:¬r.n=0:=by omega
   simp[hne]at hc;exact .inr hc.2
 ·rw[h0];unfold gU.val;rw[qn5]
  congr 1
  cases hn:r.neg
  ·rfl
  ·have h1:¬r.n=0:=λe=>by unfold gU.can at hc;simp[e,hn]at hc
   have hz:=gU.y7 hc hr.2.1
   have:0<nv r.dg r.n:=by
    rcases Nat.eq_zero_or_pos (nv r.dg r.n)with h2|h2
    ·exact absurd (hz.1 (by unfold gU.val bP;rw[h2];split<;>rfl)) h1
    ·exact h2
   simp[this]
section
variable{M M':Nat->Prop}{w w':World}{c0 c1:Value}{r:gU}
theorem vW.kp(h:vW M w c0 c1 r)(he:Kp M w w'):vW M w' c0 c1 r:=⟨h.1,h.2.kp he⟩
theorem vW.more(h:vW M w c0 c1 r)(hm:∀g,M' g->M g\/w.heap.size<=g):vW M' w c0 c1 r:=⟨h.1,h.2.more hm⟩
end
def RR(M:Nat->Prop)(w:World):(d:Nat)->RT d->Value->Value->Value->Value->Prop
 |0,_,_,_,_,_=>False
 |d+1,t,c0,c1,c2,c3=>c0=.int .i64 t.1/\(-9223372036854775808<=t.1/\t.1<=9223372036854775807)/\vW M w c1 c2 t.2.1/\t.2.2.1<=1099511627776/\
  (((∃a p,c3=.slice a 0 p/\p<=maxLen/\(a=none->p=0))/\t.2.2.1=0)\/∃b off cap,c3=.slice (some ⟨b,off,none⟩) t.2.2.1 cap/\t.2.2.1<=cap/\cap<=maxLen/\(b<w.heap.size/\¬M b)/\
   ∀i,i<t.2.2.1->∃e0 e1 e2 e3,w.cell? ⟨b,off+i*4,none⟩=some e0/\w.cell? ⟨b,off+i*4+1,none⟩=some e1/\w.cell? ⟨b,off+i*4+2,none⟩=some e2/\w.cell? ⟨b,off+i*4+3,none⟩=some e3/\RR M w d (t.2.2.2 i) e0 e1 e2 e3)
theorem RR.kp{M:Nat->Prop}{w w':World}(he:Kp M w w'):∀{d:Nat}{t:RT d}{c0 c1 c2 c3:Value},RR M w d t c0 c1 c2 c3->RR M w' d t c0 c1 c2 c3
 |0,_,_,_,_,_,h=>h
 |d+1,t,c0,c1,c2,c3,h=>by
  obtain⟨h0,h1,h2,h3,h4⟩:=h;refine⟨h0,h1,h2.kp he,h3,?_⟩;rcases h4 with h4|⟨b,off,cap,hv,hn,hc,hb,hk⟩
  ·exact .inl h4
  ·refine .inr ⟨b,off,cap,hv,hn,hc,⟨Nat.lt_of_lt_of_le hb.1 he.1,hb.2⟩,λi hi=>?_⟩;obtain⟨e0,e1,e2,e3,x0,x1,x2,x3,x4⟩:=hk i hi;exact⟨e0,e1,e2,e3,by rw[he.cell hb.1 hb.2];exact x0,by rw[he.cell hb.1 hb.2];exact x1,by rw[he.cell hb.1 hb.2];exact x2,by rw[he.cell hb.1 hb.2];exact x3,RR.kp he x4⟩
theorem RR.more{M M':Nat->Prop}{w:World}(hm:∀g,M' g->M g\/w.heap.size<=g):∀{d:Nat}{t:RT d}{c0 c1 c2 c3:Value},RR M w d t c0 c1 c2 c3->RR M' w d t c0 c1 c2 c3
 |0,_,_,_,_,_,h=>h
 |d+1,t,c0,c1,c2,c3,h=>by
  obtain⟨h0,h1,h2,h3,h4⟩:=h;refine⟨h0,h1,h2.more hm,h3,?_⟩;rcases h4 with h4|⟨b,off,cap,hv,hn,hc,hb,hk⟩
  ·exact .inl h4
  ·refine .inr ⟨b,off,cap,hv,hn,hc,⟨hb.1,λk=>(hm b k).elim hb.2 (by omega)⟩,λi hi=>?_⟩;obtain⟨e0,e1,e2,e3,x0,x1,x2,x3,x4⟩:=hk i hi;exact⟨e0,e1,e2,e3,x0,x1,x2,x3,RR.more hm x4⟩
theorem RR.ext{M:Nat->Prop}{w w':World}{d:Nat}{t:RT d}{c0 c1 c2 c3:Value}(h:RR M w d t c0 c1 c2 c3)(he:Ext w w'):RR M w' d t c0 c1 c2 c3:=RR.kp (Kp.jC he) h
theorem RR.ok{M:Nat->Prop}{w:World}:∀{d:Nat}{t:RT d}{c0 c1 c2 c3:Value},RR M w d t c0 c1 c2 c3->Cv d t
 |0,_,_,_,_,_,h=>h.elim
 |d+1,t,c0,c1,c2,c3,h=>by
  obtain⟨h0,h1,h2,h3,h4⟩:=h;refine⟨h2.2.2.1,λi hi=>?_⟩;rcases h4 with h4|⟨b,off,cap,hv,hn,hc,hb,hk⟩
  ·omega
  ·obtain⟨e0,e1,e2,e3,x0,x1,x2,x3,x4⟩:=hk i hi;exact RR.ok x4
theorem RR.form{M:Nat->Prop}{w:World}{d:Nat}{t:RT (d+1)}{c0 c1 c2 c3:Value}(h:RR M w (d+1) t c0 c1 c2 c3):c0=.int .i64 t.1/\c1=.bool t.2.1.neg/\(∃a p,c2=.slice a t.2.1.n p)/\∃ka kp,c3=.slice ka t.2.2.1 kp:=by
 obtain⟨h0,h1,h2,h3,h4⟩:=h;refine⟨h0,h2.1,kE h2.2,?_⟩;rcases h4 with⟨⟨_,_,rfl,_⟩,h4⟩|⟨b,off,cap,rfl,_⟩
 ·rw[h4];exact⟨_,_,rfl⟩
 ·exact⟨_,_,rfl⟩
theorem RR.kids{M:Nat->Prop}{w:World}{d:Nat}{t:RT (d+1)}{c0 c1 c2:Value}{ka:Option Addr}{kp:Nat}(h:RR M w (d+1) t c0 c1 c2 (.slice ka t.2.2.1 kp))(i:Nat)(hi:i<t.2.2.1):
 ∃b off,ka=some ⟨b,off,none⟩/\t.2.2.1<=kp/\kp<=maxLen/\b<w.heap.size/\∃e0 e1 e2 e3,w.cell? ⟨b,off+i*4,none⟩=some e0/\w.cell? ⟨b,off+i*4+1,none⟩=some e1/\w.cell? ⟨b,off+i*4+2,none⟩=some e2/\w.cell? ⟨b,off+i*4+3,none⟩=some e3/\RR M w d (t.2.2.2 i) e0 e1 e2 e3:=by
 obtain⟨h0,h1,h2,h3,h4⟩:=h;rcases h4 with⟨_,h4⟩|⟨b,off,cap,hv,hn,hc,hb,hk⟩
 ·omega
 ·simp only[Value.slice.injEq,true_and]at hv;obtain⟨rfl,rfl⟩:=hv;exact⟨b,off,rfl,hn,hc,hb.1,hk i hi⟩
theorem qrb(n:Nat):(((n:Nat):Int)==0)=(n==0):=by
 rw[Bool.eq_iff_iff,beq_iff_eq,beq_iff_eq];omega
def ja(l:Int):Bool:=decide (1<=l/\l<=4)
def mM(l:Int)(n:Nat):Bool:=decide (l=0)&&n==0
theorem qdn(l:Int)(w:World):Calls Tryz.prog 56 #[.int .i64 l] w λe w'=>e=.returned (.bool (ja l))/\w=w':=by
 by_cases h1:1<=l
 ·by_cases h2:l<=4
  ·have H:Hid (ja l=true):=by show _=_;unfold ja;simp[h1,h2]
   go_enter Tryz.func56,Tryz.ntmps56
   go_wp2;go_ret;exact⟨by rw[H.out];rfl,rfl⟩
  ·have H:Hid (ja l=false):=by show _=_;unfold ja;simp[h2]
   go_enter Tryz.func56,Tryz.ntmps56
   go_wp2;go_ret;exact⟨by rw[H.out];rfl,rfl⟩
 ·have H:Hid (ja l=false):=by show _=_;unfold ja;simp[h1]
  go_enter Tryz.func56,Tryz.ntmps56
  go_wp2;go_ret;exact⟨by rw[H.out];rfl,rfl⟩
theorem He(l:Int)(b:Bool)(a:Option Addr)(n p:Nat)(ka:Option Addr)(kn kp:Nat)(w:World):Calls Tryz.prog 119 #[.agg #[.int .i64 l,.bool b,.slice a n p,.slice ka kn kp]] w λe w'=>e=.returned (.bool (mM l n))/\Ext w w':=by
 by_cases h1:l=0
 ·have t0:(l==0)=true:=by simp[h1]
  have H:Hid (mM l n=(n==0)):=by
   show _=_;unfold mM;rw[decide_eq_true h1,Bool.true_and]
  clear h1
  go_enter Tryz.func119,Tryz.ntmps119
  go_wp2;go_ret;exact⟨by rw[H.out, <-qrb];rfl,(Ext.refl w).alloc _⟩
 ·have t0:(l==0)=false:=by simp[h1]
  have H:Hid (mM l n=false):=by show _=_;unfold mM;simp[h1]
  clear h1
  go_enter Tryz.func119,Tryz.ntmps119
  go_wp2;go_ret;exact⟨by rw[H.out];rfl,(Ext.refl w).alloc _⟩
theorem Vp(d:Nat)(t:RT (d+1)):fC (d+1) t=if t.1=0 then(t.2.2.1==0)&&t.2.1.can
 else decide (1<=t.1/\t.1<=4)&&(t.2.1.blank&&(decide (2<=t.2.2.1)&&((List.range t.2.2.1).all (λi=>decide (kR d (t.2.2.2 i)<t.1)&&fC d (t.2.2.2 i))&& !(qU d (t.2.2.2 (t.2.2.1-1)))))):=rfl
def qd8(d:Nat):Prop:=∀(M:Nat->Prop)(t:RT d)(c0 c1 c2 c3:Value)(w:World),RR M w d t c0 c1 c2 c3->
 Calls Tryz.prog 128 #[.agg #[c0,c1,c2,c3]] w λe w'=>e=.returned (.bool (fC d t))/\Ext w w'
theorem qv2(d:Nat)(M:Nat->Prop)(t:RT (d+1))(c0 c1 c2 c3:Value)(w:World)(h:RR M w (d+1) t c0 c1 c2 c3)(hl:t.1=0):
 Calls Tryz.prog 128 #[.agg #[c0,c1,c2,c3]] w λe w'=>e=.returned (.bool (fC (d+1) t))/\Ext w w':=by
 obtain⟨rfl,rfl,⟨a,p,rfl⟩,ka,kp,rfl⟩:=h.form;have hI:vW M w (.bool t.2.1.neg) (.slice a t.2.1.n p) t.2.1:=h.2.2.1;have hE:=Vp d t;rw[if_pos hl]at hE;have HE:=Lib.hid hE;have eu:=h.2.2.2.1;have haL:=hI.2.1;have HN:=Lib.hid hI.2;clear hE h hI;generalize fC (d+1) t=R at*;obtain⟨L,⟨neg,an,dg⟩,n,bu⟩:=t;simp only at*;subst hl
 by_cases hn:n=0
 ·subst hn
  by_cases ha:an=0
  ·subst ha
   have HR:Hid (R= !neg):=by show _=_;rw[HE.out];simp[gU.can]
   clear HE;cases neg
   ·go_enter Tryz.func128,Tryz.ntmps128
    go_wp2;go_ret;exact⟨by rw[HR.out];rfl,(Ext.refl w).alloc _⟩
   ·go_enter Tryz.func128,Tryz.ntmps128
    go_wp2;go_ret;exact⟨by rw[HR.out];rfl,(Ext.refl w).alloc _⟩
  ·have HR:Hid (R=(dg (an-1)!=0)):=by show _=_;rw[HE.out];simp[gU.can,ha,show 0<an from by omega]
   clear HE;obtain⟨b,off,rfl,hb,hcell⟩:=mU HN.out (by omega);obtain⟨k,rfl⟩:∃k,an=k+1:=⟨an-1,by omega⟩
   have x0:(w.alloc (.cells #[.int .i64 0,.bool neg,.slice (some ⟨b,off,none⟩) (k+1) p,.slice ka 0 kp] 33)).cell? ⟨b,off+k,none⟩=some (.int .u32 (dg k)):=by rw[((Ext.refl w).alloc _).cell hb];exact hcell k (by omega)
   have rz:Hid (R=(dg k !=0)):=HR;clear HR hcell
   by_cases hd:dg k=0
   ·have t0:(((dg k:Nat):Int)!=0)=false:=by simp[hd]
    have qD:Hid (R=false):=by show _=_;rw[rz.out];simp[hd]
    clear hd rz;cases neg
    ·go_enter Tryz.func128,Tryz.ntmps128
     go_wp2;go_ret;exact⟨by rw[qD.out];rfl,(Ext.refl w).alloc _⟩
    ·go_enter Tryz.func128,Tryz.ntmps128
     go_wp2;go_ret;exact⟨by rw[qD.out];rfl,(Ext.refl w).alloc _⟩
   ·have t0:(((dg k:Nat):Int)!=0)=true:=by simp[hd]
    have qD:Hid (R=true):=by show _=_;rw[rz.out];simp[hd]
    clear hd rz;cases neg
    ·go_enter Tryz.func128,Tryz.ntmps128
     go_wp2;go_ret;exact⟨by rw[qD.out];rfl,(Ext.refl w).alloc _⟩
    ·go_enter Tryz.func128,Tryz.ntmps128
     go_wp2;go_ret;exact⟨by rw[qD.out];rfl,(Ext.refl w).alloc _⟩
 ·have HR:Hid (R=false):=by show _=_;rw[HE.out];simp[hn]
  have zW:0<n:=by omega
  clear HE hn
  go_enter Tryz.func128,Tryz.ntmps128
  go_wp2;go_ret;exact⟨by rw[HR.out];rfl,(Ext.refl w).alloc _⟩
theorem qv4(d:Nat)(t:RT (d+1)):qU (d+1) t=mM t.1 t.2.1.n:=rfl
theorem qv3(d:Nat)(ih:qd8 d)(M:Nat->Prop)(t:RT (d+1))(c0 c1 c2 c3:Value)(w:World)(h:RR M w (d+1) t c0 c1 c2 c3)(hl:t.1≠0):
 Calls Tryz.prog 128 #[.agg #[c0,c1,c2,c3]] w λe w'=>e=.returned (.bool (fC (d+1) t))/\Ext w w':=by
 obtain⟨rfl,rfl,⟨a,p,rfl⟩,ka,kp,rfl⟩:=h.form;have hE:=Vp d t;rw[if_neg hl]at hE;have HE:=Lib.hid hE;have eu:=h.2.2.2.1;have haL:t.2.1.n<=1099511627776:=h.2.2.1.2.1;have wN:=h.2.1;have HK:Hid (∀i,i<t.2.2.1->∃b off,ka=some ⟨b,off,none⟩/\t.2.2.1<=kp/\kp<=maxLen/\b<w.heap.size/\∃e0 e1 e2 e3,w.cell? ⟨b,off+i*4,none⟩=some e0/\w.cell? ⟨b,off+i*4+1,none⟩=some e1/\w.cell? ⟨b,off+i*4+2,none⟩=some e2/\w.cell? ⟨b,off+i*4+3,none⟩=some e3/\RR M w d (t.2.2.2 i) e0 e1 e2 e3):=λi hi=>h.kids i hi;clear hE h;generalize fC (d+1) t=R at*;obtain⟨L,⟨neg,an,dg⟩,n,bu⟩:=t;simp only at*
 have l0:(L==0)=false:=by simp[hl]
 have aS:=qdn L;clear hl;have gB:Hid (Ext w (w.alloc (.cells #[.int .i64 L,.bool neg,.slice a an p,.slice ka n kp] 33))):=(Ext.refl w).alloc _
 by_cases hL:1<=L/\L<=4
 ·have nT:ja L=true:=by unfold ja;simp[hL]
  rw[nT]at aS;have aO:=Lib.hid aS;clear nT aS;obtain⟨xV,wC⟩:=hL
  by_cases ha:0<an
  ·have HR:Hid (R=false):=by show _=_;rw[HE.out];simp[gU.blank,show¬an=0 from by omega]
   clear HE;cases neg
   all_goals
    go_enter Tryz.func128,Tryz.ntmps128
    go_wp2_with (fail);refine(aO.out _).mono ?_;rintro e w1 ⟨rfl,rfl⟩;go_wp2;go_ret;exact⟨by rw[HR.out];rfl,gB.out⟩
  ·have ha0:an=0:=by omega
   subst ha0;clear ha;cases neg
   ·by_cases hn:n<2
    ·have HR:Hid (R=false):=by show _=_;rw[HE.out];simp[show¬2<=n from by omega]
     clear HE
     go_enter Tryz.func128,Tryz.ntmps128
     go_wp2_with (fail);refine(aO.out _).mono ?_;rintro e w1 ⟨rfl,rfl⟩;go_wp2;go_ret;exact⟨by rw[HR.out];rfl,gB.out⟩
    ·have HR:Hid (R=((List.range n).all (λi=>decide (kR d (bu i)<L)&&fC d (bu i))&& !(qU d (bu (n-1))))):=by
      show _=_;rw[HE.out];simp[gU.blank,show 2<=n from by omega,xV,wC]
     clear HE
     cases d with
     |zero=>
      obtain⟨b,off,_,_,_,_,e0,e1,e2,e3,_,_,_,_,hf⟩:=HK.out 0 (by omega);exact hf.elim
     |succ d=>
     go_enter Tryz.func128,Tryz.ntmps128
     go_wp2_with (fail);refine(aO.out _).mono ?_;rintro e w1 ⟨rfl,rfl⟩;go_wp2
     go_loopw [63] (λi wr=>∃k:Nat,k<=n/\i=.int .i64 k/\Hid (∀j,j<k->(decide (kR (d+1) (bu j)<L)&&fC (d+1) (bu j))=true)/\Hid (Ext (w.alloc (.cells #[.int .i64 L,.bool false,.slice a 0 p,.slice ka n kp] 33)) wr)) (λi _=>n-(intOf i).toNat)
     case atStart=>exact⟨0,Nat.zero_le _,rfl,λj hj=>by omega,Ext.refl _⟩
     case round=>
      obtain⟨k,hk,rfl,HQ,gD⟩:=hrel;have bW:=gB.out.trans gD.out;obtain⟨fD,Ji⟩:=DR gD.out;have hsz:=gD.out.size;simp only[World.size_alloc]at hsz
      have Qu:w.heap.size<wr.heap.size:=by omega
      have B0:wr.cell? ⟨w.heap.size,0,none⟩=some (.int .i64 L):=by rw[fD _ _ (by simp)];simp[go_sem]
      have B3:wr.cell? ⟨w.heap.size,3,none⟩=some (.slice ka n kp):=by rw[fD _ _ (by simp)];simp[go_sem]
      clear fD Ji
      by_cases hlt:k<n
      ·obtain⟨b,off,rfl,Ch,hkm,hb,e0,e1,e2,e3,x0,x1,x2,x3,uB⟩:=HK.out k hlt;rw[<-bW.cell hb]at x0 x1 x2 x3
       have iH:b<wr.heap.size:=by omega
       obtain⟨rfl,rfl,⟨a2,p2,rfl⟩,iU,iV,rfl⟩:=uB.form;have ou:=Lib.hid uB;clear uB
       by_cases gI:L<=(bu k).1
       ·have qD:Hid (R=false):=by
         show _=_;rw[HR.out]
         have:(List.range n).all (λi=>decide (kR (d+1) (bu i)<L)&&fC (d+1) (bu i))=false:=by
          rw[List.all_eq_false];refine⟨k,List.mem_range.2 hlt,?_⟩
          have:¬kR (d+1) (bu k)<L:=by show¬(bu k).1<L;omega
          simp[this]
         rw[this];rfl
        go_wp2;go_ret;exact⟨by rw[qD.out];rfl,bW.alloc _⟩
       ·have aN:Ext wr (wr.alloc (.cells #[.int .i64 (bu k).1,.bool (bu k).2.1.neg,.slice a2 (bu k).2.1.n p2,.slice iU (bu k).2.2.1 iV] 33)):=(Ext.refl wr).alloc _;have QF:=ih M (bu k) _ _ _ _ _ (ou.out.ext (bW.trans aN));have Iw:=Lib.hid QF;clear QF;cases yf:fC (d+1) (bu k)
        ·rw[yf]at Iw
         have qD:Hid (R=false):=by
          show _=_;rw[HR.out]
          have:(List.range n).all (λi=>decide (kR (d+1) (bu i)<L)&&fC (d+1) (bu i))=false:=by
           rw[List.all_eq_false];exact⟨k,List.mem_range.2 hlt,by simp[yf]⟩
          rw[this];rfl
         clear yf;go_wp2_with (fail);refine Iw.out.mono ?_;rintro e w1 ⟨rfl,af⟩;go_wp2;go_ret;exact⟨by rw[qD.out];rfl,(bW.trans aN).trans af⟩
        ·rw[yf]at Iw;have RG:=Lib.hid yf;clear yf;go_wp2_with (fail);refine Iw.out.mono ?_;rintro e w1 ⟨rfl,af⟩;go_wp2
         go_roundw
         case rel=>exact⟨k+1,by omega,by go_num,λj hj=>by
          by_cases pJ:j=k
          ·subst pJ
           have:kR (d+1) (bu j)<L:=by show(bu j).1<L;omega
           simp[this,RG.out]
          ·exact HQ.out j (by omega),(gD.out.trans aN).trans af⟩
         case measure=>simp[intOf];omega
      ·have hkn:k=n:=by omega
       subst hkn;obtain⟨b,off,rfl,Ch,hkm,hb,e0,e1,e2,e3,x0,x1,x2,x3,uB⟩:=HK.out (k-1) (by omega);obtain⟨q,rfl⟩:∃q,k=q+1:=⟨k-1,by omega⟩;simp only[Nat.add_sub_cancel]at x0 x1 x2 x3 uB;rw[<-bW.cell hb]at x0 x1 x2 x3
       have iH:b<wr.heap.size:=by omega
       obtain⟨rfl,rfl,⟨a2,p2,rfl⟩,iU,iV,rfl⟩:=uB.form
       have qD:Hid (R= !(mM (bu q).1 (bu q).2.1.n)):=by
        show _=_;rw[HR.out]
        have:(List.range (q+1)).all (λi=>decide (kR (d+1) (bu i)<L)&&fC (d+1) (bu i))=true:=by
         rw[List.all_eq_true];intro i hi;exact HQ.out i (List.mem_range.1 hi)
        rw[this,Bool.true_and,Nat.add_sub_cancel,qv4]
       clear uB HQ HR;go_wp2_with (fail);refine(He _ _ _ _ _ _ _ _ _).mono ?_;rintro e w1 ⟨rfl,af⟩;go_wp2;go_ret;exact⟨by rw[qD.out];rfl,bW.trans af⟩
   ·have HR:Hid (R=false):=by show _=_;rw[HE.out];simp[gU.blank]
    clear HE
    go_enter Tryz.func128,Tryz.ntmps128
    go_wp2_with (fail);refine(aO.out _).mono ?_;rintro e w1 ⟨rfl,rfl⟩;go_wp2;go_ret;exact⟨by rw[HR.out];rfl,gB.out⟩
 ·have nT:ja L=false:=by unfold ja;simp only[decide_eq_false_iff_not];exact hL
  rw[nT]at aS
  have HR:Hid (R=false):=by show _=_;rw[HE.out,decide_eq_false hL];rfl
  have aO:=Lib.hid aS;clear nT aS hL HE
  go_enter Tryz.func128,Tryz.ntmps128
  go_wp2_with (fail);refine(aO.out _).mono ?_;rintro e w1 ⟨rfl,rfl⟩;go_wp2;go_ret;exact⟨by rw[HR.out];rfl,gB.out⟩
theorem qnW:∀d,qd8 d
 |0=>λ_ _ _ _ _ _ _ h=>h.elim
 |d+1=>λM t c0 c1 c2 c3 w h=>by
  by_cases hl:t.1=0
  ·exact qv2 d M t c0 c1 c2 c3 w h hl
  ·exact qv3 d (qnW d) M t c0 c1 c2 c3 w h hl
def Mf(M:Nat->Prop)(base:Nat):Nat->Prop:=λb=>M b\/base<=b
def ui(M:Nat->Prop)(base:Nat)(w:World)(v:Value)(n:Nat)(z:Nat->Int)(x:Nat->TE):Prop:=
 Own w base 129 6 v n (tx x)/\∀i,i<n->dB (Mf M base) w (.bool (x i).b) (.slice (x i).a (x i).n (x i).p) (z i)
def Ao(m:Mo):Nat->Value:=λi=>.int .i64 (m.get (i+1))
theorem qwC(m:Mo)(j:Nat)(hj:j<4)(a b:Int)(i:Nat)(hi:i<4):iK (Ao (Mo.add m (xp (j+1) a))) j (.int .i64 (m.get (j+1)+b)) i=Ao (Mo.add m (xp (j+1) b)) i:=by
 unfold iK Ao;rw[gL,gL,dX _ _ _ (by omega) (by omega),dX _ _ _ (by omega) (by omega)]
 by_cases h:i=j
 ·subst h;simp
 ·rw[if_neg h,if_neg (by omega),if_neg (by omega)]
theorem qwB{w:World}{g:Nat}{t:TypeId}{m:Mo}(h:ak w g t 4 (Ao m)):w.cell? ⟨g,0,none⟩=some (.int .i64 m.a)/\w.cell? ⟨g,1,none⟩=some (.int .i64 m.b)/\w.cell? ⟨g,2,none⟩=some (.int .i64 m.c)/\w.cell? ⟨g,3,none⟩=some (.int .i64 m.d):=
 ⟨h.cell (by omega),h.cell (by omega),h.cell (by omega),h.cell (by omega)⟩
theorem qwA(m:Mo)(i:Nat)(hi:i<4):arr #[.int .i64 m.a,.int .i64 m.b,.int .i64 m.c,.int .i64 m.d] i=Ao m i:=by
 match i,hi with
 |0,_=>rfl
 |1,_=>rfl
 |2,_=>rfl
 |3,_=>rfl
def Room(d:Nat)(m:Mo):Prop:=∀k, -(4611686018427387904-(d:Int)*1099511627776)<=m.get k/\m.get k<=4611686018427387904-(d:Int)*1099511627776
def Ni(M:Nat->Prop)(base:Nat)(w:World)(v:Value)(l:List Tm)(e:Ending)(w':World):Prop:=
 ∃v' n' z' x',e=.returned v'/\ui M base w' v' n' z' x'/\dQ n' z' x'=l/\w.grownBy w' v.ownBlock/\(∀b,v'.ownBlock=some b->v.ownBlock=some b\/w.heap.size<=b)
def qeb(d:Nat):Prop:=∀(M:Nat->Prop)(base:Nat)(t:RT d)(c0 c1 c2 c3 v:Value)(n:Nat)(z:Nat->Int)(x:Nat->TE)(m:Mo)(w:World),base<=w.heap.size->RR (Mf M base) w d t c0 c1 c2 c3->ui M base w v n z x->
 n+(terms d t).length<=1099511627776->Room d m->Calls Tryz.prog 129 #[v,.agg #[c0,c1,c2,c3],kD m] w (Ni M base w v (dQ n z x++shift m (terms d t)))
theorem qAb(n:Nat)(z:Nat->Int)(x:Nat->TE)(c:Int)(t:TE):dQ (n+1) (λj=>if j=n then c else z j) (λj=>if j=n then t else x j)=dQ n z x++[(c,t.m)]:=by
 rw[qdH]
 congr 1
 ·unfold dQ;apply List.map_congr_left;intro i hi
  have:i≠n:=by simp at hi;omega
  simp[this]
 ·simp
theorem ui.kp{M:Nat->Prop}{base:Nat}{w w':World}{v:Value}{n:Nat}{z:Nat->Int}{x:Nat->TE}(h:ui M base w v n z x)(he:∀g,v.ownBlock=some g->w'.heap[g]?=w.heap[g]?)(hk:Kp (Mf M base) w w'):ui M base w' v n z x:=
 ⟨h.1.of_heap he,λi hi=>(h.2 i hi).kp hk⟩
theorem ui.ext{M:Nat->Prop}{base:Nat}{w w':World}{v:Value}{n:Nat}{z:Nat->Int}{x:Nat->TE}(h:ui M base w v n z x)(he:Ext w w'):ui M base w' v n z x:=⟨h.1.ext he,λi hi=>(h.2 i hi).ext he⟩
theorem qme{M:Nat->Prop}{base:Nat}{w w':World}{r:Option Nat}(hg:w.grownBy w' r)(hr:∀k,r=some k->base<=k):Kp (Mf M base) w w':=Kp.grown hg λk hk=>.inr (hr k hk)
theorem qta{w w1 w2:World}{r:Option Nat}(h:Ext w w1)(hg:w1.grownBy w2 r):w.grownBy w2 r:=OY (h.grownBy r) hg
theorem qhc(d:Nat)(M:Nat->Prop)(base:Nat)(t:RT (d+1))(c0 c1 c2 c3 v:Value)(n:Nat)(z:Nat->Int)(x:Nat->TE)(m:Mo)(w:World)(hbase:base<=w.heap.size)(h:RR (Mf M base) w (d+1) t c0 c1 c2 c3)(hR:ui M base w v n z x)
 (hL:n+(terms (d+1) t).length<=1099511627776) (hl:t.1<=0\/4<t.1):
 Calls Tryz.prog 129 #[v,.agg #[c0,c1,c2,c3],kD m] w (Ni M base w v (dQ n z x++shift m (terms (d+1) t))):=by
 obtain⟨i0,hi,hz0,hz1,hz2⟩:=info_parts Tryz.qcA;obtain⟨rfl,rfl,⟨a,p,rfl⟩,ka,kp,rfl⟩:=h.form;obtain⟨va,vc,rfl⟩:=hR.1.form;have wN:=h.2.1;have hE:Ext w ((w.alloc (.cells #[.int .i64 t.1,.bool t.2.1.neg,.slice a t.2.1.n p,.slice ka t.2.2.1 kp] 33)).alloc (.cells #[.int .i64 m.a,.int .i64 m.b,.int .i64 m.c,.int .i64 m.d] 127)):=((Ext.refl w).alloc _).alloc _;rcases hl with hl|hl
 ·have HT:Hid (terms (d+1) t=[(t.2.1.val,Mo.zero)]):=vN hl
  have hlen:n+1<=1099511627776:=by rw[HT.out]at hL;simpa using hL
  have HI:Hid (dB (Mf M base) w (.bool t.2.1.neg) (.slice a t.2.1.n p) t.2.1.val):=h.2.2.1.eH;clear hL h;generalize terms (d+1) t=T at*;obtain⟨L,r,kn,bu⟩:=t;simp only at*;have hO:=hR.1.ext hE;have hs0:=hE.size;have pz:=hO.ext ((Ext.refl _).alloc (.cells #[.bool r.neg,.slice a r.n p,.int .i64 m.a,.int .i64 m.b,.int .i64 m.c,.int .i64 m.d] 129));have jO:=ak.bf ((w.alloc (.cells #[.int .i64 L,.bool r.neg,.slice a r.n p,.slice ka kn kp] 33)).alloc (.cells #[.int .i64 m.a,.int .i64 m.b,.int .i64 m.c,.int .i64 m.d] 127)) #[.bool r.neg,.slice a r.n p,.int .i64 m.a,.int .i64 m.b,.int .i64 m.c,.int .i64 m.d] 129 6 rfl;simp only[World.size_alloc]at jO;have yQ:Hid (∀j,j<6->(arr #[.bool r.neg,.slice a r.n p,.int .i64 m.a,.int .i64 m.b,.int .i64 m.c,.int .i64 m.d] j).oneCell'=true):=qm6 ⟨r.neg,a,r.n,p,m⟩;have HR:=Lib.hid hR;clear hR
  go_enter Tryz.func129,Tryz.ntmps129
  go_wp2_with (at_builtin;refine Ru _ rfl (.tmp 14) (.tmp 19) _ rfl base 129 i0 _ 6 64 Tryz.underlying71 hi hz0 hz1 hz2 rfl (by omega) (.slice va n vc) n (tx x) rfl pz (w.heap.size+1+1) 129 1 (arr #[.bool r.neg,.slice a r.n p,.int .i64 m.a,.int .i64 m.b,.int .i64 m.c,.int .i64 m.d]) rfl jO yQ.out ?s1 ?s2 ?s3 ?_)
  case s1=>unfold maxLen;omega
  case s2=>omega
  case s3=>simp;omega
  intro gg cap2 w2 jP dU hat Ew;have jl:=hE.alloc (.cells #[.bool r.neg,.slice a r.n p,.int .i64 m.a,.int .i64 m.b,.int .i64 m.c,.int .i64 m.d] 129);have zU:=qta jl dU;have aZ:=qme (M:=M) (base:=base) zU (λq hq=>(HR.out.1.lt q hq).1)
  have gM:Ni M base w (.slice va n vc) (dQ n z x++shift m T) (.returned (.slice (some ⟨gg,0,none⟩) (n+1) cap2)) w2:=by
   refine⟨_,n+1,λj=>if j=n then r.val else z j,λj=>if j=n then⟨r.neg,a,r.n,p,m⟩else x j,rfl,⟨jP.congr (λj hj=>qoz x n ⟨r.neg,a,r.n,p,m⟩ j hj),λi hi=>?_⟩,?_,zU,λb hb=>?_⟩
   ·by_cases lQ:i=n
    ·simp only[if_pos lQ];exact HI.out.kp aZ
    ·simp only[if_neg lQ];exact(HR.out.2 i (by omega)).kp aZ
   ·rw[qAb,HT.out];simp[shift,Mo.qdL]
   ·simp only[Value.ownBlock,Option.some.injEq]at hb;subst hb;rcases hat with h|h
    ·exact .inl h
    ·exact .inr (by omega)
  have xh:=Lib.hid gM;clear gM jP dU hat zU aZ pz jO;go_wp2;go_ret;exact xh.out
 ·have HT:Hid (terms (d+1) t=[]):=by show _=_;unfold terms;rw[if_neg (by omega),if_pos hl]
  clear hL h;generalize terms (d+1) t=T at*;obtain⟨L,r,kn,bu⟩:=t;simp only at*
  go_enter Tryz.func129,Tryz.ntmps129
  go_wp2;go_ret;exact⟨_,n,z,x,rfl,hR.ext hE,by rw[HT.out];simp[shift],hE.grownBy _,λb hb=>.inl hb⟩
theorem qyO(m:Mo)(L k:Nat)(P:Nat->List Tm):shift m (aJ L (k+1) P)=shift m (aJ L k P)++shift (Mo.add m (xp L (k:Int))) (P k):=by
 rw[fK,V8,qdr,Mo.TF m]
theorem qxN(L n k:Nat)(P:Nat->List Tm)(h:k<=n):(aJ L k P).length<=(aJ L n P).length:=by
 induction n with
 |zero=>have:k=0:=by omega
        subst this;exact Nat.le_refl _
 |succ n ih=>
  by_cases hk:k=n+1
  ·subst hk;exact Nat.le_refl _
  ·have:=ih (by omega);rw[fK,List.length_append];omega
theorem Room.bu{d:Nat}{m:Mo}(h:Room (d+1) m)(L k:Nat)(h1:1<=L)(h4:L<=4)(hk:k<=1099511627776):Room d (Mo.add m (xp L (k:Int))):=by
 intro j;have:=h j;rw[gL,dX L j _ h1 h4]
 have e:((d+1:Nat):Int)*1099511627776=(d:Int)*1099511627776+1099511627776:=by omega
 split<;>omega
theorem qrC(d:Nat)(ih:qeb d)(M:Nat->Prop)(base:Nat)(t:RT (d+1))(c0 c1 c2 c3 v:Value)(n:Nat)(z:Nat->Int)(x:Nat->TE)(m:Mo)(w:World)(hbase:base<=w.heap.size)(h:RR (Mf M base) w (d+1) t c0 c1 c2 c3)(hR:ui M base w v n z x)
 (hL:n+(terms (d+1) t).length<=1099511627776) (qlf:Room (d+1) m) (hl:1<=t.1/\t.1<=4):
 Calls Tryz.prog 129 #[v,.agg #[c0,c1,c2,c3],kD m] w (Ni M base w v (dQ n z x++shift m (terms (d+1) t))):=by
 obtain⟨rfl,rfl,⟨a,p,rfl⟩,ka,kp,rfl⟩:=h.form;obtain⟨va,vc,rfl⟩:=hR.1.form;have eu:=h.2.2.2.1;have HK:Hid (∀i,i<t.2.2.1->∃b off,ka=some ⟨b,off,none⟩/\t.2.2.1<=kp/\kp<=maxLen/\b<w.heap.size/\∃e0 e1 e2 e3,w.cell? ⟨b,off+i*4,none⟩=some e0/\w.cell? ⟨b,off+i*4+1,none⟩=some e1/\w.cell? ⟨b,off+i*4+2,none⟩=some e2/\w.cell? ⟨b,off+i*4+3,none⟩=some e3/\RR (Mf M base) w d (t.2.2.2 i) e0 e1 e2 e3):=λi hi=>h.kids i hi
 have HKb:Hid (∀b off,ka=some ⟨b,off,none⟩->0<t.2.2.1->b<base):=by
  intro b off lS h0;obtain⟨_,_,_,_,h4⟩:=h;rcases h4 with⟨_,h4⟩|⟨b',off',cap,hv,hn,hc,hb,hk⟩
  ·omega
  ·simp only[Value.slice.injEq]at hv;rw[hv.1]at lS;simp only[Option.some.injEq,Addr.mk.injEq]at lS;obtain⟨rfl,rfl,_⟩:=lS;rcases Nat.lt_or_ge b' base with hlt|iZ
   ·exact hlt
   ·exact absurd (.inr iZ) hb.2
 have HT:Hid (terms (d+1) t=aJ t.1.toNat t.2.2.1 (λi=>terms d (t.2.2.2 i))):=yC hl.1 hl.2
 have qpJ:Hid (n+(aJ t.1.toNat t.2.2.1 (λi=>terms d (t.2.2.2 i))).length<=1099511627776):=by show _<=_;rw[<-HT.out];exact hL
 have qfz:=Lib.hid qlf;clear hL h qlf;generalize terms (d+1) t=T at*;obtain⟨L,r,kn,bu⟩:=t;simp only at*;obtain⟨j,hj⟩:∃j:Nat,L=(j:Int)+1:=⟨(L-1).toNat,by omega⟩;subst hj
 have Ep:j<4:=by omega
 have HTJ:Hid (((j:Int)+1).toNat=j+1):=by show _=_;omega
 have hE:Ext w ((w.alloc (.cells #[.int .i64 ((j:Int)+1),.bool r.neg,.slice a r.n p,.slice ka kn kp] 33)).alloc (.cells #[.int .i64 m.a,.int .i64 m.b,.int .i64 m.c,.int .i64 m.d] 127)):=((Ext.refl w).alloc _).alloc _;have Ut:=(ak.bf (w.alloc (.cells #[.int .i64 ((j:Int)+1),.bool r.neg,.slice a r.n p,.slice ka kn kp] 33)) #[.int .i64 m.a,.int .i64 m.b,.int .i64 m.c,.int .i64 m.d] 127 4 rfl).congr (f':=Ao m) (λi hi=>qwA m i hi);simp only[World.size_alloc]at Ut;have qis:=(ak.bf w #[.int .i64 ((j:Int)+1),.bool r.neg,.slice a r.n p,.slice ka kn kp] 33 4 rfl).alloc (.cells #[.int .i64 m.a,.int .i64 m.b,.int .i64 m.c,.int .i64 m.d] 127);have st0:=Ut.cell (i:=j) (by omega);simp only[Ao]at st0;have lj0:(0:Int)<=(j:Int):=Int.natCast_nonneg _
 have lj1:(j:Int)<4:=by omega
 have GA:=qfz.out (j+1)
 have wR:((d+1:Nat):Int)*1099511627776=(d:Int)*1099511627776+1099511627776:=by omega
 have hr3:(0:Int)<=(d:Int)*1099511627776:=by omega
 have hr4: -4611686018427387904<=m.get (j+1):=by omega
 have hr5:m.get (j+1)+1099511627776<=4611686018427387904:=by omega
 clear GA wR hr3;have dc1:decide ((j:Int)+1<=0)=false:=decide_eq_false (by omega);have dc2:decide (4<(j:Int)+1)=false:=decide_eq_false (by omega);have Jv:∀b,Value.ownBlock (.slice va n vc)=some b->base<=b/\b<w.heap.size:=λb hb=>hR.1.lt b hb;have yU:=Lib.hid Jv;clear Jv
 go_enter Tryz.func129,Tryz.ntmps129
 go_wp2
 go_loopw [34,0] (λi tv wr=>∃(k n2:Nat)(z2:Nat->Int)(x2:Nat->TE)(q:Int),k<=kn/\i=.int .i64 k/\ui M base wr tv n2 z2 x2/\Hid (dQ n2 z2 x2=dQ n z x++shift m (aJ (j+1) k (λi=>terms d (bu i))))/\ak wr (w.heap.size+1) 127 4 (Ao (Mo.add m (xp (j+1) q)))/\
  ak wr w.heap.size 33 4 (arr #[.int .i64 ((j:Int)+1),.bool r.neg,.slice a r.n p,.slice ka kn kp])/\w.grownBy wr (Value.ownBlock (.slice va n vc))/\Hid (∀b,tv.ownBlock=some b->Value.ownBlock (.slice va n vc)=some b\/w.heap.size+2<=b)) (λi _ _=>kn-(intOf i).toNat)
 case atStart=>
  refine⟨0,n,z,x,0,Nat.zero_le _,rfl,hR.ext hE,by show _=_;simp[EO,shift],Ut.congr (λi hi=>?_),qis,hE.grownBy _,λb hb=>.inl hb⟩;unfold Ao;rw[gL,dX _ _ _ (by omega) (by omega)];split<;>simp
 case round=>
  clear Ut qis st0;obtain⟨k,n2,z2,x2,q,hk,rfl,Eb,ow,FT,hBp,iI,fH⟩:=hrel;obtain⟨Wx,Wy,rfl⟩:=Eb.1.form;have b0:=hBp.cell (i:=0) (by omega);simp only[arr]at b0;have s0:=FT.cell (i:=j) (by omega);have s1:=FT.frozen j;have hls:=FT.lt;have qB7:=hBp.lt
  by_cases hlt:k<kn
  ·obtain⟨b,off,rfl,Ch,hkm,hb,e0,e1,e2,e3,y0,y1,y2,y3,uB⟩:=HK.out k hlt;have LP:b<base:=HKb.out b off rfl (by omega);have qkE:Kp (Mf M base) w wr:=qme iI (λq hq=>(yU.out q hq).1);have hcell:∀o,wr.cell? ⟨b,o,none⟩=w.cell? ⟨b,o,none⟩:=λo=>World.cell?_of_block (w:=w) (iI.block b hb (λe=>by have:=(yU.out b e.symm).1;omega));rw[<-hcell]at y0 y1 y2 y3;clear hcell
   have iH:b<wr.heap.size:=by have:=iI.size;omega
   have qjj:=RR.kp qkE uB
   cases d with
   |zero=>exact uB.elim
   |succ d=>
   obtain⟨rfl,rfl,⟨a2,p2,rfl⟩,iU,iV,rfl⟩:=uB.form;have ou:=Lib.hid qjj;clear uB qjj
   have hkk:(k:Int)<=1099511627776:=by omega
   have ig:Ext (wr.setCell ⟨w.heap.size+1,j,none⟩ (.int .i64 (m.get (j+1)+(k:Int)))) ((wr.setCell ⟨w.heap.size+1,j,none⟩ (.int .i64 (m.get (j+1)+(k:Int)))).alloc (.cells #[.int .i64 (bu k).1,.bool (bu k).2.1.neg,.slice a2 (bu k).2.1.n p2,.slice iU (bu k).2.2.1 iV] 33)):=(Ext.refl _).alloc _;have LA:Kp (Mf M base) wr (wr.setCell ⟨w.heap.size+1,j,none⟩ (.int .i64 (m.get (j+1)+(k:Int)))):=Kp.set _ _ (.inr (by simp;omega)) _;have qaE:=((FT.set j (.int .i64 (m.get (j+1)+(k:Int)))).congr (f':=Ao (Mo.add m (xp (j+1) (k:Int)))) (λi hi=>qwC m j Ep q k i hi)).ext ig;obtain⟨m0,m1,m2,m3⟩:=qwB qaE;have qit:=(hBp.uI (p:=⟨w.heap.size+1,j,none⟩) (by simp) (.int .i64 (m.get (j+1)+(k:Int)))).ext ig;have qel:=Lib.hid qaE;have qen:=Lib.hid qit
   have jQ:w.grownBy ((wr.setCell ⟨w.heap.size+1,j,none⟩ (.int .i64 (m.get (j+1)+(k:Int)))).alloc (.cells #[.int .i64 (bu k).1,.bool (bu k).2.1.neg,.slice a2 (bu k).2.1.n p2,.slice iU (bu k).2.2.1 iV] 33)) (Value.ownBlock (.slice va n vc)):=by
    refine OY ?_ (ig.grownBy _);exact⟨iI.os,iI.tape,iI.output,by have:=iI.size;simpa[World.setCell]using this,λb hb hne=>(Below.heap_setCell _ _ _ _ (by show b≠w.heap.size+1;omega)).trans (iI.block b hb hne)⟩
   have LH:ui M base ((wr.setCell ⟨w.heap.size+1,j,none⟩ (.int .i64 (m.get (j+1)+(k:Int)))).alloc (.cells #[.int .i64 (bu k).1,.bool (bu k).2.1.neg,.slice a2 (bu k).2.1.n p2,.slice iU (bu k).2.2.1 iV] 33)) (.slice Wx n2 Wy) n2 z2 x2:=by
    refine(Eb.kp (λg hg=>Below.heap_setCell _ _ _ _ ?_) LA).ext ig;show g≠w.heap.size+1;rcases fH.out g hg with hh|hh
    ·have:=(yU.out g hh).2;omega
    ·omega
   have qjk:RR (Mf M base) ((wr.setCell ⟨w.heap.size+1,j,none⟩ (.int .i64 (m.get (j+1)+(k:Int)))).alloc (.cells #[.int .i64 (bu k).1,.bool (bu k).2.1.neg,.slice a2 (bu k).2.1.n p2,.slice iU (bu k).2.2.1 iV] 33)) (d+1) (bu k) _ _ _ _:=(RR.kp LA ou.out).ext ig
   have QF:=ih M base (bu k) _ _ _ _ (.slice Wx n2 Wy) n2 z2 x2 (Mo.add m (xp (j+1) (k:Int))) _ (by have:=jQ.size;exact Nat.le_trans hbase this) qjk LH (by
    have h1:=qpJ.out;rw[HTJ.out]at h1;have h2:=qxN (j+1) kn (k+1) (λi=>terms (d+1) (bu i)) (by omega);rw[fK,List.length_append]at h2
    have h3:n2=n+(aJ (j+1) k (λi=>terms (d+1) (bu i))).length:=by
     have:=congrArg List.length ow.out;rw[Rx,List.length_append,Rx]at this;simpa[shift]using this
    have h4:(shift (xp (j+1) (k:Int)) (terms (d+1) (bu k))).length=(terms (d+1) (bu k)).length:=by simp[shift]
    omega) (qfz.out.bu (j+1) k (by omega) (by omega) (by omega))
   have Iw:=Lib.hid QF;have IY:=ak.bf (wr.setCell ⟨w.heap.size+1,j,none⟩ (.int .i64 (m.get (j+1)+(k:Int)))) #[.int .i64 (bu k).1,.bool (bu k).2.1.neg,.slice a2 (bu k).2.1.n p2,.slice iU (bu k).2.2.1 iV] 33 4 rfl;simp only[World.size_setCell]at IY;have o0:=IY.cell (i:=0) (by omega);have o1:=IY.cell (i:=1) (by omega);have o2:=IY.cell (i:=2) (by omega);have o3:=IY.cell (i:=3) (by omega);simp only[arr]at o0 o1 o2 o3;have uN:=Lib.hid jQ;have qvx:=IY.lt;generalize qo:(wr.setCell ⟨w.heap.size+1,j,none⟩ (.int .i64 (m.get (j+1)+(k:Int)))).alloc (.cells #[.int .i64 (bu k).1,.bool (bu k).2.1.neg,.slice a2 (bu k).2.1.n p2,.slice iU (bu k).2.2.1 iV] 33)=W3 at m0 m1 m2 m3 o0 o1 o2 o3 uN qel qen Iw qvx;have Bh:=Lib.hid qo;clear QF qjk qaE qit IY jQ LH qo ig LA
   go_upto_region 10 with(fail)
   rw[Bh.out];go_wp2_with (fail);refine(Iw.out).mono ?_;rintro e w4 ⟨v4,n4,z4,x4,rfl,hR4,hx4,l5,wF⟩;obtain⟨va4,vc4,rfl⟩:=hR4.1.form
   have HF:Hid (∃(k2 n2:Nat)(z2:Nat->Int)(x2:Nat->TE)(q:Int),k2<=kn/\Value.int .i64 ((k:Int)+1)=.int .i64 k2/\ui M base w4 (.slice va4 n4 vc4) n2 z2 x2/\Hid (dQ n2 z2 x2=dQ n z x++shift m (aJ (j+1) k2 (λi=>terms (d+1) (bu i))))/\ak w4 (w.heap.size+1) 127 4 (Ao (Mo.add m (xp (j+1) q)))/\
    ak w4 w.heap.size 33 4 (arr #[.int .i64 ((j:Int)+1),.bool r.neg,.slice a r.n p,.slice (some ⟨b,off,none⟩) kn kp])/\w.grownBy w4 (Value.ownBlock (.slice va n vc))/\Hid (∀b,Value.ownBlock (.slice va4 n4 vc4)=some b->Value.ownBlock (.slice va n vc)=some b\/w.heap.size+2<=b)):=by
    have hsz:=uN.out.size
    have U6:∀b,b<w.heap.size+2->w.heap.size<=b->(some b:Option Nat)≠Value.ownBlock (.slice Wx n2 Wy):=by
     intro b h1 h2 e;rcases fH.out b e.symm with hh|hh
     ·have:=(yU.out b hh).2;omega
     ·omega
    refine⟨k+1,n4,z4,x4,k,by omega,by simp,hR4,?_,qel.out.of_heap (l5.block _ (by omega) (U6 _ (by omega) (by omega))),qen.out.of_heap (l5.block _ (by omega) (U6 _ (by omega) (by omega))),?_,?_⟩
    ·show _=_;rw[hx4,ow.out,qyO,List.append_assoc]
    ·have h3:=uN.out;refine⟨l5.os.trans h3.os,l5.tape.trans h3.tape,l5.output.trans h3.output,Nat.le_trans h3.size l5.size,λb hb hne=>(l5.block b (by omega) (λe=>?_)).trans (h3.block b hb hne)⟩;rcases fH.out b e.symm with hh|hh
     ·exact hne hh.symm
     ·omega
    ·intro b hb;rcases wF b hb with hh|hh
     ·exact fH.out b hh
     ·exact .inr (by omega)
   clear hR4 hx4 l5 wF;go_wp2
   go_roundw
   case rel=>exact HF.out
   case measure=>simp[intOf];omega
  ·have hkn:k=kn:=by omega
   subst hkn
   have HF:Hid (Ni M base w (.slice va n vc) (dQ n z x++shift m T) (.returned (.slice Wx n2 Wy)) wr):=by
    refine⟨_,n2,z2,x2,rfl,Eb,?_,iI,λb hb=>?_⟩
    ·rw[ow.out,HT.out,HTJ.out]
    ·rcases fH.out b hb with hh|hh
     ·exact .inl hh
     ·exact .inr (by omega)
   go_wp2;go_ret;exact HF.out
theorem qnV:∀d,qeb d
 |0=>λ_ _ _ _ _ _ _ _ _ _ _ _ _ _ h=>h.elim
 |d+1=>λM base t c0 c1 c2 c3 v n z x m w hb h hR hL hm=>by
  rcases Int.lt_or_le t.1 1 with h1|h1
  ·exact qhc d M base t c0 c1 c2 c3 v n z x m w hb h hR hL (.inl (by omega))
  ·rcases Int.lt_or_le 4 t.1 with h4|h4
   ·exact qhc d M base t c0 c1 c2 c3 v n z x m w hb h hR hL (.inr h4)
   ·exact qrC d (qnV d) M base t c0 c1 c2 c3 v n z x m w hb h hR hL hm ⟨h1,h4⟩
def BG:(d:Nat)->RT d
 |0=>()
 |d+1=>(0,⟨false,0,λ_=>0⟩,0,λ_=>BG d)
def sV(d:Nat)(lv:Int)(r:gU)(n:Nat)(bu:Nat->RT d):RT (d+1):=(lv,r,n,bu)
theorem ZQ(d:Nat)(r:gU)(bu:Nat->RT d)(lv:Int)(h0:lv=0)(hc:r.can=true):fC (d+1) (sV d lv r 0 bu)=true:=by
 rw[Vp,if_pos (show(sV d lv r 0 bu).1=0 from h0)];show(((0:Nat)==0)&&r.can)=true;simp[hc]
theorem Wn(d:Nat)(r:gU)(bu:Nat->RT d)(lv:Int)(h0:lv<=0):terms (d+1) (sV d lv r 0 bu)=[(r.val,Mo.zero)]:=vN h0
theorem Rm(d:Nat)(r:gU)(n:Nat)(bu:Nat->RT d)(lv:Int)(h1:1<=lv)(h4:lv<=4):terms (d+1) (sV d lv r n bu)=aJ lv.toNat n (λi=>terms d (bu i)):=yC h1 h4
theorem pick{α:Type}(dft:α){n:Nat}{Q:Nat->α->Prop}(h:∀i,i<n->∃a,Q i a):∃f:Nat->α,∀i,i<n->Q i (f i):=by
 classical
 refine⟨λi=>if hi:i<n then Classical.choose (h i hi)else dft,λi hi=>?_⟩;simp only[dif_pos hi];exact Classical.choose_spec (h i hi)
theorem ql0{d:Nat}{t:RT (d+1)}(h1:1<=t.1/\t.1<=4)(hn:t.2.1.n=0)(hb:t.2.1.neg=false)(h2:2<=t.2.2.1)(hk:∀i,i<t.2.2.1->kR d (t.2.2.2 i)<t.1/\fC d (t.2.2.2 i)=true)(hz:qU d (t.2.2.2 (t.2.2.1-1))=false):fC (d+1) t=true:=by
 rw[Vp,if_neg (by omega)];simp only[Bool.and_eq_true,decide_eq_true_eq,List.all_eq_true,List.mem_range,Bool.not_eq_true',gU.blank,beq_iff_eq];exact⟨h1,⟨hn,hb⟩,h2,hk,hz⟩
theorem VQ(L n:Nat)(P Q:Nat->List Tm)(h:∀i,i<n->P i=Q i):aJ L n P=aJ L n Q:=by
 induction n with
 |zero=>rfl
 |succ n ih=>rw[fK,fK,ih λi hi=>h i (by omega),h n (by omega)]
theorem qdk{M:Nat->Prop}{w:World}:∀(D:Nat){d:Nat}{t:RT d}{c0 c1 c2 c3:Value},RR M w d t c0 c1 c2 c3->fC d t=true->kR d t<=D->∃u:RT (D+1),RR M w (D+1) u c0 c1 c2 c3/\fC (D+1) u=true/\kR (D+1) u=kR d t/\terms (D+1) u=terms d t/\qU (D+1) u=qU d t:=by
 intro D
 induction D with
 |zero=>
  intro d t c0 c1 c2 c3 h hc hl
  cases d with
  |zero=>exact h.elim
  |succ d=>
  have hl0:t.1=0:=by have:=FM hc;have:t.1<=(0:Nat):=hl;omega
  obtain⟨hk,fD⟩:=FL hc hl0;obtain⟨g0,g1,g2,g3,g4⟩:=h;refine⟨sV _ t.1 t.2.1 0 (λ_=>BG _),⟨g0,g1,g2,Nat.zero_le _,?_⟩,?_,rfl,?_,rfl⟩
  ·rcases g4 with⟨g4,_⟩|⟨b,off,cap,hv,hn,wI,hb,_⟩
   ·exact .inl ⟨g4,rfl⟩
   ·rw[hk]at hv hn;exact .inr ⟨b,off,cap,hv,Nat.zero_le _,wI,hb,λi hi=>absurd hi (Nat.not_lt_zero _)⟩
  ·exact ZQ _ _ _ _ hl0 fD
  ·exact(Wn _ _ _ _ (by omega)).trans (vN (by omega)).symm
 |succ D ih=>
  intro d t c0 c1 c2 c3 h hc hl
  cases d with
  |zero=>exact h.elim
  |succ d=>
  by_cases hl0:t.1=0
  ·obtain⟨hk,fD⟩:=FL hc hl0;obtain⟨g0,g1,g2,g3,g4⟩:=h;refine⟨sV _ t.1 t.2.1 0 (λ_=>BG _),⟨g0,g1,g2,Nat.zero_le _,?_⟩,?_,rfl,?_,rfl⟩
   ·rcases g4 with⟨g4,_⟩|⟨b,off,cap,hv,hn,wI,hb,_⟩
    ·exact .inl ⟨g4,rfl⟩
    ·rw[hk]at hv hn;exact .inr ⟨b,off,cap,hv,Nat.zero_le _,wI,hb,λi hi=>absurd hi (Nat.not_lt_zero _)⟩
   ·exact ZQ _ _ _ _ hl0 fD
   ·exact(Wn _ _ _ _ (by omega)).trans (vN (by omega)).symm
  ·obtain⟨h1,iw,jZ,h2,h5,h6⟩:=wm hc hl0;obtain⟨g0,g1,g2,g3,g4⟩:=h;rcases g4 with⟨_,g4⟩|⟨b,off,cap,hv,hn,wI,hb,hk⟩
   ·omega
   obtain⟨bu,dh⟩:=pick (BG (D+1)) (n:=t.2.2.1) (Q:=λi u=>(∃e0 e1 e2 e3,w.cell? ⟨b,off+i*4,none⟩=some e0/\w.cell? ⟨b,off+i*4+1,none⟩=some e1/\w.cell? ⟨b,off+i*4+2,none⟩=some e2/\w.cell? ⟨b,off+i*4+3,none⟩=some e3/\RR M w (D+1) u e0 e1 e2 e3)/\fC (D+1) u=true/\kR (D+1) u=kR d (t.2.2.2 i)/\terms (D+1) u=terms d (t.2.2.2 i)/\qU (D+1) u=qU d (t.2.2.2 i)) (by
    intro i hi;obtain⟨e0,e1,e2,e3,x0,x1,x2,x3,hr⟩:=hk i hi;have hlk:=h5 i hi;have Ev:t.1<=((D+1:Nat):Int):=hl;obtain⟨u,k1,k2,k3,k4,k5⟩:=ih hr hlk.2 (by omega)
    exact⟨u,⟨e0,e1,e2,e3,x0,x1,x2,x3,k1⟩,k2,k3,k4,k5⟩)
   refine⟨sV _ t.1 t.2.1 t.2.2.1 bu,⟨g0,g1,g2,g3,.inr ⟨b,off,cap,hv,hn,wI,hb,λi hi=>(dh i hi).1⟩⟩,?_,rfl,?_,rfl⟩
   ·refine ql0 h1 iw jZ h2 (λi hi=>?_) ?_
    ·obtain⟨_,k2,k3,_⟩:=dh i hi;exact⟨by show kR (D+1) (bu i)<t.1;rw[k3];exact(h5 i hi).1,k2⟩
    ·exact(dh (t.2.2.1-1) (by omega)).2.2.2.2.trans h6
   ·refine(Rm _ _ _ _ _ h1.1 h1.2).trans (Eq.trans ?_ (yC h1.1 h1.2).symm);exact VQ _ _ _ _ λi hi=>(dh i hi).2.2.2.1
def CR(M:Nat->Prop)(w:World)(L:Nat)(c0 c1 c2 c3:Value)(l:List Tm):Prop:=
 ∃t:RT (L+1),RR M w (L+1) t c0 c1 c2 c3/\fC (L+1) t=true/\t.1<=L/\ae (terms (L+1) t) l
section
variable{M M':Nat->Prop}{w w':World}{L:Nat}{c0 c1 c2 c3:Value}{l r:List Tm}
theorem CR.kp(h:CR M w L c0 c1 c2 c3 l)(he:Kp M w w'):CR M w' L c0 c1 c2 c3 l:=by
 obtain⟨t,h1,h2⟩:=h;exact⟨t,RR.kp he h1,h2⟩
theorem CR.ext(h:CR M w L c0 c1 c2 c3 l)(he:Ext w w'):CR M w' L c0 c1 c2 c3 l:=h.kp (Kp.jC he)
theorem CR.more(h:CR M w L c0 c1 c2 c3 l)(hm:∀g,M' g->M g\/w.heap.size<=g):CR M' w L c0 c1 c2 c3 l:=by
 obtain⟨t,h1,h2⟩:=h;exact⟨t,RR.more hm h1,h2⟩
theorem CR.bZ(h:CR M w L c0 c1 c2 c3 l)(hs:ae l r):CR M w L c0 c1 c2 c3 r:=by
 obtain⟨t,h1,h2,h3,h4⟩:=h;exact⟨t,h1,h2,h3,h4.trans hs⟩
theorem CR.form(h:CR M w L c0 c1 c2 c3 l):∃lv b a n p ka kn kp,c0=.int .i64 lv/\c1=.bool b/\c2=.slice a n p/\c3=.slice ka kn kp/\0<=lv/\lv<=L/\lv<=4:=by
 obtain⟨t,h1,h2,h3,h4⟩:=h;obtain⟨rfl,rfl,⟨a,p,rfl⟩,ka,kp,rfl⟩:=h1.form;have:=FM h2;exact⟨_,_,_,_,_,_,_,_,rfl,rfl,rfl,rfl,this.1,h3,this.2⟩
end
theorem CR.MU{M:Nat->Prop}{w:World}{L D:Nat}{lv:Int}{c1 c2 c3:Value}{l:List Tm}(h:CR M w L (.int .i64 lv) c1 c2 c3 l)(hl:lv<=D):CR M w D (.int .i64 lv) c1 c2 c3 l:=by
 obtain⟨t,h1,h2,h3,h4⟩:=h
 have e:lv=t.1:=by have:=h1.1;simpa using this
 obtain⟨u,k1,k2,k3,k4,_⟩:=qdk D h1 h2 (by show t.1<=(D:Int);omega);have k3':u.1=t.1:=k3;exact⟨u,k1,k2,by omega,by rw[k4];exact h4⟩
theorem CR.up{M:Nat->Prop}{w:World}{L D:Nat}{c0 c1 c2 c3:Value}{l:List Tm}(h:CR M w L c0 c1 c2 c3 l)(hl:L<=D):CR M w D c0 c1 c2 c3 l:=by
 obtain⟨lv,b,a,n,p,ka,kn,kp,rfl,rfl,rfl,rfl,h0,h1,h2⟩:=h.form;exact h.MU (by omega)
theorem CR.const{M:Nat->Prop}{w:World}{c1 c2:Value}{z:Int}(h:dJ M w c1 c2 z)(L:Nat):CR M w L (.int .i64 0) c1 c2 (.slice none 0 0) [(z,Mo.zero)]:=by
 obtain⟨r,hr,hv,hc⟩:=h.raw;refine⟨sV _ 0 r 0 (λ_=>BG _),⟨rfl,by show-9223372036854775808<=(0:Int)/\(0:Int)<=9223372036854775807;omega,hr,Nat.zero_le _,.inl ⟨⟨none,0,rfl,Nat.zero_le _,λ_=>rfl⟩,rfl⟩⟩,ZQ _ _ _ _ rfl hc,by show(0:Int)<=_;omega,?_⟩;rw[Wn _ _ _ _ (by omega),hv];exact ae.refl _
theorem V9:ae [(0,Mo.zero)] []:=by intro m;simp[aB]
theorem MH(M:Nat->Prop)(w:World)(d:Nat->Nat):dK M w (.slice none 0 0) 0 d:=⟨Nat.zero_le _,λi hi=>absurd hi (Nat.not_lt_zero _),.inl ⟨rfl,none,0,rfl,Nat.zero_le _,λ_=>rfl⟩⟩
theorem qv1(M:Nat->Prop)(w:World):dJ M w (.bool false) (.slice none 0 0) 0:=⟨⟨0,λ_=>0,MH _ _ _,rfl,.inl rfl⟩,by simp⟩
theorem CR.zero(M:Nat->Prop)(w:World)(L:Nat):CR M w L (.int .i64 0) (.bool false) (.slice none 0 0) (.slice none 0 0) []:=(CR.const (qv1 M w) L).bZ V9
theorem CR.QJ{M:Nat->Prop}{w:World}{L:Nat}{lv:Int}{b:Bool}{a:Option Addr}{n p:Nat}{c3:Value}{l:List Tm}(h:CR M w L (.int .i64 lv) (.bool b) (.slice a n p) c3 l):mM lv n=true↔ae l []:=by
 obtain⟨t,h1,h2,h3,h4⟩:=h;have ho:=h1.ok
 have e:lv=t.1:=by have:=h1.1;simpa using this
 have e2:n=t.2.1.n:=by
  obtain⟨_,_,⟨a',p',h⟩,_⟩:=h1.form;simp only[Value.slice.injEq]at h;exact h.2.1
 have hz:mM lv n=qU (L+1) t:=by rw[e,e2];rfl
 rw[hz];constructor
 ·intro hh;exact h4.symm.trans (ql1 h2 hh)
 ·intro hh;cases hc:qU (L+1) t
  ·obtain⟨m,hm⟩:=y7 _ t h2 ho hc;exact absurd ((h4 m).trans (hh m)) hm
  ·rfl
def uh(M:Nat->Prop)(w:World)(L b o:Nat)(l:List Tm):Prop:=∃e0 e1 e2 e3,w.cell? ⟨b,o,none⟩=some e0/\w.cell? ⟨b,o+1,none⟩=some e1/\w.cell? ⟨b,o+2,none⟩=some e2/\w.cell? ⟨b,o+3,none⟩=some e3/\CR M w L e0 e1 e2 e3 l
theorem CR.node{M:Nat->Prop}{w:World}{D b off n cap:Nat}{P:Nat->List Tm}(hD:D+1<=4)(hn:2<=n)(hL:n<=1099511627776)(hc:n<=cap)(hm:cap<=maxLen)(hb:b<w.heap.size)(hM:¬M b)(hk:∀i,i<n->uh M w D b (off+i*4) (P i))(hz:¬ae (P (n-1)) []):
 CR M w (D+1) (.int .i64 ((D:Int)+1)) (.bool false) (.slice none 0 0) (.slice (some ⟨b,off,none⟩) n cap) (aJ (D+1) n P):=by
 obtain⟨bu,dh⟩:=pick (BG (D+1)) (n:=n) (Q:=λi u=>(∃e0 e1 e2 e3,w.cell? ⟨b,off+i*4,none⟩=some e0/\w.cell? ⟨b,off+i*4+1,none⟩=some e1/\w.cell? ⟨b,off+i*4+2,none⟩=some e2/\w.cell? ⟨b,off+i*4+3,none⟩=some e3/\RR M w (D+1) u e0 e1 e2 e3)/\fC (D+1) u=true/\u.1<=D/\ae (terms (D+1) u) (P i)) (by
  intro i hi;obtain⟨e0,e1,e2,e3,x0,x1,x2,x3,t,h1,h2,h3,h4⟩:=hk i hi
  exact⟨t,⟨e0,e1,e2,e3,x0,x1,x2,x3,h1⟩,h2,h3,h4⟩)
 refine⟨sV _ ((D:Int)+1) ⟨false,0,λ_=>0⟩ n bu,⟨rfl,by show-9223372036854775808<=(D:Int)+1/\(D:Int)+1<=9223372036854775807;omega,⟨rfl,MH _ _ _⟩,hL,.inr ⟨b,off,cap,rfl,hc,hm,⟨hb,hM⟩,λi hi=>(dh i hi).1⟩⟩,?_,by show(D:Int)+1<=_;omega,?_⟩
 ·refine ql0 (by show 1<=(D:Int)+1/\(D:Int)+1<=4;omega) rfl rfl hn (λi hi=>⟨?_,(dh i hi).2.1⟩) ?_
  ·show(bu i).1<(D:Int)+1;have:=(dh i hi).2.2.1;omega
  ·show qU (D+1) (bu (n-1))=false;cases hc:qU (D+1) (bu (n-1))
   ·rfl
   ·exact absurd ((dh (n-1) (by omega)).2.2.2.symm.trans (ql1 (dh (n-1) (by omega)).2.1 hc)) hz
 ·rw[Rm _ _ _ _ _ (by omega) (by omega)];rw[show((D:Int)+1).toNat=D+1 by omega];exact sZ _ _ _ _ λi hi=>(dh i hi).2.2.2
theorem CR.Lb{M:Nat->Prop}{w:World}{L:Nat}{c1 c2 c3:Value}{l:List Tm}(h:CR M w L (.int .i64 0) c1 c2 c3 l):∃z,dJ M w c1 c2 z/\ae [(z,Mo.zero)] l/\z.natAbs<=aC l/\∃a p,c3=.slice a 0 p:=by
 obtain⟨t,h1,h2,h3,h4⟩:=h
 have e:0=t.1:=by have:=h1.1;simpa using this
 obtain⟨g1,g2⟩:=FL h2 e.symm;have hn:=OE h2 h4;rw[vN (by omega)]at h4 hn;obtain⟨_,_,_,ka,kp,hk⟩:=h1.form;refine⟨t.2.1.val,h1.2.2.1.qq6 g2,h4,by simpa[aC]using hn,ka,kp,?_⟩;rw[hk,g1]
theorem CR.GX{M:Nat->Prop}{w:World}{L:Nat}{lv:Int}{c1 c2 c3:Value}{l:List Tm}(h:CR M w L (.int .i64 lv) c1 c2 c3 l)(hl:lv≠0):
 ∃(D:Nat),lv=(D:Int)+1/\D+1<=4/\D+1<=L/\∃a p b off n cap P,c1=.bool false/\c2=.slice a 0 p/\c3=.slice (some ⟨b,off,none⟩) n cap/\2<=n/\n<=1099511627776/\n<=cap/\cap<=maxLen/\b<w.heap.size/\¬M b/\(∀i,i<n->uh M w D b (off+i*4) (P i))/\(∀i,i<n->dN D (P i))/\¬ae (P (n-1)) []/\ae (aJ (D+1) n P) l/\aC (aJ (D+1) n P)<=aC l:=by
 obtain⟨t,h1,h2,h3,h4⟩:=h;have ho:=h1.ok
 have e:lv=t.1:=by have:=h1.1;simpa using this
 obtain⟨g1,g2,g3,g4,g5,g6⟩:=wm h2 (by omega);obtain⟨D,hD⟩:∃D:Nat,lv=(D:Int)+1:=⟨(lv-1).toNat,by omega⟩;have hn:=OE h2 h4;rw[yC g1.1 g1.2,show t.1.toNat=D+1 by omega]at h4 hn;obtain⟨k0,k1,k2,k3,k4⟩:=h1;rcases k4 with⟨_,k4⟩|⟨b,off,cap,hv,kP,wI,hb,hk⟩
 ·omega
 obtain⟨a,p,hap⟩:=kE k2.2;refine⟨D,hD,by omega,by omega,a,p,b,off,t.2.2.1,cap,λi=>terms L (t.2.2.2 i),by rw[k2.1,g3],by rw[hap,g2],hv,g4,k3,kP,wI,hb.1,hb.2,λi hi=>?_,λi hi=>?_,?_,h4,hn⟩
 ·obtain⟨e0,e1,e2,e3,x0,x1,x2,x3,hr⟩:=hk i hi;obtain⟨u,u1,u2,u3,u4,_⟩:=qdk D hr (g5 i hi).2 (by have:=(g5 i hi).1;omega);refine⟨e0,e1,e2,e3,x0,x1,x2,x3,u,u1,u2,?_,by rw[u4];exact ae.refl _⟩;have u3':u.1=kR L (t.2.2.2 i):=u3;have:=(g5 i hi).1;omega
 ·have:=wV h2 (by omega) i hi
  rwa[show t.1.toNat-1=D by omega]at this
 ·intro hs
  cases L with
  |zero=>omega
  |succ L=>
  obtain⟨m,hm⟩:=y7 _ _ (g5 (t.2.2.1-1) (by omega)).2 (ho.2 _ (by omega)) g6;exact hm (hs m)
def wZ(f:Nat->Value)(o:Nat)(e0 e1 e2 e3:Value):Nat->Value:=iK (iK (iK (iK f o e0) (o+1) e1) (o+2) e2) (o+3) e3
theorem Cy(f:Nat->Value)(o:Nat)(e0 e1 e2 e3:Value):wZ f o e0 e1 e2 e3 o=e0:=by simp[wZ,iK]
theorem Cz(f:Nat->Value)(o:Nat)(e0 e1 e2 e3:Value):wZ f o e0 e1 e2 e3 (o+1)=e1:=by simp[wZ,iK]
theorem CB(f:Nat->Value)(o:Nat)(e0 e1 e2 e3:Value):wZ f o e0 e1 e2 e3 (o+2)=e2:=by simp[wZ,iK]
theorem CV(f:Nat->Value)(o:Nat)(e0 e1 e2 e3:Value):wZ f o e0 e1 e2 e3 (o+3)=e3:=by simp[wZ,iK]
theorem rZ(f:Nat->Value)(o:Nat)(e0 e1 e2 e3:Value)(i:Nat)(h:i<o\/o+4<=i):wZ f o e0 e1 e2 e3 i=f i:=by
 unfold wZ iK;rw[if_neg (by omega),if_neg (by omega),if_neg (by omega),if_neg (by omega)]
def aH(w:World)(g o:Nat)(e0 e1 e2 e3:Value):World:=(((w.setCell ⟨g,o,none⟩ e0).setCell ⟨g,o+1,none⟩ e1).setCell ⟨g,o+2,none⟩ e2).setCell ⟨g,o+3,none⟩ e3
theorem ak.aH{w:World}{g:Nat}{t:TypeId}{n:Nat}{f:Nat->Value}(h:ak w g t n f)(o:Nat)(e0 e1 e2 e3:Value):ak (Go.Proofs.YtmcfpnmoklnhoaaGreat.aH w g o e0 e1 e2 e3) g t n (wZ f o e0 e1 e2 e3):=(((h.set o e0).set (o+1) e1).set (o+2) e2).set (o+3) e3
theorem Kp.aH{M:Nat->Prop}{w:World}{g:Nat}(hg:M g)(o:Nat)(e0 e1 e2 e3:Value):Kp M w (Go.Proofs.YtmcfpnmoklnhoaaGreat.aH w g o e0 e1 e2 e3):=(((Kp.set M w (p:=⟨g,o,none⟩) hg e0).trans (Kp.set M _ (p:=⟨g,o+1,none⟩) hg e1)).trans (Kp.set M _ (p:=⟨g,o+2,none⟩) hg e2)).trans (Kp.set M _ (p:=⟨g,o+3,none⟩) hg e3)
theorem Ext.aH{a w:World}(h:Ext a w){g:Nat}(hg:a.heap.size<=g)(o:Nat)(e0 e1 e2 e3:Value):Ext a (Go.Proofs.YtmcfpnmoklnhoaaGreat.aH w g o e0 e1 e2 e3):=(((h.set (p:=⟨g,o,none⟩) hg e0).set (p:=⟨g,o+1,none⟩) hg e1).set (p:=⟨g,o+2,none⟩) hg e2).set (p:=⟨g,o+3,none⟩) hg e3
theorem lU(w:World)(g o:Nat)(e0 e1 e2 e3:Value):(aH w g o e0 e1 e2 e3).heap.size=w.heap.size:=by simp[aH]
theorem il(w:World)(g o:Nat)(e0 e1 e2 e3:Value)(b:Nat)(hb:b≠g):(aH w g o e0 e1 e2 e3).heap[b]?=w.heap[b]?:=by
 unfold aH;rw[Below.heap_setCell _ _ _ _ hb,Below.heap_setCell _ _ _ _ hb,Below.heap_setCell _ _ _ _ hb,Below.heap_setCell _ _ _ _ hb]
theorem BI{M':Nat->Prop}{w W:World}{g:Nat}{t:TypeId}{f:Nat->Value}(e0 e1 e2 e3:Value)(hB:ak W g t 4 f)(hg:M' g)(hw:w.heap.size<=g)(he:Ext w W):
 (W.cell? ⟨g,0,none⟩=some (f 0)/\W.cell? ⟨g,1,none⟩=some (f 1)/\W.cell? ⟨g,2,none⟩=some (f 2)/\W.cell? ⟨g,3,none⟩=some (f 3))/\
 (W.frozen? ⟨g,0,none⟩=false/\W.frozen? ⟨g,1,none⟩=false/\W.frozen? ⟨g,2,none⟩=false/\W.frozen? ⟨g,3,none⟩=false)/\
 ((aH W g 0 e0 e1 e2 e3).cell? ⟨g,0,none⟩=some e0/\(aH W g 0 e0 e1 e2 e3).cell? ⟨g,1,none⟩=some e1/\(aH W g 0 e0 e1 e2 e3).cell? ⟨g,2,none⟩=some e2/\(aH W g 0 e0 e1 e2 e3).cell? ⟨g,3,none⟩=some e3)/\
 Kp M' W (aH W g 0 e0 e1 e2 e3)/\Ext w (aH W g 0 e0 e1 e2 e3):=by
 have jK:=hB.aH 0 e0 e1 e2 e3;refine⟨⟨hB.cell (by omega),hB.cell (by omega),hB.cell (by omega),hB.cell (by omega)⟩,⟨hB.frozen 0,hB.frozen 1,hB.frozen 2,hB.frozen 3⟩,⟨?_,?_,?_,?_⟩,Kp.aH hg _ _ _ _ _,he.aH hw _ _ _ _ _⟩
 ·rw[jK.cell (i:=0) (by omega)];exact congrArg some (Cy f 0 e0 e1 e2 e3)
 ·rw[jK.cell (i:=1) (by omega)];exact congrArg some (Cz f 0 e0 e1 e2 e3)
 ·rw[jK.cell (i:=2) (by omega)];exact congrArg some (CB f 0 e0 e1 e2 e3)
 ·rw[jK.cell (i:=3) (by omega)];exact congrArg some (CV f 0 e0 e1 e2 e3)
def Kids(M:Nat->Prop)(w:World)(D g N:Nat)(P:Nat->List Tm):Prop:=∃f,ak w g 33 (N*4) f/\∀i,i<N->CR M w D (f (i*4)) (f (i*4+1)) (f (i*4+2)) (f (i*4+3)) (P i)
theorem Kids.kp{M:Nat->Prop}{w w':World}{D g N:Nat}{P:Nat->List Tm}(h:Kids M w D g N P)(hg:w'.heap[g]?=w.heap[g]?)(hk:Kp M w w'):Kids M w' D g N P:=by
 obtain⟨f,h1,h2⟩:=h;exact⟨f,h1.of_heap hg,λi hi=>(h2 i hi).kp hk⟩
theorem Kids.ext{M:Nat->Prop}{w w':World}{D g N:Nat}{P:Nat->List Tm}(h:Kids M w D g N P)(he:Ext w w'):Kids M w' D g N P:=by
 obtain⟨f,h1,h2⟩:=h;exact⟨f,h1.ext he,λi hi=>(h2 i hi).ext he⟩
theorem Kids.bu{M M':Nat->Prop}{w:World}{D g N:Nat}{P:Nat->List Tm}(h:Kids M w D g N P)(hm:∀g,M' g->M g\/w.heap.size<=g)(i:Nat)(hi:i<N):uh M' w D g (0+i*4) (P i):=by
 obtain⟨f,h1,h2⟩:=h;rw[Nat.zero_add];exact⟨_,_,_,_,h1.cell (by omega),h1.cell (by omega),h1.cell (by omega),h1.cell (by omega),(h2 i hi).more hm⟩
theorem Kids.set{M:Nat->Prop}{w:World}{D g N:Nat}{P:Nat->List Tm}(h:Kids M w D g N P)(hg:M g)(j:Nat)(hj:j<N){e0 e1 e2 e3:Value}{l:List Tm}(hc:CR M w D e0 e1 e2 e3 l):Kids M (aH w g (j*4) e0 e1 e2 e3) D g N (λi=>if i=j then l else P i):=by
 obtain⟨f,h1,h2⟩:=h;refine⟨_,h1.aH (j*4) e0 e1 e2 e3,λi hi=>?_⟩;have hk:Kp M w (aH w g (j*4) e0 e1 e2 e3):=Kp.aH hg _ _ _ _ _
 by_cases jL:i=j
 ·subst jL;rw[Cy,Cz,CB,CV];simp only[if_true];exact hc.kp hk
 ·rw[rZ _ _ _ _ _ _ _ (by omega),rZ _ _ _ _ _ _ _ (by omega),rZ _ _ _ _ _ _ _ (by omega),rZ _ _ _ _ _ _ _ (by omega)];simp only[if_neg jL];exact(h2 i hi).kp hk
theorem Kids.at{M:Nat->Prop}{w:World}{D g N:Nat}{P:Nat->List Tm}(h:Kids M w D g N P)(j:Nat)(hj:j<N):(∃e,w.cell? ⟨g,j*4,none⟩=some e)/\(∃e,w.cell? ⟨g,j*4+1,none⟩=some e)/\(∃e,w.cell? ⟨g,j*4+2,none⟩=some e)/\(∃e,w.cell? ⟨g,j*4+3,none⟩=some e)/\(∀o,w.frozen? ⟨g,o,none⟩=false)/\g<w.heap.size:=by
 obtain⟨f,h1,h2⟩:=h;exact⟨⟨_,h1.cell (by omega)⟩,⟨_,h1.cell (by omega)⟩,⟨_,h1.cell (by omega)⟩,⟨_,h1.cell (by omega)⟩,h1.frozen,h1.lt⟩
def fu:Nat->Value:=λi=>if i%4=0 then .int .i64 0 else if i%4=1 then .bool false else .slice none 0 0
theorem Kids.fresh{M:Nat->Prop}{w:World}{D g N:Nat}(hB:ak w g 33 (N*4) fu):Kids M w D g N (λ_=>[]):=by
 refine⟨fu,hB,λi hi=>?_⟩
 have h0:fu (i*4)=.int .i64 0:=by unfold fu;rw[if_pos (by omega)]
 have h1:fu (i*4+1)=.bool false:=by unfold fu;rw[if_neg (by omega),if_pos (by omega)]
 have h2:fu (i*4+2)=.slice none 0 0:=by unfold fu;rw[if_neg (by omega),if_neg (by omega)]
 have h3:fu (i*4+3)=.slice none 0 0:=by unfold fu;rw[if_neg (by omega),if_neg (by omega)]
 rw[h0,h1,h2,h3];exact CR.zero _ _ _
theorem Kids.more{M M':Nat->Prop}{w:World}{D g N:Nat}{P:Nat->List Tm}(h:Kids M w D g N P)(hm:∀g,M' g->M g\/w.heap.size<=g):Kids M' w D g N P:=by
 obtain⟨f,h1,h2⟩:=h;exact⟨f,h1,λi hi=>(h2 i hi).more hm⟩
theorem Kids.congr{M:Nat->Prop}{w:World}{D g N:Nat}{P Q:Nat->List Tm}(h:Kids M w D g N P)(hs:∀i,i<N->ae (P i) (Q i)):Kids M w D g N Q:=by
 obtain⟨f,h1,h2⟩:=h;exact⟨f,h1,λi hi=>(h2 i hi).bZ (hs i hi)⟩
theorem qcJ{w:World}{b o:Nat}{m:Mo}(h2:w.cell? ⟨b,o+2,none⟩=some (.int .i64 m.a))(h3:w.cell? ⟨b,o+3,none⟩=some (.int .i64 m.b))(h4:w.cell? ⟨b,o+4,none⟩=some (.int .i64 m.c))(h5:w.cell? ⟨b,o+5,none⟩=some (.int .i64 m.d))(j:Nat)(hj:j<4):w.cell? ⟨b,o+2+j,none⟩=some (.int .i64 (m.get (j+1))):=by
 match j,hj with
 |0,_=>exact h2
 |1,_=>exact h3
 |2,_=>exact h4
 |3,_=>exact h5
def uK(M:Nat->Prop)(w:World)(L:Nat)(l:List Tm)(e:Ending)(w':World):Prop:=
 ∃c0 c1 c2 c3,e=.returned (.agg #[c0,c1,c2,c3])/\CR M w' L c0 c1 c2 c3 l/\Ext w w'
def WN(L:Nat):Prop:=∀(M:Nat->Prop)(v:Value)(n:Nat)(z:Nat->Int)(x:Nat->TE)(w:World),Mb M w->mD M w v n z x->(∀i,i<n->dJ M w (.bool (x i).b) (.slice (x i).a (x i).n (x i).p) (z i))->Canon (dQ n z x)->Agree L (dQ n z x)->(∀i,i<n->∀k,(x i).m.get k<=1073741824)->
 Calls Tryz.prog 99 #[v,.int .i64 (L:Int)] w (uK M w L (lL L (dQ n z x)))
theorem Az{n:Nat}{z:Nat->Int}{x:Nat->TE}{i:Nat}(hi:i<n):(z i,(x i).m)∈dQ n z x:=List.mem_map.2 ⟨i,by simpa using hi,rfl⟩
theorem Ht{n:Nat}{z:Nat->Int}{x:Nat->TE}{t:Tm}(h:t∈dQ n z x):∃i,i<n/\t=(z i,(x i).m):=by
 obtain⟨i,hi,rfl⟩:=List.mem_map.1 h;exact⟨i,by simpa using hi,rfl⟩
theorem vL{m:Mo}(h:m.nn=true)(k:Nat):0<=m.get k:=by
 simp only[Mo.nn,Bool.and_eq_true,decide_eq_true_eq]at h;unfold Mo.get
 repeat' split
 all_goals omega
theorem qg0{n:Nat}{z:Nat->Int}{x:Nat->TE}(h:Canon (dQ n z x)){i j:Nat}(jL:i<j)(hj:j<n):Mo.lt (x j).m (x i).m:=by
 have h1:=List.pairwise_iff_getElem.1 h.1 i j (by rw[Rx];omega) (by rw[Rx];exact hj) jL;simpa[dQ]using h1
theorem OW{n:Nat}{z:Nat->Int}{x:Nat->TE}(h:Canon (dQ n z x)){L:Nat}(ha:Agree L (dQ n z x))(h1:1<=L)(h4:L<=4){i j:Nat}(jL:i<=j)(hj:j<n):(x j).m.get L<=(x i).m.get L:=by
 rcases Nat.lt_or_ge i j with hlt|iZ
 ·exact qwt h1 h4 (qg0 h hlt hj) λk hk ll=>ha _ (Az hj) _ (Az (by omega)) k hk ll
 ·have:i=j:=by omega
  subst this;exact Int.le_refl _
theorem mD.sub{M:Nat->Prop}{w:World}{b off cap n:Nat}{z:Nat->Int}{x:Nat->TE}(h:mD M w (.slice (some ⟨b,off,none⟩) n cap) n z x)(s e:Nat)(hs:s<=e)(he:e<=n):
 mD M w (.slice (some ⟨b,off+s*6,none⟩) (e-s) (cap-s)) (e-s) (λi=>z (s+i)) (λi=>x (s+i)):=by
 obtain⟨h1,h2,h3⟩:=h;refine⟨by omega,?_,λi hi=>h3 (s+i) (by omega)⟩;rcases h2 with⟨⟨_,_,hv,hm⟩,h2⟩|⟨b',off',cap',hv,hn,hc,hb,hk⟩
 ·simp only[Value.slice.injEq]at hv;obtain⟨_,hv1,hv2⟩:=hv;exact .inl ⟨⟨_,cap-s,by rw[show e-s=0 by omega],by omega⟩,by omega⟩
 ·simp only[Value.slice.injEq,Option.some.injEq,Addr.mk.injEq,and_true,true_and]at hv;obtain⟨⟨rfl,rfl⟩,rfl⟩:=hv;refine .inr ⟨b,off+s*6,cap-s,rfl,by omega,by omega,hb,λi hi=>?_⟩;have:=hk (s+i) (by omega);rw[show off+(s+i)*6=off+s*6+i*6 by omega]at this;exact this
theorem WE(s e:Nat)(z:Nat->Int)(x:Nat->TE)(h:s<=e):dQ e z x=dQ s z x++dQ (e-s) (λi=>z (s+i)) (λi=>x (s+i)):=by
 obtain⟨k,rfl⟩:∃k,e=s+k:=⟨e-s,by omega⟩;rw[Nat.add_sub_cancel_left];clear h
 induction k with
 |zero=>simp[dQ]
 |succ k ih=>rw[<-Nat.add_assoc,qdH,ih,qdH,List.append_assoc]
theorem Canon.sub{n:Nat}{z:Nat->Int}{x:Nat->TE}(h:Canon (dQ n z x))(s e:Nat)(hs:s<=e)(he:e<=n):Canon (dQ (e-s) (λi=>z (s+i)) (λi=>x (s+i))):=by
 rw[WE e n z x he,WE s e z x hs]at h;refine⟨(List.pairwise_append.1 (List.pairwise_append.1 h.1).1).2.1,λt ht=>h.2 t (List.mem_append_left _ (List.mem_append_right _ ht))⟩
theorem qtc{L:Nat}{e:Int}{l:List Tm}(h:∀t∈l,t.2.get L=e):qL L e l=l:=List.filter_eq_self.2 λt ht=>by simp[h t ht]
theorem qig{L:Nat}{e:Int}{l:List Tm}(h:∀t∈l,t.2.get L≠e):qL L e l=[]:=List.filter_eq_nil_iff.2 λt ht=>by simp[h t ht]
end Go.Proofs.YtmcfpnmoklnhoaaGreat
