/- Md -/
import Derived.Test.YtaafefeafonhdaaGreatMc
set_option linter.unusedVariables false
set_option maxRecDepth 100000
set_option maxHeartbeats 400000000
set_option linter.unusedSimpArgs false
namespace Go.Proofs.YtaafefeafonhdaaGreat
def af(l r:List Tm):Prop:=∀m,aH l m=aH r m
theorem af.refl(l:List Tm):af l l:=λ_=>rfl
theorem af.symm{l r:List Tm}(h:af l r):af r l:=λm=>(h m).symm
theorem af.trans{a b c:List Tm}(h:af a b)(k:af b c):af a c:=λm=>(h m).trans (k m)
theorem af.append{a b c d:List Tm}(h:af a b)(k:af c d):af (a++c) (b++d):=λm=>by rw[iJ,iJ,h m,k m]
theorem af.norm{l r:List Tm}(h:af l r):norm l=norm r:=qAT λm _=>h m
def Mo.zero:Mo:=⟨0,0,0,0⟩
def Mo.add(x y:Mo):Mo:=⟨x.a+y.a,x.b+y.b,x.c+y.c,x.d+y.d⟩
def Mo.sub(x y:Mo):Mo:=⟨x.a-y.a,x.b-y.b,x.c-y.c,x.d-y.d⟩
theorem Mo.add_eq(x y z:Mo):Mo.add x y=z↔x=Mo.sub z y:=by
 constructor
 ·rintro rfl;cases x;cases y;simp[Mo.add,Mo.sub]
 ·rintro rfl;cases y;cases z;simp[Mo.add,Mo.sub]
theorem Mo.Vj(x y:Mo):Mo.add x y=Mo.add y x:=by cases x;cases y;simp[Mo.add];omega
theorem Mo.qtS(x y z:Mo):Mo.add (Mo.add x y) z=Mo.add x (Mo.add y z):=by cases x;cases y;cases z;simp[Mo.add];omega
theorem Mo.add_zero'(x:Mo):Mo.add x Mo.zero=x:=by cases x;simp[Mo.add,Mo.zero]
theorem Mo.qrT(x:Mo):Mo.add Mo.zero x=x:=by cases x;simp[Mo.add,Mo.zero]
theorem Mo.qDR(x y z:Mo):Mo.sub (Mo.sub x y) z=Mo.sub x (Mo.add y z):=by cases x;cases y;cases z;simp[Mo.add,Mo.sub];omega
def shift(k:Mo)(l:List Tm):List Tm:=l.map λt=>(t.1,Mo.add t.2 k)
theorem xC(k:Mo)(l:List Tm)(m:Mo):aH (shift k l) m=aH l (Mo.sub m k):=by
 induction l with
 |nil=>rfl
 |cons t l ih=>
  show(if Mo.add t.2 k=m then t.1 else 0)+aH (shift k l) m=_;rw[ih];simp only[aH];have:(Mo.add t.2 k=m)↔(t.2=Mo.sub m k):=Mo.add_eq _ _ _
  by_cases h:t.2=Mo.sub m k
  ·rw[av (this.2 h),av h]
  ·rw[aj (λe=>h (this.1 e)),aj h]
theorem Yg(k:Mo)(l r:List Tm):shift k (l++r)=shift k l++shift k r:=by simp[shift]
theorem qfP(j k:Mo)(l:List Tm):shift j (shift k l)=shift (Mo.add k j) l:=by
 simp[shift,List.map_map,Function.comp_def,Mo.qtS]
theorem IC(l:List Tm):shift Mo.zero l=l:=by simp[shift,Mo.add_zero']
theorem af.shift{l r:List Tm}(h:af l r)(k:Mo):af (shift k l) (shift k r):=λm=>by rw[xC,xC];exact h _
theorem zu(k:Mo)(l:List Tm):aB (shift k l)=aB l:=by
 induction l with
 |nil=>rfl
 |cons t l ih=>show t.1.natAbs+aB (Go.Proofs.YtaafefeafonhdaaGreat.shift k l)=_;rw[ih];rfl
def smul(c:Int)(l:List Tm):List Tm:=l.map λt=>(c*t.1,t.2)
theorem mO(c:Int)(l:List Tm)(m:Mo):aH (smul c l) m=c*aH l m:=by
 induction l with
 |nil=>simp[smul,aH]
 |cons t l ih=>
  show(if t.2=m then c*t.1 else 0)+aH (smul c l) m=_;rw[ih];simp only[aH]
  split<;>simp[Int.mul_add]
theorem qA2(c:Int)(l:List Tm):aB (smul c l)=c.natAbs*aB l:=by
 induction l with
 |nil=>simp[smul,aB]
 |cons t l ih=>show(c*t.1).natAbs+aB (smul c l)=_;rw[ih];simp[aB,Int.natAbs_mul,Nat.mul_add]
theorem af.smul{l r:List Tm}(h:af l r)(c:Int):af (smul c l) (smul c r):=λm=>by rw[mO,mO,h m]
def aC:List Tm->List Tm->List Tm
 |[],_=>[]
 |s::l,r=>shift s.2 (smul s.1 r)++aC l r
theorem XT(l:List Tm):aC l []=[]:=by
 induction l with
 |nil=>rfl
 |cons s l ih=>simp[aC,ih,smul,shift]
theorem rX(s:Tm)(l r:List Tm)(m:Mo):aH (aC (s::l) r) m=s.1*aH r (Mo.sub m s.2)+aH (aC l r) m:=by
 rw[aC,iJ,xC,mO]
theorem af.vg{r r':List Tm}(h:af r r')(l:List Tm):af (aC l r) (aC l r'):=by
 induction l with
 |nil=>exact af.refl _
 |cons s l ih=>intro m;rw[rX,rX,h,ih m]
theorem Ir(a b r:List Tm):aC (a++b) r=aC a r++aC b r:=by
 induction a with
 |nil=>rfl
 |cons s a ih=>simp[aC,ih]
theorem af.qp3(l a b:List Tm):af (aC l (a++b)) (aC l a++aC l b):=by
 induction l with
 |nil=>exact af.refl _
 |cons s l ih=>
  intro m;rw[iJ,rX,rX,rX,iJ,ih m,iJ,Int.mul_add];omega
theorem OP(l:List Tm)(t:Tm):af (aC l [t]) (shift t.2 (smul t.1 l)):=by
 induction l with
 |nil=>exact af.refl _
 |cons s l ih=>
  intro m;rw[rX,ih m,xC,xC,mO,mO];simp only[aH];rw[Int.mul_add,Int.mul_add]
  have e:(t.2=Mo.sub m s.2)↔(s.2=Mo.sub m t.2):=by
   rw[<-Mo.add_eq, <-Mo.add_eq,Mo.Vj]
  by_cases h:t.2=Mo.sub m s.2
  ·rw[av h,av (e.1 h),Int.mul_comm t.1 s.1];simp
  ·rw[aj h,aj (λk=>h (e.2 k))];simp
theorem af.zB(l r:List Tm):af (aC l r) (aC r l):=by
 induction r with
 |nil=>rw[XT];exact af.refl _
 |cons t r ih=>
  have h1:af (aC l (t::r)) (aC l [t]++aC l r):=af.qp3 l [t] r;refine h1.trans ?_;rw[aC];exact(OP l t).append ih
theorem af.qN{l l':List Tm}(h:af l l')(r:List Tm):af (aC l r) (aC l' r):=
 (af.zB l r).trans ((h.vg r).trans (af.zB r l'))
theorem af.aC{l l' r r':List Tm}(h:af l l')(k:af r r'):af (aC l r) (aC l' r'):=(h.qN r).trans (k.vg l')
theorem OO(k:Mo)(l r:List Tm):af (aC (shift k l) r) (shift k (aC l r)):=by
 induction l with
 |nil=>exact af.refl _
 |cons s l ih=>
  intro m;show aH (aC ((s.1,Mo.add s.2 k)::shift k l) r) m=_;rw[rX,ih m,xC,xC,rX,Mo.qDR,Mo.Vj s.2 k]
theorem DN(l r:List Tm):aB (aC l r)=aB l*aB r:=by
 induction l with
 |nil=>simp[aC,aB]
 |cons s l ih=>rw[aC,kK,zu,qA2,ih];simp[aB,Nat.add_mul]
theorem af.OM(a b c:List Tm):af (Go.Proofs.YtaafefeafonhdaaGreat.aC (Go.Proofs.YtaafefeafonhdaaGreat.aC a b) c) (Go.Proofs.YtaafefeafonhdaaGreat.aC a (Go.Proofs.YtaafefeafonhdaaGreat.aC b c)):=by
 induction a with
 |nil=>exact af.refl _
 |cons s a ih=>
  rw[Go.Proofs.YtaafefeafonhdaaGreat.aC,Ir,Go.Proofs.YtaafefeafonhdaaGreat.aC];refine af.append ?_ ih;refine(OO _ _ _).trans (af.shift ?_ _);intro m;clear ih
  induction b with
  |nil=>simp[Go.Proofs.YtaafefeafonhdaaGreat.aC,Go.Proofs.YtaafefeafonhdaaGreat.smul]
  |cons t b ih=>
   show aH (Go.Proofs.YtaafefeafonhdaaGreat.aC ((s.1*t.1,t.2)::Go.Proofs.YtaafefeafonhdaaGreat.smul s.1 b) c) m=_;rw[rX,ih,mO,mO,rX,Int.mul_add,Int.mul_assoc]
def Mo.get(m:Mo)(k:Nat):Int:=if k=1 then m.a else if k=2 then m.b else if k=3 then m.c else if k=4 then m.d else 0
def xp(k:Nat)(i:Int):Mo:=⟨if k=1 then i else 0,if k=2 then i else 0,if k=3 then i else 0,if k=4 then i else 0⟩
theorem Td{k:Nat}(h1:1<=k)(h4:k<=4):k=1\/k=2\/k=3\/k=4:=by omega
theorem gM(k j:Nat)(i:Int)(h1:1<=k)(h4:k<=4):(xp k i).get j=if j=k then i else 0:=by
 rcases Td h1 h4 with rfl|rfl|rfl|rfl<;>simp only[Mo.get,xp]<;>(repeat' split)<;>simp_all
theorem iL(x y:Mo)(k:Nat):(Mo.add x y).get k=x.get k+y.get k:=by
 simp only[Mo.get,Mo.add];(repeat' split)<;>simp
theorem EI(x y:Mo)(k:Nat):(Mo.sub x y).get k=x.get k-y.get k:=by
 simp only[Mo.get,Mo.sub];(repeat' split)<;>simp
theorem CO(k:Nat):Mo.zero.get k=0:=by simp[Mo.get,Mo.zero]
theorem Mo.ext_get{x y:Mo}(h:∀k,1<=k->k<=4->x.get k=y.get k):x=y:=by
 have h1:=h 1 (by omega) (by omega);have h2:=h 2 (by omega) (by omega);have h3:=h 3 (by omega) (by omega);have h4:=h 4 (by omega) (by omega);simp[Mo.get]at h1 h2 h3 h4;exact Mo.ext' h1 h2 h3 h4
def dV(L:Nat)(l:List Tm):Prop:=∀t∈l,∀k,L<k->k<=4->t.2.get k=0
theorem dV.append{L:Nat}{l r:List Tm}(h:dV L l)(k:dV L r):dV L (l++r):=λt ht=>(List.mem_append.1 ht).elim (h t) (k t)
theorem dV.mono{L L':Nat}{l:List Tm}(h:dV L l)(hL:L<=L'):dV L' l:=λt ht k h1 h2=>h t ht k (by omega) h2
theorem dV.uO{L:Nat}{l:List Tm}(h:dV L l){m:Mo}{k:Nat}(h1:L<k)(h2:k<=4)(hm:m.get k≠0):aH l m=0:=
 rY λt ht e=>hm (by rw[<-e];exact h t ht k h1 h2)
def aM(L:Nat)(n:Nat)(P:Nat->List Tm):List Tm:=(List.range n).flatMap λ(i:Nat)=>shift (xp L (i:Int)) (P i)
theorem Fw(L:Nat)(P:Nat->List Tm):aM L 0 P=[]:=rfl
theorem gF(L n:Nat)(P:Nat->List Tm):aM L (n+1) P=aM L n P++shift (xp L (n:Int)) (P n):=by
 unfold aM;rw[List.range_succ,List.flatMap_append];simp
theorem qO(L n:Nat)(P Q:Nat->List Tm)(h:∀i,i<n->af (P i) (Q i)):af (aM L n P) (aM L n Q):=by
 induction n with
 |zero=>exact af.refl _
 |succ n ih=>rw[gF,gF];exact(ih λi hi=>h i (by omega)).append ((h n (by omega)).shift _)
theorem qfp(L n:Nat)(P:Nat->List Tm)(h1:1<=L)(h4:L<=4)(h:∀i,i<n->dV (L-1) (P i)):dV L (aM L n P):=by
 intro t ht k hk rA;obtain⟨i,hi,ht⟩:=List.mem_flatMap.1 ht;obtain⟨s,hs,rfl⟩:=List.mem_map.1 ht;rw[iL,gM L k _ h1 h4,aj (by omega),h i (by simpa using hi) s hs k (by omega) rA];rfl
theorem EG(L n:Nat)(P:Nat->List Tm)(h1:1<=L)(h4:L<=4)(h:∀i,i<n->dV (L-1) (P i))(m:Mo)(e:Nat)(he:m.get L=e):
 aH (aM L n P) m=if e<n then aH (P e) (Mo.sub m (xp L e))else 0:=by
 induction n with
 |zero=>simp[Fw,aH]
 |succ n ih=>
  rw[gF,iJ,ih λi hi=>h i (by omega),xC]
  by_cases AO:e=n
  ·subst AO;rw[aj (by omega),av (by omega)];omega
  ·have:aH (P n) (Mo.sub m (xp L (n:Int)))=0:=by
    refine(h n (by omega)).uO (k:=L) (by omega) h4 ?_;rw[EI,gM L L _ h1 h4,av rfl,he];omega
   rw[this]
   by_cases h2:e<n
   ·rw[av h2,av (by omega)];omega
   ·rw[aj h2,aj (by omega)];rfl
theorem qbz(L n:Nat)(P:Nat->List Tm)(h1:1<=L)(h4:L<=4)(h:∀i,i<n->dV (L-1) (P i))(m:Mo)(he:m.get L<0):aH (aM L n P) m=0:=by
 induction n with
 |zero=>simp[Fw,aH]
 |succ n ih=>
  rw[gF,iJ,ih λi hi=>h i (by omega),xC]
  have:aH (P n) (Mo.sub m (xp L (n:Int)))=0:=by
   refine(h n (by omega)).uO (k:=L) (by omega) h4 ?_;rw[EI,gM L L _ h1 h4,av rfl];omega
  rw[this];rfl
structure iF where
 neg:Bool
 n:Nat
 dg:Nat->Nat
def iF.val(r:iF):Int:=bO r.neg (nv r.dg r.n)
def iF.can(r:iF):Bool:=(r.n==0&& !r.neg)||(decide (0<r.n)&&r.dg (r.n-1)!=0)
def iF.blank(r:iF):Bool:=r.n==0&& !r.neg
def iF.ok(r:iF):Prop:=∀i,i<r.n->r.dg i<4294967296
def RT:Nat->Type
 |0=>Unit
 |d+1=>Int × iF × Nat × (Nat->RT d)
def jY:(d:Nat)->RT d->Int
 |0,_=>0
 |_+1,t=>t.1
def rF:(d:Nat)->RT d->Bool
 |0,_=>false
 |_+1,t=>decide (t.1=0)&&t.2.1.n==0
def fA:(d:Nat)->RT d->Bool
 |0,_=>false
 |d+1,t=>if t.1=0 then(t.2.2.1==0)&&t.2.1.can
  else decide (1<=t.1/\t.1<=4)&&(t.2.1.blank&&(decide (2<=t.2.2.1)&&((List.range t.2.2.1).all (λi=>decide (jY d (t.2.2.2 i)<t.1)&&fA d (t.2.2.2 i))&& !(rF d (t.2.2.2 (t.2.2.1-1))))))
def terms:(d:Nat)->RT d->List Tm
 |0,_=>[]
 |d+1,t=>if t.1<=0 then[(t.2.1.val,Mo.zero)]else if 4<t.1 then[]else aM t.1.toNat t.2.2.1 (λi=>terms d (t.2.2.2 i))
def zw:(d:Nat)->RT d->Prop
 |0,_=>True
 |d+1,t=>t.2.1.ok/\∀i,i<t.2.2.1->zw d (t.2.2.2 i)
theorem iF.xz{r:iF}(h:r.can=true)(ho:r.ok):r.val=0↔r.n=0:=by
 unfold iF.can at h;constructor
 ·intro hv
  by_cases h0:r.n=0
  ·exact h0
  ·exfalso
   have h1:r.dg (r.n-1)≠0:=by
    have h2:=h;simp[h0]at h2;exact h2.2
   obtain⟨m,hm⟩:∃m,r.n=m+1:=⟨r.n-1,by omega⟩;have h2:=Tt r.dg m (by rw[hm]at h1;simpa using h1);have h3:=X0 m;unfold iF.val bO at hv;rw[hm]at hv
   split at hv<;>omega
 ·intro h0
  have hn:r.neg=false:=by simpa[h0]using h
  unfold iF.val bO;rw[h0,hn];rfl
section
variable{d:Nat}{t:RT (d+1)}
theorem Gn(h:fA (d+1) t=true)(hl:t.1=0):t.2.2.1=0/\t.2.1.can=true:=by
 unfold fA at h;rw[av hl]at h;simpa using h
theorem uN(h:fA (d+1) t=true)(hl:t.1≠0):(1<=t.1/\t.1<=4)/\t.2.1.n=0/\t.2.1.neg=false/\2<=t.2.2.1/\(∀i,i<t.2.2.1->jY d (t.2.2.2 i)<t.1/\fA d (t.2.2.2 i)=true)/\rF d (t.2.2.2 (t.2.2.1-1))=false:=by
 unfold fA at h;rw[aj hl]at h;simp only[Bool.and_eq_true,decide_eq_true_eq,List.all_eq_true,List.mem_range,Bool.not_eq_true',iF.blank,beq_iff_eq]at h;obtain⟨h1,⟨h2,h3⟩,h4,h5,h6⟩:=h;exact⟨h1,h2,h3,h4,h5,h6⟩
theorem Af(h:fA (d+1) t=true):0<=t.1/\t.1<=4:=by
 by_cases hl:t.1=0
 ·omega
 ·have:=(uN h hl).1;omega
theorem rM(hl:t.1<=0):terms (d+1) t=[(t.2.1.val,Mo.zero)]:=by unfold terms;rw[av hl]
theorem vC(h1:1<=t.1)(h4:t.1<=4):terms (d+1) t=aM t.1.toNat t.2.2.1 (λi=>terms d (t.2.2.2 i)):=by
 conv=>lhs;unfold terms
 rw[aj (by omega),aj (by omega)]
end
theorem qe1(c:Int):dV 0 [(c,Mo.zero)]:=by
 intro t ht k _ _;simp at ht;subst ht;exact CO k
theorem JW:∀(d:Nat)(t:RT d),fA d t=true->dV (jY d t).toNat (terms d t)
 |0,_,h=>by cases h
 |d+1,t,h=>by
  show dV t.1.toNat _
  by_cases hl:t.1=0
  ·rw[rM (by omega),hl];exact qe1 _
  ·obtain⟨h1,_,_,_,h5,_⟩:=uN h hl;rw[vC h1.1 h1.2];refine qfp _ _ _ (by omega) (by omega) λi hi=>?_;have:=JW d (t.2.2.2 i) (h5 i hi).2;exact this.mono (by have:=(h5 i hi).1;omega)
theorem uY{d:Nat}{t:RT (d+1)}(h:fA (d+1) t=true)(hl:t.1≠0)(i:Nat)(hi:i<t.2.2.1):dV (t.1.toNat-1) (terms d (t.2.2.2 i)):=by
 obtain⟨_,_,_,_,h5,_⟩:=uN h hl;exact(JW d _ (h5 i hi).2).mono (by have:=(h5 i hi).1;omega)
theorem xz:∀(d:Nat)(t:RT d),fA d t=true->zw d t->rF d t=false->∃m,aH (terms d t) m≠0
 |0,_,h,_,_=>by cases h
 |d+1,t,h,ho,hz=>by
  by_cases hl:t.1=0
  ·obtain⟨_,hc⟩:=Gn h hl;refine⟨Mo.zero,?_⟩;rw[rM (by omega)];simp only[aH,if_true];intro h0;have h1:=(iF.xz hc ho.1).1 (by omega);unfold rF at hz;simp[hl,h1]at hz
  ·obtain⟨h1,_,_,h4,h5,h6⟩:=uN h hl;obtain⟨m,hm⟩:=xz d (t.2.2.2 (t.2.2.1-1)) (h5 _ (by omega)).2 (ho.2 _ (by omega)) h6
   have ug:m.get t.1.toNat=0:=by
    by_cases he:m.get t.1.toNat=0
    ·exact he
    ·exact absurd ((uY h hl _ (by omega)).uO (k:=t.1.toNat) (by omega) (by omega) he) hm
   refine⟨Mo.add m (xp t.1.toNat ((t.2.2.1-1:Nat):Int)),?_⟩;rw[vC h1.1 h1.2,EG t.1.toNat t.2.2.1 _ (by omega) (by omega) (λi hi=>uY h hl i hi) _ (t.2.2.1-1) (by rw[iL,ug,gM _ _ _ (by omega) (by omega),av rfl];omega),av (by omega)];rw[show Mo.sub (Mo.add m (xp t.1.toNat ((t.2.2.1-1:Nat):Int))) (xp t.1.toNat ((t.2.2.1-1:Nat):Int))=m from((Mo.add_eq _ _ _).1 rfl).symm];exact hm
theorem qoN{d:Nat}{t:RT d}(h:fA d t=true)(hz:rF d t=true):af (terms d t) []:=by
 cases d with
 |zero=>cases h
 |succ d=>
  unfold rF at hz;simp only[Bool.and_eq_true,decide_eq_true_eq,beq_iff_eq]at hz;obtain⟨_,hc⟩:=Gn h hz.1;rw[rM (by omega)];intro m
  have hn:t.2.1.neg=false:=by unfold iF.can at hc;simpa[hz.2]using hc
  have:t.2.1.val=0:=by unfold iF.val bO;rw[hz.2,hn];rfl
  simp[aH,this]
theorem qt9{d d':Nat}{t:RT (d+1)}{u:RT (d'+1)}(h:fA (d+1) t=true)(k:fA (d'+1) u=true)(ho:zw (d+1) t)(ko:zw (d'+1) u)(hs:af (terms (d+1) t) (terms (d'+1) u)):
 t.1=u.1/\t.2.2.1=u.2.2.1/\(t.1=0->t.2.1.val=u.2.1.val)/\(t.1≠0->∀i,i<t.2.2.1->af (terms d (t.2.2.2 i)) (terms d' (u.2.2.2 i))):=by
 have big:∀{d d':Nat}{t:RT (d+1)}{u:RT (d'+1)},fA (d+1) t=true->fA (d'+1) u=true->zw (d'+1) u->af (terms (d+1) t) (terms (d'+1) u)->¬t.1<u.1:=by
  intro d d' t u h k ko hs hlt
  have hl:u.1≠0:=by have:=Af h;omega
  obtain⟨h1,_,_,h4,h5,h6⟩:=uN k hl;obtain⟨m,hm⟩:=xz d' (u.2.2.2 (u.2.2.1-1)) (h5 _ (by omega)).2 (ko.2 _ (by omega)) h6
  have ug:m.get u.1.toNat=0:=by
   by_cases he:m.get u.1.toNat=0
   ·exact he
   ·exact absurd ((uY k hl _ (by omega)).uO (k:=u.1.toNat) (by omega) (by omega) he) hm
  have hg:(Mo.add m (xp u.1.toNat ((u.2.2.1-1:Nat):Int))).get u.1.toNat=((u.2.2.1-1:Nat):Int):=by rw[iL,ug,gM _ _ _ (by omega) (by omega),av rfl];omega
  have e1:=hs (Mo.add m (xp u.1.toNat ((u.2.2.1-1:Nat):Int)));have bZ:dV t.1.toNat (terms (d+1) t):=JW (d+1) t h;rw[bZ.uO (k:=u.1.toNat) (by have:=Af h;omega) (by omega) (by rw[hg];omega)]at e1;rw[vC h1.1 h1.2,EG u.1.toNat u.2.2.1 _ (by omega) (by omega) (λi hi=>uY k hl i hi) _ (u.2.2.1-1) hg,av (by omega)]at e1;rw[show Mo.sub (Mo.add m (xp u.1.toNat ((u.2.2.1-1:Nat):Int))) (xp u.1.toNat ((u.2.2.1-1:Nat):Int))=m from((Mo.add_eq _ _ _).1 rfl).symm]at e1;exact hm e1.symm
 have pO:t.1=u.1:=by
  have b1:=big h k ko hs;have b2:=big k h ho hs.symm;omega
 by_cases hl:t.1=0
 ·have Fe:u.1=0:=by omega
  have c1:=Gn h hl;have c2:=Gn k Fe;refine⟨pO,by rw[c1.1,c2.1],λ_=>?_,λhn=>absurd hl hn⟩;have:=hs Mo.zero;rw[rM (by omega),rM (by omega)]at this;simp only[aH,if_true]at this;omega
 ·have Fe:u.1≠0:=by omega
  obtain⟨h1,_,_,h4,h5,h6⟩:=uN h hl;obtain⟨k1,_,_,k4,k5,k6⟩:=uN k Fe
  have key:∀(m:Mo)(e:Nat),m.get t.1.toNat=0->(if e<t.2.2.1 then aH (terms d (t.2.2.2 e)) m else 0)=(if e<u.2.2.1 then aH (terms d' (u.2.2.2 e)) m else 0):=by
   intro m e hm;have e1:=hs (Mo.add m (xp t.1.toNat (e:Int)))
   have hg:(Mo.add m (xp t.1.toNat (e:Int))).get t.1.toNat=(e:Int):=by rw[iL,hm,gM _ _ _ (by omega) (by omega),av rfl];omega
   rw[vC h1.1 h1.2,vC k1.1 k1.2,EG t.1.toNat t.2.2.1 _ (by omega) (by omega) (λi hi=>uY h hl i hi) _ e hg]at e1;rw[show u.1.toNat=t.1.toNat from by rw[pO]]at e1;rw[EG t.1.toNat u.2.2.1 _ (by omega) (by omega) (λi hi=>by have:=uY k Fe i hi;rw[<-pO]at this;exact this) _ e hg]at e1;rw[show Mo.sub (Mo.add m (xp t.1.toNat (e:Int))) (xp t.1.toNat (e:Int))=m from((Mo.add_eq _ _ _).1 rfl).symm]at e1;exact e1
  have XE:∀{l:List Tm},dV (t.1.toNat-1) l->∀m,m.get t.1.toNat≠0->aH l m=0:=λbZ m hm=>bZ.uO (k:=t.1.toNat) (by omega) (by omega) hm
  have qoW:∀i,i<u.2.2.1->dV (t.1.toNat-1) (terms d' (u.2.2.2 i)):=λi hi=>by have:=uY k Fe i hi;rw[<-pO]at this;exact this
  have hn:t.2.2.1=u.2.2.1:=by
   rcases Nat.lt_trichotomy t.2.2.1 u.2.2.1 with hlt|heq|jT
   ·exfalso;obtain⟨m,hm⟩:=xz d' (u.2.2.2 (u.2.2.1-1)) (k5 _ (by omega)).2 (ko.2 _ (by omega)) k6
    have ug:m.get t.1.toNat=0:=by
     by_cases he:m.get t.1.toNat=0
     ·exact he
     ·exact absurd (XE (qoW _ (by omega)) m he) hm
    have:=key m (u.2.2.1-1) ug;rw[aj (by omega),av (by omega)]at this;exact hm this.symm
   ·exact heq
   ·exfalso;obtain⟨m,hm⟩:=xz d (t.2.2.2 (t.2.2.1-1)) (h5 _ (by omega)).2 (ho.2 _ (by omega)) h6
    have ug:m.get t.1.toNat=0:=by
     by_cases he:m.get t.1.toNat=0
     ·exact he
     ·exact absurd (XE (uY h hl _ (by omega)) m he) hm
    have:=key m (t.2.2.1-1) ug;rw[av (by omega),aj (by omega)]at this;exact hm this
  refine⟨pO,hn,λh0=>absurd h0 hl,λ_ i hi m=>?_⟩
  by_cases hm:m.get t.1.toNat=0
  ·have:=key m i hm;rw[av hi,av (by omega)]at this;exact this
  ·rw[XE (uY h hl i hi) m hm,XE (qoW i (by omega)) m hm]
def BD(l:List Tm):Prop:=l.Pairwise (λs t=>s.2≠t.2)
theorem qAY(p:Tm->Bool)(l:List Tm):aB l=aB (l.filter p)+aB (l.filter (λt=> !p t)):=by
 induction l with
 |nil=>rfl
 |cons t l ih=>
  rw[List.filter_cons,List.filter_cons];cases h:p t
  ·simp only[Bool.false_eq_true,if_false,Bool.not_false,if_true,aB];omega
  ·simp only[if_true,Bool.not_true,Bool.false_eq_true,if_false,aB];omega
theorem qbv(l:List Tm)(q m:Mo):aH (l.filter (λt=>decide (t.2≠q))) m=if m=q then 0 else aH l m:=by
 induction l with
 |nil=>simp[aH]
 |cons t l ih=>
  rw[List.filter_cons]
  by_cases h:t.2=q
  ·rw[aj (by simp[h]),ih]
   split
   ·rfl
   ·rename_i hm;simp only[aH];rw[aj (λe=>hm (e.symm.trans h))];omega
  ·rw[av (by simp[h])];simp only[aH,ih]
   by_cases hm:m=q
   ·rw[av hm,av hm,aj (λe=>h (e.trans hm))];rfl
   ·rw[aj hm,aj hm]
theorem quB(l:List Tm)(q:Mo):(aH l q).natAbs<=aB (l.filter (λt=> !decide (t.2≠q))):=by
 induction l with
 |nil=>simp[aH,aB]
 |cons t l ih=>
  rw[List.filter_cons];simp only[aH]
  by_cases h:t.2=q
  ·rw[av h,av (by simp[h])];simp only[aB];omega
  ·rw[aj h,aj (by simp[h])];omega
theorem qu1{l:List Tm}(hd:BD l):∀{r:List Tm},af l r->aB l<=aB r:=by
 induction l with
 |nil=>intro r _;exact bu _
 |cons t l ih=>
  intro r hs;obtain⟨h1,h2⟩:=List.pairwise_cons.1 hd;have h0:aH l t.2=0:=rY λs hs=>(h1 s hs).symm
  have h3:af l (r.filter (λs=>decide (s.2≠t.2))):=by
   intro m;rw[qbv]
   split
   ·rename_i hm;rw[hm];exact h0
   ·rename_i hm;rw[<-hs m];simp only[aH];rw[aj (λe=>hm e.symm)];omega
  have h4:=ih h2 h3;have h5:=qAY (λs=>decide (s.2≠t.2)) r;have h6:=quB r t.2;have h7:=hs t.2;simp only[aH,if_true]at h7;rw[h0]at h7;simp only[aB]
  have:aH r t.2=t.1:=by omega
  rw[this]at h6;omega
theorem qC5{l:List Tm}(h:BD l)(k:Mo):BD (shift k l):=by
 unfold BD shift;rw[List.pairwise_map];exact h.imp λ{s t} iw e=>iw (by rw[(Mo.add_eq _ _ _).1 e, <-(Mo.add_eq t.2 k _).1 rfl])
theorem Ls{L n:Nat}{P:Nat->List Tm}{t:Tm}(h:t∈aM L n P):∃i,i<n/\∃s∈P i,t=(s.1,Mo.add s.2 (xp L (i:Int))):=by
 obtain⟨i,hi,ht⟩:=List.mem_flatMap.1 h;obtain⟨s,hs,rfl⟩:=List.mem_map.1 ht;exact⟨i,by simpa using hi,s,hs,rfl⟩
theorem qBN(L n:Nat)(P:Nat->List Tm)(h1:1<=L)(h4:L<=4)(hl:∀i,i<n->dV (L-1) (P i))(h:∀i,i<n->BD (P i)):BD (aM L n P):=by
 induction n with
 |zero=>exact List.Pairwise.nil
 |succ n ih=>
  rw[gF];refine List.pairwise_append.2 ⟨ih (λi hi=>hl i (by omega)) (λi hi=>h i (by omega)),qC5 (h n (by omega)) _,λs hs t ht e=>?_⟩;obtain⟨i,hi,s',lD,rfl⟩:=Ls hs;obtain⟨t',WW,rfl⟩:=List.mem_map.1 ht;have e1:=congrArg (λm=>Mo.get m L) e;simp only[iL,gM L L _ h1 h4,if_true]at e1;rw[hl i (by omega) s' lD L (by omega) h4,hl n (by omega) t' WW L (by omega) h4]at e1;omega
theorem qjm:∀(d:Nat)(t:RT d),fA d t=true->BD (terms d t)
 |0,_,h=>by cases h
 |d+1,t,h=>by
  by_cases hl:t.1=0
  ·rw[rM (by omega)];exact List.pairwise_singleton _ _
  ·obtain⟨h1,_,_,_,h5,_⟩:=uN h hl;rw[vC h1.1 h1.2];exact qBN _ _ _ (by omega) (by omega) (λi hi=>uY h hl i hi) λi hi=>qjm d _ (h5 i hi).2
theorem JX{d:Nat}{t:RT d}(h:fA d t=true){l:List Tm}(hs:af (terms d t) l):aB (terms d t)<=aB l:=qu1 (qjm d t h) hs
theorem DR(L n:Nat)(P:Nat->List Tm)(i:Nat)(hi:i<n):aB (P i)<=aB (aM L n P):=by
 induction n with
 |zero=>omega
 |succ n ih=>
  rw[gF,kK,zu]
  by_cases h:i=n
  ·subst h;omega
  ·have:=ih (by omega);omega
theorem QP{L n:Nat}{P:Nat->List Tm}(h1:1<=L)(h4:L<=4)(h:∀i,i<n->dV (L-1) (P i))(i:Nat)(hi:i<n)(m:Mo)(hm:m.get L=0):aH (aM L n P) (Mo.add m (xp L (i:Int)))=aH (P i) m:=by
 rw[EG L n P h1 h4 h _ i (by rw[iL,hm,gM L L _ h1 h4,av rfl];omega),av hi, <-(Mo.add_eq m _ _).1 rfl]
def qA(L:Nat)(m:Mo):Mo:=⟨if 1<=L then m.a else 0,if 2<=L then m.b else 0,if 3<=L then m.c else 0,if 4<=L then m.d else 0⟩
def lW(L:Nat)(l:List Tm):List Tm:=l.map λt=>(t.1,qA L t.2)
theorem J4(L:Nat)(m:Mo)(k:Nat):(qA L m).get k=if k<=L then m.get k else 0:=by
 simp only[qA,Mo.get]
 by_cases h1:k=1
 ·subst h1;simp
 ·by_cases h2:k=2
  ·subst h2;simp
  ·by_cases h3:k=3
   ·subst h3;simp
   ·by_cases h4:k=4
    ·subst h4;simp
    ·simp[h1,h2,h3,h4]
theorem quQ(l:List Tm):lW 4 l=l:=by
 unfold lW
 conv=>rhs;rw[<-List.map_id l]
 apply List.map_congr_left;intro t _;simp[qA]
theorem quR(L:Nat)(l:List Tm):dV L (lW L l):=by
 intro t ht k hk _;obtain⟨s,_,rfl⟩:=List.mem_map.1 ht;rw[J4,aj (by omega)]
def Agree(L:Nat)(l:List Tm):Prop:=∀s∈l,∀t∈l,∀k,L<k->k<=4->s.2.get k=t.2.get k
def rq(L:Nat)(e:Int)(l:List Tm):List Tm:=l.filter λt=>decide (t.2.get L=e)
theorem qwJ(L:Nat)(e:Int)(l r:List Tm):rq L e (l++r)=rq L e l++rq L e r:=by simp[rq]
theorem qjD(L:Nat)(m:Mo)(h1:1<=L)(h4:L<=4):qA L m=Mo.add (qA (L-1) m) (xp L (m.get L)):=by
 apply Mo.ext_get;intro k _ _;rw[iL,J4,J4,gM L k _ h1 h4]
 by_cases h:k=L
 ·subst h;rw[av (aA _),aj (by omega),av rfl];omega
 ·rw[aj h]
  by_cases h2:k<=L
  ·rw[av h2,av (by omega)];omega
  ·rw[aj h2,aj (by omega)];rfl
theorem qDc(L n:Nat)(l:List Tm)(h1:1<=L)(h4:L<=4)(hn:∀t∈l,0<=t.2.get L/\t.2.get L<n):af (aM L n (λi=>lW (L-1) (rq L (i:Int) l))) (lW L l):=by
 intro m
 induction l with
 |nil=>
  have:∀n,aM L n (λi=>lW (L-1) (rq L (i:Int) []))=[]:=by
   intro n
   induction n with
   |zero=>rfl
   |succ n ih=>rw[gF,ih];rfl
  rw[this];rfl
 |cons t l ih=>
  have hl:∀(l:List Tm)(i:Nat),i<n->dV (L-1) (lW (L-1) (rq L (i:Int) l)):=λl i _=>quR _ _;have ih:=ih λs hs=>hn s (List.mem_cons_of_mem _ hs);obtain⟨h5,h6⟩:=hn t (List.mem_cons_self ..);show _=(if qA L t.2=m then t.1 else 0)+aH (lW L l) m;rw[<-ih]
  by_cases hm:0<=m.get L
  ·obtain⟨e,he⟩:∃e:Nat,m.get L=(e:Int):=⟨(m.get L).toNat,by omega⟩;rw[EG L n _ h1 h4 (hl _) m e he,EG L n _ h1 h4 (hl _) m e he]
   by_cases AO:e<n
   ·rw[av AO,av AO]
    by_cases WY:t.2.get L=(e:Int)
    ·rw[show rq L (e:Int) (t::l)=t::rq L (e:Int) l from List.filter_cons_of_pos (by simp[WY])];show(if qA (L-1) t.2=Mo.sub m (xp L (e:Int))then t.1 else 0)+_=_
     congr 1
     have:(qA (L-1) t.2=Mo.sub m (xp L (e:Int)))↔qA L t.2=m:=by
      rw[<-Mo.add_eq,qjD L t.2 h1 h4,WY]
     by_cases hc:qA L t.2=m
     ·rw[av hc,av (this.2 hc)]
     ·rw[aj hc,aj (λh=>hc (this.1 h))]
    ·rw[show rq L (e:Int) (t::l)=rq L (e:Int) l from List.filter_cons_of_neg (by simp[WY])];rw[aj,Int.zero_add];intro hc;apply WY;rw[<-he, <-hc,J4,av (aA _)]
   ·rw[aj AO,aj AO,aj,Int.zero_add];intro hc
    have:m.get L=t.2.get L:=by rw[<-hc,J4,av (aA _)]
    omega
  ·rw[qbz L n _ h1 h4 (hl _) m (by omega),qbz L n _ h1 h4 (hl _) m (by omega),aj,Int.zero_add];intro hc
   have:m.get L=t.2.get L:=by rw[<-hc,J4,av (aA _)]
   omega
theorem qAd{x y:Mo}{L:Nat}(h1:1<=L)(h4:L<=4)(h:Mo.lt x y)(ha:∀k,L<k->k<=4->x.get k=y.get k):x.get L<=y.get L:=by
 have a2:=ha 2;have a3:=ha 3;have a4:=ha 4;unfold Mo.lt at h;rcases Td h1 h4 with rfl|rfl|rfl|rfl<;>simp[Mo.get]at a2 a3 a4⊢ <;>omega
theorem Agree.sub{L:Nat}{l r:List Tm}(h:Agree L l)(hs:∀t∈r,t∈l):Agree L r:=λs lD t ht=>h s (hs s lD) t (hs t ht)
theorem Agree.next{L:Nat}{l:List Tm}(h:Agree L l)(he:∀s∈l,∀t∈l,s.2.get L=t.2.get L):Agree (L-1) l:=by
 intro s hs t ht k hk h4
 by_cases RS:k=L
 ·subst RS;exact he s hs t ht
 ·exact h s hs t ht k (by omega) h4
theorem quS{L:Nat}{l:List Tm}(h1:1<=L)(h4:L<=4)(h:∀t∈l,t.2.get L=0):lW (L-1) l=lW L l:=by
 unfold lW;apply List.map_congr_left;intro t ht;rw[qjD L t.2 h1 h4,h t ht]
 congr 1
 apply Mo.ext_get;intro k _ _;rw[iL,gM L k _ h1 h4]
 split<;>omega
end Go.Proofs.YtaafefeafonhdaaGreat
namespace Go.Proofs.YtaafefeafonhdaaGreat
open Go.RowKit
def vO(M:Nat->Prop)(w:World)(c0 c1:Value)(r:iF):Prop:=c0=.bool r.neg/\dL M w c1 r.n r.dg
theorem vO.dB{M:Nat->Prop}{w:World}{c0 c1:Value}{r:iF}(h:vO M w c0 c1 r):dh M w c0 c1 r.val:=⟨r.neg,_,h.1,⟨_,_,h.2,rfl⟩,rfl⟩
theorem dH.raw{M:Nat->Prop}{w:World}{c0 c1:Value}{z:Int}(h:dH M w c0 c1 z):∃r:iF,vO M w c0 c1 r/\r.val=z/\r.can=true:=by
 obtain⟨⟨n,d,hr,hv,hc⟩,h0⟩:=h;refine⟨⟨decide (z<0),n,d⟩,⟨h0,hr⟩,?_,?_⟩
 ·show bO (decide (z<0)) (nv d n)=z;rw[hv];unfold bO
  by_cases hz:z<0
  ·simp[hz];omega
  ·simp[hz];omega
 ·unfold iF.can;rcases Nat.eq_zero_or_pos n with h1|h1
  ·subst h1
   have:z=0:=by simp[nv]at hv;omega
   subst this;simp
  ·have:d (n-1)≠0:=by omega
   simp[h1,this]
theorem vO.qt7{M:Nat->Prop}{w:World}{c0 c1:Value}{r:iF}(h:vO M w c0 c1 r)(hc:r.can=true):dH M w c0 c1 r.val:=by
 obtain⟨h0,hr⟩:=h;refine⟨⟨r.n,r.dg,hr,by unfold iF.val;rw[vB],?_⟩,?_⟩
 ·unfold iF.can at hc;rcases Nat.eq_zero_or_pos r.n with h1|h1
  ·exact .inl h1
  ·have hne:¬r.n=0:=by omega
   simp[hne]at hc;exact .inr hc.2
 ·rw[h0];unfold iF.val;rw[qq0]
  congr 1
  cases hn:r.neg
  ·rfl
  ·have h1:¬r.n=0:=λe=>by unfold iF.can at hc;simp[e,hn]at hc
   have hz:=iF.xz hc hr.2.1
   have:0<nv r.dg r.n:=by
    rcases Nat.eq_zero_or_pos (nv r.dg r.n)with h2|h2
    ·exact absurd (hz.1 (by unfold iF.val bO;rw[h2];split<;>rfl)) h1
    ·exact h2
   simp[this]
section
variable{M M':Nat->Prop}{w w':World}{c0 c1:Value}{r:iF}
theorem vO.kp(h:vO M w c0 c1 r)(he:Kp M w w'):vO M w' c0 c1 r:=⟨h.1,h.2.kp he⟩
theorem vO.more(h:vO M w c0 c1 r)(hm:∀g,M' g->M g\/w.heap.size<=g):vO M' w c0 c1 r:=⟨h.1,h.2.more hm⟩
end
def RR(M:Nat->Prop)(w:World):(d:Nat)->RT d->Value->Value->Value->Value->Prop
 |0,_,_,_,_,_=>False
 |d+1,t,c0,c1,c2,c3=>c0=.int .i64 t.1/\(-9223372036854775808<=t.1/\t.1<=9223372036854775807)/\vO M w c1 c2 t.2.1/\t.2.2.1<=1099511627776/\
  (((∃a p,c3=.slice a 0 p/\p<=maxLen/\(a=none->p=0))/\t.2.2.1=0)\/∃b off cap,c3=.slice (some ⟨b,off,none⟩) t.2.2.1 cap/\t.2.2.1<=cap/\cap<=maxLen/\(b<w.heap.size/\¬M b)/\
   ∀i,i<t.2.2.1->∃e0 e1 e2 e3,w.cell? ⟨b,off+i*4,none⟩=some e0/\w.cell? ⟨b,off+i*4+1,none⟩=some e1/\w.cell? ⟨b,off+i*4+2,none⟩=some e2/\w.cell? ⟨b,off+i*4+3,none⟩=some e3/\RR M w d (t.2.2.2 i) e0 e1 e2 e3)
theorem RR.kp{M:Nat->Prop}{w w':World}(he:Kp M w w'):∀{d:Nat}{t:RT d}{c0 c1 c2 c3:Value},RR M w d t c0 c1 c2 c3->RR M w' d t c0 c1 c2 c3
 |0,_,_,_,_,_,h=>h
 |d+1,t,c0,c1,c2,c3,h=>by
  obtain⟨h0,h1,h2,h3,h4⟩:=h;refine⟨h0,h1,h2.kp he,h3,?_⟩;rcases h4 with h4|⟨b,off,cap,hv,hn,hc,hb,hk⟩
  ·exact .inl h4
  ·refine .inr ⟨b,off,cap,hv,hn,hc,⟨bB hb.1 he.1,hb.2⟩,λi hi=>?_⟩;obtain⟨e0,e1,e2,e3,x0,x1,x2,x3,x4⟩:=hk i hi;exact⟨e0,e1,e2,e3,by rw[he.cell hb.1 hb.2];exact x0,by rw[he.cell hb.1 hb.2];exact x1,by rw[he.cell hb.1 hb.2];exact x2,by rw[he.cell hb.1 hb.2];exact x3,RR.kp he x4⟩
theorem RR.more{M M':Nat->Prop}{w:World}(hm:∀g,M' g->M g\/w.heap.size<=g):∀{d:Nat}{t:RT d}{c0 c1 c2 c3:Value},RR M w d t c0 c1 c2 c3->RR M' w d t c0 c1 c2 c3
 |0,_,_,_,_,_,h=>h
 |d+1,t,c0,c1,c2,c3,h=>by
  obtain⟨h0,h1,h2,h3,h4⟩:=h;refine⟨h0,h1,h2.more hm,h3,?_⟩;rcases h4 with h4|⟨b,off,cap,hv,hn,hc,hb,hk⟩
  ·exact .inl h4
  ·refine .inr ⟨b,off,cap,hv,hn,hc,⟨hb.1,λk=>(hm b k).elim hb.2 (by omega)⟩,λi hi=>?_⟩;obtain⟨e0,e1,e2,e3,x0,x1,x2,x3,x4⟩:=hk i hi;exact⟨e0,e1,e2,e3,x0,x1,x2,x3,RR.more hm x4⟩
theorem RR.ext{M:Nat->Prop}{w w':World}{d:Nat}{t:RT d}{c0 c1 c2 c3:Value}(h:RR M w d t c0 c1 c2 c3)(he:Ext w w'):RR M w' d t c0 c1 c2 c3:=RR.kp (Kp.gZ he) h
theorem RR.ok{M:Nat->Prop}{w:World}:∀{d:Nat}{t:RT d}{c0 c1 c2 c3:Value},RR M w d t c0 c1 c2 c3->zw d t
 |0,_,_,_,_,_,h=>h.elim
 |d+1,t,c0,c1,c2,c3,h=>by
  obtain⟨h0,h1,h2,h3,h4⟩:=h;refine⟨h2.2.2.1,λi hi=>?_⟩;rcases h4 with h4|⟨b,off,cap,hv,hn,hc,hb,hk⟩
  ·omega
  ·obtain⟨e0,e1,e2,e3,x0,x1,x2,x3,x4⟩:=hk i hi;exact RR.ok x4
theorem RR.form{M:Nat->Prop}{w:World}{d:Nat}{t:RT (d+1)}{c0 c1 c2 c3:Value}(h:RR M w (d+1) t c0 c1 c2 c3):c0=.int .i64 t.1/\c1=.bool t.2.1.neg/\(∃a p,c2=.slice a t.2.1.n p)/\∃ka kp,c3=.slice ka t.2.2.1 kp:=by
 obtain⟨h0,h1,h2,h3,h4⟩:=h;refine⟨h0,h2.1,kW h2.2,?_⟩;rcases h4 with⟨⟨_,_,rfl,_⟩,h4⟩|⟨b,off,cap,rfl,_⟩
 ·rw[h4];exact⟨_,_,rfl⟩
 ·exact⟨_,_,rfl⟩
theorem RR.kids{M:Nat->Prop}{w:World}{d:Nat}{t:RT (d+1)}{c0 c1 c2:Value}{ka:Option Addr}{kp:Nat}(h:RR M w (d+1) t c0 c1 c2 (.slice ka t.2.2.1 kp))(i:Nat)(hi:i<t.2.2.1):
 ∃b off,ka=some ⟨b,off,none⟩/\t.2.2.1<=kp/\kp<=maxLen/\b<w.heap.size/\∃e0 e1 e2 e3,w.cell? ⟨b,off+i*4,none⟩=some e0/\w.cell? ⟨b,off+i*4+1,none⟩=some e1/\w.cell? ⟨b,off+i*4+2,none⟩=some e2/\w.cell? ⟨b,off+i*4+3,none⟩=some e3/\RR M w d (t.2.2.2 i) e0 e1 e2 e3:=by
 obtain⟨h0,h1,h2,h3,h4⟩:=h;rcases h4 with⟨_,h4⟩|⟨b,off,cap,hv,hn,hc,hb,hk⟩
 ·omega
 ·simp only[Value.slice.injEq,true_and]at hv;obtain⟨rfl,rfl⟩:=hv;exact⟨b,off,rfl,hn,hc,hb.1,hk i hi⟩
theorem qud(n:Nat):(((n:Nat):Int)==0)=(n==0):=by
 rw[Bool.eq_iff_iff,beq_iff_eq,beq_iff_eq];omega
def eH(l:Int):Bool:=decide (1<=l/\l<=4)
def mY(l:Int)(n:Nat):Bool:=decide (l=0)&&n==0
theorem qfJ(l:Int)(w:World):Calls Tryz.prog 62 #[.int .i64 l] w λe w'=>e=.returned (.bool (eH l))/\w=w':=by
 by_cases h1:1<=l
 ·by_cases h2:l<=4
  ·have H:Hid (eH l=true):=by show _=_;unfold eH;simp[h1,h2]
   go_enter Tryz.func62,Tryz.ntmps62
   go_wp2;go_ret;exact⟨by rw[H.out];rfl,rfl⟩
  ·have H:Hid (eH l=false):=by show _=_;unfold eH;simp[h2]
   go_enter Tryz.func62,Tryz.ntmps62
   go_wp2;go_ret;exact⟨by rw[H.out];rfl,rfl⟩
 ·have H:Hid (eH l=false):=by show _=_;unfold eH;simp[h1]
  go_enter Tryz.func62,Tryz.ntmps62
  go_wp2;go_ret;exact⟨by rw[H.out];rfl,rfl⟩
theorem IA(l:Int)(b:Bool)(a:Option Addr)(n p:Nat)(ka:Option Addr)(kn kp:Nat)(w:World):Calls Tryz.prog 90 #[.agg #[.int .i64 l,.bool b,.slice a n p,.slice ka kn kp]] w λe w'=>e=.returned (.bool (mY l n))/\Ext w w':=by
 by_cases h1:l=0
 ·have t0:(l==0)=true:=by simp[h1]
  have H:Hid (mY l n=(n==0)):=by
   show _=_;unfold mY;rw[decide_eq_true h1,Bool.true_and]
  clear h1
  go_enter Tryz.func90,Tryz.ntmps90
  go_wp2;go_ret;exact⟨by rw[H.out, <-qud];rfl,(ai w).alloc _⟩
 ·have t0:(l==0)=false:=by simp[h1]
  have H:Hid (mY l n=false):=by show _=_;unfold mY;simp[h1]
  clear h1
  go_enter Tryz.func90,Tryz.ntmps90
  go_wp2;go_ret;exact⟨by rw[H.out];rfl,(ai w).alloc _⟩
theorem Xm(d:Nat)(t:RT (d+1)):fA (d+1) t=if t.1=0 then(t.2.2.1==0)&&t.2.1.can
 else decide (1<=t.1/\t.1<=4)&&(t.2.1.blank&&(decide (2<=t.2.2.1)&&((List.range t.2.2.1).all (λi=>decide (jY d (t.2.2.2 i)<t.1)&&fA d (t.2.2.2 i))&& !(rF d (t.2.2.2 (t.2.2.1-1)))))):=rfl
def qgz(d:Nat):Prop:=∀(M:Nat->Prop)(t:RT d)(c0 c1 c2 c3:Value)(w:World),RR M w d t c0 c1 c2 c3->
 Calls Tryz.prog 82 #[.agg #[c0,c1,c2,c3]] w λe w'=>e=.returned (.bool (fA d t))/\Ext w w'
theorem qzL(d:Nat)(M:Nat->Prop)(t:RT (d+1))(c0 c1 c2 c3:Value)(w:World)(h:RR M w (d+1) t c0 c1 c2 c3)(hl:t.1=0):
 Calls Tryz.prog 82 #[.agg #[c0,c1,c2,c3]] w λe w'=>e=.returned (.bool (fA (d+1) t))/\Ext w w':=by
 obtain⟨rfl,rfl,⟨a,p,rfl⟩,ka,kp,rfl⟩:=h.form;have hI:vO M w (.bool t.2.1.neg) (.slice a t.2.1.n p) t.2.1:=h.2.2.1;have hE:=Xm d t;rw[av hl]at hE;have HE:=ae hE;have dY:=h.2.2.2.1;have haL:=hI.2.1;have HN:=ae hI.2;clear hE h hI;generalize fA (d+1) t=R at*;obtain⟨L,⟨neg,an,dg⟩,n,bC⟩:=t;simp only at*;subst hl
 by_cases hn:n=0
 ·subst hn
  by_cases ha:an=0
  ·subst ha
   have HR:Hid (R= !neg):=by show _=_;rw[HE.out];simp[iF.can]
   clear HE;cases neg
   ·go_enter Tryz.func82,Tryz.ntmps82
    go_wp2;go_ret;exact⟨by rw[HR.out];rfl,(ai w).alloc _⟩
   ·go_enter Tryz.func82,Tryz.ntmps82
    go_wp2;go_ret;exact⟨by rw[HR.out];rfl,(ai w).alloc _⟩
  ·have HR:Hid (R=(dg (an-1)!=0)):=by show _=_;rw[HE.out];simp[iF.can,ha,show 0<an from by omega]
   clear HE;obtain⟨b,off,rfl,hb,hcell⟩:=mZ HN.out (by omega);obtain⟨k,rfl⟩:∃k,an=k+1:=⟨an-1,by omega⟩
   have x0:(w.alloc (.cells #[.int .i64 0,.bool neg,.slice (some ⟨b,off,none⟩) (k+1) p,.slice ka 0 kp] 42)).cell? ⟨b,off+k,none⟩=some (.int .u32 (dg k)):=by rw[((ai w).alloc _).cell hb];exact hcell k (by omega)
   have xh:Hid (R=(dg k !=0)):=HR;clear HR hcell
   by_cases hd:dg k=0
   ·have t0:(((dg k:Nat):Int)!=0)=false:=by simp[hd]
    have nI:Hid (R=false):=by show _=_;rw[xh.out];simp[hd]
    clear hd xh;cases neg
    ·go_enter Tryz.func82,Tryz.ntmps82
     go_wp2;go_ret;exact⟨by rw[nI.out];rfl,(ai w).alloc _⟩
    ·go_enter Tryz.func82,Tryz.ntmps82
     go_wp2;go_ret;exact⟨by rw[nI.out];rfl,(ai w).alloc _⟩
   ·have t0:(((dg k:Nat):Int)!=0)=true:=by simp[hd]
    have nI:Hid (R=true):=by show _=_;rw[xh.out];simp[hd]
    clear hd xh;cases neg
    ·go_enter Tryz.func82,Tryz.ntmps82
     go_wp2;go_ret;exact⟨by rw[nI.out];rfl,(ai w).alloc _⟩
    ·go_enter Tryz.func82,Tryz.ntmps82
     go_wp2;go_ret;exact⟨by rw[nI.out];rfl,(ai w).alloc _⟩
 ·have HR:Hid (R=false):=by show _=_;rw[HE.out];simp[hn]
  have oW:0<n:=by omega
  clear HE hn
  go_enter Tryz.func82,Tryz.ntmps82
  go_wp2;go_ret;exact⟨by rw[HR.out];rfl,(ai w).alloc _⟩
theorem qzN(d:Nat)(t:RT (d+1)):rF (d+1) t=mY t.1 t.2.1.n:=rfl
theorem qzM(d:Nat)(ih:qgz d)(M:Nat->Prop)(t:RT (d+1))(c0 c1 c2 c3:Value)(w:World)(h:RR M w (d+1) t c0 c1 c2 c3)(hl:t.1≠0):
 Calls Tryz.prog 82 #[.agg #[c0,c1,c2,c3]] w λe w'=>e=.returned (.bool (fA (d+1) t))/\Ext w w':=by
 obtain⟨rfl,rfl,⟨a,p,rfl⟩,ka,kp,rfl⟩:=h.form;have hE:=Xm d t;rw[aj hl]at hE;have HE:=ae hE;have dY:=h.2.2.2.1;have haL:t.2.1.n<=1099511627776:=h.2.2.1.2.1;have pO:=h.2.1;have HK:Hid (∀i,i<t.2.2.1->∃b off,ka=some ⟨b,off,none⟩/\t.2.2.1<=kp/\kp<=maxLen/\b<w.heap.size/\∃e0 e1 e2 e3,w.cell? ⟨b,off+i*4,none⟩=some e0/\w.cell? ⟨b,off+i*4+1,none⟩=some e1/\w.cell? ⟨b,off+i*4+2,none⟩=some e2/\w.cell? ⟨b,off+i*4+3,none⟩=some e3/\RR M w d (t.2.2.2 i) e0 e1 e2 e3):=λi hi=>h.kids i hi;clear hE h;generalize fA (d+1) t=R at*;obtain⟨L,⟨neg,an,dg⟩,n,bC⟩:=t;simp only at*
 have l0:(L==0)=false:=by simp[hl]
 have aR:=qfJ L;clear hl;have dC:Hid (Ext w (w.alloc (.cells #[.int .i64 L,.bool neg,.slice a an p,.slice ka n kp] 42))):=(ai w).alloc _
 by_cases hL:1<=L/\L<=4
 ·have oh:eH L=true:=by unfold eH;simp[hL]
  rw[oh]at aR;have aJ:=ae aR;clear oh aR;obtain⟨yS,vT⟩:=hL
  by_cases ha:0<an
  ·have HR:Hid (R=false):=by show _=_;rw[HE.out];simp[iF.blank,show¬an=0 from by omega]
   clear HE;cases neg
   all_goals
    go_enter Tryz.func82,Tryz.ntmps82
    go_wp2_with (fail);refine(aJ.out _).mono ?_;rintro e w1 ⟨rfl,rfl⟩;go_wp2;go_ret;exact⟨by rw[HR.out];rfl,dC.out⟩
  ·have ha0:an=0:=by omega
   subst ha0;clear ha;cases neg
   ·by_cases hn:n<2
    ·have HR:Hid (R=false):=by show _=_;rw[HE.out];simp[show¬2<=n from by omega]
     clear HE
     go_enter Tryz.func82,Tryz.ntmps82
     go_wp2_with (fail);refine(aJ.out _).mono ?_;rintro e w1 ⟨rfl,rfl⟩;go_wp2;go_ret;exact⟨by rw[HR.out];rfl,dC.out⟩
    ·have HR:Hid (R=((List.range n).all (λi=>decide (jY d (bC i)<L)&&fA d (bC i))&& !(rF d (bC (n-1))))):=by
      show _=_;rw[HE.out];simp[iF.blank,show 2<=n from by omega,yS,vT]
     clear HE
     cases d with
     |zero=>
      obtain⟨b,off,_,_,_,_,e0,e1,e2,e3,_,_,_,_,hf⟩:=HK.out 0 (by omega);exact hf.elim
     |succ d=>
     go_enter Tryz.func82,Tryz.ntmps82
     go_wp2_with (fail);refine(aJ.out _).mono ?_;rintro e w1 ⟨rfl,rfl⟩;go_wp2
     go_loopw [63] (λi wr=>∃k:Nat,k<=n/\i=.int .i64 k/\Hid (∀j,j<k->(decide (jY (d+1) (bC j)<L)&&fA (d+1) (bC j))=true)/\Hid (Ext (w.alloc (.cells #[.int .i64 L,.bool false,.slice a 0 p,.slice ka n kp] 42)) wr)) (λi _=>n-(intOf i).toNat)
     case atStart=>exact⟨0,bu _,rfl,λj hj=>by omega,ai _⟩
     case round=>
      obtain⟨k,hk,rfl,HQ,iP⟩:=hrel;have bT:=dC.out.trans iP.out;obtain⟨ig,KA⟩:=ED iP.out;have hsz:=iP.out.size;simp only[World.size_alloc]at hsz
      have Su:w.heap.size<wr.heap.size:=by omega
      have B0:wr.cell? ⟨w.heap.size,0,none⟩=some (.int .i64 L):=by rw[ig _ _ (by simp)];simp[go_sem]
      have B3:wr.cell? ⟨w.heap.size,3,none⟩=some (.slice ka n kp):=by rw[ig _ _ (by simp)];simp[go_sem]
      clear ig KA
      by_cases hlt:k<n
      ·obtain⟨b,off,rfl,Dm,N8,hb,e0,e1,e2,e3,x0,x1,x2,x3,uS⟩:=HK.out k hlt;rw[<-bT.cell hb]at x0 x1 x2 x3
       have gD:b<wr.heap.size:=by omega
       obtain⟨rfl,rfl,⟨a2,p2,rfl⟩,iW,iX,rfl⟩:=uS.form;have lg:=ae uS;clear uS
       by_cases iH:L<=(bC k).1
       ·have nI:Hid (R=false):=by
         show _=_;rw[HR.out]
         have:(List.range n).all (λi=>decide (jY (d+1) (bC i)<L)&&fA (d+1) (bC i))=false:=by
          rw[List.all_eq_false];refine⟨k,List.mem_range.2 hlt,?_⟩
          have:¬jY (d+1) (bC k)<L:=by show¬(bC k).1<L;omega
          simp[this]
         rw[this];rfl
        go_wp2;go_ret;exact⟨by rw[nI.out];rfl,bT.alloc _⟩
       ·have aQ:Ext wr (wr.alloc (.cells #[.int .i64 (bC k).1,.bool (bC k).2.1.neg,.slice a2 (bC k).2.1.n p2,.slice iW (bC k).2.2.1 iX] 42)):=(ai wr).alloc _;have SH:=ih M (bC k) _ _ _ _ _ (lg.out.ext (bT.trans aQ));have JB:=ae SH;clear SH;cases qE:fA (d+1) (bC k)
        ·rw[qE]at JB
         have nI:Hid (R=false):=by
          show _=_;rw[HR.out]
          have:(List.range n).all (λi=>decide (jY (d+1) (bC i)<L)&&fA (d+1) (bC i))=false:=by
           rw[List.all_eq_false];exact⟨k,List.mem_range.2 hlt,by simp[qE]⟩
          rw[this];rfl
         clear qE;go_wp2_with (fail);refine JB.out.mono ?_;rintro e w1 ⟨rfl,ah⟩;go_wp2;go_ret;exact⟨by rw[nI.out];rfl,(bT.trans aQ).trans ah⟩
        ·rw[qE]at JB;have Ud:=ae qE;clear qE;go_wp2_with (fail);refine JB.out.mono ?_;rintro e w1 ⟨rfl,ah⟩;go_wp2
         go_roundw
         case rel=>exact⟨k+1,by omega,by go_num,λj hj=>by
          by_cases lC:j=k
          ·subst lC
           have:jY (d+1) (bC j)<L:=by show(bC j).1<L;omega
           simp[this,Ud.out]
          ·exact HQ.out j (by omega),(iP.out.trans aQ).trans ah⟩
         case measure=>simp[intOf];omega
      ·have hkn:k=n:=by omega
       subst hkn;obtain⟨b,off,rfl,Dm,N8,hb,e0,e1,e2,e3,x0,x1,x2,x3,uS⟩:=HK.out (k-1) (by omega);obtain⟨q,rfl⟩:∃q,k=q+1:=⟨k-1,by omega⟩;simp only[Nat.add_sub_cancel]at x0 x1 x2 x3 uS;rw[<-bT.cell hb]at x0 x1 x2 x3
       have gD:b<wr.heap.size:=by omega
       obtain⟨rfl,rfl,⟨a2,p2,rfl⟩,iW,iX,rfl⟩:=uS.form
       have nI:Hid (R= !(mY (bC q).1 (bC q).2.1.n)):=by
        show _=_;rw[HR.out]
        have:(List.range (q+1)).all (λi=>decide (jY (d+1) (bC i)<L)&&fA (d+1) (bC i))=true:=by
         rw[List.all_eq_true];intro i hi;exact HQ.out i (List.mem_range.1 hi)
        rw[this,Bool.true_and,Nat.add_sub_cancel,qzN]
       clear uS HQ HR;go_wp2_with (fail);refine(IA _ _ _ _ _ _ _ _ _).mono ?_;rintro e w1 ⟨rfl,ah⟩;go_wp2;go_ret;exact⟨by rw[nI.out];rfl,bT.trans ah⟩
   ·have HR:Hid (R=false):=by show _=_;rw[HE.out];simp[iF.blank]
    clear HE
    go_enter Tryz.func82,Tryz.ntmps82
    go_wp2_with (fail);refine(aJ.out _).mono ?_;rintro e w1 ⟨rfl,rfl⟩;go_wp2;go_ret;exact⟨by rw[HR.out];rfl,dC.out⟩
 ·have oh:eH L=false:=by unfold eH;simp only[decide_eq_false_iff_not];exact hL
  rw[oh]at aR
  have HR:Hid (R=false):=by show _=_;rw[HE.out,decide_eq_false hL];rfl
  have aJ:=ae aR;clear oh aR hL HE
  go_enter Tryz.func82,Tryz.ntmps82
  go_wp2_with (fail);refine(aJ.out _).mono ?_;rintro e w1 ⟨rfl,rfl⟩;go_wp2;go_ret;exact⟨by rw[HR.out];rfl,dC.out⟩
theorem qqP:∀d,qgz d
 |0=>λ_ _ _ _ _ _ _ h=>h.elim
 |d+1=>λM t c0 c1 c2 c3 w h=>by
  by_cases hl:t.1=0
  ·exact qzL d M t c0 c1 c2 c3 w h hl
  ·exact qzM d (qqP d) M t c0 c1 c2 c3 w h hl
def Mf(M:Nat->Prop)(base:Nat):Nat->Prop:=λb=>M b\/base<=b
def uK(M:Nat->Prop)(base:Nat)(w:World)(v:Value)(n:Nat)(z:Nat->Int)(x:Nat->TE):Prop:=
 Own w base 78 6 v n (tx x)/\∀i,i<n->dh (Mf M base) w (.bool (x i).b) (.slice (x i).a (x i).n (x i).p) (z i)
def Br(m:Mo):Nat->Value:=λi=>.int .i64 (m.get (i+1))
theorem qAr(m:Mo)(j:Nat)(hj:j<4)(a b:Int)(i:Nat)(hi:i<4):fG (Br (Mo.add m (xp (j+1) a))) j (.int .i64 (m.get (j+1)+b)) i=Br (Mo.add m (xp (j+1) b)) i:=by
 unfold fG Br;rw[iL,iL,gM _ _ _ (by omega) (by omega),gM _ _ _ (by omega) (by omega)]
 by_cases h:i=j
 ·subst h;simp
 ·rw[aj h,aj (by omega),aj (by omega)]
theorem qAq{w:World}{g:Nat}{t:TypeId}{m:Mo}(h:au w g t 4 (Br m)):w.cell? ⟨g,0,none⟩=some (.int .i64 m.a)/\w.cell? ⟨g,1,none⟩=some (.int .i64 m.b)/\w.cell? ⟨g,2,none⟩=some (.int .i64 m.c)/\w.cell? ⟨g,3,none⟩=some (.int .i64 m.d):=
 ⟨h.cell (by omega),h.cell (by omega),h.cell (by omega),h.cell (by omega)⟩
theorem qAp(m:Mo)(i:Nat)(hi:i<4):arr #[.int .i64 m.a,.int .i64 m.b,.int .i64 m.c,.int .i64 m.d] i=Br m i:=by
 match i,hi with
 |0,_=>rfl
 |1,_=>rfl
 |2,_=>rfl
 |3,_=>rfl
def Room(d:Nat)(m:Mo):Prop:=∀k, -(4611686018427387904-(d:Int)*1099511627776)<=m.get k/\m.get k<=4611686018427387904-(d:Int)*1099511627776
def O7(M:Nat->Prop)(base:Nat)(w:World)(v:Value)(l:List Tm)(e:Ending)(w':World):Prop:=
 ∃v' n' z' x',e=.returned v'/\uK M base w' v' n' z' x'/\bU n' z' x'=l/\w.grownBy w' v.ownBlock/\(∀b,v'.ownBlock=some b->v.ownBlock=some b\/w.heap.size<=b)
def qgC(d:Nat):Prop:=∀(M:Nat->Prop)(base:Nat)(t:RT d)(c0 c1 c2 c3 v:Value)(n:Nat)(z:Nat->Int)(x:Nat->TE)(m:Mo)(w:World),base<=w.heap.size->RR (Mf M base) w d t c0 c1 c2 c3->uK M base w v n z x->
 n+(terms d t).length<=1099511627776->Room d m->Calls Tryz.prog 83 #[v,.agg #[c0,c1,c2,c3],jZ m] w (O7 M base w v (bU n z x++shift m (terms d t)))
theorem qEQ(n:Nat)(z:Nat->Int)(x:Nat->TE)(c:Int)(t:TE):bU (n+1) (λj=>if j=n then c else z j) (λj=>if j=n then t else x j)=bU n z x++[(c,t.m)]:=by
 rw[qgb]
 congr 1
 ·unfold bU;apply List.map_congr_left;intro i hi
  have:i≠n:=by simp at hi;omega
  simp[this]
 ·simp
theorem uK.kp{M:Nat->Prop}{base:Nat}{w w':World}{v:Value}{n:Nat}{z:Nat->Int}{x:Nat->TE}(h:uK M base w v n z x)(he:∀g,v.ownBlock=some g->w'.heap[g]?=w.heap[g]?)(hk:Kp (Mf M base) w w'):uK M base w' v n z x:=
 ⟨h.1.of_heap he,λi hi=>(h.2 i hi).kp hk⟩
theorem uK.ext{M:Nat->Prop}{base:Nat}{w w':World}{v:Value}{n:Nat}{z:Nat->Int}{x:Nat->TE}(h:uK M base w v n z x)(he:Ext w w'):uK M base w' v n z x:=⟨h.1.ext he,λi hi=>(h.2 i hi).ext he⟩
theorem qoY{M:Nat->Prop}{base:Nat}{w w':World}{r:Option Nat}(hg:w.grownBy w' r)(hr:∀k,r=some k->base<=k):Kp (Mf M base) w w':=Kp.grown hg λk hk=>.inr (hr k hk)
theorem qwI{w w1 w2:World}{r:Option Nat}(h:Ext w w1)(hg:w1.grownBy w2 r):w.grownBy w2 r:=Q5 (h.grownBy r) hg
theorem qjB(d:Nat)(M:Nat->Prop)(base:Nat)(t:RT (d+1))(c0 c1 c2 c3 v:Value)(n:Nat)(z:Nat->Int)(x:Nat->TE)(m:Mo)(w:World)(hbase:base<=w.heap.size)(h:RR (Mf M base) w (d+1) t c0 c1 c2 c3)(hR:uK M base w v n z x)
 (hL:n+(terms (d+1) t).length<=1099511627776) (hl:t.1<=0\/4<t.1):
 Calls Tryz.prog 83 #[v,.agg #[c0,c1,c2,c3],jZ m] w (O7 M base w v (bU n z x++shift m (terms (d+1) t))):=by
 obtain⟨i0,hi,hz0,hz1,hz2⟩:=info_parts Tryz.qeN;obtain⟨rfl,rfl,⟨a,p,rfl⟩,ka,kp,rfl⟩:=h.form;obtain⟨va,vc,rfl⟩:=hR.1.form;have pO:=h.2.1;have hE:Ext w ((w.alloc (.cells #[.int .i64 t.1,.bool t.2.1.neg,.slice a t.2.1.n p,.slice ka t.2.2.1 kp] 42)).alloc (.cells #[.int .i64 m.a,.int .i64 m.b,.int .i64 m.c,.int .i64 m.d] 76)):=((ai w).alloc _).alloc _;rcases hl with hl|hl
 ·have HT:Hid (terms (d+1) t=[(t.2.1.val,Mo.zero)]):=rM hl
  have hlen:n+1<=1099511627776:=by rw[HT.out]at hL;simpa using hL
  have HI:Hid (dh (Mf M base) w (.bool t.2.1.neg) (.slice a t.2.1.n p) t.2.1.val):=h.2.2.1.dB;clear hL h;generalize terms (d+1) t=T at*;obtain⟨L,r,kn,bC⟩:=t;simp only at*;have hO:=hR.1.ext hE;have hs0:=hE.size;have jg:=hO.ext ((ai _).alloc (.cells #[.bool r.neg,.slice a r.n p,.int .i64 m.a,.int .i64 m.b,.int .i64 m.c,.int .i64 m.d] 78));have dW:=au.aO ((w.alloc (.cells #[.int .i64 L,.bool r.neg,.slice a r.n p,.slice ka kn kp] 42)).alloc (.cells #[.int .i64 m.a,.int .i64 m.b,.int .i64 m.c,.int .i64 m.d] 76)) #[.bool r.neg,.slice a r.n p,.int .i64 m.a,.int .i64 m.b,.int .i64 m.c,.int .i64 m.d] 78 6 rfl;simp only[World.size_alloc]at dW;have mi:Hid (∀j,j<6->(arr #[.bool r.neg,.slice a r.n p,.int .i64 m.a,.int .i64 m.b,.int .i64 m.c,.int .i64 m.d] j).oneCell'=true):=qpU ⟨r.neg,a,r.n,p,m⟩;have HR:=ae hR;clear hR
  go_enter Tryz.func83,Tryz.ntmps83
  go_wp2_with (at_builtin;refine yj _ rfl (.tmp 14) (.tmp 19) _ rfl base 78 i0 _ 6 64 Tryz.underlying36 hi hz0 hz1 hz2 rfl (by omega) (.slice va n vc) n (tx x) rfl jg (w.heap.size+1+1) 78 1 (arr #[.bool r.neg,.slice a r.n p,.int .i64 m.a,.int .i64 m.b,.int .i64 m.c,.int .i64 m.d]) rfl dW mi.out ?s1 ?s2 ?s3 ?_)
  case s1=>unfold maxLen;omega
  case s2=>omega
  case s3=>simp;omega
  intro gg cap2 w2 ed bK hat uf;have mX:=hE.alloc (.cells #[.bool r.neg,.slice a r.n p,.int .i64 m.a,.int .i64 m.b,.int .i64 m.c,.int .i64 m.d] 78);have rz:=qwI mX bK;have aT:=qoY (M:=M) (base:=base) rz (λq hq=>(HR.out.1.lt q hq).1)
  have gV:O7 M base w (.slice va n vc) (bU n z x++shift m T) (.returned (.slice (some ⟨gg,0,none⟩) (n+1) cap2)) w2:=by
   refine⟨_,n+1,λj=>if j=n then r.val else z j,λj=>if j=n then⟨r.neg,a,r.n,p,m⟩else x j,rfl,⟨ed.congr (λj hj=>qru x n ⟨r.neg,a,r.n,p,m⟩ j hj),λi hi=>?_⟩,?_,rz,λb hb=>?_⟩
   ·by_cases wC:i=n
    ·simp only[av wC];exact HI.out.kp aT
    ·simp only[aj wC];exact(HR.out.2 i (by omega)).kp aT
   ·rw[qEQ,HT.out];simp[shift,Mo.qrT]
   ·simp only[Value.ownBlock,Option.some.injEq]at hb;subst hb;rcases hat with h|h
    ·exact .inl h
    ·exact .inr (by omega)
  have vL:=ae gV;clear gV ed bK hat rz aT jg dW;go_wp2;go_ret;exact vL.out
 ·have HT:Hid (terms (d+1) t=[]):=by show _=_;unfold terms;rw[aj (by omega),av hl]
  clear hL h;generalize terms (d+1) t=T at*;obtain⟨L,r,kn,bC⟩:=t;simp only at*
  go_enter Tryz.func83,Tryz.ntmps83
  go_wp2;go_ret;exact⟨_,n,z,x,rfl,hR.ext hE,by rw[HT.out];simp[shift],hE.grownBy _,λb hb=>.inl hb⟩
theorem qC6(m:Mo)(L k:Nat)(P:Nat->List Tm):shift m (aM L (k+1) P)=shift m (aM L k P)++shift (Mo.add m (xp L (k:Int))) (P k):=by
 rw[gF,Yg,qfP,Mo.Vj m]
theorem qBP(L n k:Nat)(P:Nat->List Tm)(h:k<=n):(aM L k P).length<=(aM L n P).length:=by
 induction n with
 |zero=>have:k=0:=by omega
        subst this;exact aA _
 |succ n ih=>
  by_cases hk:k=n+1
  ·subst hk;exact aA _
  ·have:=ih (by omega);rw[gF,List.length_append];omega
theorem Room.bC{d:Nat}{m:Mo}(h:Room (d+1) m)(L k:Nat)(h1:1<=L)(h4:L<=4)(hk:k<=1099511627776):Room d (Mo.add m (xp L (k:Int))):=by
 intro j;have:=h j;rw[iL,gM L j _ h1 h4]
 have e:((d+1:Nat):Int)*1099511627776=(d:Int)*1099511627776+1099511627776:=by omega
 split<;>omega
theorem quL(d:Nat)(ih:qgC d)(M:Nat->Prop)(base:Nat)(t:RT (d+1))(c0 c1 c2 c3 v:Value)(n:Nat)(z:Nat->Int)(x:Nat->TE)(m:Mo)(w:World)(hbase:base<=w.heap.size)(h:RR (Mf M base) w (d+1) t c0 c1 c2 c3)(hR:uK M base w v n z x)
 (hL:n+(terms (d+1) t).length<=1099511627776) (qnM:Room (d+1) m) (hl:1<=t.1/\t.1<=4):
 Calls Tryz.prog 83 #[v,.agg #[c0,c1,c2,c3],jZ m] w (O7 M base w v (bU n z x++shift m (terms (d+1) t))):=by
 obtain⟨rfl,rfl,⟨a,p,rfl⟩,ka,kp,rfl⟩:=h.form;obtain⟨va,vc,rfl⟩:=hR.1.form;have dY:=h.2.2.2.1;have HK:Hid (∀i,i<t.2.2.1->∃b off,ka=some ⟨b,off,none⟩/\t.2.2.1<=kp/\kp<=maxLen/\b<w.heap.size/\∃e0 e1 e2 e3,w.cell? ⟨b,off+i*4,none⟩=some e0/\w.cell? ⟨b,off+i*4+1,none⟩=some e1/\w.cell? ⟨b,off+i*4+2,none⟩=some e2/\w.cell? ⟨b,off+i*4+3,none⟩=some e3/\RR (Mf M base) w d (t.2.2.2 i) e0 e1 e2 e3):=λi hi=>h.kids i hi
 have HKb:Hid (∀b off,ka=some ⟨b,off,none⟩->0<t.2.2.1->b<base):=by
  intro b off jN h0;obtain⟨_,_,_,_,h4⟩:=h;rcases h4 with⟨_,h4⟩|⟨b',off',cap,hv,hn,hc,hb,hk⟩
  ·omega
  ·simp only[Value.slice.injEq]at hv;rw[hv.1]at jN;simp only[Option.some.injEq,Addr.mk.injEq]at jN;obtain⟨rfl,rfl,_⟩:=jN;rcases Nat.lt_or_ge b' base with hlt|jy
   ·exact hlt
   ·exact absurd (.inr jy) hb.2
 have HT:Hid (terms (d+1) t=aM t.1.toNat t.2.2.1 (λi=>terms d (t.2.2.2 i))):=vC hl.1 hl.2
 have qsK:Hid (n+(aM t.1.toNat t.2.2.1 (λi=>terms d (t.2.2.2 i))).length<=1099511627776):=by show _<=_;rw[<-HT.out];exact hL
 have qia:=ae qnM;clear hL h qnM;generalize terms (d+1) t=T at*;obtain⟨L,r,kn,bC⟩:=t;simp only at*;obtain⟨j,hj⟩:∃j:Nat,L=(j:Int)+1:=⟨(L-1).toNat,by omega⟩;subst hj
 have AR:j<4:=by omega
 have HTJ:Hid (((j:Int)+1).toNat=j+1):=by show _=_;omega
 have hE:Ext w ((w.alloc (.cells #[.int .i64 ((j:Int)+1),.bool r.neg,.slice a r.n p,.slice ka kn kp] 42)).alloc (.cells #[.int .i64 m.a,.int .i64 m.b,.int .i64 m.c,.int .i64 m.d] 76)):=((ai w).alloc _).alloc _;have VN:=(au.aO (w.alloc (.cells #[.int .i64 ((j:Int)+1),.bool r.neg,.slice a r.n p,.slice ka kn kp] 42)) #[.int .i64 m.a,.int .i64 m.b,.int .i64 m.c,.int .i64 m.d] 76 4 rfl).congr (f':=Br m) (λi hi=>qAp m i hi);simp only[World.size_alloc]at VN;have qkD:=(au.aO w #[.int .i64 ((j:Int)+1),.bool r.neg,.slice a r.n p,.slice ka kn kp] 42 4 rfl).alloc (.cells #[.int .i64 m.a,.int .i64 m.b,.int .i64 m.c,.int .i64 m.d] 76);have st0:=VN.cell (i:=j) (by omega);simp only[Br]at st0;have lj0:(0:Int)<=(j:Int):=jE _
 have lj1:(j:Int)<4:=by omega
 have rE:=qia.out (j+1)
 have kV:((d+1:Nat):Int)*1099511627776=(d:Int)*1099511627776+1099511627776:=by omega
 have WQ:(0:Int)<=(d:Int)*1099511627776:=by omega
 have hr4: -4611686018427387904<=m.get (j+1):=by omega
 have hr5:m.get (j+1)+1099511627776<=4611686018427387904:=by omega
 clear rE kV WQ;have dc1:decide ((j:Int)+1<=0)=false:=decide_eq_false (by omega);have dc2:decide (4<(j:Int)+1)=false:=decide_eq_false (by omega);have K7:∀b,Value.ownBlock (.slice va n vc)=some b->base<=b/\b<w.heap.size:=λb hb=>hR.1.lt b hb;have Js:=ae K7;clear K7
 go_enter Tryz.func83,Tryz.ntmps83
 go_wp2
 go_loopw [34,0] (λi tv wr=>∃(k n2:Nat)(z2:Nat->Int)(x2:Nat->TE)(q:Int),k<=kn/\i=.int .i64 k/\uK M base wr tv n2 z2 x2/\Hid (bU n2 z2 x2=bU n z x++shift m (aM (j+1) k (λi=>terms d (bC i))))/\au wr (w.heap.size+1) 76 4 (Br (Mo.add m (xp (j+1) q)))/\
  au wr w.heap.size 42 4 (arr #[.int .i64 ((j:Int)+1),.bool r.neg,.slice a r.n p,.slice ka kn kp])/\w.grownBy wr (Value.ownBlock (.slice va n vc))/\Hid (∀b,tv.ownBlock=some b->Value.ownBlock (.slice va n vc)=some b\/w.heap.size+2<=b)) (λi _ _=>kn-(intOf i).toNat)
 case atStart=>
  refine⟨0,n,z,x,0,bu _,rfl,hR.ext hE,by show _=_;simp[Fw,shift],VN.congr (λi hi=>?_),qkD,hE.grownBy _,λb hb=>.inl hb⟩;unfold Br;rw[iL,gM _ _ _ (by omega) (by omega)];split<;>simp
 case round=>
  clear VN qkD st0;obtain⟨k,n2,z2,x2,q,hk,rfl,EO,nK,qD,hBp,fE,cK⟩:=hrel;obtain⟨Ym,Yn,rfl⟩:=EO.1.form;have b0:=hBp.cell (i:=0) (by omega);simp only[arr]at b0;have s0:=qD.cell (i:=j) (by omega);have s1:=qD.frozen j;have hls:=qD.lt;have qGo:=hBp.lt
  by_cases hlt:k<kn
  ·obtain⟨b,off,rfl,Dm,N8,hb,e0,e1,e2,e3,y0,y1,y2,y3,uS⟩:=HK.out k hlt;have Dc:b<base:=HKb.out b off rfl (by omega);have N9:Kp (Mf M base) w wr:=qoY fE (λq hq=>(Js.out q hq).1);have hcell:∀o,wr.cell? ⟨b,o,none⟩=w.cell? ⟨b,o,none⟩:=λo=>World.cell?_of_block (w:=w) (fE.block b hb (λe=>by have:=(Js.out b e.symm).1;omega));rw[<-hcell]at y0 y1 y2 y3;clear hcell
   have gD:b<wr.heap.size:=by have:=fE.size;omega
   have qlA:=RR.kp N9 uS
   cases d with
   |zero=>exact uS.elim
   |succ d=>
   obtain⟨rfl,rfl,⟨a2,p2,rfl⟩,iW,iX,rfl⟩:=uS.form;have lg:=ae qlA;clear uS qlA
   have hkk:(k:Int)<=1099511627776:=by omega
   have dF:Ext (wr.setCell ⟨w.heap.size+1,j,none⟩ (.int .i64 (m.get (j+1)+(k:Int)))) ((wr.setCell ⟨w.heap.size+1,j,none⟩ (.int .i64 (m.get (j+1)+(k:Int)))).alloc (.cells #[.int .i64 (bC k).1,.bool (bC k).2.1.neg,.slice a2 (bC k).2.1.n p2,.slice iW (bC k).2.2.1 iX] 42)):=(ai _).alloc _;have NB:Kp (Mf M base) wr (wr.setCell ⟨w.heap.size+1,j,none⟩ (.int .i64 (m.get (j+1)+(k:Int)))):=Kp.set _ _ (.inr (by simp;omega)) _;have qcf:=((qD.set j (.int .i64 (m.get (j+1)+(k:Int)))).congr (f':=Br (Mo.add m (xp (j+1) (k:Int)))) (λi hi=>qAr m j AR q k i hi)).ext dF;obtain⟨m0,m1,m2,m3⟩:=qAq qcf;have qkE:=(hBp.kM (p:=⟨w.heap.size+1,j,none⟩) (by simp) (.int .i64 (m.get (j+1)+(k:Int)))).ext dF;have qgQ:=ae qcf;have qgS:=ae qkE
   have iM:w.grownBy ((wr.setCell ⟨w.heap.size+1,j,none⟩ (.int .i64 (m.get (j+1)+(k:Int)))).alloc (.cells #[.int .i64 (bC k).1,.bool (bC k).2.1.neg,.slice a2 (bC k).2.1.n p2,.slice iW (bC k).2.2.1 iX] 42)) (Value.ownBlock (.slice va n vc)):=by
    refine Q5 ?_ (dF.grownBy _);exact⟨fE.os,fE.tape,fE.output,by have:=fE.size;simpa[World.setCell]using this,λb hb hne=>(Below.heap_setCell _ _ _ _ (by show b≠w.heap.size+1;omega)).trans (fE.block b hb hne)⟩
   have NH:uK M base ((wr.setCell ⟨w.heap.size+1,j,none⟩ (.int .i64 (m.get (j+1)+(k:Int)))).alloc (.cells #[.int .i64 (bC k).1,.bool (bC k).2.1.neg,.slice a2 (bC k).2.1.n p2,.slice iW (bC k).2.2.1 iX] 42)) (.slice Ym n2 Yn) n2 z2 x2:=by
    refine(EO.kp (λg hg=>Below.heap_setCell _ _ _ _ ?_) NB).ext dF;show g≠w.heap.size+1;rcases cK.out g hg with hh|hh
    ·have:=(Js.out g hh).2;omega
    ·omega
   have qlB:RR (Mf M base) ((wr.setCell ⟨w.heap.size+1,j,none⟩ (.int .i64 (m.get (j+1)+(k:Int)))).alloc (.cells #[.int .i64 (bC k).1,.bool (bC k).2.1.neg,.slice a2 (bC k).2.1.n p2,.slice iW (bC k).2.2.1 iX] 42)) (d+1) (bC k) _ _ _ _:=(RR.kp NB lg.out).ext dF
   have SH:=ih M base (bC k) _ _ _ _ (.slice Ym n2 Yn) n2 z2 x2 (Mo.add m (xp (j+1) (k:Int))) _ (by have:=iM.size;exact aK hbase this) qlB NH (by
    have h1:=qsK.out;rw[HTJ.out]at h1;have h2:=qBP (j+1) kn (k+1) (λi=>terms (d+1) (bC i)) (by omega);rw[gF,List.length_append]at h2
    have h3:n2=n+(aM (j+1) k (λi=>terms (d+1) (bC i))).length:=by
     have:=congrArg List.length nK.out;rw[zJ,List.length_append,zJ]at this;simpa[shift]using this
    have h4:(shift (xp (j+1) (k:Int)) (terms (d+1) (bC k))).length=(terms (d+1) (bC k)).length:=by simp[shift]
    omega) (qia.out.bC (j+1) k (by omega) (by omega) (by omega))
   have JB:=ae SH;have yN:=au.aO (wr.setCell ⟨w.heap.size+1,j,none⟩ (.int .i64 (m.get (j+1)+(k:Int)))) #[.int .i64 (bC k).1,.bool (bC k).2.1.neg,.slice a2 (bC k).2.1.n p2,.slice iW (bC k).2.2.1 iX] 42 4 rfl;simp only[World.size_setCell]at yN;have o0:=yN.cell (i:=0) (by omega);have o1:=yN.cell (i:=1) (by omega);have o2:=yN.cell (i:=2) (by omega);have o3:=yN.cell (i:=3) (by omega);simp only[arr]at o0 o1 o2 o3;have pz:=ae iM;have qze:=yN.lt;generalize oN:(wr.setCell ⟨w.heap.size+1,j,none⟩ (.int .i64 (m.get (j+1)+(k:Int)))).alloc (.cells #[.int .i64 (bC k).1,.bool (bC k).2.1.neg,.slice a2 (bC k).2.1.n p2,.slice iW (bC k).2.2.1 iX] 42)=W3 at m0 m1 m2 m3 o0 o1 o2 o3 pz qgQ qgS JB qze;have Jt:=ae oN;clear SH qlB qcf qkE yN iM NH oN dF NB
   go_upto_region 10 with(fail)
   rw[Jt.out];go_wp2_with (fail);refine(JB.out).mono ?_;rintro e w4 ⟨v4,n4,z4,x4,rfl,hR4,hx4,jh,oO⟩;obtain⟨va4,vc4,rfl⟩:=hR4.1.form
   have HF:Hid (∃(k2 n2:Nat)(z2:Nat->Int)(x2:Nat->TE)(q:Int),k2<=kn/\Value.int .i64 ((k:Int)+1)=.int .i64 k2/\uK M base w4 (.slice va4 n4 vc4) n2 z2 x2/\Hid (bU n2 z2 x2=bU n z x++shift m (aM (j+1) k2 (λi=>terms (d+1) (bC i))))/\au w4 (w.heap.size+1) 76 4 (Br (Mo.add m (xp (j+1) q)))/\
    au w4 w.heap.size 42 4 (arr #[.int .i64 ((j:Int)+1),.bool r.neg,.slice a r.n p,.slice (some ⟨b,off,none⟩) kn kp])/\w.grownBy w4 (Value.ownBlock (.slice va n vc))/\Hid (∀b,Value.ownBlock (.slice va4 n4 vc4)=some b->Value.ownBlock (.slice va n vc)=some b\/w.heap.size+2<=b)):=by
    have hsz:=pz.out.size
    have Hl:∀b,b<w.heap.size+2->w.heap.size<=b->(some b:Option Nat)≠Value.ownBlock (.slice Ym n2 Yn):=by
     intro b h1 h2 e;rcases cK.out b e.symm with hh|hh
     ·have:=(Js.out b hh).2;omega
     ·omega
    refine⟨k+1,n4,z4,x4,k,by omega,by simp,hR4,?_,qgQ.out.of_heap (jh.block _ (by omega) (Hl _ (by omega) (by omega))),qgS.out.of_heap (jh.block _ (by omega) (Hl _ (by omega) (by omega))),?_,?_⟩
    ·show _=_;rw[hx4,nK.out,qC6,List.append_assoc]
    ·have h3:=pz.out;refine⟨jh.os.trans h3.os,jh.tape.trans h3.tape,jh.output.trans h3.output,aK h3.size jh.size,λb hb hne=>(jh.block b (by omega) (λe=>?_)).trans (h3.block b hb hne)⟩;rcases cK.out b e.symm with hh|hh
     ·exact hne hh.symm
     ·omega
    ·intro b hb;rcases oO b hb with hh|hh
     ·exact cK.out b hh
     ·exact .inr (by omega)
   clear hR4 hx4 jh oO;go_wp2
   go_roundw
   case rel=>exact HF.out
   case measure=>simp[intOf];omega
  ·have hkn:k=kn:=by omega
   subst hkn
   have HF:Hid (O7 M base w (.slice va n vc) (bU n z x++shift m T) (.returned (.slice Ym n2 Yn)) wr):=by
    refine⟨_,n2,z2,x2,rfl,EO,?_,fE,λb hb=>?_⟩
    ·rw[nK.out,HT.out,HTJ.out]
    ·rcases cK.out b hb with hh|hh
     ·exact .inl hh
     ·exact .inr (by omega)
   go_wp2;go_ret;exact HF.out
theorem qfH:∀d,qgC d
 |0=>λ_ _ _ _ _ _ _ _ _ _ _ _ _ _ h=>h.elim
 |d+1=>λM base t c0 c1 c2 c3 v n z x m w hb h hR hL hm=>by
  rcases Int.lt_or_le t.1 1 with h1|h1
  ·exact qjB d M base t c0 c1 c2 c3 v n z x m w hb h hR hL (.inl (by omega))
  ·rcases Int.lt_or_le 4 t.1 with h4|h4
   ·exact qjB d M base t c0 c1 c2 c3 v n z x m w hb h hR hL (.inr h4)
   ·exact quL d (qfH d) M base t c0 c1 c2 c3 v n z x m w hb h hR hL hm ⟨h1,h4⟩
def Cx:(d:Nat)->RT d
 |0=>()
 |d+1=>(0,⟨false,0,λ_=>0⟩,0,λ_=>Cx d)
def uj(d:Nat)(lv:Int)(r:iF)(n:Nat)(bC:Nat->RT d):RT (d+1):=(lv,r,n,bC)
theorem qbn(d:Nat)(r:iF)(bC:Nat->RT d)(lv:Int)(h0:lv=0)(hc:r.can=true):fA (d+1) (uj d lv r 0 bC)=true:=by
 rw[Xm,av (show(uj d lv r 0 bC).1=0 from h0)];show(((0:Nat)==0)&&r.can)=true;simp[hc]
theorem Yi(d:Nat)(r:iF)(bC:Nat->RT d)(lv:Int)(h0:lv<=0):terms (d+1) (uj d lv r 0 bC)=[(r.val,Mo.zero)]:=rM h0
theorem TJ(d:Nat)(r:iF)(n:Nat)(bC:Nat->RT d)(lv:Int)(h1:1<=lv)(h4:lv<=4):terms (d+1) (uj d lv r n bC)=aM lv.toNat n (λi=>terms d (bC i)):=vC h1 h4
theorem pick{α:Type}(dft:α){n:Nat}{Q:Nat->α->Prop}(h:∀i,i<n->∃a,Q i a):∃f:Nat->α,∀i,i<n->Q i (f i):=by
 classical
 refine⟨λi=>if hi:i<n then Classical.choose (h i hi)else dft,λi hi=>?_⟩;simp only[dif_pos hi];exact Classical.choose_spec (h i hi)
theorem qoM{d:Nat}{t:RT (d+1)}(h1:1<=t.1/\t.1<=4)(hn:t.2.1.n=0)(hb:t.2.1.neg=false)(h2:2<=t.2.2.1)(hk:∀i,i<t.2.2.1->jY d (t.2.2.2 i)<t.1/\fA d (t.2.2.2 i)=true)(hz:rF d (t.2.2.2 (t.2.2.1-1))=false):fA (d+1) t=true:=by
 rw[Xm,aj (by omega)];simp only[Bool.and_eq_true,decide_eq_true_eq,List.all_eq_true,List.mem_range,Bool.not_eq_true',iF.blank,beq_iff_eq];exact⟨h1,⟨hn,hb⟩,h2,hk,hz⟩
theorem OQ(L n:Nat)(P Q:Nat->List Tm)(h:∀i,i<n->P i=Q i):aM L n P=aM L n Q:=by
 induction n with
 |zero=>rfl
 |succ n ih=>rw[gF,gF,ih λi hi=>h i (by omega),h n (by omega)]
theorem qfC{M:Nat->Prop}{w:World}:∀(D:Nat){d:Nat}{t:RT d}{c0 c1 c2 c3:Value},RR M w d t c0 c1 c2 c3->fA d t=true->jY d t<=D->∃u:RT (D+1),RR M w (D+1) u c0 c1 c2 c3/\fA (D+1) u=true/\jY (D+1) u=jY d t/\terms (D+1) u=terms d t/\rF (D+1) u=rF d t:=by
 intro D
 induction D with
 |zero=>
  intro d t c0 c1 c2 c3 h hc hl
  cases d with
  |zero=>exact h.elim
  |succ d=>
  have hl0:t.1=0:=by have:=Af hc;have:t.1<=(0:Nat):=hl;omega
  obtain⟨hk,ig⟩:=Gn hc hl0;obtain⟨g0,g1,g2,g3,g4⟩:=h;refine⟨uj _ t.1 t.2.1 0 (λ_=>Cx _),⟨g0,g1,g2,bu _,?_⟩,?_,rfl,?_,rfl⟩
  ·rcases g4 with⟨g4,_⟩|⟨b,off,cap,hv,hn,uU,hb,_⟩
   ·exact .inl ⟨g4,rfl⟩
   ·rw[hk]at hv hn;exact .inr ⟨b,off,cap,hv,bu _,uU,hb,λi hi=>absurd hi (Nat.not_lt_zero _)⟩
  ·exact qbn _ _ _ _ hl0 ig
  ·exact(Yi _ _ _ _ (by omega)).trans (rM (by omega)).symm
 |succ D ih=>
  intro d t c0 c1 c2 c3 h hc hl
  cases d with
  |zero=>exact h.elim
  |succ d=>
  by_cases hl0:t.1=0
  ·obtain⟨hk,ig⟩:=Gn hc hl0;obtain⟨g0,g1,g2,g3,g4⟩:=h;refine⟨uj _ t.1 t.2.1 0 (λ_=>Cx _),⟨g0,g1,g2,bu _,?_⟩,?_,rfl,?_,rfl⟩
   ·rcases g4 with⟨g4,_⟩|⟨b,off,cap,hv,hn,uU,hb,_⟩
    ·exact .inl ⟨g4,rfl⟩
    ·rw[hk]at hv hn;exact .inr ⟨b,off,cap,hv,bu _,uU,hb,λi hi=>absurd hi (Nat.not_lt_zero _)⟩
   ·exact qbn _ _ _ _ hl0 ig
   ·exact(Yi _ _ _ _ (by omega)).trans (rM (by omega)).symm
  ·obtain⟨h1,iN,iZ,h2,h5,h6⟩:=uN hc hl0;obtain⟨g0,g1,g2,g3,g4⟩:=h;rcases g4 with⟨_,g4⟩|⟨b,off,cap,hv,hn,uU,hb,hk⟩
   ·omega
   obtain⟨bC,dw⟩:=pick (Cx (D+1)) (n:=t.2.2.1) (Q:=λi u=>(∃e0 e1 e2 e3,w.cell? ⟨b,off+i*4,none⟩=some e0/\w.cell? ⟨b,off+i*4+1,none⟩=some e1/\w.cell? ⟨b,off+i*4+2,none⟩=some e2/\w.cell? ⟨b,off+i*4+3,none⟩=some e3/\RR M w (D+1) u e0 e1 e2 e3)/\fA (D+1) u=true/\jY (D+1) u=jY d (t.2.2.2 i)/\terms (D+1) u=terms d (t.2.2.2 i)/\rF (D+1) u=rF d (t.2.2.2 i)) (by
    intro i hi;obtain⟨e0,e1,e2,e3,x0,x1,x2,x3,hr⟩:=hk i hi;have hlk:=h5 i hi;have Fe:t.1<=((D+1:Nat):Int):=hl;obtain⟨u,k1,k2,k3,k4,k5⟩:=ih hr hlk.2 (by omega)
    exact⟨u,⟨e0,e1,e2,e3,x0,x1,x2,x3,k1⟩,k2,k3,k4,k5⟩)
   refine⟨uj _ t.1 t.2.1 t.2.2.1 bC,⟨g0,g1,g2,g3,.inr ⟨b,off,cap,hv,hn,uU,hb,λi hi=>(dw i hi).1⟩⟩,?_,rfl,?_,rfl⟩
   ·refine qoM h1 iN iZ h2 (λi hi=>?_) ?_
    ·obtain⟨_,k2,k3,_⟩:=dw i hi;exact⟨by show jY (D+1) (bC i)<t.1;rw[k3];exact(h5 i hi).1,k2⟩
    ·exact(dw (t.2.2.1-1) (by omega)).2.2.2.2.trans h6
   ·refine(TJ _ _ _ _ _ h1.1 h1.2).trans (Eq.trans ?_ (vC h1.1 h1.2).symm);exact OQ _ _ _ _ λi hi=>(dw i hi).2.2.2.1
def CR(M:Nat->Prop)(w:World)(L:Nat)(c0 c1 c2 c3:Value)(l:List Tm):Prop:=
 ∃t:RT (L+1),RR M w (L+1) t c0 c1 c2 c3/\fA (L+1) t=true/\t.1<=L/\af (terms (L+1) t) l
section
variable{M M':Nat->Prop}{w w':World}{L:Nat}{c0 c1 c2 c3:Value}{l r:List Tm}
theorem CR.kp(h:CR M w L c0 c1 c2 c3 l)(he:Kp M w w'):CR M w' L c0 c1 c2 c3 l:=by
 obtain⟨t,h1,h2⟩:=h;exact⟨t,RR.kp he h1,h2⟩
theorem CR.ext(h:CR M w L c0 c1 c2 c3 l)(he:Ext w w'):CR M w' L c0 c1 c2 c3 l:=h.kp (Kp.gZ he)
theorem CR.more(h:CR M w L c0 c1 c2 c3 l)(hm:∀g,M' g->M g\/w.heap.size<=g):CR M' w L c0 c1 c2 c3 l:=by
 obtain⟨t,h1,h2⟩:=h;exact⟨t,RR.more hm h1,h2⟩
theorem CR.bP(h:CR M w L c0 c1 c2 c3 l)(hs:af l r):CR M w L c0 c1 c2 c3 r:=by
 obtain⟨t,h1,h2,h3,h4⟩:=h;exact⟨t,h1,h2,h3,h4.trans hs⟩
theorem CR.form(h:CR M w L c0 c1 c2 c3 l):∃lv b a n p ka kn kp,c0=.int .i64 lv/\c1=.bool b/\c2=.slice a n p/\c3=.slice ka kn kp/\0<=lv/\lv<=L/\lv<=4:=by
 obtain⟨t,h1,h2,h3,h4⟩:=h;obtain⟨rfl,rfl,⟨a,p,rfl⟩,ka,kp,rfl⟩:=h1.form;have:=Af h2;exact⟨_,_,_,_,_,_,_,_,rfl,rfl,rfl,rfl,this.1,h3,this.2⟩
end
theorem CR.OW{M:Nat->Prop}{w:World}{L D:Nat}{lv:Int}{c1 c2 c3:Value}{l:List Tm}(h:CR M w L (.int .i64 lv) c1 c2 c3 l)(hl:lv<=D):CR M w D (.int .i64 lv) c1 c2 c3 l:=by
 obtain⟨t,h1,h2,h3,h4⟩:=h
 have e:lv=t.1:=by have:=h1.1;simpa using this
 obtain⟨u,k1,k2,k3,k4,_⟩:=qfC D h1 h2 (by show t.1<=(D:Int);omega);have k3':u.1=t.1:=k3;exact⟨u,k1,k2,by omega,by rw[k4];exact h4⟩
theorem CR.up{M:Nat->Prop}{w:World}{L D:Nat}{c0 c1 c2 c3:Value}{l:List Tm}(h:CR M w L c0 c1 c2 c3 l)(hl:L<=D):CR M w D c0 c1 c2 c3 l:=by
 obtain⟨lv,b,a,n,p,ka,kn,kp,rfl,rfl,rfl,rfl,h0,h1,h2⟩:=h.form;exact h.OW (by omega)
theorem CR.const{M:Nat->Prop}{w:World}{c1 c2:Value}{z:Int}(h:dH M w c1 c2 z)(L:Nat):CR M w L (.int .i64 0) c1 c2 (.slice none 0 0) [(z,Mo.zero)]:=by
 obtain⟨r,hr,hv,hc⟩:=h.raw;refine⟨uj _ 0 r 0 (λ_=>Cx _),⟨rfl,by show-9223372036854775808<=(0:Int)/\(0:Int)<=9223372036854775807;omega,hr,bu _,.inl ⟨⟨none,0,rfl,bu _,λ_=>rfl⟩,rfl⟩⟩,qbn _ _ _ _ rfl hc,by show(0:Int)<=_;omega,?_⟩;rw[Yi _ _ _ _ (by omega),hv];exact af.refl _
theorem qq8:af [(0,Mo.zero)] []:=by intro m;simp[aH]
theorem OD(M:Nat->Prop)(w:World)(d:Nat->Nat):dL M w (.slice none 0 0) 0 d:=⟨bu _,λi hi=>absurd hi (Nat.not_lt_zero _),.inl ⟨rfl,none,0,rfl,bu _,λ_=>rfl⟩⟩
theorem qoJ(M:Nat->Prop)(w:World):dH M w (.bool false) (.slice none 0 0) 0:=⟨⟨0,λ_=>0,OD _ _ _,rfl,.inl rfl⟩,by simp⟩
theorem CR.zero(M:Nat->Prop)(w:World)(L:Nat):CR M w L (.int .i64 0) (.bool false) (.slice none 0 0) (.slice none 0 0) []:=(CR.const (qoJ M w) L).bP qq8
theorem CR.SL{M:Nat->Prop}{w:World}{L:Nat}{lv:Int}{b:Bool}{a:Option Addr}{n p:Nat}{c3:Value}{l:List Tm}(h:CR M w L (.int .i64 lv) (.bool b) (.slice a n p) c3 l):mY lv n=true↔af l []:=by
 obtain⟨t,h1,h2,h3,h4⟩:=h;have ho:=h1.ok
 have e:lv=t.1:=by have:=h1.1;simpa using this
 have e2:n=t.2.1.n:=by
  obtain⟨_,_,⟨a',p',h⟩,_⟩:=h1.form;simp only[Value.slice.injEq]at h;exact h.2.1
 have hz:mY lv n=rF (L+1) t:=by rw[e,e2];rfl
 rw[hz];constructor
 ·intro hh;exact h4.symm.trans (qoN h2 hh)
 ·intro hh;cases hc:rF (L+1) t
  ·obtain⟨m,hm⟩:=xz _ t h2 ho hc;exact absurd ((h4 m).trans (hh m)) hm
  ·rfl
def uI(M:Nat->Prop)(w:World)(L b o:Nat)(l:List Tm):Prop:=∃e0 e1 e2 e3,w.cell? ⟨b,o,none⟩=some e0/\w.cell? ⟨b,o+1,none⟩=some e1/\w.cell? ⟨b,o+2,none⟩=some e2/\w.cell? ⟨b,o+3,none⟩=some e3/\CR M w L e0 e1 e2 e3 l
theorem CR.node{M:Nat->Prop}{w:World}{D b off n cap:Nat}{P:Nat->List Tm}(hD:D+1<=4)(hn:2<=n)(hL:n<=1099511627776)(hc:n<=cap)(hm:cap<=maxLen)(hb:b<w.heap.size)(hM:¬M b)(hk:∀i,i<n->uI M w D b (off+i*4) (P i))(hz:¬af (P (n-1)) []):
 CR M w (D+1) (.int .i64 ((D:Int)+1)) (.bool false) (.slice none 0 0) (.slice (some ⟨b,off,none⟩) n cap) (aM (D+1) n P):=by
 obtain⟨bC,dw⟩:=pick (Cx (D+1)) (n:=n) (Q:=λi u=>(∃e0 e1 e2 e3,w.cell? ⟨b,off+i*4,none⟩=some e0/\w.cell? ⟨b,off+i*4+1,none⟩=some e1/\w.cell? ⟨b,off+i*4+2,none⟩=some e2/\w.cell? ⟨b,off+i*4+3,none⟩=some e3/\RR M w (D+1) u e0 e1 e2 e3)/\fA (D+1) u=true/\u.1<=D/\af (terms (D+1) u) (P i)) (by
  intro i hi;obtain⟨e0,e1,e2,e3,x0,x1,x2,x3,t,h1,h2,h3,h4⟩:=hk i hi
  exact⟨t,⟨e0,e1,e2,e3,x0,x1,x2,x3,h1⟩,h2,h3,h4⟩)
 refine⟨uj _ ((D:Int)+1) ⟨false,0,λ_=>0⟩ n bC,⟨rfl,by show-9223372036854775808<=(D:Int)+1/\(D:Int)+1<=9223372036854775807;omega,⟨rfl,OD _ _ _⟩,hL,.inr ⟨b,off,cap,rfl,hc,hm,⟨hb,hM⟩,λi hi=>(dw i hi).1⟩⟩,?_,by show(D:Int)+1<=_;omega,?_⟩
 ·refine qoM (by show 1<=(D:Int)+1/\(D:Int)+1<=4;omega) rfl rfl hn (λi hi=>⟨?_,(dw i hi).2.1⟩) ?_
  ·show(bC i).1<(D:Int)+1;have:=(dw i hi).2.2.1;omega
  ·show rF (D+1) (bC (n-1))=false;cases hc:rF (D+1) (bC (n-1))
   ·rfl
   ·exact absurd ((dw (n-1) (by omega)).2.2.2.symm.trans (qoN (dw (n-1) (by omega)).2.1 hc)) hz
 ·rw[TJ _ _ _ _ _ (by omega) (by omega)];rw[show((D:Int)+1).toNat=D+1 by omega];exact qO _ _ _ _ λi hi=>(dw i hi).2.2.2
theorem CR.Nf{M:Nat->Prop}{w:World}{L:Nat}{c1 c2 c3:Value}{l:List Tm}(h:CR M w L (.int .i64 0) c1 c2 c3 l):∃z,dH M w c1 c2 z/\af [(z,Mo.zero)] l/\z.natAbs<=aB l/\∃a p,c3=.slice a 0 p:=by
 obtain⟨t,h1,h2,h3,h4⟩:=h
 have e:0=t.1:=by have:=h1.1;simpa using this
 obtain⟨g1,g2⟩:=Gn h2 e.symm;have hn:=JX h2 h4;rw[rM (by omega)]at h4 hn;obtain⟨_,_,_,ka,kp,hk⟩:=h1.form;refine⟨t.2.1.val,h1.2.2.1.qt7 g2,h4,by simpa[aB]using hn,ka,kp,?_⟩;rw[hk,g1]
theorem CR.Io{M:Nat->Prop}{w:World}{L:Nat}{lv:Int}{c1 c2 c3:Value}{l:List Tm}(h:CR M w L (.int .i64 lv) c1 c2 c3 l)(hl:lv≠0):
 ∃(D:Nat),lv=(D:Int)+1/\D+1<=4/\D+1<=L/\∃a p b off n cap P,c1=.bool false/\c2=.slice a 0 p/\c3=.slice (some ⟨b,off,none⟩) n cap/\2<=n/\n<=1099511627776/\n<=cap/\cap<=maxLen/\b<w.heap.size/\¬M b/\(∀i,i<n->uI M w D b (off+i*4) (P i))/\(∀i,i<n->dV D (P i))/\¬af (P (n-1)) []/\af (aM (D+1) n P) l/\aB (aM (D+1) n P)<=aB l:=by
 obtain⟨t,h1,h2,h3,h4⟩:=h;have ho:=h1.ok
 have e:lv=t.1:=by have:=h1.1;simpa using this
 obtain⟨g1,g2,g3,g4,g5,g6⟩:=uN h2 (by omega);obtain⟨D,hD⟩:∃D:Nat,lv=(D:Int)+1:=⟨(lv-1).toNat,by omega⟩;have hn:=JX h2 h4;rw[vC g1.1 g1.2,show t.1.toNat=D+1 by omega]at h4 hn;obtain⟨k0,k1,k2,k3,k4⟩:=h1;rcases k4 with⟨_,k4⟩|⟨b,off,cap,hv,jG,uU,hb,hk⟩
 ·omega
 obtain⟨a,p,hap⟩:=kW k2.2;refine⟨D,hD,by omega,by omega,a,p,b,off,t.2.2.1,cap,λi=>terms L (t.2.2.2 i),by rw[k2.1,g3],by rw[hap,g2],hv,g4,k3,jG,uU,hb.1,hb.2,λi hi=>?_,λi hi=>?_,?_,h4,hn⟩
 ·obtain⟨e0,e1,e2,e3,x0,x1,x2,x3,hr⟩:=hk i hi;obtain⟨u,u1,u2,u3,u4,_⟩:=qfC D hr (g5 i hi).2 (by have:=(g5 i hi).1;omega);refine⟨e0,e1,e2,e3,x0,x1,x2,x3,u,u1,u2,?_,by rw[u4];exact af.refl _⟩;have u3':u.1=jY L (t.2.2.2 i):=u3;have:=(g5 i hi).1;omega
 ·have:=uY h2 (by omega) i hi
  rwa[show t.1.toNat-1=D by omega]at this
 ·intro hs
  cases L with
  |zero=>omega
  |succ L=>
  obtain⟨m,hm⟩:=xz _ _ (g5 (t.2.2.1-1) (by omega)).2 (ho.2 _ (by omega)) g6;exact hm (hs m)
def uo(f:Nat->Value)(o:Nat)(e0 e1 e2 e3:Value):Nat->Value:=fG (fG (fG (fG f o e0) (o+1) e1) (o+2) e2) (o+3) e3
theorem D6(f:Nat->Value)(o:Nat)(e0 e1 e2 e3:Value):uo f o e0 e1 e2 e3 o=e0:=by simp[uo,fG]
theorem D7(f:Nat->Value)(o:Nat)(e0 e1 e2 e3:Value):uo f o e0 e1 e2 e3 (o+1)=e1:=by simp[uo,fG]
theorem D8(f:Nat->Value)(o:Nat)(e0 e1 e2 e3:Value):uo f o e0 e1 e2 e3 (o+2)=e2:=by simp[uo,fG]
theorem D9(f:Nat->Value)(o:Nat)(e0 e1 e2 e3:Value):uo f o e0 e1 e2 e3 (o+3)=e3:=by simp[uo,fG]
theorem sN(f:Nat->Value)(o:Nat)(e0 e1 e2 e3:Value)(i:Nat)(h:i<o\/o+4<=i):uo f o e0 e1 e2 e3 i=f i:=by
 unfold uo fG;rw[aj (by omega),aj (by omega),aj (by omega),aj (by omega)]
def aD(w:World)(g o:Nat)(e0 e1 e2 e3:Value):World:=(((w.setCell ⟨g,o,none⟩ e0).setCell ⟨g,o+1,none⟩ e1).setCell ⟨g,o+2,none⟩ e2).setCell ⟨g,o+3,none⟩ e3
theorem au.aD{w:World}{g:Nat}{t:TypeId}{n:Nat}{f:Nat->Value}(h:au w g t n f)(o:Nat)(e0 e1 e2 e3:Value):au (Go.Proofs.YtaafefeafonhdaaGreat.aD w g o e0 e1 e2 e3) g t n (uo f o e0 e1 e2 e3):=(((h.set o e0).set (o+1) e1).set (o+2) e2).set (o+3) e3
theorem Kp.aD{M:Nat->Prop}{w:World}{g:Nat}(hg:M g)(o:Nat)(e0 e1 e2 e3:Value):Kp M w (Go.Proofs.YtaafefeafonhdaaGreat.aD w g o e0 e1 e2 e3):=(((Kp.set M w (p:=⟨g,o,none⟩) hg e0).trans (Kp.set M _ (p:=⟨g,o+1,none⟩) hg e1)).trans (Kp.set M _ (p:=⟨g,o+2,none⟩) hg e2)).trans (Kp.set M _ (p:=⟨g,o+3,none⟩) hg e3)
theorem Ext.aD{a w:World}(h:Ext a w){g:Nat}(hg:a.heap.size<=g)(o:Nat)(e0 e1 e2 e3:Value):Ext a (Go.Proofs.YtaafefeafonhdaaGreat.aD w g o e0 e1 e2 e3):=(((h.set (p:=⟨g,o,none⟩) hg e0).set (p:=⟨g,o+1,none⟩) hg e1).set (p:=⟨g,o+2,none⟩) hg e2).set (p:=⟨g,o+3,none⟩) hg e3
theorem kN(w:World)(g o:Nat)(e0 e1 e2 e3:Value):(aD w g o e0 e1 e2 e3).heap.size=w.heap.size:=by simp[aD]
theorem fD(w:World)(g o:Nat)(e0 e1 e2 e3:Value)(b:Nat)(hb:b≠g):(aD w g o e0 e1 e2 e3).heap[b]?=w.heap[b]?:=by
 unfold aD;rw[Below.heap_setCell _ _ _ _ hb,Below.heap_setCell _ _ _ _ hb,Below.heap_setCell _ _ _ _ hb,Below.heap_setCell _ _ _ _ hb]
theorem Ah{M':Nat->Prop}{w W:World}{g:Nat}{t:TypeId}{f:Nat->Value}(e0 e1 e2 e3:Value)(hB:au W g t 4 f)(hg:M' g)(hw:w.heap.size<=g)(he:Ext w W):
 (W.cell? ⟨g,0,none⟩=some (f 0)/\W.cell? ⟨g,1,none⟩=some (f 1)/\W.cell? ⟨g,2,none⟩=some (f 2)/\W.cell? ⟨g,3,none⟩=some (f 3))/\
 (W.frozen? ⟨g,0,none⟩=false/\W.frozen? ⟨g,1,none⟩=false/\W.frozen? ⟨g,2,none⟩=false/\W.frozen? ⟨g,3,none⟩=false)/\
 ((aD W g 0 e0 e1 e2 e3).cell? ⟨g,0,none⟩=some e0/\(aD W g 0 e0 e1 e2 e3).cell? ⟨g,1,none⟩=some e1/\(aD W g 0 e0 e1 e2 e3).cell? ⟨g,2,none⟩=some e2/\(aD W g 0 e0 e1 e2 e3).cell? ⟨g,3,none⟩=some e3)/\
 Kp M' W (aD W g 0 e0 e1 e2 e3)/\Ext w (aD W g 0 e0 e1 e2 e3):=by
 have eG:=hB.aD 0 e0 e1 e2 e3;refine⟨⟨hB.cell (by omega),hB.cell (by omega),hB.cell (by omega),hB.cell (by omega)⟩,⟨hB.frozen 0,hB.frozen 1,hB.frozen 2,hB.frozen 3⟩,⟨?_,?_,?_,?_⟩,Kp.aD hg _ _ _ _ _,he.aD hw _ _ _ _ _⟩
 ·rw[eG.cell (i:=0) (by omega)];exact congrArg some (D6 f 0 e0 e1 e2 e3)
 ·rw[eG.cell (i:=1) (by omega)];exact congrArg some (D7 f 0 e0 e1 e2 e3)
 ·rw[eG.cell (i:=2) (by omega)];exact congrArg some (D8 f 0 e0 e1 e2 e3)
 ·rw[eG.cell (i:=3) (by omega)];exact congrArg some (D9 f 0 e0 e1 e2 e3)
def Kids(M:Nat->Prop)(w:World)(D g N:Nat)(P:Nat->List Tm):Prop:=∃f,au w g 42 (N*4) f/\∀i,i<N->CR M w D (f (i*4)) (f (i*4+1)) (f (i*4+2)) (f (i*4+3)) (P i)
theorem Kids.kp{M:Nat->Prop}{w w':World}{D g N:Nat}{P:Nat->List Tm}(h:Kids M w D g N P)(hg:w'.heap[g]?=w.heap[g]?)(hk:Kp M w w'):Kids M w' D g N P:=by
 obtain⟨f,h1,h2⟩:=h;exact⟨f,h1.of_heap hg,λi hi=>(h2 i hi).kp hk⟩
theorem Kids.ext{M:Nat->Prop}{w w':World}{D g N:Nat}{P:Nat->List Tm}(h:Kids M w D g N P)(he:Ext w w'):Kids M w' D g N P:=by
 obtain⟨f,h1,h2⟩:=h;exact⟨f,h1.ext he,λi hi=>(h2 i hi).ext he⟩
theorem Kids.bC{M M':Nat->Prop}{w:World}{D g N:Nat}{P:Nat->List Tm}(h:Kids M w D g N P)(hm:∀g,M' g->M g\/w.heap.size<=g)(i:Nat)(hi:i<N):uI M' w D g (0+i*4) (P i):=by
 obtain⟨f,h1,h2⟩:=h;rw[Nat.zero_add];exact⟨_,_,_,_,h1.cell (by omega),h1.cell (by omega),h1.cell (by omega),h1.cell (by omega),(h2 i hi).more hm⟩
theorem Kids.set{M:Nat->Prop}{w:World}{D g N:Nat}{P:Nat->List Tm}(h:Kids M w D g N P)(hg:M g)(j:Nat)(hj:j<N){e0 e1 e2 e3:Value}{l:List Tm}(hc:CR M w D e0 e1 e2 e3 l):Kids M (aD w g (j*4) e0 e1 e2 e3) D g N (λi=>if i=j then l else P i):=by
 obtain⟨f,h1,h2⟩:=h;refine⟨_,h1.aD (j*4) e0 e1 e2 e3,λi hi=>?_⟩;have hk:Kp M w (aD w g (j*4) e0 e1 e2 e3):=Kp.aD hg _ _ _ _ _
 by_cases eD:i=j
 ·subst eD;rw[D6,D7,D8,D9];simp only[if_true];exact hc.kp hk
 ·rw[sN _ _ _ _ _ _ _ (by omega),sN _ _ _ _ _ _ _ (by omega),sN _ _ _ _ _ _ _ (by omega),sN _ _ _ _ _ _ _ (by omega)];simp only[aj eD];exact(h2 i hi).kp hk
theorem Kids.at{M:Nat->Prop}{w:World}{D g N:Nat}{P:Nat->List Tm}(h:Kids M w D g N P)(j:Nat)(hj:j<N):(∃e,w.cell? ⟨g,j*4,none⟩=some e)/\(∃e,w.cell? ⟨g,j*4+1,none⟩=some e)/\(∃e,w.cell? ⟨g,j*4+2,none⟩=some e)/\(∃e,w.cell? ⟨g,j*4+3,none⟩=some e)/\(∀o,w.frozen? ⟨g,o,none⟩=false)/\g<w.heap.size:=by
 obtain⟨f,h1,h2⟩:=h;exact⟨⟨_,h1.cell (by omega)⟩,⟨_,h1.cell (by omega)⟩,⟨_,h1.cell (by omega)⟩,⟨_,h1.cell (by omega)⟩,h1.frozen,h1.lt⟩
def fH:Nat->Value:=λi=>if i%4=0 then .int .i64 0 else if i%4=1 then .bool false else .slice none 0 0
theorem Kids.fresh{M:Nat->Prop}{w:World}{D g N:Nat}(hB:au w g 42 (N*4) fH):Kids M w D g N (λ_=>[]):=by
 refine⟨fH,hB,λi hi=>?_⟩
 have h0:fH (i*4)=.int .i64 0:=by unfold fH;rw[av (by omega)]
 have h1:fH (i*4+1)=.bool false:=by unfold fH;rw[aj (by omega),av (by omega)]
 have h2:fH (i*4+2)=.slice none 0 0:=by unfold fH;rw[aj (by omega),aj (by omega)]
 have h3:fH (i*4+3)=.slice none 0 0:=by unfold fH;rw[aj (by omega),aj (by omega)]
 rw[h0,h1,h2,h3];exact CR.zero _ _ _
theorem Kids.more{M M':Nat->Prop}{w:World}{D g N:Nat}{P:Nat->List Tm}(h:Kids M w D g N P)(hm:∀g,M' g->M g\/w.heap.size<=g):Kids M' w D g N P:=by
 obtain⟨f,h1,h2⟩:=h;exact⟨f,h1,λi hi=>(h2 i hi).more hm⟩
theorem Kids.congr{M:Nat->Prop}{w:World}{D g N:Nat}{P Q:Nat->List Tm}(h:Kids M w D g N P)(hs:∀i,i<N->af (P i) (Q i)):Kids M w D g N Q:=by
 obtain⟨f,h1,h2⟩:=h;exact⟨f,h1,λi hi=>(h2 i hi).bP (hs i hi)⟩
theorem qe5{w:World}{b o:Nat}{m:Mo}(h2:w.cell? ⟨b,o+2,none⟩=some (.int .i64 m.a))(h3:w.cell? ⟨b,o+3,none⟩=some (.int .i64 m.b))(h4:w.cell? ⟨b,o+4,none⟩=some (.int .i64 m.c))(h5:w.cell? ⟨b,o+5,none⟩=some (.int .i64 m.d))(j:Nat)(hj:j<4):w.cell? ⟨b,o+2+j,none⟩=some (.int .i64 (m.get (j+1))):=by
 match j,hj with
 |0,_=>exact h2
 |1,_=>exact h3
 |2,_=>exact h4
 |3,_=>exact h5
def vE(M:Nat->Prop)(w:World)(L:Nat)(l:List Tm)(e:Ending)(w':World):Prop:=
 ∃c0 c1 c2 c3,e=.returned (.agg #[c0,c1,c2,c3])/\CR M w' L c0 c1 c2 c3 l/\Ext w w'
def YA(L:Nat):Prop:=∀(M:Nat->Prop)(v:Value)(n:Nat)(z:Nat->Int)(x:Nat->TE)(w:World),Mb M w->lI M w v n z x->(∀i,i<n->dH M w (.bool (x i).b) (.slice (x i).a (x i).n (x i).p) (z i))->Canon (bU n z x)->Agree L (bU n z x)->(∀i,i<n->∀k,(x i).m.get k<=1073741824)->
 Calls Tryz.prog 42 #[v,.int .i64 (L:Int)] w (vE M w L (lW L (bU n z x)))
theorem BB{n:Nat}{z:Nat->Int}{x:Nat->TE}{i:Nat}(hi:i<n):(z i,(x i).m)∈bU n z x:=List.mem_map.2 ⟨i,by simpa using hi,rfl⟩
theorem IM{n:Nat}{z:Nat->Int}{x:Nat->TE}{t:Tm}(h:t∈bU n z x):∃i,i<n/\t=(z i,(x i).m):=by
 obtain⟨i,hi,rfl⟩:=List.mem_map.1 h;exact⟨i,by simpa using hi,rfl⟩
theorem Bt{m:Mo}(h:m.nn=true)(k:Nat):0<=m.get k:=by
 simp only[Mo.nn,Bool.and_eq_true,decide_eq_true_eq]at h;unfold Mo.get
 repeat' split
 all_goals omega
theorem qjo{n:Nat}{z:Nat->Int}{x:Nat->TE}(h:Canon (bU n z x)){i j:Nat}(eD:i<j)(hj:j<n):Mo.lt (x j).m (x i).m:=by
 have h1:=List.pairwise_iff_getElem.1 h.1 i j (by rw[zJ];omega) (by rw[zJ];exact hj) eD;simpa[bU]using h1
theorem Q3{n:Nat}{z:Nat->Int}{x:Nat->TE}(h:Canon (bU n z x)){L:Nat}(ha:Agree L (bU n z x))(h1:1<=L)(h4:L<=4){i j:Nat}(eD:i<=j)(hj:j<n):(x j).m.get L<=(x i).m.get L:=by
 rcases Nat.lt_or_ge i j with hlt|jy
 ·exact qAd h1 h4 (qjo h hlt hj) λk hk rA=>ha _ (BB hj) _ (BB (by omega)) k hk rA
 ·have:i=j:=by omega
  subst this;exact Int.le_refl _
theorem lI.sub{M:Nat->Prop}{w:World}{b off cap n:Nat}{z:Nat->Int}{x:Nat->TE}(h:lI M w (.slice (some ⟨b,off,none⟩) n cap) n z x)(s e:Nat)(hs:s<=e)(he:e<=n):
 lI M w (.slice (some ⟨b,off+s*6,none⟩) (e-s) (cap-s)) (e-s) (λi=>z (s+i)) (λi=>x (s+i)):=by
 obtain⟨h1,h2,h3⟩:=h;refine⟨by omega,?_,λi hi=>h3 (s+i) (by omega)⟩;rcases h2 with⟨⟨_,_,hv,hm⟩,h2⟩|⟨b',off',cap',hv,hn,hc,hb,hk⟩
 ·simp only[Value.slice.injEq]at hv;obtain⟨_,hv1,hv2⟩:=hv;exact .inl ⟨⟨_,cap-s,by rw[show e-s=0 by omega],by omega⟩,by omega⟩
 ·simp only[Value.slice.injEq,Option.some.injEq,Addr.mk.injEq,and_true,true_and]at hv;obtain⟨⟨rfl,rfl⟩,rfl⟩:=hv;refine .inr ⟨b,off+s*6,cap-s,rfl,by omega,by omega,hb,λi hi=>?_⟩;have:=hk (s+i) (by omega);rw[show off+(s+i)*6=off+s*6+i*6 by omega]at this;exact this
theorem Yv(s e:Nat)(z:Nat->Int)(x:Nat->TE)(h:s<=e):bU e z x=bU s z x++bU (e-s) (λi=>z (s+i)) (λi=>x (s+i)):=by
 obtain⟨k,rfl⟩:∃k,e=s+k:=⟨e-s,by omega⟩;rw[Nat.add_sub_cancel_left];clear h
 induction k with
 |zero=>simp[bU]
 |succ k ih=>rw[<-Nat.add_assoc,qgb,ih,qgb,List.append_assoc]
theorem Canon.sub{n:Nat}{z:Nat->Int}{x:Nat->TE}(h:Canon (bU n z x))(s e:Nat)(hs:s<=e)(he:e<=n):Canon (bU (e-s) (λi=>z (s+i)) (λi=>x (s+i))):=by
 rw[Yv e n z x he,Yv s e z x hs]at h;refine⟨(List.pairwise_append.1 (List.pairwise_append.1 h.1).1).2.1,λt ht=>h.2 t (List.mem_append_left _ (List.mem_append_right _ ht))⟩
theorem qwK{L:Nat}{e:Int}{l:List Tm}(h:∀t∈l,t.2.get L=e):rq L e l=l:=List.filter_eq_self.2 λt ht=>by simp[h t ht]
theorem qks{L:Nat}{e:Int}{l:List Tm}(h:∀t∈l,t.2.get L≠e):rq L e l=[]:=List.filter_eq_nil_iff.2 λt ht=>by simp[h t ht]
end Go.Proofs.YtaafefeafonhdaaGreat
