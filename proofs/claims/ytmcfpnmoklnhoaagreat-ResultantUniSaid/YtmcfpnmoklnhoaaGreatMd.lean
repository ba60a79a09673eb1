/- Md -/
import Derived.Test.YtmcfpnmoklnhoaaGreatMb
import Derived.Test.YtmcfpnmoklnhoaaGreatMo
import Derived.Test.YtmcfpnmoklnhoaaGreatMc
set_option linter.unusedVariables false
set_option maxRecDepth 100000
set_option maxHeartbeats 400000000
set_option linter.unusedSimpArgs false
namespace Go.Proofs.YtmcfpnmoklnhoaaGreat
def af(l r:List Tm):Prop:=∀m,aL l m=aL r m
theorem af.refl(l:List Tm):af l l:=λ_=>rfl
theorem af.symm{l r:List Tm}(h:af l r):af r l:=λm=>(h m).symm
theorem af.trans{a b c:List Tm}(h:af a b)(k:af b c):af a c:=λm=>(h m).trans (k m)
theorem af.append{a b c d:List Tm}(h:af a b)(k:af c d):af (a++c) (b++d):=λm=>by rw[iZ,iZ,h m,k m]
theorem af.norm{l r:List Tm}(h:af l r):norm l=norm r:=qzA λm _=>h m
def Mo.zero:Mo:=⟨0,0,0,0⟩
def Mo.add(x y:Mo):Mo:=⟨x.a+y.a,x.b+y.b,x.c+y.c,x.d+y.d⟩
def Mo.sub(x y:Mo):Mo:=⟨x.a-y.a,x.b-y.b,x.c-y.c,x.d-y.d⟩
theorem Mo.add_eq(x y z:Mo):Mo.add x y=z↔x=Mo.sub z y:=by
 constructor
 ·rintro rfl;cases x;cases y;simp[Mo.add,Mo.sub]
 ·rintro rfl;cases y;cases z;simp[Mo.add,Mo.sub]
theorem Mo.Vq(x y:Mo):Mo.add x y=Mo.add y x:=by cases x;cases y;simp[Mo.add];omega
theorem Mo.qsY(x y z:Mo):Mo.add (Mo.add x y) z=Mo.add x (Mo.add y z):=by cases x;cases y;cases z;simp[Mo.add];omega
theorem Mo.add_zero'(x:Mo):Mo.add x Mo.zero=x:=by cases x;simp[Mo.add,Mo.zero]
theorem Mo.qfi(x:Mo):Mo.add Mo.zero x=x:=by cases x;simp[Mo.add,Mo.zero]
theorem Mo.qBM(x y z:Mo):Mo.sub (Mo.sub x y) z=Mo.sub x (Mo.add y z):=by cases x;cases y;cases z;simp[Mo.add,Mo.sub];omega
def shift(k:Mo)(l:List Tm):List Tm:=l.map λt=>(t.1,Mo.add t.2 k)
theorem rP(k:Mo)(l:List Tm)(m:Mo):aL (shift k l) m=aL l (Mo.sub m k):=by
 induction l with
 |nil=>rfl
 |cons t l ih=>
  show(if Mo.add t.2 k=m then t.1 else 0)+aL (shift k l) m=_;rw[ih];simp only[aL];have:(Mo.add t.2 k=m)↔(t.2=Mo.sub m k):=Mo.add_eq _ _ _
  by_cases h:t.2=Mo.sub m k
  ·rw[ai (this.2 h),ai h]
  ·rw[ah (λe=>h (this.1 e)),ah h]
theorem Yt(k:Mo)(l r:List Tm):shift k (l++r)=shift k l++shift k r:=by simp[shift]
theorem qeQ(j k:Mo)(l:List Tm):shift j (shift k l)=shift (Mo.add k j) l:=by
 simp[shift,List.map_map,Function.comp_def,Mo.qsY]
theorem FZ(l:List Tm):shift Mo.zero l=l:=by simp[shift,Mo.add_zero']
theorem af.shift{l r:List Tm}(h:af l r)(k:Mo):af (shift k l) (shift k r):=λm=>by rw[rP,rP];exact h _
theorem xg(k:Mo)(l:List Tm):aK (shift k l)=aK l:=by
 induction l with
 |nil=>rfl
 |cons t l ih=>show t.1.natAbs+aK (Go.Proofs.YtmcfpnmoklnhoaaGreat.shift k l)=_;rw[ih];rfl
def smul(c:Int)(l:List Tm):List Tm:=l.map λt=>(c*t.1,t.2)
theorem iM(c:Int)(l:List Tm)(m:Mo):aL (smul c l) m=c*aL l m:=by
 induction l with
 |nil=>simp[smul,aL]
 |cons t l ih=>
  show(if t.2=m then c*t.1 else 0)+aL (smul c l) m=_;rw[ih];simp only[aL]
  split<;>simp[Int.mul_add]
theorem qeh(c:Int)(l:List Tm):aK (smul c l)=c.natAbs*aK l:=by
 induction l with
 |nil=>simp[smul,aK]
 |cons t l ih=>show(c*t.1).natAbs+aK (smul c l)=_;rw[ih];simp[aK,Int.natAbs_mul,Nat.mul_add]
theorem af.smul{l r:List Tm}(h:af l r)(c:Int):af (smul c l) (smul c r):=λm=>by rw[iM,iM,h m]
def aF:List Tm->List Tm->List Tm
 |[],_=>[]
 |s::l,r=>shift s.2 (smul s.1 r)++aF l r
theorem Ll(l:List Tm):aF l []=[]:=by
 induction l with
 |nil=>rfl
 |cons s l ih=>simp[aF,ih,smul,shift]
theorem vz(s:Tm)(l r:List Tm)(m:Mo):aL (aF (s::l) r) m=s.1*aL r (Mo.sub m s.2)+aL (aF l r) m:=by
 rw[aF,iZ,rP,iM]
theorem af.sI{r r':List Tm}(h:af r r')(l:List Tm):af (aF l r) (aF l r'):=by
 induction l with
 |nil=>exact af.refl _
 |cons s l ih=>intro m;rw[vz,vz,h,ih m]
theorem Eg(a b r:List Tm):aF (a++b) r=aF a r++aF b r:=by
 induction a with
 |nil=>rfl
 |cons s a ih=>simp[aF,ih]
theorem af.qpi(l a b:List Tm):af (aF l (a++b)) (aF l a++aF l b):=by
 induction l with
 |nil=>exact af.refl _
 |cons s l ih=>
  intro m;rw[iZ,vz,vz,vz,iZ,ih m,iZ,Int.mul_add];omega
theorem I7(l:List Tm)(t:Tm):af (aF l [t]) (shift t.2 (smul t.1 l)):=by
 induction l with
 |nil=>exact af.refl _
 |cons s l ih=>
  intro m;rw[vz,ih m,rP,rP,iM,iM];simp only[aL];rw[Int.mul_add,Int.mul_add]
  have e:(t.2=Mo.sub m s.2)↔(s.2=Mo.sub m t.2):=by
   rw[<-Mo.add_eq, <-Mo.add_eq,Mo.Vq]
  by_cases h:t.2=Mo.sub m s.2
  ·rw[ai h,ai (e.1 h),Int.mul_comm t.1 s.1];simp
  ·rw[ah h,ah (λk=>h (e.2 k))];simp
theorem af.uI(l r:List Tm):af (aF l r) (aF r l):=by
 induction r with
 |nil=>rw[Ll];exact af.refl _
 |cons t r ih=>
  have h1:af (aF l (t::r)) (aF l [t]++aF l r):=af.qpi l [t] r;refine h1.trans ?_;rw[aF];exact(I7 l t).append ih
theorem af.oC{l l':List Tm}(h:af l l')(r:List Tm):af (aF l r) (aF l' r):=
 (af.uI l r).trans ((h.sI r).trans (af.uI r l'))
theorem af.aF{l l' r r':List Tm}(h:af l l')(k:af r r'):af (aF l r) (aF l' r'):=(h.oC r).trans (k.sI l')
theorem I6(k:Mo)(l r:List Tm):af (aF (shift k l) r) (shift k (aF l r)):=by
 induction l with
 |nil=>exact af.refl _
 |cons s l ih=>
  intro m;show aL (aF ((s.1,Mo.add s.2 k)::shift k l) r) m=_;rw[vz,ih m,rP,rP,vz,Mo.qBM,Mo.Vq s.2 k]
theorem zL(l r:List Tm):aK (aF l r)=aK l*aK r:=by
 induction l with
 |nil=>simp[aF,aK]
 |cons s l ih=>rw[aF,lN,xg,qeh,ih];simp[aK,Nat.add_mul]
theorem af.OI(a b c:List Tm):af (Go.Proofs.YtmcfpnmoklnhoaaGreat.aF (Go.Proofs.YtmcfpnmoklnhoaaGreat.aF a b) c) (Go.Proofs.YtmcfpnmoklnhoaaGreat.aF a (Go.Proofs.YtmcfpnmoklnhoaaGreat.aF b c)):=by
 induction a with
 |nil=>exact af.refl _
 |cons s a ih=>
  rw[Go.Proofs.YtmcfpnmoklnhoaaGreat.aF,Eg,Go.Proofs.YtmcfpnmoklnhoaaGreat.aF];refine af.append ?_ ih;refine(I6 _ _ _).trans (af.shift ?_ _);intro m;clear ih
  induction b with
  |nil=>simp[Go.Proofs.YtmcfpnmoklnhoaaGreat.aF,Go.Proofs.YtmcfpnmoklnhoaaGreat.smul]
  |cons t b ih=>
   show aL (Go.Proofs.YtmcfpnmoklnhoaaGreat.aF ((s.1*t.1,t.2)::Go.Proofs.YtmcfpnmoklnhoaaGreat.smul s.1 b) c) m=_;rw[vz,ih,iM,iM,vz,Int.mul_add,Int.mul_assoc]
def Mo.get(m:Mo)(k:Nat):Int:=if k=1 then m.a else if k=2 then m.b else if k=3 then m.c else if k=4 then m.d else 0
def xp(k:Nat)(i:Int):Mo:=⟨if k=1 then i else 0,if k=2 then i else 0,if k=3 then i else 0,if k=4 then i else 0⟩
theorem Ow{k:Nat}(h1:1<=k)(h4:k<=4):k=1\/k=2\/k=3\/k=4:=by omega
theorem eQ(k j:Nat)(i:Int)(h1:1<=k)(h4:k<=4):(xp k i).get j=if j=k then i else 0:=by
 rcases Ow h1 h4 with rfl|rfl|rfl|rfl<;>simp only[Mo.get,xp]<;>(repeat' split)<;>simp_all
theorem iH(x y:Mo)(k:Nat):(Mo.add x y).get k=x.get k+y.get k:=by
 simp only[Mo.get,Mo.add];(repeat' split)<;>simp
theorem sZ(x y:Mo)(k:Nat):(Mo.sub x y).get k=x.get k-y.get k:=by
 simp only[Mo.get,Mo.sub];(repeat' split)<;>simp
theorem uw(k:Nat):Mo.zero.get k=0:=by simp[Mo.get,Mo.zero]
theorem Mo.ext_get{x y:Mo}(h:∀k,1<=k->k<=4->x.get k=y.get k):x=y:=by
 have h1:=h 1 (by omega) (by omega);have h2:=h 2 (by omega) (by omega);have h3:=h 3 (by omega) (by omega);have h4:=h 4 (by omega) (by omega);simp[Mo.get]at h1 h2 h3 h4;exact Mo.ext' h1 h2 h3 h4
def eH(L:Nat)(l:List Tm):Prop:=∀t∈l,∀k,L<k->k<=4->t.2.get k=0
theorem eH.append{L:Nat}{l r:List Tm}(h:eH L l)(k:eH L r):eH L (l++r):=λt ht=>(List.mem_append.1 ht).elim (h t) (k t)
theorem eH.mono{L L':Nat}{l:List Tm}(h:eH L l)(hL:L<=L'):eH L' l:=λt ht k h1 h2=>h t ht k (by omega) h2
theorem eH.vw{L:Nat}{l:List Tm}(h:eH L l){m:Mo}{k:Nat}(h1:L<k)(h2:k<=4)(hm:m.get k≠0):aL l m=0:=
 rQ λt ht e=>hm (by rw[<-e];exact h t ht k h1 h2)
def aQ(L:Nat)(n:Nat)(P:Nat->List Tm):List Tm:=(List.range n).flatMap λ(i:Nat)=>shift (xp L (i:Int)) (P i)
theorem FY(L:Nat)(P:Nat->List Tm):aQ L 0 P=[]:=rfl
theorem gT(L n:Nat)(P:Nat->List Tm):aQ L (n+1) P=aQ L n P++shift (xp L (n:Int)) (P n):=by
 unfold aQ;rw[List.range_succ,List.flatMap_append];simp
theorem tT(L n:Nat)(P Q:Nat->List Tm)(h:∀i,i<n->af (P i) (Q i)):af (aQ L n P) (aQ L n Q):=by
 induction n with
 |zero=>exact af.refl _
 |succ n ih=>rw[gT,gT];exact(ih λi hi=>h i (by omega)).append ((h n (by omega)).shift _)
theorem qeu(L n:Nat)(P:Nat->List Tm)(h1:1<=L)(h4:L<=4)(h:∀i,i<n->eH (L-1) (P i)):eH L (aQ L n P):=by
 intro t ht k hk mI;obtain⟨i,hi,ht⟩:=List.mem_flatMap.1 ht;obtain⟨s,hs,rfl⟩:=List.mem_map.1 ht;rw[iH,eQ L k _ h1 h4,ah (by omega),h i (by simpa using hi) s hs k (by omega) mI];rfl
theorem EX(L n:Nat)(P:Nat->List Tm)(h1:1<=L)(h4:L<=4)(h:∀i,i<n->eH (L-1) (P i))(m:Mo)(e:Nat)(he:m.get L=e):
 aL (aQ L n P) m=if e<n then aL (P e) (Mo.sub m (xp L e))else 0:=by
 induction n with
 |zero=>simp[FY,aL]
 |succ n ih=>
  rw[gT,iZ,ih λi hi=>h i (by omega),rP]
  by_cases xV:e=n
  ·subst xV;rw[ah (by omega),ai (by omega)];omega
  ·have:aL (P n) (Mo.sub m (xp L (n:Int)))=0:=by
    refine(h n (by omega)).vw (k:=L) (by omega) h4 ?_;rw[sZ,eQ L L _ h1 h4,ai rfl,he];omega
   rw[this]
   by_cases h2:e<n
   ·rw[ai h2,ai (by omega)];omega
   ·rw[ah h2,ah (by omega)];rfl
theorem qbd(L n:Nat)(P:Nat->List Tm)(h1:1<=L)(h4:L<=4)(h:∀i,i<n->eH (L-1) (P i))(m:Mo)(he:m.get L<0):aL (aQ L n P) m=0:=by
 induction n with
 |zero=>simp[FY,aL]
 |succ n ih=>
  rw[gT,iZ,ih λi hi=>h i (by omega),rP]
  have:aL (P n) (Mo.sub m (xp L (n:Int)))=0:=by
   refine(h n (by omega)).vw (k:=L) (by omega) h4 ?_;rw[sZ,eQ L L _ h1 h4,ai rfl];omega
  rw[this];rfl
structure iY where
 neg:Bool
 n:Nat
 dg:Nat->Nat
def iY.val(r:iY):Int:=dw r.neg (nv r.dg r.n)
def iY.can(r:iY):Bool:=(r.n==0&& !r.neg)||(decide (0<r.n)&&r.dg (r.n-1)!=0)
def iY.blank(r:iY):Bool:=r.n==0&& !r.neg
def iY.ok(r:iY):Prop:=∀i,i<r.n->r.dg i<4294967296
def RT:Nat->Type
 |0=>Unit
 |d+1=>Int × iY × Nat × (Nat->RT d)
def mq:(d:Nat)->RT d->Int
 |0,_=>0
 |_+1,t=>t.1
def su:(d:Nat)->RT d->Bool
 |0,_=>false
 |_+1,t=>decide (t.1=0)&&t.2.1.n==0
def gM:(d:Nat)->RT d->Bool
 |0,_=>false
 |d+1,t=>if t.1=0 then(t.2.2.1==0)&&t.2.1.can
  else decide (1<=t.1/\t.1<=4)&&(t.2.1.blank&&(decide (2<=t.2.2.1)&&((List.range t.2.2.1).all (λi=>decide (mq d (t.2.2.2 i)<t.1)&&gM d (t.2.2.2 i))&& !(su d (t.2.2.2 (t.2.2.1-1))))))
def terms:(d:Nat)->RT d->List Tm
 |0,_=>[]
 |d+1,t=>if t.1<=0 then[(t.2.1.val,Mo.zero)]else if 4<t.1 then[]else aQ t.1.toNat t.2.2.1 (λi=>terms d (t.2.2.2 i))
def BP:(d:Nat)->RT d->Prop
 |0,_=>True
 |d+1,t=>t.2.1.ok/\∀i,i<t.2.2.1->BP d (t.2.2.2 i)
theorem iY.yO{r:iY}(h:r.can=true)(ho:r.ok):r.val=0↔r.n=0:=by
 unfold iY.can at h;constructor
 ·intro hv
  by_cases h0:r.n=0
  ·exact h0
  ·exfalso
   have h1:r.dg (r.n-1)≠0:=by
    have h2:=h;simp[h0]at h2;exact h2.2
   obtain⟨m,hm⟩:∃m,r.n=m+1:=⟨r.n-1,by omega⟩;have h2:=Tj r.dg m (by rw[hm]at h1;simpa using h1);have h3:=Yf m;unfold iY.val dw at hv;rw[hm]at hv
   split at hv<;>omega
 ·intro h0
  have hn:r.neg=false:=by simpa[h0]using h
  unfold iY.val dw;rw[h0,hn];rfl
section
variable{d:Nat}{t:RT (d+1)}
theorem GR(h:gM (d+1) t=true)(hl:t.1=0):t.2.2.1=0/\t.2.1.can=true:=by
 unfold gM at h;rw[ai hl]at h;simpa using h
theorem wJ(h:gM (d+1) t=true)(hl:t.1≠0):(1<=t.1/\t.1<=4)/\t.2.1.n=0/\t.2.1.neg=false/\2<=t.2.2.1/\(∀i,i<t.2.2.1->mq d (t.2.2.2 i)<t.1/\gM d (t.2.2.2 i)=true)/\su d (t.2.2.2 (t.2.2.1-1))=false:=by
 unfold gM at h;rw[ah hl]at h;simp only[Bool.and_eq_true,decide_eq_true_eq,List.all_eq_true,List.mem_range,Bool.not_eq_true',iY.blank,beq_iff_eq]at h;obtain⟨h1,⟨h2,h3⟩,h4,h5,h6⟩:=h;exact⟨h1,h2,h3,h4,h5,h6⟩
theorem ES(h:gM (d+1) t=true):0<=t.1/\t.1<=4:=by
 by_cases hl:t.1=0
 ·omega
 ·have:=(wJ h hl).1;omega
theorem vV(hl:t.1<=0):terms (d+1) t=[(t.2.1.val,Mo.zero)]:=by unfold terms;rw[ai hl]
theorem yn(h1:1<=t.1)(h4:t.1<=4):terms (d+1) t=aQ t.1.toNat t.2.2.1 (λi=>terms d (t.2.2.2 i)):=by
 conv=>lhs;unfold terms
 rw[ah (by omega),ah (by omega)]
end
theorem XQ(c:Int):eH 0 [(c,Mo.zero)]:=by
 intro t ht k _ _;simp at ht;subst ht;exact uw k
theorem Kc:∀(d:Nat)(t:RT d),gM d t=true->eH (mq d t).toNat (terms d t)
 |0,_,h=>by cases h
 |d+1,t,h=>by
  show eH t.1.toNat _
  by_cases hl:t.1=0
  ·rw[vV (by omega),hl];exact XQ _
  ·obtain⟨h1,_,_,_,h5,_⟩:=wJ h hl;rw[yn h1.1 h1.2];refine qeu _ _ _ (by omega) (by omega) λi hi=>?_;have:=Kc d (t.2.2.2 i) (h5 i hi).2;exact this.mono (by have:=(h5 i hi).1;omega)
theorem wW{d:Nat}{t:RT (d+1)}(h:gM (d+1) t=true)(hl:t.1≠0)(i:Nat)(hi:i<t.2.2.1):eH (t.1.toNat-1) (terms d (t.2.2.2 i)):=by
 obtain⟨_,_,_,_,h5,_⟩:=wJ h hl;exact(Kc d _ (h5 i hi).2).mono (by have:=(h5 i hi).1;omega)
theorem yO:∀(d:Nat)(t:RT d),gM d t=true->BP d t->su d t=false->∃m,aL (terms d t) m≠0
 |0,_,h,_,_=>by cases h
 |d+1,t,h,ho,hz=>by
  by_cases hl:t.1=0
  ·obtain⟨_,hc⟩:=GR h hl;refine⟨Mo.zero,?_⟩;rw[vV (by omega)];simp only[aL,if_true];intro h0;have h1:=(iY.yO hc ho.1).1 (by omega);unfold su at hz;simp[hl,h1]at hz
  ·obtain⟨h1,_,_,h4,h5,h6⟩:=wJ h hl;obtain⟨m,hm⟩:=yO d (t.2.2.2 (t.2.2.1-1)) (h5 _ (by omega)).2 (ho.2 _ (by omega)) h6
   have rA:m.get t.1.toNat=0:=by
    by_cases he:m.get t.1.toNat=0
    ·exact he
    ·exact absurd ((wW h hl _ (by omega)).vw (k:=t.1.toNat) (by omega) (by omega) he) hm
   refine⟨Mo.add m (xp t.1.toNat ((t.2.2.1-1:Nat):Int)),?_⟩;rw[yn h1.1 h1.2,EX t.1.toNat t.2.2.1 _ (by omega) (by omega) (λi hi=>wW h hl i hi) _ (t.2.2.1-1) (by rw[iH,rA,eQ _ _ _ (by omega) (by omega),ai rfl];omega),ai (by omega)];rw[show Mo.sub (Mo.add m (xp t.1.toNat ((t.2.2.1-1:Nat):Int))) (xp t.1.toNat ((t.2.2.1-1:Nat):Int))=m from((Mo.add_eq _ _ _).1 rfl).symm];exact hm
theorem qnX{d:Nat}{t:RT d}(h:gM d t=true)(hz:su d t=true):af (terms d t) []:=by
 cases d with
 |zero=>cases h
 |succ d=>
  unfold su at hz;simp only[Bool.and_eq_true,decide_eq_true_eq,beq_iff_eq]at hz;obtain⟨_,hc⟩:=GR h hz.1;rw[vV (by omega)];intro m
  have hn:t.2.1.neg=false:=by unfold iY.can at hc;simpa[hz.2]using hc
  have:t.2.1.val=0:=by unfold iY.val dw;rw[hz.2,hn];rfl
  simp[aL,this]
theorem qti{d d':Nat}{t:RT (d+1)}{u:RT (d'+1)}(h:gM (d+1) t=true)(k:gM (d'+1) u=true)(ho:BP (d+1) t)(ko:BP (d'+1) u)(hs:af (terms (d+1) t) (terms (d'+1) u)):
 t.1=u.1/\t.2.2.1=u.2.2.1/\(t.1=0->t.2.1.val=u.2.1.val)/\(t.1≠0->∀i,i<t.2.2.1->af (terms d (t.2.2.2 i)) (terms d' (u.2.2.2 i))):=by
 have big:∀{d d':Nat}{t:RT (d+1)}{u:RT (d'+1)},gM (d+1) t=true->gM (d'+1) u=true->BP (d'+1) u->af (terms (d+1) t) (terms (d'+1) u)->¬t.1<u.1:=by
  intro d d' t u h k ko hs hlt
  have hl:u.1≠0:=by have:=ES h;omega
  obtain⟨h1,_,_,h4,h5,h6⟩:=wJ k hl;obtain⟨m,hm⟩:=yO d' (u.2.2.2 (u.2.2.1-1)) (h5 _ (by omega)).2 (ko.2 _ (by omega)) h6
  have rA:m.get u.1.toNat=0:=by
   by_cases he:m.get u.1.toNat=0
   ·exact he
   ·exact absurd ((wW k hl _ (by omega)).vw (k:=u.1.toNat) (by omega) (by omega) he) hm
  have hg:(Mo.add m (xp u.1.toNat ((u.2.2.1-1:Nat):Int))).get u.1.toNat=((u.2.2.1-1:Nat):Int):=by rw[iH,rA,eQ _ _ _ (by omega) (by omega),ai rfl];omega
  have e1:=hs (Mo.add m (xp u.1.toNat ((u.2.2.1-1:Nat):Int)));have dB:eH t.1.toNat (terms (d+1) t):=Kc (d+1) t h;rw[dB.vw (k:=u.1.toNat) (by have:=ES h;omega) (by omega) (by rw[hg];omega)]at e1;rw[yn h1.1 h1.2,EX u.1.toNat u.2.2.1 _ (by omega) (by omega) (λi hi=>wW k hl i hi) _ (u.2.2.1-1) hg,ai (by omega)]at e1;rw[show Mo.sub (Mo.add m (xp u.1.toNat ((u.2.2.1-1:Nat):Int))) (xp u.1.toNat ((u.2.2.1-1:Nat):Int))=m from((Mo.add_eq _ _ _).1 rfl).symm]at e1;exact hm e1.symm
 have qL:t.1=u.1:=by
  have b1:=big h k ko hs;have b2:=big k h ho hs.symm;omega
 by_cases hl:t.1=0
 ·have FJ:u.1=0:=by omega
  have c1:=GR h hl;have c2:=GR k FJ;refine⟨qL,by rw[c1.1,c2.1],λ_=>?_,λhn=>absurd hl hn⟩;have:=hs Mo.zero;rw[vV (by omega),vV (by omega)]at this;simp only[aL,if_true]at this;omega
 ·have FJ:u.1≠0:=by omega
  obtain⟨h1,_,_,h4,h5,h6⟩:=wJ h hl;obtain⟨k1,_,_,k4,k5,k6⟩:=wJ k FJ
  have key:∀(m:Mo)(e:Nat),m.get t.1.toNat=0->(if e<t.2.2.1 then aL (terms d (t.2.2.2 e)) m else 0)=(if e<u.2.2.1 then aL (terms d' (u.2.2.2 e)) m else 0):=by
   intro m e hm;have e1:=hs (Mo.add m (xp t.1.toNat (e:Int)))
   have hg:(Mo.add m (xp t.1.toNat (e:Int))).get t.1.toNat=(e:Int):=by rw[iH,hm,eQ _ _ _ (by omega) (by omega),ai rfl];omega
   rw[yn h1.1 h1.2,yn k1.1 k1.2,EX t.1.toNat t.2.2.1 _ (by omega) (by omega) (λi hi=>wW h hl i hi) _ e hg]at e1;rw[show u.1.toNat=t.1.toNat from by rw[qL]]at e1;rw[EX t.1.toNat u.2.2.1 _ (by omega) (by omega) (λi hi=>by have:=wW k FJ i hi;rw[<-qL]at this;exact this) _ e hg]at e1;rw[show Mo.sub (Mo.add m (xp t.1.toNat (e:Int))) (xp t.1.toNat (e:Int))=m from((Mo.add_eq _ _ _).1 rfl).symm]at e1;exact e1
  have XP:∀{l:List Tm},eH (t.1.toNat-1) l->∀m,m.get t.1.toNat≠0->aL l m=0:=λdB m hm=>dB.vw (k:=t.1.toNat) (by omega) (by omega) hm
  have qn7:∀i,i<u.2.2.1->eH (t.1.toNat-1) (terms d' (u.2.2.2 i)):=λi hi=>by have:=wW k FJ i hi;rw[<-qL]at this;exact this
  have hn:t.2.2.1=u.2.2.1:=by
   rcases Nat.lt_trichotomy t.2.2.1 u.2.2.1 with hlt|heq|kR
   ·exfalso;obtain⟨m,hm⟩:=yO d' (u.2.2.2 (u.2.2.1-1)) (k5 _ (by omega)).2 (ko.2 _ (by omega)) k6
    have rA:m.get t.1.toNat=0:=by
     by_cases he:m.get t.1.toNat=0
     ·exact he
     ·exact absurd (XP (qn7 _ (by omega)) m he) hm
    have:=key m (u.2.2.1-1) rA;rw[ah (by omega),ai (by omega)]at this;exact hm this.symm
   ·exact heq
   ·exfalso;obtain⟨m,hm⟩:=yO d (t.2.2.2 (t.2.2.1-1)) (h5 _ (by omega)).2 (ho.2 _ (by omega)) h6
    have rA:m.get t.1.toNat=0:=by
     by_cases he:m.get t.1.toNat=0
     ·exact he
     ·exact absurd (XP (wW h hl _ (by omega)) m he) hm
    have:=key m (t.2.2.1-1) rA;rw[ai (by omega),ah (by omega)]at this;exact hm this
  refine⟨qL,hn,λh0=>absurd h0 hl,λ_ i hi m=>?_⟩
  by_cases hm:m.get t.1.toNat=0
  ·have:=key m i hm;rw[ai hi,ai (by omega)]at this;exact this
  ·rw[XP (wW h hl i hi) m hm,XP (qn7 i (by omega)) m hm]
def Ce(l:List Tm):Prop:=l.Pairwise (λs t=>s.2≠t.2)
theorem qzF(p:Tm->Bool)(l:List Tm):aK l=aK (l.filter p)+aK (l.filter (λt=> !p t)):=by
 induction l with
 |nil=>rfl
 |cons t l ih=>
  rw[List.filter_cons,List.filter_cons];cases h:p t
  ·simp only[Bool.false_eq_true,if_false,Bool.not_false,if_true,aK];omega
  ·simp only[if_true,Bool.not_true,Bool.false_eq_true,if_false,aK];omega
theorem qba(l:List Tm)(q m:Mo):aL (l.filter (λt=>decide (t.2≠q))) m=if m=q then 0 else aL l m:=by
 induction l with
 |nil=>simp[aL]
 |cons t l ih=>
  rw[List.filter_cons]
  by_cases h:t.2=q
  ·rw[ah (by simp[h]),ih]
   split
   ·rfl
   ·rename_i hm;simp only[aL];rw[ah (λe=>hm (e.symm.trans h))];omega
  ·rw[ai (by simp[h])];simp only[aL,ih]
   by_cases hm:m=q
   ·rw[ai hm,ai hm,ah (λe=>h (e.trans hm))];rfl
   ·rw[ah hm,ah hm]
theorem qtF(l:List Tm)(q:Mo):(aL l q).natAbs<=aK (l.filter (λt=> !decide (t.2≠q))):=by
 induction l with
 |nil=>simp[aL,aK]
 |cons t l ih=>
  rw[List.filter_cons];simp only[aL]
  by_cases h:t.2=q
  ·rw[ai h,ai (by simp[h])];simp only[aK];omega
  ·rw[ah h,ah (by simp[h])];omega
theorem qug{l:List Tm}(hd:Ce l):∀{r:List Tm},af l r->aK l<=aK r:=by
 induction l with
 |nil=>intro r _;exact bK _
 |cons t l ih=>
  intro r hs;obtain⟨h1,h2⟩:=List.pairwise_cons.1 hd;have h0:aL l t.2=0:=rQ λs hs=>(h1 s hs).symm
  have h3:af l (r.filter (λs=>decide (s.2≠t.2))):=by
   intro m;rw[qba]
   split
   ·rename_i hm;rw[hm];exact h0
   ·rename_i hm;rw[<-hs m];simp only[aL];rw[ah (λe=>hm e.symm)];omega
  have h4:=ih h2 h3;have h5:=qzF (λs=>decide (s.2≠t.2)) r;have h6:=qtF r t.2;have h7:=hs t.2;simp only[aL,if_true]at h7;rw[h0]at h7;simp only[aK]
  have:aL r t.2=t.1:=by omega
  rw[this]at h6;omega
theorem qBk{l:List Tm}(h:Ce l)(k:Mo):Ce (shift k l):=by
 unfold Ce shift;rw[List.pairwise_map];exact h.imp λ{s t} jG e=>jG (by rw[(Mo.add_eq _ _ _).1 e, <-(Mo.add_eq t.2 k _).1 rfl])
theorem FX{L n:Nat}{P:Nat->List Tm}{t:Tm}(h:t∈aQ L n P):∃i,i<n/\∃s∈P i,t=(s.1,Mo.add s.2 (xp L (i:Int))):=by
 obtain⟨i,hi,ht⟩:=List.mem_flatMap.1 h;obtain⟨s,hs,rfl⟩:=List.mem_map.1 ht;exact⟨i,by simpa using hi,s,hs,rfl⟩
theorem qAj(L n:Nat)(P:Nat->List Tm)(h1:1<=L)(h4:L<=4)(hl:∀i,i<n->eH (L-1) (P i))(h:∀i,i<n->Ce (P i)):Ce (aQ L n P):=by
 induction n with
 |zero=>exact List.Pairwise.nil
 |succ n ih=>
  rw[gT];refine List.pairwise_append.2 ⟨ih (λi hi=>hl i (by omega)) (λi hi=>h i (by omega)),qBk (h n (by omega)) _,λs hs t ht e=>?_⟩;obtain⟨i,hi,s',kC,rfl⟩:=FX hs;obtain⟨t',KW,rfl⟩:=List.mem_map.1 ht;have e1:=congrArg (λm=>Mo.get m L) e;simp only[iH,eQ L L _ h1 h4,if_true]at e1;rw[hl i (by omega) s' kC L (by omega) h4,hl n (by omega) t' KW L (by omega) h4]at e1;omega
theorem qiQ:∀(d:Nat)(t:RT d),gM d t=true->Ce (terms d t)
 |0,_,h=>by cases h
 |d+1,t,h=>by
  by_cases hl:t.1=0
  ·rw[vV (by omega)];exact List.pairwise_singleton _ _
  ·obtain⟨h1,_,_,_,h5,_⟩:=wJ h hl;rw[yn h1.1 h1.2];exact qAj _ _ _ (by omega) (by omega) (λi hi=>wW h hl i hi) λi hi=>qiQ d _ (h5 i hi).2
theorem Qo{d:Nat}{t:RT d}(h:gM d t=true){l:List Tm}(hs:af (terms d t) l):aK (terms d t)<=aK l:=qug (qiQ d t h) hs
theorem Lg(L n:Nat)(P:Nat->List Tm)(i:Nat)(hi:i<n):aK (P i)<=aK (aQ L n P):=by
 induction n with
 |zero=>omega
 |succ n ih=>
  rw[gT,lN,xg]
  by_cases h:i=n
  ·subst h;omega
  ·have:=ih (by omega);omega
theorem Qt{L n:Nat}{P:Nat->List Tm}(h1:1<=L)(h4:L<=4)(h:∀i,i<n->eH (L-1) (P i))(i:Nat)(hi:i<n)(m:Mo)(hm:m.get L=0):aL (aQ L n P) (Mo.add m (xp L (i:Int)))=aL (P i) m:=by
 rw[EX L n P h1 h4 h _ i (by rw[iH,hm,eQ L L _ h1 h4,ai rfl];omega),ai hi, <-(Mo.add_eq m _ _).1 rfl]
def ru(L:Nat)(m:Mo):Mo:=⟨if 1<=L then m.a else 0,if 2<=L then m.b else 0,if 3<=L then m.c else 0,if 4<=L then m.d else 0⟩
def nI(L:Nat)(l:List Tm):List Tm:=l.map λt=>(t.1,ru L t.2)
theorem Kk(L:Nat)(m:Mo)(k:Nat):(ru L m).get k=if k<=L then m.get k else 0:=by
 simp only[ru,Mo.get]
 by_cases h1:k=1
 ·subst h1;simp
 ·by_cases h2:k=2
  ·subst h2;simp
  ·by_cases h3:k=3
   ·subst h3;simp
   ·by_cases h4:k=4
    ·subst h4;simp
    ·simp[h1,h2,h3,h4]
theorem qtU(l:List Tm):nI 4 l=l:=by
 unfold nI
 conv=>rhs;rw[<-List.map_id l]
 apply List.map_congr_left;intro t _;simp[ru]
theorem qtV(L:Nat)(l:List Tm):eH L (nI L l):=by
 intro t ht k hk _;obtain⟨s,_,rfl⟩:=List.mem_map.1 ht;rw[Kk,ah (by omega)]
def Agree(L:Nat)(l:List Tm):Prop:=∀s∈l,∀t∈l,∀k,L<k->k<=4->s.2.get k=t.2.get k
def rT(L:Nat)(e:Int)(l:List Tm):List Tm:=l.filter λt=>decide (t.2.get L=e)
theorem qvC(L:Nat)(e:Int)(l r:List Tm):rT L e (l++r)=rT L e l++rT L e r:=by simp[rT]
theorem qi7(L:Nat)(m:Mo)(h1:1<=L)(h4:L<=4):ru L m=Mo.add (ru (L-1) m) (xp L (m.get L)):=by
 apply Mo.ext_get;intro k _ _;rw[iH,Kk,Kk,eQ L k _ h1 h4]
 by_cases h:k=L
 ·subst h;rw[ai (aI _),ah (by omega),ai rfl];omega
 ·rw[ah h]
  by_cases h2:k<=L
  ·rw[ai h2,ai (by omega)];omega
  ·rw[ah h2,ah (by omega)];rfl
theorem qBr(L n:Nat)(l:List Tm)(h1:1<=L)(h4:L<=4)(hn:∀t∈l,0<=t.2.get L/\t.2.get L<n):af (aQ L n (λi=>nI (L-1) (rT L (i:Int) l))) (nI L l):=by
 intro m
 induction l with
 |nil=>
  have:∀n,aQ L n (λi=>nI (L-1) (rT L (i:Int) []))=[]:=by
   intro n
   induction n with
   |zero=>rfl
   |succ n ih=>rw[gT,ih];rfl
  rw[this];rfl
 |cons t l ih=>
  have hl:∀(l:List Tm)(i:Nat),i<n->eH (L-1) (nI (L-1) (rT L (i:Int) l)):=λl i _=>qtV _ _;have ih:=ih λs hs=>hn s (List.mem_cons_of_mem _ hs);obtain⟨h5,h6⟩:=hn t (List.mem_cons_self ..);show _=(if ru L t.2=m then t.1 else 0)+aL (nI L l) m;rw[<-ih]
  by_cases hm:0<=m.get L
  ·obtain⟨e,he⟩:∃e:Nat,m.get L=(e:Int):=⟨(m.get L).toNat,by omega⟩;rw[EX L n _ h1 h4 (hl _) m e he,EX L n _ h1 h4 (hl _) m e he]
   by_cases xV:e<n
   ·rw[ai xV,ai xV]
    by_cases Xm:t.2.get L=(e:Int)
    ·rw[show rT L (e:Int) (t::l)=t::rT L (e:Int) l from List.filter_cons_of_pos (by simp[Xm])];show(if ru (L-1) t.2=Mo.sub m (xp L (e:Int))then t.1 else 0)+_=_
     congr 1
     have:(ru (L-1) t.2=Mo.sub m (xp L (e:Int)))↔ru L t.2=m:=by
      rw[<-Mo.add_eq,qi7 L t.2 h1 h4,Xm]
     by_cases hc:ru L t.2=m
     ·rw[ai hc,ai (this.2 hc)]
     ·rw[ah hc,ah (λh=>hc (this.1 h))]
    ·rw[show rT L (e:Int) (t::l)=rT L (e:Int) l from List.filter_cons_of_neg (by simp[Xm])];rw[ah,Int.zero_add];intro hc;apply Xm;rw[<-he, <-hc,Kk,ai (aI _)]
   ·rw[ah xV,ah xV,ah,Int.zero_add];intro hc
    have:m.get L=t.2.get L:=by rw[<-hc,Kk,ai (aI _)]
    omega
  ·rw[qbd L n _ h1 h4 (hl _) m (by omega),qbd L n _ h1 h4 (hl _) m (by omega),ah,Int.zero_add];intro hc
   have:m.get L=t.2.get L:=by rw[<-hc,Kk,ai (aI _)]
   omega
theorem qy0{x y:Mo}{L:Nat}(h1:1<=L)(h4:L<=4)(h:Mo.lt x y)(ha:∀k,L<k->k<=4->x.get k=y.get k):x.get L<=y.get L:=by
 have a2:=ha 2;have a3:=ha 3;have a4:=ha 4;unfold Mo.lt at h;rcases Ow h1 h4 with rfl|rfl|rfl|rfl<;>simp[Mo.get]at a2 a3 a4⊢ <;>omega
theorem Agree.sub{L:Nat}{l r:List Tm}(h:Agree L l)(hs:∀t∈r,t∈l):Agree L r:=λs kC t ht=>h s (hs s kC) t (hs t ht)
theorem Agree.next{L:Nat}{l:List Tm}(h:Agree L l)(he:∀s∈l,∀t∈l,s.2.get L=t.2.get L):Agree (L-1) l:=by
 intro s hs t ht k hk h4
 by_cases WR:k=L
 ·subst WR;exact he s hs t ht
 ·exact h s hs t ht k (by omega) h4
theorem qtW{L:Nat}{l:List Tm}(h1:1<=L)(h4:L<=4)(h:∀t∈l,t.2.get L=0):nI (L-1) l=nI L l:=by
 unfold nI;apply List.map_congr_left;intro t ht;rw[qi7 L t.2 h1 h4,h t ht]
 congr 1
 apply Mo.ext_get;intro k _ _;rw[iH,eQ L k _ h1 h4]
 split<;>omega
end Go.Proofs.YtmcfpnmoklnhoaaGreat
namespace Go.Proofs.YtmcfpnmoklnhoaaGreat
open Go.RowKit
def wI(M:Nat->Prop)(w:World)(c0 c1:Value)(r:iY):Prop:=c0=.bool r.neg/\eu M w c1 r.n r.dg
theorem wI.fB{M:Nat->Prop}{w:World}{c0 c1:Value}{r:iY}(h:wI M w c0 c1 r):dQ M w c0 c1 r.val:=⟨r.neg,_,h.1,⟨_,_,h.2,rfl⟩,rfl⟩
theorem ek.raw{M:Nat->Prop}{w:World}{c0 c1:Value}{z:Int}(h:ek M w c0 c1 z):∃r:iY,wI M w c0 c1 r/\r.val=z/\r.can=true:=by
 obtain⟨⟨n,d,hr,hv,hc⟩,h0⟩:=h;refine⟨⟨decide (z<0),n,d⟩,⟨h0,hr⟩,?_,?_⟩
 ·show dw (decide (z<0)) (nv d n)=z;rw[hv];unfold dw
  by_cases hz:z<0
  ·simp[hz];omega
  ·simp[hz];omega
 ·unfold iY.can;rcases Nat.eq_zero_or_pos n with h1|h1
  ·subst h1
   have:z=0:=by simp[nv]at hv;omega
   subst this;simp
  ·have:d (n-1)≠0:=by omega
   simp[h1,this]
theorem wI.qtg{M:Nat->Prop}{w:World}{c0 c1:Value}{r:iY}(h:wI M w c0 c1 r)(hc:r.can=true):ek M w c0 c1 r.val:=by
 obtain⟨h0,hr⟩:=h;refine⟨⟨r.n,r.dg,hr,by unfold iY.val;rw[uJ],?_⟩,?_⟩
 ·unfold iY.can at hc;rcases Nat.eq_zero_or_pos r.n with h1|h1
  ·exact .inl h1
  ·have hne:¬r.n=0:=by omega
   simp[hne]at hc;exact .inr hc.2
 ·rw[h0];unfold iY.val;rw[qqe]
  congr 1
  cases hn:r.neg
  ·rfl
  ·have h1:¬r.n=0:=λe=>by unfold iY.can at hc;simp[e,hn]at hc
   have hz:=iY.yO hc hr.2.1
   have:0<nv r.dg r.n:=by
    rcases Nat.eq_zero_or_pos (nv r.dg r.n)with h2|h2
    ·exact absurd (hz.1 (by unfold iY.val dw;rw[h2];split<;>rfl)) h1
    ·exact h2
   simp[this]
section
variable{M M':Nat->Prop}{w w':World}{c0 c1:Value}{r:iY}
theorem wI.kp(h:wI M w c0 c1 r)(he:Kp M w w'):wI M w' c0 c1 r:=⟨h.1,h.2.kp he⟩
theorem wI.more(h:wI M w c0 c1 r)(hm:∀g,M' g->M g\/w.heap.size<=g):wI M' w c0 c1 r:=⟨h.1,h.2.more hm⟩
end
def RR(M:Nat->Prop)(w:World):(d:Nat)->RT d->Value->Value->Value->Value->Prop
 |0,_,_,_,_,_=>False
 |d+1,t,c0,c1,c2,c3=>c0=.int .i64 t.1/\(-9223372036854775808<=t.1/\t.1<=9223372036854775807)/\wI M w c1 c2 t.2.1/\t.2.2.1<=1099511627776/\
  (((∃a p,c3=.slice a 0 p/\p<=maxLen/\(a=none->p=0))/\t.2.2.1=0)\/∃b off cap,c3=.slice (some ⟨b,off,none⟩) t.2.2.1 cap/\t.2.2.1<=cap/\cap<=maxLen/\(b<w.heap.size/\¬M b)/\
   ∀i,i<t.2.2.1->∃e0 e1 e2 e3,w.cell? ⟨b,off+i*4,none⟩=some e0/\w.cell? ⟨b,off+i*4+1,none⟩=some e1/\w.cell? ⟨b,off+i*4+2,none⟩=some e2/\w.cell? ⟨b,off+i*4+3,none⟩=some e3/\RR M w d (t.2.2.2 i) e0 e1 e2 e3)
theorem RR.kp{M:Nat->Prop}{w w':World}(he:Kp M w w'):∀{d:Nat}{t:RT d}{c0 c1 c2 c3:Value},RR M w d t c0 c1 c2 c3->RR M w' d t c0 c1 c2 c3
 |0,_,_,_,_,_,h=>h
 |d+1,t,c0,c1,c2,c3,h=>by
  obtain⟨h0,h1,h2,h3,h4⟩:=h;refine⟨h0,h1,h2.kp he,h3,?_⟩;rcases h4 with h4|⟨b,off,cap,hv,hn,hc,hb,hk⟩
  ·exact .inl h4
  ·refine .inr ⟨b,off,cap,hv,hn,hc,⟨dH hb.1 he.1,hb.2⟩,λi hi=>?_⟩;obtain⟨e0,e1,e2,e3,x0,x1,x2,x3,x4⟩:=hk i hi;exact⟨e0,e1,e2,e3,by rw[he.cell hb.1 hb.2];exact x0,by rw[he.cell hb.1 hb.2];exact x1,by rw[he.cell hb.1 hb.2];exact x2,by rw[he.cell hb.1 hb.2];exact x3,RR.kp he x4⟩
theorem RR.more{M M':Nat->Prop}{w:World}(hm:∀g,M' g->M g\/w.heap.size<=g):∀{d:Nat}{t:RT d}{c0 c1 c2 c3:Value},RR M w d t c0 c1 c2 c3->RR M' w d t c0 c1 c2 c3
 |0,_,_,_,_,_,h=>h
 |d+1,t,c0,c1,c2,c3,h=>by
  obtain⟨h0,h1,h2,h3,h4⟩:=h;refine⟨h0,h1,h2.more hm,h3,?_⟩;rcases h4 with h4|⟨b,off,cap,hv,hn,hc,hb,hk⟩
  ·exact .inl h4
  ·refine .inr ⟨b,off,cap,hv,hn,hc,⟨hb.1,λk=>(hm b k).elim hb.2 (by omega)⟩,λi hi=>?_⟩;obtain⟨e0,e1,e2,e3,x0,x1,x2,x3,x4⟩:=hk i hi;exact⟨e0,e1,e2,e3,x0,x1,x2,x3,RR.more hm x4⟩
theorem RR.ext{M:Nat->Prop}{w w':World}{d:Nat}{t:RT d}{c0 c1 c2 c3:Value}(h:RR M w d t c0 c1 c2 c3)(he:Ext w w'):RR M w' d t c0 c1 c2 c3:=RR.kp (Kp.kV he) h
theorem RR.ok{M:Nat->Prop}{w:World}:∀{d:Nat}{t:RT d}{c0 c1 c2 c3:Value},RR M w d t c0 c1 c2 c3->BP d t
 |0,_,_,_,_,_,h=>h.elim
 |d+1,t,c0,c1,c2,c3,h=>by
  obtain⟨h0,h1,h2,h3,h4⟩:=h;refine⟨h2.2.2.1,λi hi=>?_⟩;rcases h4 with h4|⟨b,off,cap,hv,hn,hc,hb,hk⟩
  ·omega
  ·obtain⟨e0,e1,e2,e3,x0,x1,x2,x3,x4⟩:=hk i hi;exact RR.ok x4
theorem RR.form{M:Nat->Prop}{w:World}{d:Nat}{t:RT (d+1)}{c0 c1 c2 c3:Value}(h:RR M w (d+1) t c0 c1 c2 c3):c0=.int .i64 t.1/\c1=.bool t.2.1.neg/\(∃a p,c2=.slice a t.2.1.n p)/\∃ka kp,c3=.slice ka t.2.2.1 kp:=by
 obtain⟨h0,h1,h2,h3,h4⟩:=h;refine⟨h0,h2.1,lM h2.2,?_⟩;rcases h4 with⟨⟨_,_,rfl,_⟩,h4⟩|⟨b,off,cap,rfl,_⟩
 ·rw[h4];exact⟨_,_,rfl⟩
 ·exact⟨_,_,rfl⟩
theorem RR.kids{M:Nat->Prop}{w:World}{d:Nat}{t:RT (d+1)}{c0 c1 c2:Value}{ka:Option Addr}{kp:Nat}(h:RR M w (d+1) t c0 c1 c2 (.slice ka t.2.2.1 kp))(i:Nat)(hi:i<t.2.2.1):
 ∃b off,ka=some ⟨b,off,none⟩/\t.2.2.1<=kp/\kp<=maxLen/\b<w.heap.size/\∃e0 e1 e2 e3,w.cell? ⟨b,off+i*4,none⟩=some e0/\w.cell? ⟨b,off+i*4+1,none⟩=some e1/\w.cell? ⟨b,off+i*4+2,none⟩=some e2/\w.cell? ⟨b,off+i*4+3,none⟩=some e3/\RR M w d (t.2.2.2 i) e0 e1 e2 e3:=by
 obtain⟨h0,h1,h2,h3,h4⟩:=h;rcases h4 with⟨_,h4⟩|⟨b,off,cap,hv,hn,hc,hb,hk⟩
 ·omega
 ·simp only[Value.slice.injEq,true_and]at hv;obtain⟨rfl,rfl⟩:=hv;exact⟨b,off,rfl,hn,hc,hb.1,hk i hi⟩
theorem qtm(n:Nat):(((n:Nat):Int)==0)=(n==0):=by
 rw[Bool.eq_iff_iff,beq_iff_eq,beq_iff_eq];omega
def gm(l:Int):Bool:=decide (1<=l/\l<=4)
def oK(l:Int)(n:Nat):Bool:=decide (l=0)&&n==0
theorem qeI(l:Int)(w:World):Calls Tryz.prog 56 #[.int .i64 l] w λe w'=>e=.returned (.bool (gm l))/\w=w':=by
 by_cases h1:1<=l
 ·by_cases h2:l<=4
  ·have H:Hid (gm l=true):=by show _=_;unfold gm;simp[h1,h2]
   go_enter Tryz.func56,Tryz.ntmps56
   go_wp2;go_ret;exact⟨by rw[H.out];rfl,rfl⟩
  ·have H:Hid (gm l=false):=by show _=_;unfold gm;simp[h2]
   go_enter Tryz.func56,Tryz.ntmps56
   go_wp2;go_ret;exact⟨by rw[H.out];rfl,rfl⟩
 ·have H:Hid (gm l=false):=by show _=_;unfold gm;simp[h1]
  go_enter Tryz.func56,Tryz.ntmps56
  go_wp2;go_ret;exact⟨by rw[H.out];rfl,rfl⟩
theorem Jf(l:Int)(b:Bool)(a:Option Addr)(n p:Nat)(ka:Option Addr)(kn kp:Nat)(w:World):Calls Tryz.prog 119 #[.agg #[.int .i64 l,.bool b,.slice a n p,.slice ka kn kp]] w λe w'=>e=.returned (.bool (oK l n))/\Ext w w':=by
 by_cases h1:l=0
 ·have t0:(l==0)=true:=by simp[h1]
  have H:Hid (oK l n=(n==0)):=by
   show _=_;unfold oK;rw[decide_eq_true h1,Bool.true_and]
  clear h1
  go_enter Tryz.func119,Tryz.ntmps119
  go_wp2;go_ret;exact⟨by rw[H.out, <-qtm];rfl,(aA w).alloc _⟩
 ·have t0:(l==0)=false:=by simp[h1]
  have H:Hid (oK l n=false):=by show _=_;unfold oK;simp[h1]
  clear h1
  go_enter Tryz.func119,Tryz.ntmps119
  go_wp2;go_ret;exact⟨by rw[H.out];rfl,(aA w).alloc _⟩
theorem XF(d:Nat)(t:RT (d+1)):gM (d+1) t=if t.1=0 then(t.2.2.1==0)&&t.2.1.can
 else decide (1<=t.1/\t.1<=4)&&(t.2.1.blank&&(decide (2<=t.2.2.1)&&((List.range t.2.2.1).all (λi=>decide (mq d (t.2.2.2 i)<t.1)&&gM d (t.2.2.2 i))&& !(su d (t.2.2.2 (t.2.2.1-1)))))):=rfl
def qfK(d:Nat):Prop:=∀(M:Nat->Prop)(t:RT d)(c0 c1 c2 c3:Value)(w:World),RR M w d t c0 c1 c2 c3->
 Calls Tryz.prog 128 #[.agg #[c0,c1,c2,c3]] w λe w'=>e=.returned (.bool (gM d t))/\Ext w w'
theorem qyz(d:Nat)(M:Nat->Prop)(t:RT (d+1))(c0 c1 c2 c3:Value)(w:World)(h:RR M w (d+1) t c0 c1 c2 c3)(hl:t.1=0):
 Calls Tryz.prog 128 #[.agg #[c0,c1,c2,c3]] w λe w'=>e=.returned (.bool (gM (d+1) t))/\Ext w w':=by
 obtain⟨rfl,rfl,⟨a,p,rfl⟩,ka,kp,rfl⟩:=h.form;have hI:wI M w (.bool t.2.1.neg) (.slice a t.2.1.n p) t.2.1:=h.2.2.1;have hE:=XF d t;rw[ai hl]at hE;have HE:=ae hE;have gH:=h.2.2.2.1;have haL:=hI.2.1;have HN:=ae hI.2;clear hE h hI;generalize gM (d+1) t=R at*;obtain⟨L,⟨neg,an,dg⟩,n,bN⟩:=t;simp only at*;subst hl
 by_cases hn:n=0
 ·subst hn
  by_cases ha:an=0
  ·subst ha
   have HR:Hid (R= !neg):=by show _=_;rw[HE.out];simp[iY.can]
   clear HE;cases neg
   ·go_enter Tryz.func128,Tryz.ntmps128
    go_wp2;go_ret;exact⟨by rw[HR.out];rfl,(aA w).alloc _⟩
   ·go_enter Tryz.func128,Tryz.ntmps128
    go_wp2;go_ret;exact⟨by rw[HR.out];rfl,(aA w).alloc _⟩
  ·have HR:Hid (R=(dg (an-1)!=0)):=by show _=_;rw[HE.out];simp[iY.can,ha,show 0<an from by omega]
   clear HE;obtain⟨b,off,rfl,hb,hcell⟩:=oL HN.out (by omega);obtain⟨k,rfl⟩:∃k,an=k+1:=⟨an-1,by omega⟩
   have x0:(w.alloc (.cells #[.int .i64 0,.bool neg,.slice (some ⟨b,off,none⟩) (k+1) p,.slice ka 0 kp] 33)).cell? ⟨b,off+k,none⟩=some (.int .u32 (dg k)):=by rw[((aA w).alloc _).cell hb];exact hcell k (by omega)
   have xy:Hid (R=(dg k !=0)):=HR;clear HR hcell
   by_cases hd:dg k=0
   ·have t0:(((dg k:Nat):Int)!=0)=false:=by simp[hd]
    have rH:Hid (R=false):=by show _=_;rw[xy.out];simp[hd]
    clear hd xy;cases neg
    ·go_enter Tryz.func128,Tryz.ntmps128
     go_wp2;go_ret;exact⟨by rw[rH.out];rfl,(aA w).alloc _⟩
    ·go_enter Tryz.func128,Tryz.ntmps128
     go_wp2;go_ret;exact⟨by rw[rH.out];rfl,(aA w).alloc _⟩
   ·have t0:(((dg k:Nat):Int)!=0)=true:=by simp[hd]
    have rH:Hid (R=true):=by show _=_;rw[xy.out];simp[hd]
    clear hd xy;cases neg
    ·go_enter Tryz.func128,Tryz.ntmps128
     go_wp2;go_ret;exact⟨by rw[rH.out];rfl,(aA w).alloc _⟩
    ·go_enter Tryz.func128,Tryz.ntmps128
     go_wp2;go_ret;exact⟨by rw[rH.out];rfl,(aA w).alloc _⟩
 ·have HR:Hid (R=false):=by show _=_;rw[HE.out];simp[hn]
  have Br:0<n:=by omega
  clear HE hn
  go_enter Tryz.func128,Tryz.ntmps128
  go_wp2;go_ret;exact⟨by rw[HR.out];rfl,(aA w).alloc _⟩
theorem qyB(d:Nat)(t:RT (d+1)):su (d+1) t=oK t.1 t.2.1.n:=rfl
theorem qyA(d:Nat)(ih:qfK d)(M:Nat->Prop)(t:RT (d+1))(c0 c1 c2 c3:Value)(w:World)(h:RR M w (d+1) t c0 c1 c2 c3)(hl:t.1≠0):
 Calls Tryz.prog 128 #[.agg #[c0,c1,c2,c3]] w λe w'=>e=.returned (.bool (gM (d+1) t))/\Ext w w':=by
 obtain⟨rfl,rfl,⟨a,p,rfl⟩,ka,kp,rfl⟩:=h.form;have hE:=XF d t;rw[ah hl]at hE;have HE:=ae hE;have gH:=h.2.2.2.1;have haL:t.2.1.n<=1099511627776:=h.2.2.1.2.1;have qL:=h.2.1;have HK:Hid (∀i,i<t.2.2.1->∃b off,ka=some ⟨b,off,none⟩/\t.2.2.1<=kp/\kp<=maxLen/\b<w.heap.size/\∃e0 e1 e2 e3,w.cell? ⟨b,off+i*4,none⟩=some e0/\w.cell? ⟨b,off+i*4+1,none⟩=some e1/\w.cell? ⟨b,off+i*4+2,none⟩=some e2/\w.cell? ⟨b,off+i*4+3,none⟩=some e3/\RR M w d (t.2.2.2 i) e0 e1 e2 e3):=λi hi=>h.kids i hi;clear hE h;generalize gM (d+1) t=R at*;obtain⟨L,⟨neg,an,dg⟩,n,bN⟩:=t;simp only at*
 have l0:(L==0)=false:=by simp[hl]
 have bf:=qeI L;clear hl;have gI:Hid (Ext w (w.alloc (.cells #[.int .i64 L,.bool neg,.slice a an p,.slice ka n kp] 33))):=(aA w).alloc _
 by_cases hL:1<=L/\L<=4
 ·have pg:gm L=true:=by unfold gm;simp[hL]
  rw[pg]at bf;have aW:=ae bf;clear pg bf;obtain⟨yY,xN⟩:=hL
  by_cases ha:0<an
  ·have HR:Hid (R=false):=by show _=_;rw[HE.out];simp[iY.blank,show¬an=0 from by omega]
   clear HE;cases neg
   all_goals
    go_enter Tryz.func128,Tryz.ntmps128
    go_wp2_with (fail);refine(aW.out _).mono ?_;rintro e w1 ⟨rfl,rfl⟩;go_wp2;go_ret;exact⟨by rw[HR.out];rfl,gI.out⟩
  ·have ha0:an=0:=by omega
   subst ha0;clear ha;cases neg
   ·by_cases hn:n<2
    ·have HR:Hid (R=false):=by show _=_;rw[HE.out];simp[show¬2<=n from by omega]
     clear HE
     go_enter Tryz.func128,Tryz.ntmps128
     go_wp2_with (fail);refine(aW.out _).mono ?_;rintro e w1 ⟨rfl,rfl⟩;go_wp2;go_ret;exact⟨by rw[HR.out];rfl,gI.out⟩
    ·have HR:Hid (R=((List.range n).all (λi=>decide (mq d (bN i)<L)&&gM d (bN i))&& !(su d (bN (n-1))))):=by
      show _=_;rw[HE.out];simp[iY.blank,show 2<=n from by omega,yY,xN]
     clear HE
     cases d with
     |zero=>
      obtain⟨b,off,_,_,_,_,e0,e1,e2,e3,_,_,_,_,hf⟩:=HK.out 0 (by omega);exact hf.elim
     |succ d=>
     go_enter Tryz.func128,Tryz.ntmps128
     go_wp2_with (fail);refine(aW.out _).mono ?_;rintro e w1 ⟨rfl,rfl⟩;go_wp2
     go_loopw [63] (λi wr=>∃k:Nat,k<=n/\i=.int .i64 k/\Hid (∀j,j<k->(decide (mq (d+1) (bN j)<L)&&gM (d+1) (bN j))=true)/\Hid (Ext (w.alloc (.cells #[.int .i64 L,.bool false,.slice a 0 p,.slice ka n kp] 33)) wr)) (λi _=>n-(intOf i).toNat)
     case atStart=>exact⟨0,bK _,rfl,λj hj=>by omega,aA _⟩
     case round=>
      obtain⟨k,hk,rfl,HQ,jo⟩:=hrel;have dL:=gI.out.trans jo.out;obtain⟨gW,KJ⟩:=ER jo.out;have hsz:=jo.out.size;simp only[World.size_alloc]at hsz
      have Sd:w.heap.size<wr.heap.size:=by omega
      have B0:wr.cell? ⟨w.heap.size,0,none⟩=some (.int .i64 L):=by rw[gW _ _ (by simp)];simp[go_sem]
      have B3:wr.cell? ⟨w.heap.size,3,none⟩=some (.slice ka n kp):=by rw[gW _ _ (by simp)];simp[go_sem]
      clear gW KJ
      by_cases hlt:k<n
      ·obtain⟨b,off,rfl,DZ,WS,hb,e0,e1,e2,e3,x0,x1,x2,x3,vI⟩:=HK.out k hlt;rw[<-dL.cell hb]at x0 x1 x2 x3
       have jE:b<wr.heap.size:=by omega
       obtain⟨rfl,rfl,⟨a2,p2,rfl⟩,jH,jI,rfl⟩:=vI.form;have lX:=ae vI;clear vI
       by_cases iJ:L<=(bN k).1
       ·have rH:Hid (R=false):=by
         show _=_;rw[HR.out]
         have:(List.range n).all (λi=>decide (mq (d+1) (bN i)<L)&&gM (d+1) (bN i))=false:=by
          rw[List.all_eq_false];refine⟨k,List.mem_range.2 hlt,?_⟩
          have:¬mq (d+1) (bN k)<L:=by show¬(bN k).1<L;omega
          simp[this]
         rw[this];rfl
        go_wp2;go_ret;exact⟨by rw[rH.out];rfl,dL.alloc _⟩
       ·have aT:Ext wr (wr.alloc (.cells #[.int .i64 (bN k).1,.bool (bN k).2.1.neg,.slice a2 (bN k).2.1.n p2,.slice jH (bN k).2.2.1 jI] 33)):=(aA wr).alloc _;have Sw:=ih M (bN k) _ _ _ _ _ (lX.out.ext (dL.trans aT));have JV:=ae Sw;clear Sw;cases zi:gM (d+1) (bN k)
        ·rw[zi]at JV
         have rH:Hid (R=false):=by
          show _=_;rw[HR.out]
          have:(List.range n).all (λi=>decide (mq (d+1) (bN i)<L)&&gM (d+1) (bN i))=false:=by
           rw[List.all_eq_false];exact⟨k,List.mem_range.2 hlt,by simp[zi]⟩
          rw[this];rfl
         clear zi;go_wp2_with (fail);refine JV.out.mono ?_;rintro e w1 ⟨rfl,az⟩;go_wp2;go_ret;exact⟨by rw[rH.out];rfl,(dL.trans aT).trans az⟩
        ·rw[zi]at JV;have Ue:=ae zi;clear zi;go_wp2_with (fail);refine JV.out.mono ?_;rintro e w1 ⟨rfl,az⟩;go_wp2
         go_roundw
         case rel=>exact⟨k+1,by omega,by go_num,λj hj=>by
          by_cases qJ:j=k
          ·subst qJ
           have:mq (d+1) (bN j)<L:=by show(bN j).1<L;omega
           simp[this,Ue.out]
          ·exact HQ.out j (by omega),(jo.out.trans aT).trans az⟩
         case measure=>simp[intOf];omega
      ·have hkn:k=n:=by omega
       subst hkn;obtain⟨b,off,rfl,DZ,WS,hb,e0,e1,e2,e3,x0,x1,x2,x3,vI⟩:=HK.out (k-1) (by omega);obtain⟨q,rfl⟩:∃q,k=q+1:=⟨k-1,by omega⟩;simp only[Nat.add_sub_cancel]at x0 x1 x2 x3 vI;rw[<-dL.cell hb]at x0 x1 x2 x3
       have jE:b<wr.heap.size:=by omega
       obtain⟨rfl,rfl,⟨a2,p2,rfl⟩,jH,jI,rfl⟩:=vI.form
       have rH:Hid (R= !(oK (bN q).1 (bN q).2.1.n)):=by
        show _=_;rw[HR.out]
        have:(List.range (q+1)).all (λi=>decide (mq (d+1) (bN i)<L)&&gM (d+1) (bN i))=true:=by
         rw[List.all_eq_true];intro i hi;exact HQ.out i (List.mem_range.1 hi)
        rw[this,Bool.true_and,Nat.add_sub_cancel,qyB]
       clear vI HQ HR;go_wp2_with (fail);refine(Jf _ _ _ _ _ _ _ _ _).mono ?_;rintro e w1 ⟨rfl,az⟩;go_wp2;go_ret;exact⟨by rw[rH.out];rfl,dL.trans az⟩
   ·have HR:Hid (R=false):=by show _=_;rw[HE.out];simp[iY.blank]
    clear HE
    go_enter Tryz.func128,Tryz.ntmps128
    go_wp2_with (fail);refine(aW.out _).mono ?_;rintro e w1 ⟨rfl,rfl⟩;go_wp2;go_ret;exact⟨by rw[HR.out];rfl,gI.out⟩
 ·have pg:gm L=false:=by unfold gm;simp only[decide_eq_false_iff_not];exact hL
  rw[pg]at bf
  have HR:Hid (R=false):=by show _=_;rw[HE.out,decide_eq_false hL];rfl
  have aW:=ae bf;clear pg bf hL HE
  go_enter Tryz.func128,Tryz.ntmps128
  go_wp2_with (fail);refine(aW.out _).mono ?_;rintro e w1 ⟨rfl,rfl⟩;go_wp2;go_ret;exact⟨by rw[HR.out];rfl,gI.out⟩
theorem qp1:∀d,qfK d
 |0=>λ_ _ _ _ _ _ _ h=>h.elim
 |d+1=>λM t c0 c1 c2 c3 w h=>by
  by_cases hl:t.1=0
  ·exact qyz d M t c0 c1 c2 c3 w h hl
  ·exact qyA d (qp1 d) M t c0 c1 c2 c3 w h hl
def Mf(M:Nat->Prop)(base:Nat):Nat->Prop:=λb=>M b\/base<=b
def uV(M:Nat->Prop)(base:Nat)(w:World)(v:Value)(n:Nat)(z:Nat->Int)(x:Nat->TE):Prop:=
 Own w base 129 6 v n (tx x)/\∀i,i<n->dQ (Mf M base) w (.bool (x i).b) (.slice (x i).a (x i).n (x i).p) (z i)
def BL(m:Mo):Nat->Value:=λi=>.int .i64 (m.get (i+1))
theorem qy9(m:Mo)(j:Nat)(hj:j<4)(a b:Int)(i:Nat)(hi:i<4):jr (BL (Mo.add m (xp (j+1) a))) j (.int .i64 (m.get (j+1)+b)) i=BL (Mo.add m (xp (j+1) b)) i:=by
 unfold jr BL;rw[iH,iH,eQ _ _ _ (by omega) (by omega),eQ _ _ _ (by omega) (by omega)]
 by_cases h:i=j
 ·subst h;simp
 ·rw[ah h,ah (by omega),ah (by omega)]
theorem qy8{w:World}{g:Nat}{t:TypeId}{m:Mo}(h:aG w g t 4 (BL m)):w.cell? ⟨g,0,none⟩=some (.int .i64 m.a)/\w.cell? ⟨g,1,none⟩=some (.int .i64 m.b)/\w.cell? ⟨g,2,none⟩=some (.int .i64 m.c)/\w.cell? ⟨g,3,none⟩=some (.int .i64 m.d):=
 ⟨h.cell (by omega),h.cell (by omega),h.cell (by omega),h.cell (by omega)⟩
theorem qy7(m:Mo)(i:Nat)(hi:i<4):arr #[.int .i64 m.a,.int .i64 m.b,.int .i64 m.c,.int .i64 m.d] i=BL m i:=by
 match i,hi with
 |0,_=>rfl
 |1,_=>rfl
 |2,_=>rfl
 |3,_=>rfl
def Room(d:Nat)(m:Mo):Prop:=∀k, -(4611686018427387904-(d:Int)*1099511627776)<=m.get k/\m.get k<=4611686018427387904-(d:Int)*1099511627776
def O4(M:Nat->Prop)(base:Nat)(w:World)(v:Value)(l:List Tm)(e:Ending)(w':World):Prop:=
 ∃v' n' z' x',e=.returned v'/\uV M base w' v' n' z' x'/\eZ n' z' x'=l/\w.grownBy w' v.ownBlock/\(∀b,v'.ownBlock=some b->v.ownBlock=some b\/w.heap.size<=b)
def qfN(d:Nat):Prop:=∀(M:Nat->Prop)(base:Nat)(t:RT d)(c0 c1 c2 c3 v:Value)(n:Nat)(z:Nat->Int)(x:Nat->TE)(m:Mo)(w:World),base<=w.heap.size->RR (Mf M base) w d t c0 c1 c2 c3->uV M base w v n z x->
 n+(terms d t).length<=1099511627776->Room d m->Calls Tryz.prog 129 #[v,.agg #[c0,c1,c2,c3],lL m] w (O4 M base w v (eZ n z x++shift m (terms d t)))
theorem qCL(n:Nat)(z:Nat->Int)(x:Nat->TE)(c:Int)(t:TE):eZ (n+1) (λj=>if j=n then c else z j) (λj=>if j=n then t else x j)=eZ n z x++[(c,t.m)]:=by
 rw[qfe]
 congr 1
 ·unfold eZ;apply List.map_congr_left;intro i hi
  have:i≠n:=by simp at hi;omega
  simp[this]
 ·simp
theorem uV.kp{M:Nat->Prop}{base:Nat}{w w':World}{v:Value}{n:Nat}{z:Nat->Int}{x:Nat->TE}(h:uV M base w v n z x)(he:∀g,v.ownBlock=some g->w'.heap[g]?=w.heap[g]?)(hk:Kp (Mf M base) w w'):uV M base w' v n z x:=
 ⟨h.1.of_heap he,λi hi=>(h.2 i hi).kp hk⟩
theorem uV.ext{M:Nat->Prop}{base:Nat}{w w':World}{v:Value}{n:Nat}{z:Nat->Int}{x:Nat->TE}(h:uV M base w v n z x)(he:Ext w w'):uV M base w' v n z x:=⟨h.1.ext he,λi hi=>(h.2 i hi).ext he⟩
theorem qoa{M:Nat->Prop}{base:Nat}{w w':World}{r:Option Nat}(hg:w.grownBy w' r)(hr:∀k,r=some k->base<=k):Kp (Mf M base) w w':=Kp.grown hg λk hk=>.inr (hr k hk)
theorem qvB{w w1 w2:World}{r:Option Nat}(h:Ext w w1)(hg:w1.grownBy w2 r):w.grownBy w2 r:=QM (h.grownBy r) hg
theorem qi2(d:Nat)(M:Nat->Prop)(base:Nat)(t:RT (d+1))(c0 c1 c2 c3 v:Value)(n:Nat)(z:Nat->Int)(x:Nat->TE)(m:Mo)(w:World)(hbase:base<=w.heap.size)(h:RR (Mf M base) w (d+1) t c0 c1 c2 c3)(hR:uV M base w v n z x)
 (hL:n+(terms (d+1) t).length<=1099511627776) (hl:t.1<=0\/4<t.1):
 Calls Tryz.prog 129 #[v,.agg #[c0,c1,c2,c3],lL m] w (O4 M base w v (eZ n z x++shift m (terms (d+1) t))):=by
 obtain⟨i0,hi,hz0,hz1,hz2⟩:=info_parts Tryz.qdV;obtain⟨rfl,rfl,⟨a,p,rfl⟩,ka,kp,rfl⟩:=h.form;obtain⟨va,vc,rfl⟩:=hR.1.form;have qL:=h.2.1;have hE:Ext w ((w.alloc (.cells #[.int .i64 t.1,.bool t.2.1.neg,.slice a t.2.1.n p,.slice ka t.2.2.1 kp] 33)).alloc (.cells #[.int .i64 m.a,.int .i64 m.b,.int .i64 m.c,.int .i64 m.d] 127)):=((aA w).alloc _).alloc _;rcases hl with hl|hl
 ·have HT:Hid (terms (d+1) t=[(t.2.1.val,Mo.zero)]):=vV hl
  have hlen:n+1<=1099511627776:=by rw[HT.out]at hL;simpa using hL
  have HI:Hid (dQ (Mf M base) w (.bool t.2.1.neg) (.slice a t.2.1.n p) t.2.1.val):=h.2.2.1.fB;clear hL h;generalize terms (d+1) t=T at*;obtain⟨L,r,kn,bN⟩:=t;simp only at*;have hO:=hR.1.ext hE;have hs0:=hE.size;have oq:=hO.ext ((aA _).alloc (.cells #[.bool r.neg,.slice a r.n p,.int .i64 m.a,.int .i64 m.b,.int .i64 m.c,.int .i64 m.d] 129));have jV:=aG.bq ((w.alloc (.cells #[.int .i64 L,.bool r.neg,.slice a r.n p,.slice ka kn kp] 33)).alloc (.cells #[.int .i64 m.a,.int .i64 m.b,.int .i64 m.c,.int .i64 m.d] 127)) #[.bool r.neg,.slice a r.n p,.int .i64 m.a,.int .i64 m.b,.int .i64 m.c,.int .i64 m.d] 129 6 rfl;simp only[World.size_alloc]at jV;have Am:Hid (∀j,j<6->(arr #[.bool r.neg,.slice a r.n p,.int .i64 m.a,.int .i64 m.b,.int .i64 m.c,.int .i64 m.d] j).oneCell'=true):=qo8 ⟨r.neg,a,r.n,p,m⟩;have HR:=ae hR;clear hR
  go_enter Tryz.func129,Tryz.ntmps129
  go_wp2_with (at_builtin;refine TT _ rfl (.tmp 14) (.tmp 19) _ rfl base 129 i0 _ 6 64 Tryz.underlying71 hi hz0 hz1 hz2 rfl (by omega) (.slice va n vc) n (tx x) rfl oq (w.heap.size+1+1) 129 1 (arr #[.bool r.neg,.slice a r.n p,.int .i64 m.a,.int .i64 m.b,.int .i64 m.c,.int .i64 m.d]) rfl jV Am.out ?s1 ?s2 ?s3 ?_)
  case s1=>unfold maxLen;omega
  case s2=>omega
  case s3=>simp;omega
  intro gg cap2 w2 l9 fG hat KO;have lK:=hE.alloc (.cells #[.bool r.neg,.slice a r.n p,.int .i64 m.a,.int .i64 m.b,.int .i64 m.c,.int .i64 m.d] 129);have Bo:=qvB lK fG;have bD:=qoa (M:=M) (base:=base) Bo (λq hq=>(HR.out.1.lt q hq).1)
  have iC:O4 M base w (.slice va n vc) (eZ n z x++shift m T) (.returned (.slice (some ⟨gg,0,none⟩) (n+1) cap2)) w2:=by
   refine⟨_,n+1,λj=>if j=n then r.val else z j,λj=>if j=n then⟨r.neg,a,r.n,p,m⟩else x j,rfl,⟨l9.congr (λj hj=>qqJ x n ⟨r.neg,a,r.n,p,m⟩ j hj),λi hi=>?_⟩,?_,Bo,λb hb=>?_⟩
   ·by_cases qI:i=n
    ·simp only[ai qI];exact HI.out.kp bD
    ·simp only[ah qI];exact(HR.out.2 i (by omega)).kp bD
   ·rw[qCL,HT.out];simp[shift,Mo.qfi]
   ·simp only[Value.ownBlock,Option.some.injEq]at hb;subst hb;rcases hat with h|h
    ·exact .inl h
    ·exact .inr (by omega)
  have yw:=ae iC;clear iC l9 fG hat Bo bD oq jV;go_wp2;go_ret;exact yw.out
 ·have HT:Hid (terms (d+1) t=[]):=by show _=_;unfold terms;rw[ah (by omega),ai hl]
  clear hL h;generalize terms (d+1) t=T at*;obtain⟨L,r,kn,bN⟩:=t;simp only at*
  go_enter Tryz.func129,Tryz.ntmps129
  go_wp2;go_ret;exact⟨_,n,z,x,rfl,hR.ext hE,by rw[HT.out];simp[shift],hE.grownBy _,λb hb=>.inl hb⟩
theorem qBl(m:Mo)(L k:Nat)(P:Nat->List Tm):shift m (aQ L (k+1) P)=shift m (aQ L k P)++shift (Mo.add m (xp L (k:Int))) (P k):=by
 rw[gT,Yt,qeQ,Mo.Vq m]
theorem qAl(L n k:Nat)(P:Nat->List Tm)(h:k<=n):(aQ L k P).length<=(aQ L n P).length:=by
 induction n with
 |zero=>have:k=0:=by omega
        subst this;exact aI _
 |succ n ih=>
  by_cases hk:k=n+1
  ·subst hk;exact aI _
  ·have:=ih (by omega);rw[gT,List.length_append];omega
theorem Room.bN{d:Nat}{m:Mo}(h:Room (d+1) m)(L k:Nat)(h1:1<=L)(h4:L<=4)(hk:k<=1099511627776):Room d (Mo.add m (xp L (k:Int))):=by
 intro j;have:=h j;rw[iH,eQ L j _ h1 h4]
 have e:((d+1:Nat):Int)*1099511627776=(d:Int)*1099511627776+1099511627776:=by omega
 split<;>omega
theorem qtN(d:Nat)(ih:qfN d)(M:Nat->Prop)(base:Nat)(t:RT (d+1))(c0 c1 c2 c3 v:Value)(n:Nat)(z:Nat->Int)(x:Nat->TE)(m:Mo)(w:World)(hbase:base<=w.heap.size)(h:RR (Mf M base) w (d+1) t c0 c1 c2 c3)(hR:uV M base w v n z x)
 (hL:n+(terms (d+1) t).length<=1099511627776) (qm9:Room (d+1) m) (hl:1<=t.1/\t.1<=4):
 Calls Tryz.prog 129 #[v,.agg #[c0,c1,c2,c3],lL m] w (O4 M base w v (eZ n z x++shift m (terms (d+1) t))):=by
 obtain⟨rfl,rfl,⟨a,p,rfl⟩,ka,kp,rfl⟩:=h.form;obtain⟨va,vc,rfl⟩:=hR.1.form;have gH:=h.2.2.2.1;have HK:Hid (∀i,i<t.2.2.1->∃b off,ka=some ⟨b,off,none⟩/\t.2.2.1<=kp/\kp<=maxLen/\b<w.heap.size/\∃e0 e1 e2 e3,w.cell? ⟨b,off+i*4,none⟩=some e0/\w.cell? ⟨b,off+i*4+1,none⟩=some e1/\w.cell? ⟨b,off+i*4+2,none⟩=some e2/\w.cell? ⟨b,off+i*4+3,none⟩=some e3/\RR (Mf M base) w d (t.2.2.2 i) e0 e1 e2 e3):=λi hi=>h.kids i hi
 have HKb:Hid (∀b off,ka=some ⟨b,off,none⟩->0<t.2.2.1->b<base):=by
  intro b off nT h0;obtain⟨_,_,_,_,h4⟩:=h;rcases h4 with⟨_,h4⟩|⟨b',off',cap,hv,hn,hc,hb,hk⟩
  ·omega
  ·simp only[Value.slice.injEq]at hv;rw[hv.1]at nT;simp only[Option.some.injEq,Addr.mk.injEq]at nT;obtain⟨rfl,rfl,_⟩:=nT;rcases Nat.lt_or_ge b' base with hlt|jS
   ·exact hlt
   ·exact absurd (.inr jS) hb.2
 have HT:Hid (terms (d+1) t=aQ t.1.toNat t.2.2.1 (λi=>terms d (t.2.2.2 i))):=yn hl.1 hl.2
 have qrX:Hid (n+(aQ t.1.toNat t.2.2.1 (λi=>terms d (t.2.2.2 i))).length<=1099511627776):=by show _<=_;rw[<-HT.out];exact hL
 have qhm:=ae qm9;clear hL h qm9;generalize terms (d+1) t=T at*;obtain⟨L,r,kn,bN⟩:=t;simp only at*;obtain⟨j,hj⟩:∃j:Nat,L=(j:Int)+1:=⟨(L-1).toNat,by omega⟩;subst hj
 have FE:j<4:=by omega
 have HTJ:Hid (((j:Int)+1).toNat=j+1):=by show _=_;omega
 have hE:Ext w ((w.alloc (.cells #[.int .i64 ((j:Int)+1),.bool r.neg,.slice a r.n p,.slice ka kn kp] 33)).alloc (.cells #[.int .i64 m.a,.int .i64 m.b,.int .i64 m.c,.int .i64 m.d] 127)):=((aA w).alloc _).alloc _;have We:=(aG.bq (w.alloc (.cells #[.int .i64 ((j:Int)+1),.bool r.neg,.slice a r.n p,.slice ka kn kp] 33)) #[.int .i64 m.a,.int .i64 m.b,.int .i64 m.c,.int .i64 m.d] 127 4 rfl).congr (f':=BL m) (λi hi=>qy7 m i hi);simp only[World.size_alloc]at We;have qkm:=(aG.bq w #[.int .i64 ((j:Int)+1),.bool r.neg,.slice a r.n p,.slice ka kn kp] 33 4 rfl).alloc (.cells #[.int .i64 m.a,.int .i64 m.b,.int .i64 m.c,.int .i64 m.d] 127);have st0:=We.cell (i:=j) (by omega);simp only[BL]at st0;have lj0:(0:Int)<=(j:Int):=iw _
 have lj1:(j:Int)<4:=by omega
 have si:=qhm.out (j+1)
 have pq:((d+1:Nat):Int)*1099511627776=(d:Int)*1099511627776+1099511627776:=by omega
 have hr3:(0:Int)<=(d:Int)*1099511627776:=by omega
 have hr4: -4611686018427387904<=m.get (j+1):=by omega
 have hr5:m.get (j+1)+1099511627776<=4611686018427387904:=by omega
 clear si pq hr3;have dc1:decide ((j:Int)+1<=0)=false:=decide_eq_false (by omega);have dc2:decide (4<(j:Int)+1)=false:=decide_eq_false (by omega);have KY:∀b,Value.ownBlock (.slice va n vc)=some b->base<=b/\b<w.heap.size:=λb hb=>hR.1.lt b hb;have Au:=ae KY;clear KY
 go_enter Tryz.func129,Tryz.ntmps129
 go_wp2
 go_loopw [34,0] (λi tv wr=>∃(k n2:Nat)(z2:Nat->Int)(x2:Nat->TE)(q:Int),k<=kn/\i=.int .i64 k/\uV M base wr tv n2 z2 x2/\Hid (eZ n2 z2 x2=eZ n z x++shift m (aQ (j+1) k (λi=>terms d (bN i))))/\aG wr (w.heap.size+1) 127 4 (BL (Mo.add m (xp (j+1) q)))/\
  aG wr w.heap.size 33 4 (arr #[.int .i64 ((j:Int)+1),.bool r.neg,.slice a r.n p,.slice ka kn kp])/\w.grownBy wr (Value.ownBlock (.slice va n vc))/\Hid (∀b,tv.ownBlock=some b->Value.ownBlock (.slice va n vc)=some b\/w.heap.size+2<=b)) (λi _ _=>kn-(intOf i).toNat)
 case atStart=>
  refine⟨0,n,z,x,0,bK _,rfl,hR.ext hE,by show _=_;simp[FY,shift],We.congr (λi hi=>?_),qkm,hE.grownBy _,λb hb=>.inl hb⟩;unfold BL;rw[iH,eQ _ _ _ (by omega) (by omega)];split<;>simp
 case round=>
  clear We qkm st0;obtain⟨k,n2,z2,x2,q,hk,rfl,Fj,lY,G7,hBp,jq,eG⟩:=hrel;obtain⟨YI,YJ,rfl⟩:=Fj.1.form;have b0:=hBp.cell (i:=0) (by omega);simp only[arr]at b0;have s0:=G7.cell (i:=j) (by omega);have s1:=G7.frozen j;have hls:=G7.lt;have qEH:=hBp.lt
  by_cases hlt:k<kn
  ·obtain⟨b,off,rfl,DZ,WS,hb,e0,e1,e2,e3,y0,y1,y2,y3,vI⟩:=HK.out k hlt;have NR:b<base:=HKb.out b off rfl (by omega);have qms:Kp (Mf M base) w wr:=qoa jq (λq hq=>(Au.out q hq).1);have hcell:∀o,wr.cell? ⟨b,o,none⟩=w.cell? ⟨b,o,none⟩:=λo=>World.cell?_of_block (w:=w) (jq.block b hb (λe=>by have:=(Au.out b e.symm).1;omega));rw[<-hcell]at y0 y1 y2 y3;clear hcell
   have jE:b<wr.heap.size:=by have:=jq.size;omega
   have qk9:=RR.kp qms vI
   cases d with
   |zero=>exact vI.elim
   |succ d=>
   obtain⟨rfl,rfl,⟨a2,p2,rfl⟩,jH,jI,rfl⟩:=vI.form;have lX:=ae qk9;clear vI qk9
   have hkk:(k:Int)<=1099511627776:=by omega
   have iN:Ext (wr.setCell ⟨w.heap.size+1,j,none⟩ (.int .i64 (m.get (j+1)+(k:Int)))) ((wr.setCell ⟨w.heap.size+1,j,none⟩ (.int .i64 (m.get (j+1)+(k:Int)))).alloc (.cells #[.int .i64 (bN k).1,.bool (bN k).2.1.neg,.slice a2 (bN k).2.1.n p2,.slice jH (bN k).2.2.1 jI] 33)):=(aA _).alloc _;have NF:Kp (Mf M base) wr (wr.setCell ⟨w.heap.size+1,j,none⟩ (.int .i64 (m.get (j+1)+(k:Int)))):=Kp.set _ _ (.inr (by simp;omega)) _;have qbW:=((G7.set j (.int .i64 (m.get (j+1)+(k:Int)))).congr (f':=BL (Mo.add m (xp (j+1) (k:Int)))) (λi hi=>qy9 m j FE q k i hi)).ext iN;obtain⟨m0,m1,m2,m3⟩:=qy8 qbW;have qkn:=(hBp.vT (p:=⟨w.heap.size+1,j,none⟩) (by simp) (.int .i64 (m.get (j+1)+(k:Int)))).ext iN;have qfV:=ae qbW;have qfX:=ae qkn
   have kQ:w.grownBy ((wr.setCell ⟨w.heap.size+1,j,none⟩ (.int .i64 (m.get (j+1)+(k:Int)))).alloc (.cells #[.int .i64 (bN k).1,.bool (bN k).2.1.neg,.slice a2 (bN k).2.1.n p2,.slice jH (bN k).2.2.1 jI] 33)) (Value.ownBlock (.slice va n vc)):=by
    refine QM ?_ (iN.grownBy _);exact⟨jq.os,jq.tape,jq.output,by have:=jq.size;simpa[World.setCell]using this,λb hb hne=>(Below.heap_setCell _ _ _ _ (by show b≠w.heap.size+1;omega)).trans (jq.block b hb hne)⟩
   have NK:uV M base ((wr.setCell ⟨w.heap.size+1,j,none⟩ (.int .i64 (m.get (j+1)+(k:Int)))).alloc (.cells #[.int .i64 (bN k).1,.bool (bN k).2.1.neg,.slice a2 (bN k).2.1.n p2,.slice jH (bN k).2.2.1 jI] 33)) (.slice YI n2 YJ) n2 z2 x2:=by
    refine(Fj.kp (λg hg=>Below.heap_setCell _ _ _ _ ?_) NF).ext iN;show g≠w.heap.size+1;rcases eG.out g hg with hh|hh
    ·have:=(Au.out g hh).2;omega
    ·omega
   have qla:RR (Mf M base) ((wr.setCell ⟨w.heap.size+1,j,none⟩ (.int .i64 (m.get (j+1)+(k:Int)))).alloc (.cells #[.int .i64 (bN k).1,.bool (bN k).2.1.neg,.slice a2 (bN k).2.1.n p2,.slice jH (bN k).2.2.1 jI] 33)) (d+1) (bN k) _ _ _ _:=(RR.kp NF lX.out).ext iN
   have Sw:=ih M base (bN k) _ _ _ _ (.slice YI n2 YJ) n2 z2 x2 (Mo.add m (xp (j+1) (k:Int))) _ (by have:=kQ.size;exact aR hbase this) qla NK (by
    have h1:=qrX.out;rw[HTJ.out]at h1;have h2:=qAl (j+1) kn (k+1) (λi=>terms (d+1) (bN i)) (by omega);rw[gT,List.length_append]at h2
    have h3:n2=n+(aQ (j+1) k (λi=>terms (d+1) (bN i))).length:=by
     have:=congrArg List.length lY.out;rw[TW,List.length_append,TW]at this;simpa[shift]using this
    have h4:(shift (xp (j+1) (k:Int)) (terms (d+1) (bN k))).length=(terms (d+1) (bN k)).length:=by simp[shift]
    omega) (qhm.out.bN (j+1) k (by omega) (by omega) (by omega))
   have JV:=ae Sw;have Kn:=aG.bq (wr.setCell ⟨w.heap.size+1,j,none⟩ (.int .i64 (m.get (j+1)+(k:Int)))) #[.int .i64 (bN k).1,.bool (bN k).2.1.neg,.slice a2 (bN k).2.1.n p2,.slice jH (bN k).2.2.1 jI] 33 4 rfl;simp only[World.size_setCell]at Kn;have o0:=Kn.cell (i:=0) (by omega);have o1:=Kn.cell (i:=1) (by omega);have o2:=Kn.cell (i:=2) (by omega);have o3:=Kn.cell (i:=3) (by omega);simp only[arr]at o0 o1 o2 o3;have wB:=ae kQ;have qx4:=Kn.lt;generalize pV:(wr.setCell ⟨w.heap.size+1,j,none⟩ (.int .i64 (m.get (j+1)+(k:Int)))).alloc (.cells #[.int .i64 (bN k).1,.bool (bN k).2.1.neg,.slice a2 (bN k).2.1.n p2,.slice jH (bN k).2.2.1 jI] 33)=W3 at m0 m1 m2 m3 o0 o1 o2 o3 wB qfV qfX JV qx4;have CB:=ae pV;clear Sw qla qbW qkn Kn kQ NK pV iN NF
   go_upto_region 10 with(fail)
   rw[CB.out];go_wp2_with (fail);refine(JV.out).mono ?_;rintro e w4 ⟨v4,n4,z4,x4,rfl,hR4,hx4,nO,xP⟩;obtain⟨va4,vc4,rfl⟩:=hR4.1.form
   have HF:Hid (∃(k2 n2:Nat)(z2:Nat->Int)(x2:Nat->TE)(q:Int),k2<=kn/\Value.int .i64 ((k:Int)+1)=.int .i64 k2/\uV M base w4 (.slice va4 n4 vc4) n2 z2 x2/\Hid (eZ n2 z2 x2=eZ n z x++shift m (aQ (j+1) k2 (λi=>terms (d+1) (bN i))))/\aG w4 (w.heap.size+1) 127 4 (BL (Mo.add m (xp (j+1) q)))/\
    aG w4 w.heap.size 33 4 (arr #[.int .i64 ((j:Int)+1),.bool r.neg,.slice a r.n p,.slice (some ⟨b,off,none⟩) kn kp])/\w.grownBy w4 (Value.ownBlock (.slice va n vc))/\Hid (∀b,Value.ownBlock (.slice va4 n4 vc4)=some b->Value.ownBlock (.slice va n vc)=some b\/w.heap.size+2<=b)):=by
    have hsz:=wB.out.size
    have Xc:∀b,b<w.heap.size+2->w.heap.size<=b->(some b:Option Nat)≠Value.ownBlock (.slice YI n2 YJ):=by
     intro b h1 h2 e;rcases eG.out b e.symm with hh|hh
     ·have:=(Au.out b hh).2;omega
     ·omega
    refine⟨k+1,n4,z4,x4,k,by omega,by simp,hR4,?_,qfV.out.of_heap (nO.block _ (by omega) (Xc _ (by omega) (by omega))),qfX.out.of_heap (nO.block _ (by omega) (Xc _ (by omega) (by omega))),?_,?_⟩
    ·show _=_;rw[hx4,lY.out,qBl,List.append_assoc]
    ·have h3:=wB.out;refine⟨nO.os.trans h3.os,nO.tape.trans h3.tape,nO.output.trans h3.output,aR h3.size nO.size,λb hb hne=>(nO.block b (by omega) (λe=>?_)).trans (h3.block b hb hne)⟩;rcases eG.out b e.symm with hh|hh
     ·exact hne hh.symm
     ·omega
    ·intro b hb;rcases xP b hb with hh|hh
     ·exact eG.out b hh
     ·exact .inr (by omega)
   clear hR4 hx4 nO xP;go_wp2
   go_roundw
   case rel=>exact HF.out
   case measure=>simp[intOf];omega
  ·have hkn:k=kn:=by omega
   subst hkn
   have HF:Hid (O4 M base w (.slice va n vc) (eZ n z x++shift m T) (.returned (.slice YI n2 YJ)) wr):=by
    refine⟨_,n2,z2,x2,rfl,Fj,?_,jq,λb hb=>?_⟩
    ·rw[lY.out,HT.out,HTJ.out]
    ·rcases eG.out b hb with hh|hh
     ·exact .inl hh
     ·exact .inr (by omega)
   go_wp2;go_ret;exact HF.out
theorem qp0:∀d,qfN d
 |0=>λ_ _ _ _ _ _ _ _ _ _ _ _ _ _ h=>h.elim
 |d+1=>λM base t c0 c1 c2 c3 v n z x m w hb h hR hL hm=>by
  rcases Int.lt_or_le t.1 1 with h1|h1
  ·exact qi2 d M base t c0 c1 c2 c3 v n z x m w hb h hR hL (.inl (by omega))
  ·rcases Int.lt_or_le 4 t.1 with h4|h4
   ·exact qi2 d M base t c0 c1 c2 c3 v n z x m w hb h hR hL (.inr h4)
   ·exact qtN d (qp0 d) M base t c0 c1 c2 c3 v n z x m w hb h hR hL hm ⟨h1,h4⟩
def Dr:(d:Nat)->RT d
 |0=>()
 |d+1=>(0,⟨false,0,λ_=>0⟩,0,λ_=>Dr d)
def uH(d:Nat)(lv:Int)(r:iY)(n:Nat)(bN:Nat->RT d):RT (d+1):=(lv,r,n,bN)
theorem qa6(d:Nat)(r:iY)(bN:Nat->RT d)(lv:Int)(h0:lv=0)(hc:r.can=true):gM (d+1) (uH d lv r 0 bN)=true:=by
 rw[XF,ai (show(uH d lv r 0 bN).1=0 from h0)];show(((0:Nat)==0)&&r.can)=true;simp[hc]
theorem YA(d:Nat)(r:iY)(bN:Nat->RT d)(lv:Int)(h0:lv<=0):terms (d+1) (uH d lv r 0 bN)=[(r.val,Mo.zero)]:=vV h0
theorem TH(d:Nat)(r:iY)(n:Nat)(bN:Nat->RT d)(lv:Int)(h1:1<=lv)(h4:lv<=4):terms (d+1) (uH d lv r n bN)=aQ lv.toNat n (λi=>terms d (bN i)):=yn h1 h4
theorem pick{α:Type}(dft:α){n:Nat}{Q:Nat->α->Prop}(h:∀i,i<n->∃a,Q i a):∃f:Nat->α,∀i,i<n->Q i (f i):=by
 classical
 refine⟨λi=>if hi:i<n then Classical.choose (h i hi)else dft,λi hi=>?_⟩;simp only[dif_pos hi];exact Classical.choose_spec (h i hi)
theorem qnW{d:Nat}{t:RT (d+1)}(h1:1<=t.1/\t.1<=4)(hn:t.2.1.n=0)(hb:t.2.1.neg=false)(h2:2<=t.2.2.1)(hk:∀i,i<t.2.2.1->mq d (t.2.2.2 i)<t.1/\gM d (t.2.2.2 i)=true)(hz:su d (t.2.2.2 (t.2.2.1-1))=false):gM (d+1) t=true:=by
 rw[XF,ah (by omega)];simp only[Bool.and_eq_true,decide_eq_true_eq,List.all_eq_true,List.mem_range,Bool.not_eq_true',iY.blank,beq_iff_eq];exact⟨h1,⟨hn,hb⟩,h2,hk,hz⟩
theorem Yc(L n:Nat)(P Q:Nat->List Tm)(h:∀i,i<n->P i=Q i):aQ L n P=aQ L n Q:=by
 induction n with
 |zero=>rfl
 |succ n ih=>rw[gT,gT,ih λi hi=>h i (by omega),h n (by omega)]
theorem qeD{M:Nat->Prop}{w:World}:∀(D:Nat){d:Nat}{t:RT d}{c0 c1 c2 c3:Value},RR M w d t c0 c1 c2 c3->gM d t=true->mq d t<=D->∃u:RT (D+1),RR M w (D+1) u c0 c1 c2 c3/\gM (D+1) u=true/\mq (D+1) u=mq d t/\terms (D+1) u=terms d t/\su (D+1) u=su d t:=by
 intro D
 induction D with
 |zero=>
  intro d t c0 c1 c2 c3 h hc hl
  cases d with
  |zero=>exact h.elim
  |succ d=>
  have hl0:t.1=0:=by have:=ES hc;have:t.1<=(0:Nat):=hl;omega
  obtain⟨hk,gW⟩:=GR hc hl0;obtain⟨g0,g1,g2,g3,g4⟩:=h;refine⟨uH _ t.1 t.2.1 0 (λ_=>Dr _),⟨g0,g1,g2,bK _,?_⟩,?_,rfl,?_,rfl⟩
  ·rcases g4 with⟨g4,_⟩|⟨b,off,cap,hv,hn,xR,hb,_⟩
   ·exact .inl ⟨g4,rfl⟩
   ·rw[hk]at hv hn;exact .inr ⟨b,off,cap,hv,bK _,xR,hb,λi hi=>absurd hi (Nat.not_lt_zero _)⟩
  ·exact qa6 _ _ _ _ hl0 gW
  ·exact(YA _ _ _ _ (by omega)).trans (vV (by omega)).symm
 |succ D ih=>
  intro d t c0 c1 c2 c3 h hc hl
  cases d with
  |zero=>exact h.elim
  |succ d=>
  by_cases hl0:t.1=0
  ·obtain⟨hk,gW⟩:=GR hc hl0;obtain⟨g0,g1,g2,g3,g4⟩:=h;refine⟨uH _ t.1 t.2.1 0 (λ_=>Dr _),⟨g0,g1,g2,bK _,?_⟩,?_,rfl,?_,rfl⟩
   ·rcases g4 with⟨g4,_⟩|⟨b,off,cap,hv,hn,xR,hb,_⟩
    ·exact .inl ⟨g4,rfl⟩
    ·rw[hk]at hv hn;exact .inr ⟨b,off,cap,hv,bK _,xR,hb,λi hi=>absurd hi (Nat.not_lt_zero _)⟩
   ·exact qa6 _ _ _ _ hl0 gW
   ·exact(YA _ _ _ _ (by omega)).trans (vV (by omega)).symm
  ·obtain⟨h1,jg,ll,h2,h5,h6⟩:=wJ hc hl0;obtain⟨g0,g1,g2,g3,g4⟩:=h;rcases g4 with⟨_,g4⟩|⟨b,off,cap,hv,hn,xR,hb,hk⟩
   ·omega
   obtain⟨bN,dP⟩:=pick (Dr (D+1)) (n:=t.2.2.1) (Q:=λi u=>(∃e0 e1 e2 e3,w.cell? ⟨b,off+i*4,none⟩=some e0/\w.cell? ⟨b,off+i*4+1,none⟩=some e1/\w.cell? ⟨b,off+i*4+2,none⟩=some e2/\w.cell? ⟨b,off+i*4+3,none⟩=some e3/\RR M w (D+1) u e0 e1 e2 e3)/\gM (D+1) u=true/\mq (D+1) u=mq d (t.2.2.2 i)/\terms (D+1) u=terms d (t.2.2.2 i)/\su (D+1) u=su d (t.2.2.2 i)) (by
    intro i hi;obtain⟨e0,e1,e2,e3,x0,x1,x2,x3,hr⟩:=hk i hi;have hlk:=h5 i hi;have FJ:t.1<=((D+1:Nat):Int):=hl;obtain⟨u,k1,k2,k3,k4,k5⟩:=ih hr hlk.2 (by omega)
    exact⟨u,⟨e0,e1,e2,e3,x0,x1,x2,x3,k1⟩,k2,k3,k4,k5⟩)
   refine⟨uH _ t.1 t.2.1 t.2.2.1 bN,⟨g0,g1,g2,g3,.inr ⟨b,off,cap,hv,hn,xR,hb,λi hi=>(dP i hi).1⟩⟩,?_,rfl,?_,rfl⟩
   ·refine qnW h1 jg ll h2 (λi hi=>?_) ?_
    ·obtain⟨_,k2,k3,_⟩:=dP i hi;exact⟨by show mq (D+1) (bN i)<t.1;rw[k3];exact(h5 i hi).1,k2⟩
    ·exact(dP (t.2.2.1-1) (by omega)).2.2.2.2.trans h6
   ·refine(TH _ _ _ _ _ h1.1 h1.2).trans (Eq.trans ?_ (yn h1.1 h1.2).symm);exact Yc _ _ _ _ λi hi=>(dP i hi).2.2.2.1
def CR(M:Nat->Prop)(w:World)(L:Nat)(c0 c1 c2 c3:Value)(l:List Tm):Prop:=
 ∃t:RT (L+1),RR M w (L+1) t c0 c1 c2 c3/\gM (L+1) t=true/\t.1<=L/\af (terms (L+1) t) l
section
variable{M M':Nat->Prop}{w w':World}{L:Nat}{c0 c1 c2 c3:Value}{l r:List Tm}
theorem CR.kp(h:CR M w L c0 c1 c2 c3 l)(he:Kp M w w'):CR M w' L c0 c1 c2 c3 l:=by
 obtain⟨t,h1,h2⟩:=h;exact⟨t,RR.kp he h1,h2⟩
theorem CR.ext(h:CR M w L c0 c1 c2 c3 l)(he:Ext w w'):CR M w' L c0 c1 c2 c3 l:=h.kp (Kp.kV he)
theorem CR.more(h:CR M w L c0 c1 c2 c3 l)(hm:∀g,M' g->M g\/w.heap.size<=g):CR M' w L c0 c1 c2 c3 l:=by
 obtain⟨t,h1,h2⟩:=h;exact⟨t,RR.more hm h1,h2⟩
theorem CR.dh(h:CR M w L c0 c1 c2 c3 l)(hs:af l r):CR M w L c0 c1 c2 c3 r:=by
 obtain⟨t,h1,h2,h3,h4⟩:=h;exact⟨t,h1,h2,h3,h4.trans hs⟩
theorem CR.form(h:CR M w L c0 c1 c2 c3 l):∃lv b a n p ka kn kp,c0=.int .i64 lv/\c1=.bool b/\c2=.slice a n p/\c3=.slice ka kn kp/\0<=lv/\lv<=L/\lv<=4:=by
 obtain⟨t,h1,h2,h3,h4⟩:=h;obtain⟨rfl,rfl,⟨a,p,rfl⟩,ka,kp,rfl⟩:=h1.form;have:=ES h2;exact⟨_,_,_,_,_,_,_,_,rfl,rfl,rfl,rfl,this.1,h3,this.2⟩
end
theorem CR.OP{M:Nat->Prop}{w:World}{L D:Nat}{lv:Int}{c1 c2 c3:Value}{l:List Tm}(h:CR M w L (.int .i64 lv) c1 c2 c3 l)(hl:lv<=D):CR M w D (.int .i64 lv) c1 c2 c3 l:=by
 obtain⟨t,h1,h2,h3,h4⟩:=h
 have e:lv=t.1:=by have:=h1.1;simpa using this
 obtain⟨u,k1,k2,k3,k4,_⟩:=qeD D h1 h2 (by show t.1<=(D:Int);omega);have k3':u.1=t.1:=k3;exact⟨u,k1,k2,by omega,by rw[k4];exact h4⟩
theorem CR.up{M:Nat->Prop}{w:World}{L D:Nat}{c0 c1 c2 c3:Value}{l:List Tm}(h:CR M w L c0 c1 c2 c3 l)(hl:L<=D):CR M w D c0 c1 c2 c3 l:=by
 obtain⟨lv,b,a,n,p,ka,kn,kp,rfl,rfl,rfl,rfl,h0,h1,h2⟩:=h.form;exact h.OP (by omega)
theorem CR.const{M:Nat->Prop}{w:World}{c1 c2:Value}{z:Int}(h:ek M w c1 c2 z)(L:Nat):CR M w L (.int .i64 0) c1 c2 (.slice none 0 0) [(z,Mo.zero)]:=by
 obtain⟨r,hr,hv,hc⟩:=h.raw;refine⟨uH _ 0 r 0 (λ_=>Dr _),⟨rfl,by show-9223372036854775808<=(0:Int)/\(0:Int)<=9223372036854775807;omega,hr,bK _,.inl ⟨⟨none,0,rfl,bK _,λ_=>rfl⟩,rfl⟩⟩,qa6 _ _ _ _ rfl hc,by show(0:Int)<=_;omega,?_⟩;rw[YA _ _ _ _ (by omega),hv];exact af.refl _
theorem Yu:af [(0,Mo.zero)] []:=by intro m;simp[aL]
theorem Oz(M:Nat->Prop)(w:World)(d:Nat->Nat):eu M w (.slice none 0 0) 0 d:=⟨bK _,λi hi=>absurd hi (Nat.not_lt_zero _),.inl ⟨rfl,none,0,rfl,bK _,λ_=>rfl⟩⟩
theorem qnT(M:Nat->Prop)(w:World):ek M w (.bool false) (.slice none 0 0) 0:=⟨⟨0,λ_=>0,Oz _ _ _,rfl,.inl rfl⟩,by simp⟩
theorem CR.zero(M:Nat->Prop)(w:World)(L:Nat):CR M w L (.int .i64 0) (.bool false) (.slice none 0 0) (.slice none 0 0) []:=(CR.const (qnT M w) L).dh Yu
theorem CR.SB{M:Nat->Prop}{w:World}{L:Nat}{lv:Int}{b:Bool}{a:Option Addr}{n p:Nat}{c3:Value}{l:List Tm}(h:CR M w L (.int .i64 lv) (.bool b) (.slice a n p) c3 l):oK lv n=true↔af l []:=by
 obtain⟨t,h1,h2,h3,h4⟩:=h;have ho:=h1.ok
 have e:lv=t.1:=by have:=h1.1;simpa using this
 have e2:n=t.2.1.n:=by
  obtain⟨_,_,⟨a',p',h⟩,_⟩:=h1.form;simp only[Value.slice.injEq]at h;exact h.2.1
 have hz:oK lv n=su (L+1) t:=by rw[e,e2];rfl
 rw[hz];constructor
 ·intro hh;exact h4.symm.trans (qnX h2 hh)
 ·intro hh;cases hc:su (L+1) t
  ·obtain⟨m,hm⟩:=yO _ t h2 ho hc;exact absurd ((h4 m).trans (hh m)) hm
  ·rfl
def uU(M:Nat->Prop)(w:World)(L b o:Nat)(l:List Tm):Prop:=∃e0 e1 e2 e3,w.cell? ⟨b,o,none⟩=some e0/\w.cell? ⟨b,o+1,none⟩=some e1/\w.cell? ⟨b,o+2,none⟩=some e2/\w.cell? ⟨b,o+3,none⟩=some e3/\CR M w L e0 e1 e2 e3 l
theorem CR.node{M:Nat->Prop}{w:World}{D b off n cap:Nat}{P:Nat->List Tm}(hD:D+1<=4)(hn:2<=n)(hL:n<=1099511627776)(hc:n<=cap)(hm:cap<=maxLen)(hb:b<w.heap.size)(hM:¬M b)(hk:∀i,i<n->uU M w D b (off+i*4) (P i))(hz:¬af (P (n-1)) []):
 CR M w (D+1) (.int .i64 ((D:Int)+1)) (.bool false) (.slice none 0 0) (.slice (some ⟨b,off,none⟩) n cap) (aQ (D+1) n P):=by
 obtain⟨bN,dP⟩:=pick (Dr (D+1)) (n:=n) (Q:=λi u=>(∃e0 e1 e2 e3,w.cell? ⟨b,off+i*4,none⟩=some e0/\w.cell? ⟨b,off+i*4+1,none⟩=some e1/\w.cell? ⟨b,off+i*4+2,none⟩=some e2/\w.cell? ⟨b,off+i*4+3,none⟩=some e3/\RR M w (D+1) u e0 e1 e2 e3)/\gM (D+1) u=true/\u.1<=D/\af (terms (D+1) u) (P i)) (by
  intro i hi;obtain⟨e0,e1,e2,e3,x0,x1,x2,x3,t,h1,h2,h3,h4⟩:=hk i hi
  exact⟨t,⟨e0,e1,e2,e3,x0,x1,x2,x3,h1⟩,h2,h3,h4⟩)
 refine⟨uH _ ((D:Int)+1) ⟨false,0,λ_=>0⟩ n bN,⟨rfl,by show-9223372036854775808<=(D:Int)+1/\(D:Int)+1<=9223372036854775807;omega,⟨rfl,Oz _ _ _⟩,hL,.inr ⟨b,off,cap,rfl,hc,hm,⟨hb,hM⟩,λi hi=>(dP i hi).1⟩⟩,?_,by show(D:Int)+1<=_;omega,?_⟩
 ·refine qnW (by show 1<=(D:Int)+1/\(D:Int)+1<=4;omega) rfl rfl hn (λi hi=>⟨?_,(dP i hi).2.1⟩) ?_
  ·show(bN i).1<(D:Int)+1;have:=(dP i hi).2.2.1;omega
  ·show su (D+1) (bN (n-1))=false;cases hc:su (D+1) (bN (n-1))
   ·rfl
   ·exact absurd ((dP (n-1) (by omega)).2.2.2.symm.trans (qnX (dP (n-1) (by omega)).2.1 hc)) hz
 ·rw[TH _ _ _ _ _ (by omega) (by omega)];rw[show((D:Int)+1).toNat=D+1 by omega];exact tT _ _ _ _ λi hi=>(dP i hi).2.2.2
theorem CR.Nj{M:Nat->Prop}{w:World}{L:Nat}{c1 c2 c3:Value}{l:List Tm}(h:CR M w L (.int .i64 0) c1 c2 c3 l):∃z,ek M w c1 c2 z/\af [(z,Mo.zero)] l/\z.natAbs<=aK l/\∃a p,c3=.slice a 0 p:=by
 obtain⟨t,h1,h2,h3,h4⟩:=h
 have e:0=t.1:=by have:=h1.1;simpa using this
 obtain⟨g1,g2⟩:=GR h2 e.symm;have hn:=Qo h2 h4;rw[vV (by omega)]at h4 hn;obtain⟨_,_,_,ka,kp,hk⟩:=h1.form;refine⟨t.2.1.val,h1.2.2.1.qtg g2,h4,by simpa[aK]using hn,ka,kp,?_⟩;rw[hk,g1]
theorem CR.IY{M:Nat->Prop}{w:World}{L:Nat}{lv:Int}{c1 c2 c3:Value}{l:List Tm}(h:CR M w L (.int .i64 lv) c1 c2 c3 l)(hl:lv≠0):
 ∃(D:Nat),lv=(D:Int)+1/\D+1<=4/\D+1<=L/\∃a p b off n cap P,c1=.bool false/\c2=.slice a 0 p/\c3=.slice (some ⟨b,off,none⟩) n cap/\2<=n/\n<=1099511627776/\n<=cap/\cap<=maxLen/\b<w.heap.size/\¬M b/\(∀i,i<n->uU M w D b (off+i*4) (P i))/\(∀i,i<n->eH D (P i))/\¬af (P (n-1)) []/\af (aQ (D+1) n P) l/\aK (aQ (D+1) n P)<=aK l:=by
 obtain⟨t,h1,h2,h3,h4⟩:=h;have ho:=h1.ok
 have e:lv=t.1:=by have:=h1.1;simpa using this
 obtain⟨g1,g2,g3,g4,g5,g6⟩:=wJ h2 (by omega);obtain⟨D,hD⟩:∃D:Nat,lv=(D:Int)+1:=⟨(lv-1).toNat,by omega⟩;have hn:=Qo h2 h4;rw[yn g1.1 g1.2,show t.1.toNat=D+1 by omega]at h4 hn;obtain⟨k0,k1,k2,k3,k4⟩:=h1;rcases k4 with⟨_,k4⟩|⟨b,off,cap,hv,mi,xR,hb,hk⟩
 ·omega
 obtain⟨a,p,hap⟩:=lM k2.2;refine⟨D,hD,by omega,by omega,a,p,b,off,t.2.2.1,cap,λi=>terms L (t.2.2.2 i),by rw[k2.1,g3],by rw[hap,g2],hv,g4,k3,mi,xR,hb.1,hb.2,λi hi=>?_,λi hi=>?_,?_,h4,hn⟩
 ·obtain⟨e0,e1,e2,e3,x0,x1,x2,x3,hr⟩:=hk i hi;obtain⟨u,u1,u2,u3,u4,_⟩:=qeD D hr (g5 i hi).2 (by have:=(g5 i hi).1;omega);refine⟨e0,e1,e2,e3,x0,x1,x2,x3,u,u1,u2,?_,by rw[u4];exact af.refl _⟩;have u3':u.1=mq L (t.2.2.2 i):=u3;have:=(g5 i hi).1;omega
 ·have:=wW h2 (by omega) i hi
  rwa[show t.1.toNat-1=D by omega]at this
 ·intro hs
  cases L with
  |zero=>omega
  |succ L=>
  obtain⟨m,hm⟩:=yO _ _ (g5 (t.2.2.1-1) (by omega)).2 (ho.2 _ (by omega)) g6;exact hm (hs m)
def zU(f:Nat->Value)(o:Nat)(e0 e1 e2 e3:Value):Nat->Value:=jr (jr (jr (jr f o e0) (o+1) e1) (o+2) e2) (o+3) e3
theorem F4(f:Nat->Value)(o:Nat)(e0 e1 e2 e3:Value):zU f o e0 e1 e2 e3 o=e0:=by simp[zU,jr]
theorem F5(f:Nat->Value)(o:Nat)(e0 e1 e2 e3:Value):zU f o e0 e1 e2 e3 (o+1)=e1:=by simp[zU,jr]
theorem F6(f:Nat->Value)(o:Nat)(e0 e1 e2 e3:Value):zU f o e0 e1 e2 e3 (o+2)=e2:=by simp[zU,jr]
theorem F7(f:Nat->Value)(o:Nat)(e0 e1 e2 e3:Value):zU f o e0 e1 e2 e3 (o+3)=e3:=by simp[zU,jr]
theorem tZ(f:Nat->Value)(o:Nat)(e0 e1 e2 e3:Value)(i:Nat)(h:i<o\/o+4<=i):zU f o e0 e1 e2 e3 i=f i:=by
 unfold zU jr;rw[ah (by omega),ah (by omega),ah (by omega),ah (by omega)]
def aM(w:World)(g o:Nat)(e0 e1 e2 e3:Value):World:=(((w.setCell ⟨g,o,none⟩ e0).setCell ⟨g,o+1,none⟩ e1).setCell ⟨g,o+2,none⟩ e2).setCell ⟨g,o+3,none⟩ e3
theorem aG.aM{w:World}{g:Nat}{t:TypeId}{n:Nat}{f:Nat->Value}(h:aG w g t n f)(o:Nat)(e0 e1 e2 e3:Value):aG (Go.Proofs.YtmcfpnmoklnhoaaGreat.aM w g o e0 e1 e2 e3) g t n (zU f o e0 e1 e2 e3):=(((h.set o e0).set (o+1) e1).set (o+2) e2).set (o+3) e3
theorem Kp.aM{M:Nat->Prop}{w:World}{g:Nat}(hg:M g)(o:Nat)(e0 e1 e2 e3:Value):Kp M w (Go.Proofs.YtmcfpnmoklnhoaaGreat.aM w g o e0 e1 e2 e3):=(((Kp.set M w (p:=⟨g,o,none⟩) hg e0).trans (Kp.set M _ (p:=⟨g,o+1,none⟩) hg e1)).trans (Kp.set M _ (p:=⟨g,o+2,none⟩) hg e2)).trans (Kp.set M _ (p:=⟨g,o+3,none⟩) hg e3)
theorem Ext.aM{a w:World}(h:Ext a w){g:Nat}(hg:a.heap.size<=g)(o:Nat)(e0 e1 e2 e3:Value):Ext a (Go.Proofs.YtmcfpnmoklnhoaaGreat.aM w g o e0 e1 e2 e3):=(((h.set (p:=⟨g,o,none⟩) hg e0).set (p:=⟨g,o+1,none⟩) hg e1).set (p:=⟨g,o+2,none⟩) hg e2).set (p:=⟨g,o+3,none⟩) hg e3
theorem nW(w:World)(g o:Nat)(e0 e1 e2 e3:Value):(aM w g o e0 e1 e2 e3).heap.size=w.heap.size:=by simp[aM]
theorem iI(w:World)(g o:Nat)(e0 e1 e2 e3:Value)(b:Nat)(hb:b≠g):(aM w g o e0 e1 e2 e3).heap[b]?=w.heap[b]?:=by
 unfold aM;rw[Below.heap_setCell _ _ _ _ hb,Below.heap_setCell _ _ _ _ hb,Below.heap_setCell _ _ _ _ hb,Below.heap_setCell _ _ _ _ hb]
theorem AR{M':Nat->Prop}{w W:World}{g:Nat}{t:TypeId}{f:Nat->Value}(e0 e1 e2 e3:Value)(hB:aG W g t 4 f)(hg:M' g)(hw:w.heap.size<=g)(he:Ext w W):
 (W.cell? ⟨g,0,none⟩=some (f 0)/\W.cell? ⟨g,1,none⟩=some (f 1)/\W.cell? ⟨g,2,none⟩=some (f 2)/\W.cell? ⟨g,3,none⟩=some (f 3))/\
 (W.frozen? ⟨g,0,none⟩=false/\W.frozen? ⟨g,1,none⟩=false/\W.frozen? ⟨g,2,none⟩=false/\W.frozen? ⟨g,3,none⟩=false)/\
 ((aM W g 0 e0 e1 e2 e3).cell? ⟨g,0,none⟩=some e0/\(aM W g 0 e0 e1 e2 e3).cell? ⟨g,1,none⟩=some e1/\(aM W g 0 e0 e1 e2 e3).cell? ⟨g,2,none⟩=some e2/\(aM W g 0 e0 e1 e2 e3).cell? ⟨g,3,none⟩=some e3)/\
 Kp M' W (aM W g 0 e0 e1 e2 e3)/\Ext w (aM W g 0 e0 e1 e2 e3):=by
 have jM:=hB.aM 0 e0 e1 e2 e3;refine⟨⟨hB.cell (by omega),hB.cell (by omega),hB.cell (by omega),hB.cell (by omega)⟩,⟨hB.frozen 0,hB.frozen 1,hB.frozen 2,hB.frozen 3⟩,⟨?_,?_,?_,?_⟩,Kp.aM hg _ _ _ _ _,he.aM hw _ _ _ _ _⟩
 ·rw[jM.cell (i:=0) (by omega)];exact congrArg some (F4 f 0 e0 e1 e2 e3)
 ·rw[jM.cell (i:=1) (by omega)];exact congrArg some (F5 f 0 e0 e1 e2 e3)
 ·rw[jM.cell (i:=2) (by omega)];exact congrArg some (F6 f 0 e0 e1 e2 e3)
 ·rw[jM.cell (i:=3) (by omega)];exact congrArg some (F7 f 0 e0 e1 e2 e3)
def Kids(M:Nat->Prop)(w:World)(D g N:Nat)(P:Nat->List Tm):Prop:=∃f,aG w g 33 (N*4) f/\∀i,i<N->CR M w D (f (i*4)) (f (i*4+1)) (f (i*4+2)) (f (i*4+3)) (P i)
theorem Kids.kp{M:Nat->Prop}{w w':World}{D g N:Nat}{P:Nat->List Tm}(h:Kids M w D g N P)(hg:w'.heap[g]?=w.heap[g]?)(hk:Kp M w w'):Kids M w' D g N P:=by
 obtain⟨f,h1,h2⟩:=h;exact⟨f,h1.of_heap hg,λi hi=>(h2 i hi).kp hk⟩
theorem Kids.ext{M:Nat->Prop}{w w':World}{D g N:Nat}{P:Nat->List Tm}(h:Kids M w D g N P)(he:Ext w w'):Kids M w' D g N P:=by
 obtain⟨f,h1,h2⟩:=h;exact⟨f,h1.ext he,λi hi=>(h2 i hi).ext he⟩
theorem Kids.bN{M M':Nat->Prop}{w:World}{D g N:Nat}{P:Nat->List Tm}(h:Kids M w D g N P)(hm:∀g,M' g->M g\/w.heap.size<=g)(i:Nat)(hi:i<N):uU M' w D g (0+i*4) (P i):=by
 obtain⟨f,h1,h2⟩:=h;rw[Nat.zero_add];exact⟨_,_,_,_,h1.cell (by omega),h1.cell (by omega),h1.cell (by omega),h1.cell (by omega),(h2 i hi).more hm⟩
theorem Kids.set{M:Nat->Prop}{w:World}{D g N:Nat}{P:Nat->List Tm}(h:Kids M w D g N P)(hg:M g)(j:Nat)(hj:j<N){e0 e1 e2 e3:Value}{l:List Tm}(hc:CR M w D e0 e1 e2 e3 l):Kids M (aM w g (j*4) e0 e1 e2 e3) D g N (λi=>if i=j then l else P i):=by
 obtain⟨f,h1,h2⟩:=h;refine⟨_,h1.aM (j*4) e0 e1 e2 e3,λi hi=>?_⟩;have hk:Kp M w (aM w g (j*4) e0 e1 e2 e3):=Kp.aM hg _ _ _ _ _
 by_cases kP:i=j
 ·subst kP;rw[F4,F5,F6,F7];simp only[if_true];exact hc.kp hk
 ·rw[tZ _ _ _ _ _ _ _ (by omega),tZ _ _ _ _ _ _ _ (by omega),tZ _ _ _ _ _ _ _ (by omega),tZ _ _ _ _ _ _ _ (by omega)];simp only[ah kP];exact(h2 i hi).kp hk
theorem Kids.at{M:Nat->Prop}{w:World}{D g N:Nat}{P:Nat->List Tm}(h:Kids M w D g N P)(j:Nat)(hj:j<N):(∃e,w.cell? ⟨g,j*4,none⟩=some e)/\(∃e,w.cell? ⟨g,j*4+1,none⟩=some e)/\(∃e,w.cell? ⟨g,j*4+2,none⟩=some e)/\(∃e,w.cell? ⟨g,j*4+3,none⟩=some e)/\(∀o,w.frozen? ⟨g,o,none⟩=false)/\g<w.heap.size:=by
 obtain⟨f,h1,h2⟩:=h;exact⟨⟨_,h1.cell (by omega)⟩,⟨_,h1.cell (by omega)⟩,⟨_,h1.cell (by omega)⟩,⟨_,h1.cell (by omega)⟩,h1.frozen,h1.lt⟩
def gN:Nat->Value:=λi=>if i%4=0 then .int .i64 0 else if i%4=1 then .bool false else .slice none 0 0
theorem Kids.fresh{M:Nat->Prop}{w:World}{D g N:Nat}(hB:aG w g 33 (N*4) gN):Kids M w D g N (λ_=>[]):=by
 refine⟨gN,hB,λi hi=>?_⟩
 have h0:gN (i*4)=.int .i64 0:=by unfold gN;rw[ai (by omega)]
 have h1:gN (i*4+1)=.bool false:=by unfold gN;rw[ah (by omega),ai (by omega)]
 have h2:gN (i*4+2)=.slice none 0 0:=by unfold gN;rw[ah (by omega),ah (by omega)]
 have h3:gN (i*4+3)=.slice none 0 0:=by unfold gN;rw[ah (by omega),ah (by omega)]
 rw[h0,h1,h2,h3];exact CR.zero _ _ _
theorem Kids.more{M M':Nat->Prop}{w:World}{D g N:Nat}{P:Nat->List Tm}(h:Kids M w D g N P)(hm:∀g,M' g->M g\/w.heap.size<=g):Kids M' w D g N P:=by
 obtain⟨f,h1,h2⟩:=h;exact⟨f,h1,λi hi=>(h2 i hi).more hm⟩
theorem Kids.congr{M:Nat->Prop}{w:World}{D g N:Nat}{P Q:Nat->List Tm}(h:Kids M w D g N P)(hs:∀i,i<N->af (P i) (Q i)):Kids M w D g N Q:=by
 obtain⟨f,h1,h2⟩:=h;exact⟨f,h1,λi hi=>(h2 i hi).dh (hs i hi)⟩
theorem qd4{w:World}{b o:Nat}{m:Mo}(h2:w.cell? ⟨b,o+2,none⟩=some (.int .i64 m.a))(h3:w.cell? ⟨b,o+3,none⟩=some (.int .i64 m.b))(h4:w.cell? ⟨b,o+4,none⟩=some (.int .i64 m.c))(h5:w.cell? ⟨b,o+5,none⟩=some (.int .i64 m.d))(j:Nat)(hj:j<4):w.cell? ⟨b,o+2+j,none⟩=some (.int .i64 (m.get (j+1))):=by
 match j,hj with
 |0,_=>exact h2
 |1,_=>exact h3
 |2,_=>exact h4
 |3,_=>exact h5
def vY(M:Nat->Prop)(w:World)(L:Nat)(l:List Tm)(e:Ending)(w':World):Prop:=
 ∃c0 c1 c2 c3,e=.returned (.agg #[c0,c1,c2,c3])/\CR M w' L c0 c1 c2 c3 l/\Ext w w'
def YQ(L:Nat):Prop:=∀(M:Nat->Prop)(v:Value)(n:Nat)(z:Nat->Int)(x:Nat->TE)(w:World),Mb M w->o6 M w v n z x->(∀i,i<n->ek M w (.bool (x i).b) (.slice (x i).a (x i).n (x i).p) (z i))->Canon (eZ n z x)->Agree L (eZ n z x)->(∀i,i<n->∀k,(x i).m.get k<=1073741824)->
 Calls Tryz.prog 99 #[v,.int .i64 (L:Int)] w (vY M w L (nI L (eZ n z x)))
theorem BZ{n:Nat}{z:Nat->Int}{x:Nat->TE}{i:Nat}(hi:i<n):(z i,(x i).m)∈eZ n z x:=List.mem_map.2 ⟨i,by simpa using hi,rfl⟩
theorem Jq{n:Nat}{z:Nat->Int}{x:Nat->TE}{t:Tm}(h:t∈eZ n z x):∃i,i<n/\t=(z i,(x i).m):=by
 obtain⟨i,hi,rfl⟩:=List.mem_map.1 h;exact⟨i,by simpa using hi,rfl⟩
theorem wZ{m:Mo}(h:m.nn=true)(k:Nat):0<=m.get k:=by
 simp only[Mo.nn,Bool.and_eq_true,decide_eq_true_eq]at h;unfold Mo.get
 repeat' split
 all_goals omega
theorem qiR{n:Nat}{z:Nat->Int}{x:Nat->TE}(h:Canon (eZ n z x)){i j:Nat}(kP:i<j)(hj:j<n):Mo.lt (x j).m (x i).m:=by
 have h1:=List.pairwise_iff_getElem.1 h.1 i j (by rw[TW];omega) (by rw[TW];exact hj) kP;simpa[eZ]using h1
theorem QK{n:Nat}{z:Nat->Int}{x:Nat->TE}(h:Canon (eZ n z x)){L:Nat}(ha:Agree L (eZ n z x))(h1:1<=L)(h4:L<=4){i j:Nat}(kP:i<=j)(hj:j<n):(x j).m.get L<=(x i).m.get L:=by
 rcases Nat.lt_or_ge i j with hlt|jS
 ·exact qy0 h1 h4 (qiR h hlt hj) λk hk mI=>ha _ (BZ hj) _ (BZ (by omega)) k hk mI
 ·have:i=j:=by omega
  subst this;exact Int.le_refl _
theorem o6.sub{M:Nat->Prop}{w:World}{b off cap n:Nat}{z:Nat->Int}{x:Nat->TE}(h:o6 M w (.slice (some ⟨b,off,none⟩) n cap) n z x)(s e:Nat)(hs:s<=e)(he:e<=n):
 o6 M w (.slice (some ⟨b,off+s*6,none⟩) (e-s) (cap-s)) (e-s) (λi=>z (s+i)) (λi=>x (s+i)):=by
 obtain⟨h1,h2,h3⟩:=h;refine⟨by omega,?_,λi hi=>h3 (s+i) (by omega)⟩;rcases h2 with⟨⟨_,_,hv,hm⟩,h2⟩|⟨b',off',cap',hv,hn,hc,hb,hk⟩
 ·simp only[Value.slice.injEq]at hv;obtain⟨_,hv1,hv2⟩:=hv;exact .inl ⟨⟨_,cap-s,by rw[show e-s=0 by omega],by omega⟩,by omega⟩
 ·simp only[Value.slice.injEq,Option.some.injEq,Addr.mk.injEq,and_true,true_and]at hv;obtain⟨⟨rfl,rfl⟩,rfl⟩:=hv;refine .inr ⟨b,off+s*6,cap-s,rfl,by omega,by omega,hb,λi hi=>?_⟩;have:=hk (s+i) (by omega);rw[show off+(s+i)*6=off+s*6+i*6 by omega]at this;exact this
theorem YK(s e:Nat)(z:Nat->Int)(x:Nat->TE)(h:s<=e):eZ e z x=eZ s z x++eZ (e-s) (λi=>z (s+i)) (λi=>x (s+i)):=by
 obtain⟨k,rfl⟩:∃k,e=s+k:=⟨e-s,by omega⟩;rw[Nat.add_sub_cancel_left];clear h
 induction k with
 |zero=>simp[eZ]
 |succ k ih=>rw[<-Nat.add_assoc,qfe,ih,qfe,List.append_assoc]
theorem Canon.sub{n:Nat}{z:Nat->Int}{x:Nat->TE}(h:Canon (eZ n z x))(s e:Nat)(hs:s<=e)(he:e<=n):Canon (eZ (e-s) (λi=>z (s+i)) (λi=>x (s+i))):=by
 rw[YK e n z x he,YK s e z x hs]at h;refine⟨(List.pairwise_append.1 (List.pairwise_append.1 h.1).1).2.1,λt ht=>h.2 t (List.mem_append_left _ (List.mem_append_right _ ht))⟩
theorem qvD{L:Nat}{e:Int}{l:List Tm}(h:∀t∈l,t.2.get L=e):rT L e l=l:=List.filter_eq_self.2 λt ht=>by simp[h t ht]
theorem qj8{L:Nat}{e:Int}{l:List Tm}(h:∀t∈l,t.2.get L≠e):rT L e l=[]:=List.filter_eq_nil_iff.2 λt ht=>by simp[h t ht]
end Go.Proofs.YtmcfpnmoklnhoaaGreat
