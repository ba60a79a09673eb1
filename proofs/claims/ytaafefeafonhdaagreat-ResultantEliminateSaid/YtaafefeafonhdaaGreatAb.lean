/- Ab -/
import Derived.Test.YtaafefeafonhdaaGreatNe
set_option linter.unusedVariables false
set_option maxRecDepth 100000
set_option maxHeartbeats 400000000
set_option linter.unusedSimpArgs false
namespace Go.Proofs.YtaafefeafonhdaaGreat
def lQ(f:Mo->Int × Mo)(l:List Tm):List Tm:=l.map λt=>(t.1*(f t.2).1,(f t.2).2)
theorem Te(f:Mo->Int × Mo)(l r:List Tm):lQ f (l++r)=lQ f l++lQ f r:=by simp[lQ]
theorem qz5(f:Mo->Int × Mo)(c:Int)(l:List Tm):lQ f (smul c l)=smul c (lQ f l):=by
 simp[lQ,smul,List.map_map,Function.comp_def,Int.mul_assoc]
theorem qo5{f:Mo->Int × Mo}{m0:Mo}:∀{l:List Tm},(∀t∈l,t.2=m0)->∀q,aH (lQ f l) q=if(f m0).2=q then aH l m0*(f m0).1 else 0
 |[],_,q=>by simp[lQ,aH]
 |t::l,h,q=>by
  have ht:=h t List.mem_cons_self;have ih:=qo5 (f:=f) (λs hs=>h s (List.mem_cons_of_mem _ hs)) q;show(if(f t.2).2=q then t.1*(f t.2).1 else 0)+aH (lQ f l) q=_;rw[ih,ht];simp only[aH];rw[av ht]
  split
  ·rw[Int.add_mul]
  ·rfl
theorem qo6(f:Mo->Int × Mo):∀(n:Nat)(l:List Tm),l.length<=n->af l []->af (lQ f l) []
 |_,[],_,_=>λ_=>rfl
 |0,t::l,h,_=>by simp at h
 |n+1,t::l,h,hs=>by
  have hp:=List.filter_append_perm (λs:Tm=>decide (s.2≠t.2)) (t::l)
  have h1:=qo6 f n ((t::l).filter λs=>decide (s.2≠t.2)) (by
   rw[List.filter_cons_of_neg (by simp)];have:=List.length_filter_le (λs:Tm=>decide (s.2≠t.2)) l;simp only[List.length_cons]at h
   omega) (λm=>by
    rw[qbv]
    split
    ·rfl
    ·exact hs m)
  have h2:∀q,aH (lQ f ((t::l).filter λs=> !decide (s.2≠t.2))) q=0:=λq=>by
   rw[qo5 (m0:=t.2) (λs hs=>by simpa using(List.mem_filter.1 hs).2)]
   have h3:aH ((t::l).filter λs=> !decide (s.2≠t.2)) t.2=0:=by
    have h4:=qbw hp t.2;rw[iJ,qbv,av rfl,Int.zero_add]at h4;rw[h4];exact hs t.2
   rw[h3,Int.zero_mul,ite_self]
  intro q;have h5:(lQ f ((t::l).filter (λs=>decide (s.2≠t.2))++(t::l).filter (λs=> !decide (s.2≠t.2)))).Perm (lQ f (t::l)):=hp.map _;rw[<-qbw h5 q,Te,iJ,h1 q,h2 q];rfl
theorem af.lQ{l r:List Tm}(h:af l r)(f:Mo->Int × Mo):af (lQ f l) (lQ f r):=λq=>by
 have:=qo6 f _ (l++Go.Proofs.YtaafefeafonhdaaGreat.smul (-1) r) (aA _) (λm=>by rw[iJ,mO,h m];show _=(0:Int);omega) q;rw[Te,qz5,iJ,mO]at this;have e:aH ([]:List Tm) q=0:=rfl;rw[e]at this;omega
def wo(L:Nat)(m:Mo):Mo:=Mo.sub m (xp L (m.get L))
theorem J5{L:Nat}(h1:1<=L)(h4:L<=4)(m:Mo)(k:Nat):(wo L m).get k=if k=L then 0 else m.get k:=by
 unfold wo;rw[EI,gM L k _ h1 h4]
 split
 ·rename_i h;subst h;omega
 ·omega
def hL(u d:Int)(P:Nat->List Tm)(m:Nat):Nat->List Tm
 |0=>P m
 |k+1=>smul u (hL u d P m k)++smul (d^(k+1)) (P (m-1-k))
theorem qo4{f:Mo->Int × Mo}{K:Nat}:∀{l:List Tm},(∀t∈l,(f t.2).1.natAbs<=K)->aB (lQ f l)<=aB l*K
 |[],_=>by simp[lQ,aB]
 |t::l,h=>by
  have ih:=qo4 (f:=f) (K:=K) (l:=l) λs hs=>h s (List.mem_cons_of_mem _ hs);have h1:=h t List.mem_cons_self;show(t.1*(f t.2).1).natAbs+aB (lQ f l)<=(t.1.natAbs+aB l)*K;rw[Int.natAbs_mul,Nat.add_mul];have:=Nat.mul_le_mul_left t.1.natAbs h1;omega
def put(L:Nat)(x:Rat)(a:Nat->Rat):Nat->Rat:=λi=>if i=L-1 then x else a i
end Go.Proofs.YtaafefeafonhdaaGreat
namespace Go.Proofs.YtaafefeafonhdaaGreat
open Go.RowKit
def dJ(L:Nat)(l:List Tm)(n:Nat):Prop:=(∀m,aH l m≠0->m.get L<=n)/\(n=0\/∃m,aH l m≠0/\m.get L=n)
theorem dJ.bP{L n:Nat}{l r:List Tm}(h:dJ L l n)(hs:af l r):dJ L r n:=
 ⟨λm hm=>h.1 m (by rw[hs m];exact hm),h.2.imp id λ⟨m,h1,h2⟩=>⟨m,by rw[<-hs m];exact h1,h2⟩⟩
theorem aG.qo8{M:Nat->Prop}{w:World}{L:Nat}{x:PE}{l:List Tm}(h:aG M w L x l)(m:Mo)(hm:aH l m≠0)(k:Nat)(hk:x.lv<k)(rA:k<=4):m.get k=0:=by
 obtain⟨t,h1,h2,h3,h4⟩:=h;obtain⟨e0,_⟩:=h1.form;simp only[Value.int.injEq,true_and]at e0;have hl:=JW _ t h2;have h0:=Af h2;refine gQ λhc=>hm ?_;rw[<-h4 m];exact hl.uO (k:=k) (by show t.1.toNat<k;omega) rA hc
def ME(L:Nat)(P:Nat->List Tm)(k n:Nat):Prop:=(∀i,i<k->∀m,aH (P i) m≠0->m.get L<=n)/\(n=0\/∃i m,i<k/\aH (P i) m≠0/\m.get L=n)
theorem ME.step{L:Nat}{P:Nat->List Tm}{k n j:Nat}(h:ME L P k n)(hj:dJ L (P k) j):ME L P (k+1) (max n j):=by
 refine⟨λi hi m hm=>?_,?_⟩
 ·by_cases h1:i=k
  ·subst h1;have:=hj.1 m hm;omega
  ·have:=h.1 i (by omega) m hm;omega
 ·by_cases h1:n<=j
  ·rw[Nat.max_eq_right h1];exact hj.2.imp id λ⟨m,h2,h3⟩=>⟨k,m,by omega,h2,h3⟩
  ·rw[Nat.max_eq_left (by omega)];exact h.2.imp id λ⟨i,m,h2,h3,h4⟩=>⟨i,m,by omega,h3,h4⟩
theorem qp6{D n:Nat}{P:Nat->List Tm}(hD:D+1<=4)(bZ:∀i,i<n->dV D (P i)){m:Mo}(hm:aH (aM (D+1) n P) m≠0):∃e:Nat,e<n/\m.get (D+1)=e/\aH (P e) (Mo.sub m (xp (D+1) (e:Int)))≠0:=by
 have h0:0<=m.get (D+1):=gQ λhc=>hm (qbz (D+1) n P (by omega) hD bZ m (by omega));obtain⟨e,he⟩:∃e:Nat,m.get (D+1)=e:=⟨(m.get (D+1)).toNat,by omega⟩;rw[EG (D+1) n P (by omega) hD bZ m e he]at hm
 by_cases AO:e<n
 ·rw[av AO]at hm;exact⟨e,AO,he,hm⟩
 ·rw[aj AO]at hm;exact absurd rfl hm
theorem qeT{D n:Nat}{P:Nat->List Tm}(hD:D+1<=4)(bZ:∀i,i<n->dV D (P i)){i:Nat}(hi:i<n){m:Mo}(hm:aH (P i) m≠0):aH (aM (D+1) n P) (Mo.add m (xp (D+1) (i:Int)))≠0:=by
 have h0:m.get (D+1)=0:=gQ λhc=>hm ((bZ i hi).uO (k:=D+1) (by omega) hD hc);rw[QP (by omega) hD bZ i hi m h0];exact hm
theorem quX{D n L j:Nat}{P:Nat->List Tm}(hD:D+1<=4)(bZ:∀i,i<n->dV D (P i))(hL:L<=D)(h:ME L P n j):dJ L (aM (D+1) n P) j:=by
 refine⟨λm hm=>?_,?_⟩
 ·obtain⟨e,he,_,hc⟩:=qp6 hD bZ hm;have:=h.1 e he _ hc
  rwa[EI,gM _ _ _ (by omega) hD,aj (by omega),Int.sub_zero]at this
 ·refine h.2.imp id λ⟨i,m,hi,hc,hg⟩=>⟨_,qeT hD bZ hi hc,?_⟩;rw[iL,gM _ _ _ (by omega) hD,aj (by omega),Int.add_zero,hg]
theorem qbJ{D n:Nat}{P:Nat->List Tm}(hD:D+1<=4)(hn:1<=n)(bZ:∀i,i<n->dV D (P i))(fO:¬af (P (n-1)) []):dJ (D+1) (aM (D+1) n P) (n-1):=by
 refine⟨λm hm=>?_,.inr ?_⟩
 ·obtain⟨e,he,h1,_⟩:=qp6 hD bZ hm;omega
 ·obtain⟨m,hm⟩:=OI fO;have h0:m.get (D+1)=0:=gQ λhc=>hm ((bZ (n-1) (by omega)).uO (k:=D+1) (by omega) hD hc);refine⟨_,qeT hD bZ (by omega) hm,?_⟩;rw[iL,gM _ _ _ (by omega) hD,av rfl,h0];omega
theorem Kids.Xz{M M':Nat->Prop}{w:World}{D g N:Nat}{P:Nat->List Tm}(h:Kids M w D g N P)(hm:∀g,M' g->M g\/w.heap.size<=g)(hg:¬M' g)(hN:N<=1099511627776):dP M' w D (.slice (some ⟨g,0,none⟩) N N) N P:=by
 have hlt:g<w.heap.size:=by
  obtain⟨f,hB,_⟩:=h;exact hB.lt
 exact⟨hN,.inr ⟨g,0,N,rfl,aA _,by unfold maxLen;omega,⟨hlt,hg⟩,λi hi=>h.bC hm i hi⟩⟩
end Go.Proofs.YtaafefeafonhdaaGreat
namespace Go.Proofs.YtaafefeafonhdaaGreat
def NN(l:List Tm):Prop:=∀m:Mo,m.nn=false->aH l m=0
theorem NN.bP{l r:List Tm}(h:NN l)(hs:af l r):NN r:=λm hm=>by rw[<-hs m];exact h m hm
theorem uk{l:List Tm}(h:∀t∈l,t.2.nn=true):NN l:=λm hm=>rY λt ht e=>by rw[<-e,h t ht]at hm;cases hm
theorem Co(l:List Tm):∀t∈norm l,t.2.nn=true:=λt ht=>((o7 l).2 t ht).2
def M8(k:Nat)(e:Int)(m:Mo):Int × Mo:=(if m.get k=e then 1 else 0,wo k m)
def ck(k:Nat)(e:Int)(l:List Tm):List Tm:=lQ (M8 k e) l
theorem xB{k:Nat}{e:Int}{l r:List Tm}(h:af l r):af (ck k e l) (ck k e r):=h.lQ _
theorem qf5{k:Nat}(h1:1<=k)(h4:k<=4)(m:Mo):Mo.add (wo k m) (xp k (m.get k))=m:=Mo.ext_get λj _ _=>by
 rw[iL,J5 h1 h4,gM k j _ h1 h4]
 split
 ·rename_i h;subst h;omega
 ·omega
theorem tL{k:Nat}(h1:1<=k)(h4:k<=4)(e:Int)(m:Mo):∀l:List Tm,aH (ck k e l) m=if m.get k=0 then aH l (Mo.add m (xp k e))else 0
 |[]=>by simp[ck,lQ,aH]
 |t::l=>by
  have ih:=tL h1 h4 e m l;show(if wo k t.2=m then t.1*(if t.2.get k=e then 1 else 0)else 0)+aH (ck k e l) m=_;rw[ih]
  by_cases hm:m.get k=0
  ·rw[av hm,av hm];show _=(if t.2=Mo.add m (xp k e)then t.1 else 0)+_
   congr 1
   by_cases ht:t.2=Mo.add m (xp k e)
   ·have hg:t.2.get k=e:=by rw[ht,iL,hm,gM k k _ h1 h4,av rfl];omega
    have hw:wo k t.2=m:=by
     have:=qf5 h1 h4 t.2;rw[hg]at this;have h5:=(Mo.add_eq _ _ _).1 (this.trans ht);rw[h5];exact((Mo.add_eq _ _ _).1 rfl).symm
    rw[av hw,av hg,av ht,Int.mul_one]
   ·rw[aj ht]
    by_cases hw:wo k t.2=m
    ·rw[av hw,aj,Int.mul_zero];intro hg;exact ht (by rw[<-qf5 h1 h4 t.2,hw,hg])
    ·rw[aj hw]
  ·rw[aj hm,aj hm,aj]
   ·rfl
   ·intro hw;exact hm (by rw[<-hw,J5 h1 h4,av rfl])
theorem Na{k:Nat}(h1:1<=k)(h4:k<=4){l:List Tm}{m:Mo}(h:aH l m≠0):¬af (ck k (m.get k) l) []:=λhs=>by
 have:=hs (wo k m);rw[tL h1 h4,av (by rw[J5 h1 h4,av rfl]),qf5 h1 h4]at this;exact h this
theorem qbq{k:Nat}(h1:1<=k)(h4:k<=4){e:Int}{l:List Tm}(h:¬af (ck k e l) []):∃m,aH l m≠0/\m.get k=e:=by
 obtain⟨m,hm⟩:=OI h;rw[tL h1 h4]at hm
 split at hm
 ·rename_i h0;exact⟨_,hm,by rw[iL,h0,gM k k _ h1 h4,av rfl];omega⟩
 ·exact absurd rfl hm
theorem gX{k:Nat}(h1:1<=k)(h4:k<=4){e:Int}{l:List Tm}(h:NN l):NN (ck k e l):=λm hm=>by
 rw[tL h1 h4]
 split
 ·rename_i h0;refine h _ ?_
  cases hc:(Mo.add m (xp k e)).nn with
  |false=>rfl
  |true=>
   rw[Mo.uZ]at hc
   have:m.nn=true:=by
    rw[Mo.uZ];have g1:(Mo.add m (xp k e)).a=m.a+(if k=1 then e else 0):=rfl;have g2:(Mo.add m (xp k e)).b=m.b+(if k=2 then e else 0):=rfl;have g3:(Mo.add m (xp k e)).c=m.c+(if k=3 then e else 0):=rfl;have g4:(Mo.add m (xp k e)).d=m.d+(if k=4 then e else 0):=rfl;rw[g1,g2,g3,g4]at hc;rcases Td h1 h4 with rfl|rfl|rfl|rfl<;>simp[Mo.get]at h0 hc⊢ <;>omega
   rw[hm]at this;cases this
 ·rfl
theorem Gp{D N:Nat}{P:Nat->List Tm}(hD:D+1<=4)(bZ:∀i,i<N->dV D (P i))(e:Nat):af (ck (D+1) (e:Int) (aM (D+1) N P)) (if e<N then P e else[]):=λm=>by
 rw[tL (by omega) hD]
 by_cases hm:m.get (D+1)=0
 ·rw[av hm,EG (D+1) N P (by omega) hD bZ _ e (by rw[iL,hm,gM _ _ _ (by omega) hD,av rfl];omega)]
  by_cases he:e<N
  ·rw[av he,av he, <-(Mo.add_eq m _ _).1 rfl]
  ·rw[aj he,aj he];rfl
 ·rw[aj hm]
  by_cases he:e<N
  ·rw[av he];exact((bZ e he).uO (k:=D+1) (by omega) hD hm).symm
  ·rw[aj he];rfl
theorem qf4{k:Nat}(h1:1<=k)(h4:k<=4)(x y:Mo):wo k (Mo.add x y)=Mo.add (wo k x) (wo k y):=Mo.ext_get λj _ _=>by
 rw[J5 h1 h4,iL,iL,J5 h1 h4,J5 h1 h4]
 split<;>omega
theorem qrG{k:Nat}(h1:1<=k)(h4:k<=4){x:Mo}(h:x.get k=0):wo k x=x:=Mo.ext_get λj _ _=>by
 rw[J5 h1 h4]
 split
 ·rename_i hj;subst hj;omega
 ·rfl
theorem qbt{k:Nat}(h1:1<=k)(h4:k<=4){e e':Int}{g:List Tm}(hg:∀t∈g,t.2.get k<=e'):∀q:List Tm,(∀s∈q,s.2.get k<=e)->ck k (e+e') (aC q g)=aC (ck k e q) (ck k e' g)
 |[],_=>rfl
 |s::q,h=>by
  have ih:=qbt h1 h4 hg q λt ht=>h t (List.mem_cons_of_mem _ ht);have hs:=h s List.mem_cons_self;show ck k (e+e') (shift s.2 (smul s.1 g)++aC q g)=shift (wo k s.2) (smul (s.1*(if s.2.get k=e then 1 else 0)) (ck k e' g))++aC (ck k e q) (ck k e' g);rw[<-ih];unfold ck;rw[Te]
  congr 1
  unfold lQ shift smul;rw[List.map_map,List.map_map,List.map_map,List.map_map];apply List.map_congr_left;intro t ht;have h2:=hg t ht;simp only[Function.comp_def,M8,iL,qf4 h1 h4]
  congr 1
  by_cases a1:s.2.get k=e
  ·by_cases a2:t.2.get k=e'
   ·rw[av (by omega),av a1,av a2];simp
   ·rw[aj (by omega),aj a2];simp
  ·rw[aj (by omega),aj a1];simp
theorem qjs{k:Nat}(h1:1<=k)(h4:k<=4){e:Int}{g:List Tm}(hg:∀t∈g,t.2.get k=0):∀q:List Tm,ck k e (aC q g)=aC (ck k e q) g
 |[]=>rfl
 |s::q=>by
  have ih:=qjs h1 h4 (e:=e) hg q;show ck k e (shift s.2 (smul s.1 g)++aC q g)=shift (wo k s.2) (smul (s.1*(if s.2.get k=e then 1 else 0)) g)++aC (ck k e q) g;rw[<-ih];unfold ck;rw[Te]
  congr 1
  unfold lQ shift smul;rw[List.map_map,List.map_map,List.map_map];apply List.map_congr_left;intro t ht;have h2:=hg t ht;simp only[Function.comp_def,M8,iL,qf4 h1 h4,qrG h1 h4 h2,h2]
  congr 1
  by_cases a1:s.2.get k=e
  ·rw[av (by omega),av a1];simp
  ·rw[aj (by omega),aj a1];simp
theorem XG(k:Nat):∀{l:List Tm},(∀t∈l,t.2.nn=true)->∃e:Nat,(∀s∈l,s.2.get k<=e)/\(l=[]\/∃s∈l,s.2.get k=e)
 |[],_=>⟨0,λs hs=>(by cases hs),.inl rfl⟩
 |t::l,h=>by
  obtain⟨e,h1,h2⟩:=XG k λs hs=>h s (List.mem_cons_of_mem _ hs);have h0:=Bt (h t List.mem_cons_self) k
  by_cases hc:t.2.get k<=e/\l≠[]
  ·refine⟨e,λs hs=>?_,.inr ?_⟩
   ·rcases List.mem_cons.1 hs with rfl|hs
    ·exact hc.1
    ·exact h1 s hs
   ·obtain⟨s,hs,he⟩:=h2.resolve_left hc.2;exact⟨s,List.mem_cons_of_mem _ hs,he⟩
  ·refine⟨(t.2.get k).toNat,λs hs=>?_,.inr ⟨t,List.mem_cons_self,by omega⟩⟩;rcases List.mem_cons.1 hs with rfl|hs
   ·omega
   ·by_cases hl:l=[]
    ·rw[hl]at hs;cases hs
    ·have:=h1 s hs;have:¬t.2.get k<=e:=λhx=>hc ⟨hx,hl⟩;omega
theorem M4:∀{l:List Tm},Canon l->∀{t:Tm},t∈l->aH l t.2≠0
 |s::l,h,t,ht=>by
  rcases List.mem_cons.1 ht with rfl|ht
  ·rw[h.EE];exact(h.2 t List.mem_cons_self).1
  ·have h1:=M4 h.tail ht;have h2:=Mo.Ii (h.head t ht);simp only[aH];rw[aj (λe=>h2 e.symm),Int.zero_add];exact h1
theorem Yk{k:Nat}(h1:1<=k)(h4:k<=4){q g:List Tm}{n:Nat}(hq:NN q)(hz:¬af q [])(hg:NN g)(hn:∀t∈g,t.2.get k<=n)(ht:¬af (ck k (n:Int) g) []):∃e:Nat,(∀s∈norm q,s.2.get k<=e)/\¬af (ck k ((e+n:Nat):Int) (aC q g)) []:=by
 obtain⟨e,he,hx⟩:=XG k (Co q);have hs:=o6 hq;have hne:norm q≠[]:=λh=>hz (by rw[h]at hs;exact hs.symm);obtain⟨s,Oq,Oo⟩:=hx.resolve_left hne;have hc:aH (norm q) s.2≠0:=M4 (o7 q) Oq;have h5:=Na h1 h4 hc;rw[Oo]at h5;refine⟨e,he,λhh=>?_⟩;have h6:=qbt h1 h4 (e:=(e:Int)) (e':=(n:Int)) hn (norm q) he
 have h7:af (ck k ((e+n:Nat):Int) (aC q g)) (aC (ck k e (norm q)) (ck k n g)):=by
  rw[<-h6];exact xB (hs.symm.qN g)
 exact Tw (gX h1 h4 (uk (Co q))) (gX h1 h4 hg) h5 ht (h7.symm.trans hh)
theorem qEf{k:Nat}(h1:1<=k)(h4:k<=4){g:List Tm}(hg:NN g)(hz:¬af g []):∃n:Nat,(∀t∈norm g,t.2.get k<=n)/\¬af (ck k (n:Int) (norm g)) []:=by
 obtain⟨e,he,hx⟩:=XG k (Co g);have hs:=o6 hg;obtain⟨s,Oq,Oo⟩:=hx.resolve_left λh=>hz (by rw[h]at hs;exact hs.symm);have hc:aH (norm g) s.2≠0:=M4 (o7 g) Oq;have h5:=Na h1 h4 hc;rw[Oo]at h5;exact⟨e,he,h5⟩
theorem qjG{q g l:List Tm}{B:Nat}(hq:NN q)(hg:NN g)(hz:¬af g [])(h:af (aC q g) l)(hB:bE B l):bE B q:=λm hm k=>by
 by_cases hk:1<=k/\k<=4
 ·obtain⟨n,hn,ht⟩:=qEf hk.1 hk.2 hg hz;have Ig:¬af q []:=λhs=>hm (hs m);obtain⟨e,he,hc⟩:=Yk hk.1 hk.2 hq Ig (uk (Co g)) hn ht;have h5:af (aC q (norm g)) l:=((o6 hg).vg q).trans h;obtain⟨m',hm',NW⟩:=qbq hk.1 hk.2 (λhs=>hc ((xB h5).trans hs));have h6:=hB m' hm' k;rw[<-(o6 hq) m]at hm;obtain⟨s,hs,e2⟩:∃s∈norm q,s.2=m:=gQ λig=>hm (rY λt ht e=>ig ⟨t,ht,e⟩);have h7:=he s hs;rw[e2]at h7;omega
 ·have:m.get k=0:=by
   unfold Mo.get;rw[aj (by omega),aj (by omega),aj (by omega),aj (by omega)]
  omega
def Dv(r l:List Tm):Prop:=∃q,NN q/\af (aC q r) l
theorem qfn{D N:Nat}{P:Nat->List Tm}(hD:D+1<=4)(bZ:∀i,i<N->dV D (P i)):∀t∈aM (D+1) N P,∃i,i<N/\t.2.get (D+1)=(i:Int):=λt ht=>by
 obtain⟨i,hi,s,hs,rfl⟩:=Ls ht;refine⟨i,hi,?_⟩;show(Mo.add s.2 (xp (D+1) (i:Int))).get (D+1)=i;rw[iL,bZ i hi s hs (D+1) (by omega) hD,gM _ _ _ (by omega) hD,av rfl];omega
section
variable{D n:Nat}{G:Nat->List Tm}
theorem qvt(hD:D+1<=4)(hG:∀i,i<n+1->dV D (G i))(hz:¬af (G n) [])(hN:NN (aM (D+1) (n+1) G)){h:List Tm}(hh:NN h){R:Nat->List Tm}{k:Nat}(hR:∀i,i<n+k+1->dV D (R i))(hs:af (aC h (aM (D+1) (n+1) G)) (aM (D+1) (n+k+1) R)):Dv (G n) (R (n+k)):=by
 have jT:∀t∈aM (D+1) (n+1) G,t.2.get (D+1)<=(n:Int):=λt ht=>by
  obtain⟨i,hi,e⟩:=qfn hD hG t ht;omega
 have yV:=Gp hD hG n;rw[av (by omega)]at yV
 have hle:∀s∈norm h,s.2.get (D+1)<=(k:Int):=by
  by_cases SA:af h []
  ·have:norm h=[]:=SA.norm;rw[this];intro s hs;cases hs
  ·obtain⟨e,he,hc⟩:=Yk (by omega) hD hh SA hN jT (λhx=>hz (yV.symm.trans hx));have h5:=Gp hD hR (e+n)
   have hlt:e+n<n+k+1:=by
    refine gQ λeX=>hc ?_;rw[aj eX]at h5;exact(xB hs).trans h5
   intro s lD;have:=he s lD;omega
 have h6:=qbt (by omega) hD (e:=(k:Int)) (e':=(n:Int)) jT (norm h) hle;have h7:=Gp hD hR (n+k);rw[av (by omega)]at h7;refine⟨ck (D+1) k (norm h),gX (by omega) hD (uk (Co h)),?_⟩;refine(yV.symm.vg _).trans ?_;rw[<-h6,show(k:Int)+(n:Int)=((n+k:Nat):Int) by omega];exact(xB (((o6 hh).qN _).trans hs)).trans h7
theorem qjV(hD:D+1<=4)(hG:∀i,i<n+1->dV D (G i))(hz:¬af (G n) [])(hN:NN (aM (D+1) (n+1) G)){h:List Tm}(hh:NN h){R:Nat->List Tm}{N:Nat}(hNn:N<=n)(hR:∀i,i<N->dV D (R i))(hs:af (aC h (aM (D+1) (n+1) G)) (aM (D+1) N R)):af (aM (D+1) N R) []:=by
 by_cases SA:af h []
 ·exact hs.symm.trans (SA.qN _)
 ·exfalso
  have jT:∀t∈aM (D+1) (n+1) G,t.2.get (D+1)<=(n:Int):=λt ht=>by
   obtain⟨i,hi,e⟩:=qfn hD hG t ht;omega
  have yV:=Gp hD hG n;rw[av (by omega)]at yV;obtain⟨e,he,hc⟩:=Yk (by omega) hD hh SA hN jT (λhx=>hz (yV.symm.trans hx));have h5:=Gp hD hR (e+n);rw[aj (by omega)]at h5;exact hc ((xB hs).trans h5)
theorem qvs(hD:D+1<=4)(hn:1<=n)(hG:∀i,i<n+1->dV D (G i))(hz:¬af (G n) [])(hN:NN (aM (D+1) (n+1) G)){l:List Tm}(hl:∀t∈l,t.2.get (D+1)=0)(R5:¬af l []):¬Dv (aM (D+1) (n+1) G) l:=by
 rintro⟨q,hq,hs⟩;have Ig:¬af q []:=λhx=>R5 (hs.symm.trans (hx.qN _))
 have jT:∀t∈aM (D+1) (n+1) G,t.2.get (D+1)<=(n:Int):=λt ht=>by
  obtain⟨i,hi,e⟩:=qfn hD hG t ht;omega
 have yV:=Gp hD hG n;rw[av (by omega)]at yV;obtain⟨e,he,hc⟩:=Yk (by omega) hD hq Ig hN jT (λhx=>hz (yV.symm.trans hx));obtain⟨m,hm,KP⟩:=qbq (by omega) hD (λhx=>hc ((xB hs).trans hx));obtain⟨t,ht,rfl⟩:∃t∈l,t.2=m:=gQ λig=>hm (rY λt ht e=>ig ⟨t,ht,e⟩);rw[hl t ht]at KP;omega
end
theorem qvr{D N:Nat}(hD:D+1<=4){F:Nat->List Tm}(hF:∀i,i<N->dV D (F i)){g:List Tm}(hg:∀t∈g,t.2.get (D+1)=0)(h:Dv g (aM (D+1) N F))(i:Nat)(hi:i<N):Dv g (F i):=by
 obtain⟨q,hq,hs⟩:=h;refine⟨ck (D+1) (i:Int) q,gX (by omega) hD hq,?_⟩;rw[<-qjs (by omega) hD hg];have h7:=Gp hD hF i;rw[av hi]at h7;exact(xB hs).trans h7
theorem Dv.bP{r r' l l':List Tm}(h:Dv r l)(hr:af r r')(hl:af l l'):Dv r' l':=by
 obtain⟨q,hq,hs⟩:=h;exact⟨q,hq,(hr.symm.vg q).trans (hs.trans hl)⟩
theorem Dv.rest{r l C ρ:List Tm}(h:Dv r l)(hC:NN C)(hs:af l (aC C r++ρ)):∃q,NN q/\af (aC q r) ρ:=by
 obtain⟨q,hq,hqs⟩:=h;refine⟨q++smul (-1) C,λm hm=>?_,λm=>?_⟩
 ·rw[iJ,mO,hq m hm,hC m hm];rfl
 ·have h1:=hqs m;have h2:=hs m;rw[iJ]at h2;rw[Ir,iJ]
  have h3:aH (aC (smul (-1) C) r) m= -aH (aC C r) m:=by
   clear h1 h2 hs hC
   induction C with
   |nil=>rfl
   |cons s C ih=>
    show aH (aC ((-1*s.1,s.2)::smul (-1) C) r) m=_;rw[rX,rX,ih];simp only;rw[Int.mul_assoc];omega
  omega
theorem qjT{y z:Int}(hz:z≠0):Dv [(z,Mo.zero)] [(y,Mo.zero)]↔y.tmod z=0:=by
 constructor
 ·rintro⟨q,hq,hs⟩;have h1:=hs Mo.zero;have h2:=OP q (z,Mo.zero) Mo.zero;rw[IC,mO]at h2;rw[h2]at h1;simp only[aH,if_true,Int.add_zero]at h1;exact Int.tmod_eq_zero_of_dvd ⟨_,h1.symm⟩
 ·intro h;have hd:=Int.dvd_of_tmod_eq_zero h;refine⟨[(y.tdiv z,Mo.zero)],uk λt ht=>by simp only[List.mem_singleton]at ht;subst ht;rfl,λm=>?_⟩;have:=Int.tdiv_mul_cancel hd;simp[aC,shift,smul,aH,Mo.add_zero',this]
end Go.Proofs.YtaafefeafonhdaaGreat
namespace Go.Proofs.YtaafefeafonhdaaGreat
open Go.RowKit
theorem dP.low{M:Nat->Prop}{w:World}{D N cap:Nat}{a:Option Addr}{P:Nat->List Tm}(h:dP M w D (.slice a N cap) N P):∃T:Nat->List Tm,∀i,i<N->af (T i) (P i)/\dV D (T i):=by
 refine pick (Q:=λi T=>af T (P i)/\dV D T) [] λi hi=>?_;obtain⟨b,off,_,_,_,_,_,e0,e1,e2,e3,_,_,_,_,t,h1,h2,h3,h4⟩:=h.at i hi;exact⟨_,h4,(JW _ t h2).mono (by show t.1.toNat<=D;omega)⟩
theorem XZ{L c:Nat}{P:Nat->List Tm}:∀n,(∀i,i<n->(P i).length<=c)->(aM L n P).length<=n*c
 |0,_=>by rw[Fw];simp
 |n+1,h=>by
  have ih:=XZ (L:=L) n λi hi=>h i (by omega);have h1:=h n (by omega);rw[gF,List.length_append,Nat.add_mul,Nat.one_mul];simp only[shift,List.length_map];omega
theorem qp7{L c:Nat}{P:Nat->List Tm}:∀n,(∀i,i<n->aB (P i)<=c)->aB (aM L n P)<=n*c
 |0,_=>by rw[Fw];simp[aB]
 |n+1,h=>by
  have ih:=qp7 (L:=L) n λi hi=>h i (by omega);have h1:=h n (by omega);rw[gF,kK,zu,Nat.add_mul,Nat.one_mul];omega
theorem qvg{n:Nat}(h:n<=4294967295):aF n<=1:=by rw[qC,Nat.pow_one];omega
theorem XV{L A N:Nat}{P:Nat->List Tm}(hN:N<=4294967295)(h:∀i,i<N->aF (aB (P i))<=A):aF (aB (aM L N P))<=A+2:=by
 have h1:=qp7 (L:=L) (c:=4294967296^A) N λi hi=>Nat.le_of_lt ((qC _ _).1 (h i hi));have h2:=fu h1;have h3:=nN N (4294967296^A);have h4:=qvg hN
 have h5:aF (4294967296^A)<=A+1:=by
  rw[qC];exact Nat.pow_lt_pow_right (by omega) (by omega)
 omega
theorem qCx{M:Nat->Prop}{w:World}{D N cap S A:Nat}{a:Option Addr}{P:Nat->List Tm}(h:dP M w D (.slice a N cap) N P)(hD:D+1<=4)(AJ:∀i,i<N->bE S (P i))(hN:N<=S+1)(hS:(S+1)^(D+1)<=1099511627776)(tT:S<=1000000)(jF:∀i,i<N->aF (aB (P i))<=A)(hA:A+2<=1099511627776):
 PI M w ⟨(D:Int)+1,false,none,0,0,a,N,cap⟩ (aM (D+1) N P):=by
 obtain⟨bC,dw⟩:=pick (Cx (D+1)) (n:=N) (Q:=λi u=>(∃b off,a=some ⟨b,off,none⟩/\N<=cap/\cap<=maxLen/\b<w.heap.size/\¬M b/\∃e0 e1 e2 e3,w.cell? ⟨b,off+i*4,none⟩=some e0/\w.cell? ⟨b,off+i*4+1,none⟩=some e1/\w.cell? ⟨b,off+i*4+2,none⟩=some e2/\w.cell? ⟨b,off+i*4+3,none⟩=some e3/\RR M w (D+1) u e0 e1 e2 e3)/\fA (D+1) u=true/\zw (D+1) u/\u.1<=D/\af (terms (D+1) u) (P i)) (by
  intro i hi;obtain⟨b,off,h1,h2,h3,h4,h5,e0,e1,e2,e3,x0,x1,x2,x3,t,g1,g2,g3,g4⟩:=h.at i hi
  exact⟨t,⟨b,off,h1,h2,h3,h4,h5,e0,e1,e2,e3,x0,x1,x2,x3,g1⟩,g2,g1.ok,g3,g4⟩)
 have hT:terms (D+1+1) (uj (D+1) ((D:Int)+1) ⟨false,0,λ_=>0⟩ N bC)=aM (D+1) N (λi=>terms (D+1) (bC i)):=by
  rw[TJ _ _ _ _ _ (by omega) (by omega),show((D:Int)+1).toNat=D+1 by omega]
 refine⟨D+1+1,uj _ ((D:Int)+1) ⟨false,0,λ_=>0⟩ N bC,⟨rfl,by show-9223372036854775808<=(D:Int)+1/\(D:Int)+1<=9223372036854775807;omega,⟨rfl,OD _ _ _⟩,h.1,?_⟩,.inr ⟨by omega,?_,?_,?_⟩,?_⟩
 ·rcases h.2 with⟨h1,h0⟩|⟨b,off,cap',h1,h2,h3,h4,_⟩
  ·simp only[Value.slice.injEq]at h1;obtain⟨rfl,rfl,rfl⟩:=h1;exact .inl ⟨⟨none,0,rfl,bu _,λ_=>rfl⟩,rfl⟩
  ·simp only[Value.slice.injEq,true_and]at h1;obtain⟨rfl,rfl⟩:=h1;refine .inr ⟨b,off,cap,rfl,h2,h3,h4,λi hi=>?_⟩;obtain⟨b',off',e,_,_,_,_,hk⟩:=(dw i hi).1;simp only[Option.some.injEq,Addr.mk.injEq,and_true]at e;obtain⟨rfl,rfl⟩:=e;exact hk
 ·rw[hT];refine aK (XZ (c:=(S+1)^D) N λi hi=>?_) ?_
  ·have h1:=QH S (D+1) (bC i) (dw i hi).2.1 (dw i hi).2.2.1 (FH (dw i hi).2.2.2.2 (AJ i hi));refine aK h1 (Nat.pow_le_pow_right (by omega) ?_);have:=(dw i hi).2.2.2.1;show(bC i).1.toNat<=D;omega
  ·rw[Nat.pow_succ,Nat.mul_comm]at hS;exact aK (fq _ hN) hS
 ·rw[hT];have:=XV (L:=D+1) (A:=A) (N:=N) (P:=λi=>terms (D+1) (bC i)) (by omega) λi hi=>aK (fu (JX (dw i hi).2.1 (dw i hi).2.2.2.2)) (jF i hi);omega
 ·rw[hT];intro s hs k;obtain⟨i,hi,s',lD,rfl⟩:=Ls hs;have h1:=QG S (D+1) (bC i) (dw i hi).2.1 (dw i hi).2.2.1 (FH (dw i hi).2.2.2.2 (AJ i hi)) s' lD k;show(Mo.add s'.2 (xp (D+1) (i:Int))).get k<=_;rw[iL];rw[gM _ k _ (by omega) hD]
  split<;>omega
 ·rw[hT];exact qO _ _ _ _ λi hi=>(dw i hi).2.2.2.2
theorem Tj(l:Int)(w:World):Calls Tryz.prog 52 #[.int .i64 l] w λe w'=>e=.returned (.bool (eH l))/\w=w':=by
 by_cases h1:1<=l
 ·by_cases h2:l<=4
  ·have H:Hid (eH l=true):=by show _=_;unfold eH;simp[h1,h2]
   go_enter Tryz.func52,Tryz.ntmps52
   go_wp2;go_ret;exact⟨by rw[H.out];rfl,rfl⟩
  ·have H:Hid (eH l=false):=by show _=_;unfold eH;simp[h2]
   go_enter Tryz.func52,Tryz.ntmps52
   go_wp2;go_ret;exact⟨by rw[H.out];rfl,rfl⟩
 ·have H:Hid (eH l=false):=by show _=_;unfold eH;simp[h1]
  go_enter Tryz.func52,Tryz.ntmps52
  go_wp2;go_ret;exact⟨by rw[H.out];rfl,rfl⟩
theorem aG.down{M:Nat->Prop}{w:World}{D:Nat}{v:PE}{l T:List Tm}(h:aG M w 4 v l)(hs:af T l)(hT:dV D T):aG M w D v l:=by
 refine CR.OW h ?_
 by_cases hc:v.lv<=D
 ·exact hc
 ·exfalso;have hl:=h.jY;obtain⟨E,b,off,P,iH,gB,Gy,iZ,iN,jN,mI,dY,jG,eu,hb,nV,bZ,fO,eB,jB,dw⟩:=h.node (by omega);obtain⟨q,hq1,hq2⟩:=(qbJ gB (by omega) bZ fO).2.resolve_left (by omega);rw[eB q, <-hs q]at hq1;refine hq1 (hT.uO (k:=E+1) (by omega) gB ?_);rw[hq2];omega
theorem qe6{M:Nat->Prop}{D N cap S A:Nat}{a:Option Addr}{P:Nat->List Tm}(w:World)(hM:Mb M w)(h:dP M w D (.slice a N cap) N P)(hD:D+1<=4)(AJ:∀i,i<N->bE S (P i))(hN:N<=S+1)(hS:(S+1)^(D+1)<=1099511627776)(tT:S<=1000000)(jF:∀i,i<N->aF (aB (P i))<=A)(hA:A+2<=1099511627776):
 Calls Tryz.prog 100 #[.slice a N cap,.int .i64 ((D:Int)+1)] w (di M w (D+1) (aM (D+1) N P)):=by
 obtain⟨T,hT⟩:=h.low;have HTL:Hid (af (aM (D+1) N T) (aM (D+1) N P)/\dV (D+1) (aM (D+1) N T)):=⟨qO _ _ _ _ λi hi=>(hT i hi).1,qfp _ _ _ (by omega) hD λi hi=>by rw[Nat.add_sub_cancel];exact(hT i hi).2⟩;have hE:=(ai w).alloc (.cells zA 42);have hB:=au.aO w zA 42 4 rfl;have dz:Mb (Mx M w.heap.size (w.heap.size+1)) (w.alloc (.cells zA 42)):=Mx.mb hM (by simp) (by simp);have R9:=((qCx h hD AJ hN hS tT jF hA).more (M':=Mx M w.heap.size (w.heap.size+1)) (Mx.more (aA _))).ext hE;have CT:=ae (Iz _ _ _ _ dz R9)
 have pO:eH ((D:Int)+1)=true:=by unfold eH;simp;omega
 have vG:=ae (λW=>Tj ((D:Int)+1) W);rw[pO]at vG;have HE:=ae hE;have HB:=ae hB;clear hT hE hB dz R9 pO h hM AJ hN hS tT jF hA
 go_enter Tryz.func100,Tryz.ntmps100
 go_wp2_with (fail);refine(vG.out _).mono ?_;rintro e w1 ⟨rfl,rfl⟩;go_wp2_with (fail);refine CT.out.mono ?_;rintro e w2 ⟨v,rfl,hv,az⟩;obtain⟨⟨q0,q1,q2,q3⟩,⟨f0,f1,f2,f3⟩,⟨r0,r1,r2,r3⟩,HF⟩:=gI (M:=M) (w:=w) (L:=D+1) (HB.out.ext az) (Mx.at (by omega)) (by omega) (HE.out.trans az) (hv.down HTL.out.1 HTL.out.2) Mx.sub;clear CT vG hv az;go_wp2;exact aV (v:=.agg (ag v)) (by simp[results,Tryz.results100,go_sem,r0,r1,r2,r3]) rfl HF.out
def fT(B C:Nat):Nat:=B+(B+1)*C
def qX(C:Nat):Nat->Nat->Nat
 |0,_=>1
 |L+1,B=>(B+2)*(qX C L (fT B C)+1)+3
def qW(C:Nat):Nat->Nat->Prop
 |0,B=>B<=1000000/\(B+1)*(C+1)<=1099511627776
 |L+1,B=>(fT B C<=1000000/\(fT B C+1)^(L+1)<=1099511627776/\(fT B C+1)*(C+1)<=1099511627776)/\qW C L (fT B C)
theorem qoA{B B' C:Nat}(h:B<=B'):fT B C<=fT B' C:=by
 have:=fq C (show B+1<=B'+1 by omega);unfold fT;omega
theorem Xj(B C:Nat):B<=fT B C:=by unfold fT;omega
theorem qW.mono{C:Nat}:∀{L B B':Nat},B<=B'->qW C L B'->qW C L B
 |0,B,B',h,k=>⟨by have:=k.1;omega,aK (fq _ (by omega)) k.2⟩
 |L+1,B,B',h,k=>by
  have h1:=qoA (C:=C) h;exact⟨⟨aK h1 k.1.1,aK (Nat.pow_le_pow_left (by omega) _) k.1.2.1,aK (fq _ (by omega)) k.1.2.2⟩,qW.mono h1 k.2⟩
theorem qW.down{C L B:Nat}(h:qW C (L+1) B):qW C L B:=h.2.mono (Xj B C)
theorem qW.to{C B:Nat}{L E:Nat}(h:qW C L B)(hE:E<=L):qW C E B:=by
 obtain⟨k,rfl⟩:∃k,L=E+k:=⟨L-E,by omega⟩;clear hE
 induction k with
 |zero=>exact h
 |succ k ih=>exact ih h.down
theorem qqu{C:Nat}:∀{L B B':Nat},B<=B'->qX C L B<=qX C L B'
 |0,_,_,_=>aA _
 |L+1,B,B',h=>by
  have h1:=qqu (C:=C) (L:=L) (qoA (C:=C) h);have:=Nat.mul_le_mul (show B+2<=B'+2 by omega) (show qX C L (fT B C)+1<=qX C L (fT B' C)+1 by omega);simp only[qX];omega
theorem qqw(C L B:Nat):qX C L B+2<=qX C (L+1) B:=by
 have h1:=qqu (C:=C) (L:=L) (Xj B C);have h2:2*(qX C L (fT B C)+1)<=(B+2)*(qX C L (fT B C)+1):=fq _ (by omega);simp only[qX];omega
theorem qqv{C B:Nat}{L E:Nat}(hE:E<=L):qX C E B<=qX C L B:=by
 obtain⟨k,rfl⟩:∃k,L=E+k:=⟨L-E,by omega⟩;clear hE
 induction k with
 |zero=>exact aA _
 |succ k ih=>have:=qqw C (E+k) B;rw[<-Nat.add_assoc];omega
theorem qCd(C L B G:Nat):qX C L B*(G+2)+2<=qX C (L+1) B*(G+2):=by
 have h1:=fq (G+2) (qqw C L B);rw[Nat.add_mul]at h1;omega
theorem aG.qe0{M:Nat->Prop}{w:World}{L:Nat}{x:PE}{l:List Tm}(h:aG M w L x l):∃T,af T l/\∀t∈T,∀k:Nat,x.lv<k->k<=4->t.2.get k=0:=by
 obtain⟨t,h1,h2,h3,h4⟩:=h;obtain⟨e0,_⟩:=h1.form;simp only[Value.int.injEq,true_and]at e0;have hl:=JW _ t h2;have h0:=Af h2;exact⟨_,h4,λs hs k hk rA=>hl s hs k (by show t.1.toNat<k;omega) rA⟩
def zM(M:Nat->Prop)(L:Nat)(l r:List Tm)(A:Nat)(v:PE)(ok:Bool)(w:World):Prop:=(ok=true->∃q,aG M w L v q/\af (aC q r) l/\aF (aB q)<=A)/\(ok=false->¬Dv r l)
def yF(M:Nat->Prop)(w:World)(L:Nat)(l r:List Tm)(A:Nat)(e:Ending)(w':World):Prop:=∃(v:PE)(ok:Bool),e=.returned (.tuple #[.agg (ag v),.bool ok])/\zM M L l r A v ok w'/\Ext w w'
def Pe(C G L:Nat):Prop:=∀(M:Nat->Prop)(l r:List Tm)(x y:PE)(B A:Nat)(w:World),Mb M w->aG M w L x l->aG M w 4 y r->¬af r []->bE B l->bE C r->aF (aB l)<=A->aF (aB r)<=G->qW C L B->A+qX C L B*(G+2)<=549755813888->
 Calls Tryz.prog 102 #[.agg (ag x),.agg (ag y)] w (yF M w L l r (A+qX C L B*(G+2)))
theorem di.QY{M:Nat->Prop}{w W:World}{L A:Nat}{l q r:List Tm}{y:PE}(h:di M w L q (.returned (.agg (ag y))) W)(hs:af (aC q r) l)(hA:aF (aB q)<=A):yF M w L l r A (.returned (.tuple #[.agg (ag y),.bool true])) W:=by
 obtain⟨y',e,h1,h2⟩:=h;simp only[Ending.returned.injEq,Value.agg.injEq]at e;exact⟨y',true,by rw[e],⟨λ_=>⟨q,h1,hs,hA⟩,λh=>(by cases h)⟩,h2⟩
theorem di.Nk{M:Nat->Prop}{w W:World}{L L' A:Nat}{l q r:List Tm}{y:PE}(h:di M w L' q (.returned (.agg (ag y))) W)(hs:¬Dv r l):yF M w L l r A (.returned (.tuple #[.agg (ag y),.bool false])) W:=by
 obtain⟨y',e,h1,h2⟩:=h;simp only[Ending.returned.injEq,Value.agg.injEq]at e;exact⟨y',false,by rw[e],⟨λh=>(by cases h),λ_=>hs⟩,h2⟩
theorem p9{w' wr:World}{b:Nat}{x:PE}(h:P4 wr b x)(he:w'.heap[b]?=wr.heap[b]?):P4 w' b x:=by
 have hc:=λo=>World.cell?_of_block (w:=wr) (w':=w') (a:=⟨b,o,none⟩) he;obtain⟨p0,p1,p2,p3⟩:=h;exact⟨(hc 0).trans p0,(hc 1).trans p1,(hc 2).trans p2,(hc 3).trans p3⟩
theorem qBW(C G E:Nat)(gB:E+1<=4)(ih:Pe C G E)(M:Nat->Prop)(l r:List Tm)(x y:PE)(B A:Nat)(w:World)(hM:Mb M w)(h:aG M w (E+1) x l)(hl:x.lv=(E:Int)+1)(hy:aG M w 4 y r)(wK:y.lv<x.lv)(hz:¬af r [])(hB:bE B l)(hC:bE C r)(hA:aF (aB l)<=A)(hG:aF (aB r)<=G)(hO:qW C (E+1) B)(hS:A+qX C (E+1) B*(G+2)<=549755813888):
 Calls Tryz.prog 132 #[.agg (ag x),.agg (ag y)] w (yF M w (E+1) l r (A+qX C (E+1) B*(G+2))):=by
 obtain⟨i0,hi,hz0,hz1,hz2⟩:=info_parts Tryz.xU;obtain⟨aL,kr,uT,aW,bD⟩:=yI hM x y;obtain⟨E',b,off,P,iH,qwY,Gy,iZ,iN,jN,mI,dY,jG,eu,hb,nV,bZ,fO,eB,jB,dw⟩:=h.node (by omega)
 obtain rfl:E'=E:=by omega
 have hqx:=qCd C E' B G;have oQ:=Ag gB (by omega) bZ fO (hB.bP eB.symm);have NF:NN r:=hy.nn;obtain⟨T,NM,vW⟩:=hy.qe0;have jQ:Hid (∀i,i<x.kn->¬Dv r (P i)->¬Dv r l):=λi hi' hn hd=>hn ((qvr gB bZ (g:=T) (λt ht=>vW t ht (E'+1) (by omega) gB) (hd.bP NM.symm eB.symm) i hi').bP NM (af.refl _))
 have yn:Hid (∀i,i<x.kn->∃c,eF w b (off+i*4) c/\∀(M':Nat->Prop) W,Mb M' W->(∀g,M' g->M g\/w.heap.size<=g)->Ext w W->Calls Tryz.prog 102 #[.agg (ag c),.agg (ag y)] W (yF M' W E' (P i) r (A+qX C E' B*(G+2)))):=λi hi'=>by
  obtain⟨c,fw,eX,_⟩:=dw i hi';exact⟨c,fw,λM' W Kg xO he=>ih M' (P i) r c y B A W Kg ((eX.more xO).ext he) ((hy.more xO).ext he) hz (oQ.2 i hi') hC (aK (fu (aK (DR (E'+1) x.kn P i hi') jB)) hA) hG hO.down (by omega)⟩
 have vL:Hid (∀Q:Nat->List Tm,(∀i,i<x.kn->af (aC (Q i) r) (P i))->af (aC (aM (E'+1) x.kn Q) r) l):=λQ hQ=>(Tx (E'+1) x.kn Q r).symm.trans ((qO _ _ _ _ hQ).trans eB);have wT:Hid (∀i,i<x.kn->∀q,NN q->af (aC q r) (P i)->bE (fT B C) q):=λi hi' q hq hs=>(qjG hq NF hz hs (oQ.2 i hi')).mono (Xj B C)
 have WE:x.kn<=fT B C+1:=by have:=oQ.1;have:=Xj B C;omega
 have hOk:=hO.1;have fQ:=ae hM;generalize VK:A+qX C E' B*(G+2)=A1 at*
 have J7:A1+2<=A+qX C (E'+1) B*(G+2):=by omega
 have qFp:A1+2<=1099511627776:=by omega
 generalize A+qX C (E'+1) B*(G+2)=A2 at*;obtain⟨x0,x1,x2,x3⟩:=kr;obtain⟨y0,y1,y2,y3⟩:=uT
 have jV:w.heap.size+3=((((w.alloc (.cells (ag x) 42)).alloc (.cells (ag y) 42)).alloc (.cells zA 42))).heap.size:=by simp
 generalize hW:((w.alloc (.cells (ag x) 42)).alloc (.cells (ag y) 42)).alloc (.cells zA 42)=W at*;have HW:=ae hW;have HE:=ae aL;have HS:Hid (jo w.heap.size x y W):=⟨⟨x0,x1,x2,x3⟩,⟨y0,y1,y2,y3⟩⟩;have dO:=ae aW;have ER:=hO.1.1;clear aL aW bD h hl hy wK hz hB hC hA hG hO hS ih bZ fO eB jB dw oQ NF NM vW hqx VK hW hM;rw[jN]at x3
 go_enter Tryz.func132,Tryz.ntmps132
 go_upto_region 1 with(fail)
 rw[HW.out]
 go_wp2_with (first|(refine wpList_make_full _ rfl _ _ _ rfl (w.heap.size+3) 42 i0 (.agg #[.int .i64 0,.bool false,.slice none 0 0,.slice none 0 0]) 4 Tryz.underlying34 hi hz0 hz1 .i64 .i64 _ _ x.kn rfl rfl ?c4 ?c5 ?c2 ?c3 ?c6 ?_))
 case c2=>rw[hz2];omega
 case c3=>unfold maxLen;omega
 case c4=>simp
 case c5=>simp
 case c6=>omega
 intro w1 hown hgrow;rw[<-jV]at hown⊢;have bR:=(au.made hown rfl (by omega)).congr (f':=fH) (λi _=>Ed i);have ah:=mE hgrow;have bS:=ae (dO.out.ext ah);have j5:=ae (HS.out.ext ah);have aP:=ae (HE.out.trans ah)
 have dI:w.heap.size+4<=w1.heap.size:=by have:=bR.lt;omega
 have l6:Hid (Kids (Mx M w.heap.size (w.heap.size+4)) w1 E' (w.heap.size+3) x.kn (λ_=>[])):=Kids.fresh bR;clear x0 x1 x2 x3 y0 y1 y2 y3;obtain⟨⟨x0,x1,x2,x3⟩,_⟩:=j5.out;rw[jN]at x3;clear hown hgrow bR ah dO HS HE HW;go_wp2
 go_loopw [18] (λi wr=>∃(k:Nat)(Q:Nat->List Tm),k<=x.kn/\i=.int .i64 k/\w.heap.size+4<=wr.heap.size/\Hid (Kids (Mx M w.heap.size (w.heap.size+4)) wr E' (w.heap.size+3) x.kn (λi=>if i<k then Q i else[]))/\Hid (∀i,i<k->NN (Q i)/\af (aC (Q i) r) (P i)/\aF (aB (Q i))<=A1)/\Hid (Ext w wr)/\Hid (jo w.heap.size x y wr)/\Hid (au wr (w.heap.size+2) 42 4 (arr zA))) (λi _=>x.kn-(intOf i).toNat)
 case atStart=>exact⟨0,λ_=>[],bu _,rfl,dI,l6.out.congr λi _=>by rw[aj (by omega)];exact af.refl _,λi hi=>absurd hi (Nat.not_lt_zero _),aP,j5,bS⟩
 case round=>
  clear l6 aP j5 bS x0 x1 x2 x3 dI;obtain⟨k,Q,hk,rfl,hsz,HK,HQ,bM,vN,iO⟩:=hrel
  by_cases hlt:k<x.kn
  ·obtain⟨c,hc,GU⟩:=yn.out k hlt;obtain⟨c0,c1,c2,c3⟩:=hc.ext hb bM.out;have gD:b<wr.heap.size:=bB hb bM.out.size;obtain⟨_,y0,y1,y2,y3⟩:=vN.out;have aQ:=(ai wr).alloc (.cells (ag c) 42)
   have wE:(k:Int)<(x.kn:Int):=by omega
   have hw1:w.heap.size+1<wr.heap.size:=by omega
   have wH:w.heap.size<wr.heap.size:=by omega
   have aJ:=ae (GU (Mx M w.heap.size (w.heap.size+4)) _ (Mx.mb (k:=w.heap.size+4) fQ.out (bM.out.trans aQ).size (by simp;omega)) (Mx.more (aA _)) (bM.out.trans aQ));have ek:=ae aQ;clear GU aQ hc iH jN iN iZ jV;go_wp2_with (fail);refine(aJ.out).mono ?_;rintro e w4 ⟨v,ok,rfl,hR,bg⟩;have aU:=ek.out.trans bg;have KW:=aU.size
   cases ok with
   |false=>
    have uD:=ae (jQ.out k hlt (hR.2 rfl));obtain⟨⟨q0,q1,q2,q3⟩,⟨f0,f1,f2,f3⟩,⟨r0,r1,r2,r3⟩,HF⟩:=gI (M:=M) (M':=Mx M w.heap.size (w.heap.size+3)) (w:=w) (L:=0) (l:=[]) (y:=PE.z) ((iO.out.ext aU).ext ((ai w4).alloc (.cells (ag v) 42))) (Mx.at (by omega)) (by omega) ((bM.out.trans aU).trans ((ai w4).alloc (.cells (ag v) 42))) (CR.zero _ _ 0) Mx.sub;have bQ:=ae (HF.out.Nk (L:=E'+1) (A:=A2) uD.out);simp only[PE.z]at r0 r1 r2 r3
    have iy:w.heap.size+2<(w4.alloc (.cells (ag v) 42)).heap.size:=by simp;omega
    clear HF hR bg aU uD c0 c1 c2 c3 y0 y1 y2 y3 aJ HK HQ bM vN iO yn vL wT jQ ek
    go_upto_region 6 with(fail)
    generalize w4.alloc (.cells (ag v) 42)=W5 at*;clear KW hw1 wH gD;go_wp2;exact aV (v:=.tuple #[.agg (ag PE.z),.bool false]) (by simp[results,Tryz.results132,go_sem,r0,r1,r2,r3,PE.z]) rfl bQ.out
   |true=>
    obtain⟨q,hq1,hq2,wF⟩:=hR.1 rfl;have nU:=(ai w4).alloc (.cells (ag v) 42);have fM:=aU.trans nU;have Oh:=hq1.ext nU;have Xa:P4 (w4.alloc (.cells (ag v) 42)) w4.heap.size v:=(au.aO w4 (ag v) 42 4 rfl).p4
    have Dt:(w4.alloc (.cells (ag v) 42)).heap.size=w4.heap.size+1:=by simp
    have kZ:=ae fM;have P9:=ae (And.intro Oh (And.intro hq2 wF));have jH:=hq1.nn;clear hR bg aU fM nU hq1 hq2 wF Oh aJ yn vL wT jQ ek c0 c1 c2 c3 y0 y1 y2 y3
    go_upto_region 6 with(fail)
    generalize w4.alloc (.cells (ag v) 42)=W5 at*;obtain⟨v0,v1,v2,v3⟩:=Xa;have fJ:=HK.out.ext kZ.out;obtain⟨⟨_,k0⟩,⟨_,k1⟩,⟨_,k2⟩,⟨_,k3⟩,bn,jh⟩:=fJ.at k hlt;have jw:=bn (k*4);have ku:=bn (k*4+1);have kv:=bn (k*4+2);have oU:=bn (k*4+3);have NB:=fJ.set (Mx.at (by omega)) k hlt P9.out.1;have hEs:=(bM.out.trans kZ.out).aD (g:=w.heap.size+3) (by omega) (k*4) (.int .i64 v.lv) (.bool v.b) (.slice v.a v.n v.p) (.slice v.ka v.kn v.kp);have hBs:=(iO.out.ext kZ.out).of_heap (fD W5 (w.heap.size+3) (k*4) (.int .i64 v.lv) (.bool v.b) (.slice v.a v.n v.p) (.slice v.ka v.kn v.kp) (w.heap.size+2) (by omega));have hSs:jo w.heap.size x y (aD W5 (w.heap.size+3) (k*4) (.int .i64 v.lv) (.bool v.b) (.slice v.a v.n v.p) (.slice v.ka v.kn v.kp)):=⟨p9 (vN.out.1.ext kZ.out) (fD _ _ _ _ _ _ _ _ (by omega)),p9 (vN.out.2.ext kZ.out) (fD _ _ _ _ _ _ _ _ (by omega))⟩
    have Ih:w.heap.size+4<=(aD W5 (w.heap.size+3) (k*4) (.int .i64 v.lv) (.bool v.b) (.slice v.a v.n v.p) (.slice v.ka v.kn v.kp)).heap.size:=by rw[kN];omega
    have nH:Hid (∀i,i<k+1->NN (snoc Q k q i)/\af (aC (snoc Q k q i) r) (P i)/\aF (aB (snoc Q k q i))<=A1):=λi hi=>by
     by_cases fe:i=k
     ·subst fe;rw[jC];exact⟨jH,P9.out.2⟩
     ·rw[j4 _ _ _ _ (by omega)];exact HQ.out i (by omega)
    have nD:Hid (Kids (Mx M w.heap.size (w.heap.size+4)) (aD W5 (w.heap.size+3) (k*4) (.int .i64 v.lv) (.bool v.b) (.slice v.a v.n v.p) (.slice v.ka v.kn v.kp)) E' (w.heap.size+3) x.kn (λi=>if i<k+1 then snoc Q k q i else[])):=by
     refine NB.congr λi _=>?_
     by_cases fe:i=k
     ·subst fe;rw[av rfl,av (by omega),jC];exact af.refl _
     ·rw[aj fe]
      by_cases h3:i<k
      ·rw[av h3,av (by omega),j4 _ _ _ _ h3];exact af.refl _
      ·rw[aj h3,aj (by omega)];exact af.refl _
    have cZ:=ae hEs;have mM:=ae hBs;have mo:=ae hSs;have uG:=ae Ih
    have jW:w.heap.size+3<W5.heap.size:=by omega
    have Ia:w4.heap.size<W5.heap.size:=by omega
    clear fJ NB hEs hBs hSs Ih bn HK HQ bM vN iO P9 kZ Dt KW wH hw1 gD;go_wp2
    go_roundw
    case rel=>exact⟨k+1,snoc Q k q,by omega,by go_num,uG.out,nD,nH,cZ,mo,mM⟩
    case measure=>simp[intOf];omega
  ·obtain rfl:k=x.kn:=by omega
   obtain⟨⟨x0,_⟩,_⟩:=vN.out;rw[iH]at x0
   have jA:dP (Mx M w.heap.size (w.heap.size+3)) wr E' (.slice (some ⟨w.heap.size+3,0,none⟩) x.kn x.kn) x.kn Q:=(HK.out.Xz (λg hg=>.inl (hg.imp id λh=>by omega)) (λhh=>hh.elim (fQ.out.new (by omega)) (by omega)) dY).congr λi hi=>by rw[av hi];exact af.refl _
   have aJ:=ae (qe6 (S:=fT B C) (A:=A1) wr (Mx.mb fQ.out bM.out.size (by omega)) jA gB (λi hi=>wT.out i hi _ (HQ.out i hi).1 (HQ.out i hi).2.1) WE hOk.2.1 ER (λi hi=>(HQ.out i hi).2.2) (by omega));have Jl:=ae (vL.out Q λi hi=>(HQ.out i hi).2.1);have tF:Hid (aF (aB (aM (E'+1) x.kn Q))<=A2):=aK (XV (A:=A1) (by omega) λi hi=>(HQ.out i hi).2.2) J7;clear jA yn HK wT jQ vL HQ iH jN iN iZ jV hlt hOk;go_wp2_with (fail);refine aJ.out.mono ?_;rintro e w5 ⟨v,rfl,hv,aU⟩;obtain⟨⟨q0,q1,q2,q3⟩,⟨f0,f1,f2,f3⟩,⟨r0,r1,r2,r3⟩,HF⟩:=gI (M:=M) (w:=w) (iO.out.ext aU) (Mx.at (by omega)) (by omega) (bM.out.trans aU) hv Mx.sub;have bQ:=ae (HF.out.QY Jl.out tF.out);clear HF aU hv aJ x0 Jl tF;go_wp2;exact aV (v:=.tuple #[.agg (ag v),.bool true]) (by simp[results,Tryz.results132,go_sem,r0,r1,r2,r3]) rfl bQ.out
abbrev cB(l:List Tm):List Tm:=aC l [(-1,Mo.zero)]
theorem zt(l:List Tm)(m:Mo):aH (cB l) m= -aH l m:=by
 rw[OP l _ m,IC,mO];show(-1:Int)*_=_;omega
theorem OG(l:List Tm):aB (cB l)=aB l:=by rw[DN,qfe];show _*1=_;omega
theorem OE{B:Nat}{l:List Tm}(h:bE B l):bE B (cB l):=λm hm k=>h m (λh0=>hm (by rw[zt,h0];rfl)) k
theorem oq{l:List Tm}(h:NN l):NN (cB l):=λm hm=>by rw[zt,h m hm];rfl
theorem NN.append{l r:List Tm}(h:NN l)(k:NN r):NN (l++r):=λm hm=>by rw[iJ,h m hm,k m hm];rfl
theorem NN.nil:NN []:=λ_ _=>rfl
theorem NN.shift{l:List Tm}(h:NN l){k i:Nat}:NN (shift (xp k (i:Int)) l):=λm hm=>by
 rw[xC];refine h _ ?_
 cases hc:(Mo.sub m (xp k (i:Int))).nn with
 |false=>rfl
 |true=>
  rw[Mo.uZ]at hc
  have:m.nn=true:=by
   rw[Mo.uZ];have g1:(Mo.sub m (xp k (i:Int))).a=m.a-(if k=1 then(i:Int)else 0):=rfl;have g2:(Mo.sub m (xp k (i:Int))).b=m.b-(if k=2 then(i:Int)else 0):=rfl;have g3:(Mo.sub m (xp k (i:Int))).c=m.c-(if k=3 then(i:Int)else 0):=rfl;have g4:(Mo.sub m (xp k (i:Int))).d=m.d-(if k=4 then(i:Int)else 0):=rfl;rw[g1,g2,g3,g4]at hc
   have f:∀P:Prop,[Decidable P]->(0:Int)<=(if P then(i:Int)else 0):=λP _=>by split<;>omega
   have:=f (k=1);have:=f (k=2);have:=f (k=3);have:=f (k=4);omega
  rw[hm]at this;cases this
theorem NN.aM{L:Nat}{P:Nat->List Tm}:∀{n:Nat},(∀i,i<n->NN (P i))->NN (aM L n P)
 |0,_=>NN.nil
 |n+1,h=>by rw[gF];exact(NN.aM λi hi=>h i (by omega)).append (h n (by omega)).shift
theorem qfm(L:Nat)(P Q:Nat->List Tm):∀n,af (aM L n λi=>P i++Q i) (aM L n P++aM L n Q)
 |0=>af.refl _
 |n+1=>λm=>by
  have ih:=qfm L P Q n m;simp only[gF,iJ,Yg]at ih⊢;omega
theorem Tz{L:Nat}{P:Nat->List Tm}:∀{n:Nat},(∀i,i<n->af (P i) [])->af (aM L n P) []
 |0,_=>af.refl _
 |n+1,h=>by
  rw[gF];exact(Tz λi hi=>h i (by omega)).append ((h n (by omega)).shift _)
theorem qES(L i j:Nat):Mo.add (xp L (i:Int)) (xp L (j:Int))=xp L ((j+i:Nat):Int):=Mo.ext_get λk _ _=>by
 rw[iL]
 by_cases h:1<=L/\L<=4
 ·rw[gM _ _ _ h.1 h.2,gM _ _ _ h.1 h.2,gM _ _ _ h.1 h.2];split<;>omega
 ·have h0:∀i:Int,xp L i=Mo.zero:=λi=>by
   simp only[xp,Mo.zero,Mo.mk.injEq];refine⟨aj (by omega),aj (by omega),aj (by omega),aj (by omega)⟩
  rw[h0,h0,h0]
  have h1:Mo.zero.get k=0:=by simp only[Mo.get,Mo.zero];repeat(first|rfl|split)
  omega
theorem qfq(L k:Nat)(c:List Tm)(G:Nat->List Tm):∀n,af (aC (shift (xp L (k:Int)) c) (aM L n G)) (aM L (k+n) λi=>if k<=i then aC c (G (i-k))else[])
 |0=>by
  rw[Fw,XT];exact(Tz λi hi=>by rw[aj (by omega)];exact af.refl _).symm
 |n+1=>by
  rw[gF,show k+(n+1)=(k+n)+1 by omega,gF,av (by omega),show k+n-k=n by omega];refine(af.qp3 _ _ _).trans ((qfq L k c G n).append ?_);refine(OO _ _ _).trans (((qp5 _ _ _).shift _).trans ?_);rw[qfP,qES];exact af.refl _
def rj(k:Nat)(c:List Tm)(G R:Nat->List Tm)(j:Nat)(i:Nat):List Tm:=if k<=i/\i<k+j then R i++cB (aC c (G (i-k)))else R i
theorem qCw(k:Nat)(c:List Tm)(G R:Nat->List Tm)(i:Nat):rj k c G R 0 i=R i:=aj (by omega)
theorem qCu(k:Nat)(c:List Tm)(G R:Nat->List Tm)(j:Nat):rj k c G R j (k+j)=R (k+j):=aj (by omega)
theorem qCv(k:Nat)(c:List Tm)(G R:Nat->List Tm)(j i:Nat):rj k c G R (j+1) i=if i=k+j then R (k+j)++cB (aC c (G j))else rj k c G R j i:=by
 unfold rj
 by_cases h:i=k+j
 ·subst h;rw[av (by omega),av rfl,show k+j-k=j by omega]
 ·rw[aj h]
  by_cases h2:k<=i/\i<k+j
  ·rw[av h2,av (by omega)]
  ·rw[aj h2,aj (by omega)]
def vI(D n K B C A X g:Nat)(l r:List Tm)(k:Nat)(R Q:Nat->List Tm):Prop:=
 af l (aC (aM (D+1) K λi=>if k<=i then Q i else[]) r++aM (D+1) (n+k) R)/\
 (∀i,i<n+k->bE (B+(K-k)*C) (R i)/\aF (aB (R i))<=A+(K-k)*((X+1)*(g+2)))/\
 (∀i,k<=i->i<K->NN (Q i)/\bE (B+(K-k)*C) (Q i)/\aF (aB (Q i))<=A+(K-k)*((X+1)*(g+2)))
theorem vI.start{D n K B C A X g:Nat}{l r:List Tm}{R Q:Nat->List Tm}(hs:af (aM (D+1) (n+K) R) l)(h:∀i,i<n+K->bE B (R i)/\aF (aB (R i))<=A):vI D n K B C A X g l r K R Q:=by
 refine⟨?_,λi hi=>?_,λi h1 h2=>by omega⟩
 ·have h0:af (aM (D+1) K λi=>if K<=i then Q i else[]) []:=Tz λi hi=>by rw[aj (by omega)];exact af.refl _
  exact hs.symm.trans ((h0.qN r).symm.append (af.refl (aM (D+1) (n+K) R)))
 ·rw[Nat.sub_self,Nat.zero_mul,Nat.zero_mul];exact h i hi
theorem vI.no{D n K B C A X g:Nat}{l r:List Tm}{k:Nat}{R Q G T:Nat->List Tm}(h:vI D n K B C A X g l r (k+1) R Q)(hD:D+1<=4)(hG:∀i,i<n+1->dV D (G i))(hz:¬af (G n) [])(hr:af (aM (D+1) (n+1) G) r)(hN:NN r)(hT:∀i,i<n+k+1->af (T i) (R i)/\dV D (T i))(hn:¬Dv (G n) (R (n+k))):¬Dv r l:=λhd=>hn (by
 obtain⟨h1,_,h3⟩:=h
 obtain⟨q,hq,hs⟩:=hd.rest (NN.aM (n:=K) λi hi=>by
  by_cases hk:k+1<=i
  ·rw[av hk];exact(h3 i hk hi).1
  ·rw[aj hk];exact NN.nil) h1
 have:=qvt hD hG hz (hN.bP hr.symm) hq (R:=T) (k:=k) (λi hi=>(hT i hi).2) ((hr.vg q).trans (hs.trans (qO _ _ _ _ λi hi=>(hT i hi).1.symm)))
 exact this.bP (af.refl _) (hT _ (by omega)).1)
theorem vI.qvL{D n K B C A X g:Nat}{l r:List Tm}{R Q G T:Nat->List Tm}(h:vI D n K B C A X g l r 0 R Q)(hD:D+1<=4)(hG:∀i,i<n+1->dV D (G i))(hz:¬af (G n) [])(hr:af (aM (D+1) (n+1) G) r)(hN:NN r)(hT:∀i,i<n->af (T i) (R i)/\dV D (T i))(hn:¬af (aM (D+1) n R) []):¬Dv r l:=λhd=>hn (by
 obtain⟨h1,_,h3⟩:=h;obtain⟨q,hq,hs⟩:=hd.rest (NN.aM (n:=K) λi hi=>by rw[av (bu _)];exact(h3 i (bu _) hi).1) h1;have hpT:af (aM (D+1) n T) (aM (D+1) n R):=qO _ _ _ _ λi hi=>(hT i hi).1
 exact hpT.symm.trans (qjV hD hG hz (hN.bP hr.symm) hq (aA n) (λi hi=>(hT i hi).2) ((hr.vg q).trans (hs.trans hpT.symm))))
theorem vI.qvM{D n K B C A X g:Nat}{l r:List Tm}{R Q:Nat->List Tm}(h:vI D n K B C A X g l r 0 R Q)(hn:af (aM (D+1) n R) []):af (aC (aM (D+1) K Q) r) l:=by
 have h1:=h.1;have h2:aM (D+1) K (λi=>if 0<=i then Q i else[])=aM (D+1) K Q:=OQ _ _ _ _ λi _=>av (bu _);rw[h2]at h1;refine af.symm (h1.trans (λm=>?_));rw[iJ,show aM (D+1) (n+0) R=aM (D+1) n R from rfl,hn m];simp[aH]
theorem vI.step{D n K B C A X g:Nat}{l r:List Tm}{k:Nat}{R Q G:Nat->List Tm}(h:vI D n K B C A X g l r (k+1) R Q)(hk:k<K){c:List Tm}(hr:af (aM (D+1) (n+1) G) r)(hGd:∀i,i<n->bE C (G i)/\aF (aB (G i))<=g)(hc:NN c)(Rz:bE (B+(K-(k+1))*C) c)(hcs:af (aC c (G n)) (R (n+k)))(nZ:aF (aB c)<=A+(K-(k+1))*((X+1)*(g+2))+X*(g+2)):
 vI D n K B C A X g l r k (rj k c G R n) (λi=>if i=k then c else Q i):=by
 obtain⟨h1,h2,h3⟩:=h
 have e1:(K-k)*C=(K-(k+1))*C+C:=by
  rw[show K-k=(K-(k+1))+1 by omega,Nat.add_mul,Nat.one_mul]
 have e2:(K-k)*((X+1)*(g+2))=(K-(k+1))*((X+1)*(g+2))+(X*(g+2)+(g+2)):=by
  rw[show K-k=(K-(k+1))+1 by omega,Nat.add_mul,Nat.one_mul,Nat.add_mul X 1,Nat.one_mul]
 generalize (K-(k+1))*((X+1)*(g+2))=u at*;generalize (K-(k+1))*C=v at*;refine⟨?_,λi hi=>?_,λi hi hiK=>?_⟩
 ·have hQ:af (aM (D+1) K λi=>if k<=i then(if i=k then c else Q i)else[]) (aM (D+1) K (λi=>if k+1<=i then Q i else[])++shift (xp (D+1) (k:Int)) c):=by
   refine(XW hk (F':=λi=>if k<=i then(if i=k then c else Q i)else[]) (F:=λi=>if k+1<=i then Q i else[]) (l:=c) (λi hi fe=>?_) ?_).1
   ·by_cases h5:k<=i
    ·rw[av h5,aj fe,av (by omega)]
    ·rw[aj h5,aj (by omega)]
   ·show(if k<=k then(if k=k then c else Q k)else[])=(if k+1<=k then Q k else[])++c;rw[av (aA _),av rfl,aj (by omega)];rfl
  have hU:=((hr.symm.vg (shift (xp (D+1) (k:Int)) c))).trans (qfq (D+1) k c G (n+1))
  have hU2:af (aM (D+1) (k+(n+1)) λi=>if k<=i then aC c (G (i-k))else[]) (aM (D+1) (n+k) (λi=>if k<=i then aC c (G (i-k))else[])++shift (xp (D+1) ((n+k:Nat):Int)) (R (n+k))):=by
   rw[show k+(n+1)=(n+k)+1 by omega,gF,av (by omega),show n+k-k=n by omega];exact(af.refl _).append (hcs.shift _)
  have hR:af (aM (D+1) (n+k) (rj k c G R n)) (aM (D+1) (n+k) R++cB (aM (D+1) (n+k) λi=>if k<=i then aC c (G (i-k))else[])):=by
   refine af.trans (qO _ _ _ (λi=>R i++cB (if k<=i then aC c (G (i-k))else[])) λi hi=>?_) ((qfm _ _ _ _).trans ((af.refl _).append (Tx _ _ _ _)));unfold rj
   by_cases h5:k<=i
   ·rw[av (by omega),av h5];exact af.refl _
   ·rw[aj (by omega),aj h5];intro m;rw[iJ,zt];simp[aH]
  intro m;have a1:=h1 m;have a2:=(hQ.qN r) m;have a3:=(hU.trans hU2) m;have a4:=hR m;rw[show n+(k+1)=(n+k)+1 by omega,gF]at a1;rw[Ir]at a2;simp only[iJ,zt]at a1 a2 a3 a4⊢;omega
 ·rw[e1,e2];obtain⟨g1,g2⟩:=h2 i (by omega);unfold rj
  split
  ·rename_i h5;obtain⟨p1,p2⟩:=hGd (i-k) (by omega);refine⟨(g1.mono (by omega)).append (OE ((bE.aC Rz p1 hc).mono (by omega))),?_⟩;rw[kK,OG,DN];have q1:=Gt (aB (R i)) (aB c*aB (G (i-k)));have q2:=nN (aB c) (aB (G (i-k)));omega
  ·exact⟨g1.mono (by omega),by omega⟩
 ·rw[e1,e2];simp only
  by_cases fe:i=k
  ·rw[av fe];exact⟨hc,Rz.mono (by omega),by omega⟩
  ·rw[aj fe];obtain⟨p0,p1,p2⟩:=h3 i (by omega) hiK;exact⟨p0,p1.mono (by omega),by omega⟩
theorem qCQ(P:Program)(w:World)(dT sT ty elem:TypeId)(g o Gs Cw:Nat)(a:Addr)(IB DV:Nat)(cur:Array Value)(t:TypeId)(cs:List Value)(k:Nat)
 (hu:P.underlying dT=some (.slice elem)) (hs:(P.info? elem).map (·.size)=some k)
 (hg:w.heap[g]?=some (.cells cur t (0,0))) (hn:cs.length=Nat.min IB Gs*k)
 (Dw:∀j v,cs[j]?=some v->w.cell? (a.add j)=some v) (G5:o+cs.length<=cur.size) (h1:∀v∈cs,v.oneCell'=true):
 (Builtin.copy_ #[dT,sT] ty #[.slice (some ⟨g,o,none⟩) Gs Cw,.slice (some a) IB DV]).run P w=
  .ok (goInt (Nat.min IB Gs)) (w.setRow g (cur.toList.take o++cs++cur.toList.drop (o+cs.length)).toArray):=by
 have hl:=run_loadCells_list (P:=P) w a cs Dw;have iw:=run_storeCells_at P g o t cs 0 cur w hg (by simpa using G5) h1
 cases hq:P.info? elem with
 |none=>simp[hq]at hs
 |some i=>
  have hi:i.size=k:=by simpa[hq]using hs
  simp[Builtin.copy_,run_underlying hu,Builtin.lenOf,Builtin.firstCells,sizeOf,typeInfo,hq,hi, <-hn,hl,iw]
theorem qEL{P:Program}{w:World}{ops:Array Oper}{rest:List Oper}{o:Oper}{a:Act}{Q:Exit->Act->World->Prop}(jc:o.guard=none)(d s:Operand)(dT sT:TypeId)
 (ho:o.op=.call {callee:=.builtin .copy,args:= #[d,s],argTypes:= #[dT,sT]}) (elem:TypeId) (hu:P.underlying dT=some (.slice elem)) (z:Nat) (hsz:(P.info? elem).map (·.size)=some z)
 (N Cw DV:Nat) (g b off:Nat) (hd:a.eval d=.slice (some ⟨g,0,none⟩) N Cw) (hs:a.eval s=.slice (some ⟨b,off,none⟩) N DV)
 (t:TypeId) (f:Nat->Value) (hB:au w g t (N*z) f) (src:Nat->Value) (Dw:∀j,j<N*z->w.cell? ⟨b,off+j,none⟩=some (src j))
 (h1:∀j,j<N*z->(src j).oneCell'=true)
 (h:∀w',au w' g t (N*z) (over f 0 (N*z) src)->w.grownBy w' (some g)->wpList P ops Q rest (a.put o.dst (goInt N)) w'):
 wpList P ops Q (o::rest) a w:=by
 obtain⟨cur,hg,hcs,hb⟩:=hB.splice 0 (N*z) src (by omega);refine wpList_plain jc λK hK=>?_;have hmin:Nat.min N N=N:=Nat.min_self N
 have hrun:=qCQ P w dT sT o.type elem g 0 N Cw ⟨b,off,none⟩ N DV cur t ((List.range (N*z)).map src) z hu hsz hg (by rw[hmin];simp) (λj v hv=>by
  simp only[List.getElem?_map,Option.map_eq_some_iff]at hv;obtain⟨x,hx,rfl⟩:=hv;have hlt:=(List.getElem?_eq_some_iff.1 hx).1;simp only[List.length_range]at hlt;rw[List.getElem?_range hlt]at hx;cases hx
  rw[Cn];exact Dw j hlt) (by simp;omega) (λv hv=>by
  simp only[List.mem_map,List.mem_range]at hv;obtain⟨j,hj,rfl⟩:=hv
  exact h1 j hj)
 rw[hmin]at hrun;unfold Oper.wp;simp only[execOp,ho,resolve,invoke,builtin,Sem.run_bind,Sem.run_pure,List.map_toArray,List.map_cons,List.map_nil,hd,hs,hrun,Result.andThen_ok];refine hK _ _ (h _ ?_ ?_)
 ·simp only[List.append_assoc]at hb⊢;exact hb
 ·exact qb8 _ _ _
theorem Kids.qBh{M:Nat->Prop}{w:World}{D g N:Nat}{xx:Nat->PE}{P:Nat->List Tm}{f:Nat->Value}(hB:au w g 42 (N*4) f)(hf:∀j,j<N*4->f j=px xx j)(h:∀i,i<N->aG M w D (xx i) (P i)):Kids M w D g N P:=
 ⟨f,hB,λi hi=>by rw[hf _ (by omega),hf _ (by omega),hf _ (by omega),hf _ (by omega),Fx,Fy,Fz,FB];exact h i hi⟩
theorem qB9{w:World}{b off N:Nat}{xx:Nat->PE}(h:∀i,i<N->eF w b (off+i*4) (xx i))(j:Nat)(hj:j<N*4):w.cell? ⟨b,off+j,none⟩=some (px xx j):=by
 obtain⟨i,r,rfl,hr⟩:∃i r,j=i*4+r/\r<4:=⟨j/4,j%4,by omega,by omega⟩;obtain⟨h0,h1,h2,h3⟩:=h i (by omega)
 match r,hr with
 |0,_=>rw[Nat.add_zero,Fx];exact h0
 |1,_=>rw[Fy, <-Nat.add_assoc];exact h1
 |2,_=>rw[Fz, <-Nat.add_assoc];exact h2
 |3,_=>rw[FB, <-Nat.add_assoc];exact h3
theorem qCb(xx:Nat->PE)(j:Nat):(px xx j).oneCell'=true:=by
 unfold px
 split
 ·rfl
 ·split
  ·rfl
  ·split<;>rfl
theorem Kids.cells{M:Nat->Prop}{w:World}{D g N:Nat}{P:Nat->List Tm}(h:Kids M w D g N P)(i:Nat)(hi:i<N):∃y:PE,eF w g (i*4) y/\aG M w D y (P i):=by
 obtain⟨f,hB,hc⟩:=h;obtain⟨x,e0,e1,e2,e3,hx,_⟩:=(hc i hi).pe;refine⟨x,⟨?_,?_,?_,?_⟩,hx⟩
 ·rw[hB.cell (by omega),e0]
 ·rw[hB.cell (by omega),e1]
 ·rw[hB.cell (by omega),e2]
 ·rw[hB.cell (by omega),e3]
theorem dV.aC{L:Nat}{l r:List Tm}(h:dV L l)(k:dV L r):dV L (aC l r):=by
 induction l with
 |nil=>intro t ht;cases ht
 |cons s l ih=>
  intro t ht j hj AR;simp only[Go.Proofs.YtaafefeafonhdaaGreat.aC,List.mem_append]at ht;rcases ht with h1|h1
  ·simp only[shift,smul,List.mem_map,List.map_map]at h1;obtain⟨u,hu,rfl⟩:=h1;show(Mo.add _ _).get j=0;simp only[iL,h s (List.mem_cons_self ..) j hj AR];have:=k u hu j hj AR;simp[this]
  ·exact ih (λt ht=>h t (List.mem_cons_of_mem _ ht)) t h1 j hj AR
theorem qAb(L:Nat)(z:Int):dV L [(z,Mo.zero)]:=(qe1 z).mono (bu _)
theorem aG.XF{M:Nat->Prop}{w:World}{L:Nat}{x:PE}{l:List Tm}(h:aG M w L x l):∃T,af T l/\dV L T:=by
 obtain⟨T,h1,h2⟩:=h.qe0;exact⟨T,h1,λt ht k hk rA=>h2 t ht k (by have:=h.jY;omega) rA⟩
end Go.Proofs.YtaafefeafonhdaaGreat
