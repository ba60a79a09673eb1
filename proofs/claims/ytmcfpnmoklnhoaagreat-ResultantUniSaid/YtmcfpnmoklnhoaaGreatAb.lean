/- Ab -/
import Derived.Test.YtmcfpnmoklnhoaaGreatNr
import Derived.Test.YtmcfpnmoklnhoaaGreatMi
set_option linter.unusedVariables false
set_option linter.unusedSimpArgs false
namespace Go.Proofs.YtmcfpnmoklnhoaaGreat
def mM(f:Mo->Int × Mo)(l:List Tm):List Tm:=l.map λt=>(t.1*(f t.2).1,(f t.2).2)
theorem SQ(f:Mo->Int × Mo)(l r:List Tm):mM f (l++r)=mM f l++mM f r:=by simp[mM]
theorem qyS(f:Mo->Int × Mo)(c:Int)(l:List Tm):mM f (smul c l)=smul c (mM f l):=by
 simp[mM,smul,List.map_map,Function.comp_def,Int.mul_assoc]
theorem qog{f:Mo->Int × Mo}{m0:Mo}:∀{l:List Tm},(∀t∈l,t.2=m0)->∀q,aL (mM f l) q=if(f m0).2=q then aL l m0*(f m0).1 else 0
 |[],_,q=>by simp[mM,aL]
 |t::l,h,q=>by
  have ht:=h t List.mem_cons_self;have ih:=qog (f:=f) (λs hs=>h s (List.mem_cons_of_mem _ hs)) q;show(if(f t.2).2=q then t.1*(f t.2).1 else 0)+aL (mM f l) q=_;rw[ih,ht];simp only[aL];rw[ai ht]
  split
  ·rw[Int.add_mul]
  ·rfl
theorem qoh(f:Mo->Int × Mo):∀(n:Nat)(l:List Tm),l.length<=n->af l []->af (mM f l) []
 |_,[],_,_=>λ_=>rfl
 |0,t::l,h,_=>by simp at h
 |n+1,t::l,h,hs=>by
  have hp:=List.filter_append_perm (λs:Tm=>decide (s.2≠t.2)) (t::l)
  have h1:=qoh f n ((t::l).filter λs=>decide (s.2≠t.2)) (by
   rw[List.filter_cons_of_neg (by simp)];have:=List.length_filter_le (λs:Tm=>decide (s.2≠t.2)) l;simp only[List.length_cons]at h
   omega) (λm=>by
    rw[qba]
    split
    ·rfl
    ·exact hs m)
  have h2:∀q,aL (mM f ((t::l).filter λs=> !decide (s.2≠t.2))) q=0:=λq=>by
   rw[qog (m0:=t.2) (λs hs=>by simpa using(List.mem_filter.1 hs).2)]
   have h3:aL ((t::l).filter λs=> !decide (s.2≠t.2)) t.2=0:=by
    have h4:=qbb hp t.2;rw[iZ,qba,ai rfl,Int.zero_add]at h4;rw[h4];exact hs t.2
   rw[h3,Int.zero_mul,ite_self]
  intro q;have h5:(mM f ((t::l).filter (λs=>decide (s.2≠t.2))++(t::l).filter (λs=> !decide (s.2≠t.2)))).Perm (mM f (t::l)):=hp.map _;rw[<-qbb h5 q,SQ,iZ,h1 q,h2 q];rfl
theorem af.mM{l r:List Tm}(h:af l r)(f:Mo->Int × Mo):af (mM f l) (mM f r):=λq=>by
 have:=qoh f _ (l++Go.Proofs.YtmcfpnmoklnhoaaGreat.smul (-1) r) (aI _) (λm=>by rw[iZ,iM,h m];show _=(0:Int);omega) q;rw[SQ,qyS,iZ,iM]at this;have e:aL ([]:List Tm) q=0:=rfl;rw[e]at this;omega
def wo(L:Nat)(m:Mo):Mo:=Mo.sub m (xp L (m.get L))
theorem Kl{L:Nat}(h1:1<=L)(h4:L<=4)(m:Mo)(k:Nat):(wo L m).get k=if k=L then 0 else m.get k:=by
 unfold wo;rw[sZ,eQ L k _ h1 h4]
 split
 ·rename_i h;subst h;omega
 ·omega
def hL(u d:Int)(P:Nat->List Tm)(m:Nat):Nat->List Tm
 |0=>P m
 |k+1=>smul u (hL u d P m k)++smul (d^(k+1)) (P (m-1-k))
theorem qof{f:Mo->Int × Mo}{K:Nat}:∀{l:List Tm},(∀t∈l,(f t.2).1.natAbs<=K)->aK (mM f l)<=aK l*K
 |[],_=>by simp[mM,aK]
 |t::l,h=>by
  have ih:=qof (f:=f) (K:=K) (l:=l) λs hs=>h s (List.mem_cons_of_mem _ hs);have h1:=h t List.mem_cons_self;show(t.1*(f t.2).1).natAbs+aK (mM f l)<=(t.1.natAbs+aK l)*K;rw[Int.natAbs_mul,Nat.add_mul];have:=Nat.mul_le_mul_left t.1.natAbs h1;omega
def put(L:Nat)(x:Rat)(a:Nat->Rat):Nat->Rat:=λi=>if i=L-1 then x else a i
end Go.Proofs.YtmcfpnmoklnhoaaGreat
namespace Go.Proofs.YtmcfpnmoklnhoaaGreat
open Go.RowKit
def bE(L:Nat)(l:List Tm)(n:Nat):Prop:=(∀m,aL l m≠0->m.get L<=n)/\(n=0\/∃m,aL l m≠0/\m.get L=n)
theorem bE.dh{L n:Nat}{l r:List Tm}(h:bE L l n)(hs:af l r):bE L r n:=
 ⟨λm hm=>h.1 m (by rw[hs m];exact hm),h.2.imp id λ⟨m,h1,h2⟩=>⟨m,by rw[<-hs m];exact h1,h2⟩⟩
theorem aN.qoi{M:Nat->Prop}{w:World}{L:Nat}{x:PE}{l:List Tm}(h:aN M w L x l)(m:Mo)(hm:aL l m≠0)(k:Nat)(hk:x.lv<k)(mI:k<=4):m.get k=0:=by
 obtain⟨t,h1,h2,h3,h4⟩:=h;obtain⟨e0,_⟩:=h1.form;simp only[Value.int.injEq,true_and]at e0;have hl:=Kc _ t h2;have h0:=ES h2;refine eF λhc=>hm ?_;rw[<-h4 m];exact hl.vw (k:=k) (by show t.1.toNat<k;omega) mI hc
def MG(L:Nat)(P:Nat->List Tm)(k n:Nat):Prop:=(∀i,i<k->∀m,aL (P i) m≠0->m.get L<=n)/\(n=0\/∃i m,i<k/\aL (P i) m≠0/\m.get L=n)
theorem MG.step{L:Nat}{P:Nat->List Tm}{k n j:Nat}(h:MG L P k n)(hj:bE L (P k) j):MG L P (k+1) (max n j):=by
 refine⟨λi hi m hm=>?_,?_⟩
 ·by_cases h1:i=k
  ·subst h1;have:=hj.1 m hm;omega
  ·have:=h.1 i (by omega) m hm;omega
 ·by_cases h1:n<=j
  ·rw[Nat.max_eq_right h1];exact hj.2.imp id λ⟨m,h2,h3⟩=>⟨k,m,by omega,h2,h3⟩
  ·rw[Nat.max_eq_left (by omega)];exact h.2.imp id λ⟨i,m,h2,h3,h4⟩=>⟨i,m,by omega,h3,h4⟩
theorem qpl{D n:Nat}{P:Nat->List Tm}(hD:D+1<=4)(dB:∀i,i<n->eH D (P i)){m:Mo}(hm:aL (aQ (D+1) n P) m≠0):∃e:Nat,e<n/\m.get (D+1)=e/\aL (P e) (Mo.sub m (xp (D+1) (e:Int)))≠0:=by
 have h0:0<=m.get (D+1):=eF λhc=>hm (qbd (D+1) n P (by omega) hD dB m (by omega));obtain⟨e,he⟩:∃e:Nat,m.get (D+1)=e:=⟨(m.get (D+1)).toNat,by omega⟩;rw[EX (D+1) n P (by omega) hD dB m e he]at hm
 by_cases xV:e<n
 ·rw[ai xV]at hm;exact⟨e,xV,he,hm⟩
 ·rw[ah xV]at hm;exact absurd rfl hm
theorem qdY{D n:Nat}{P:Nat->List Tm}(hD:D+1<=4)(dB:∀i,i<n->eH D (P i)){i:Nat}(hi:i<n){m:Mo}(hm:aL (P i) m≠0):aL (aQ (D+1) n P) (Mo.add m (xp (D+1) (i:Int)))≠0:=by
 have h0:m.get (D+1)=0:=eF λhc=>hm ((dB i hi).vw (k:=D+1) (by omega) hD hc);rw[Qt (by omega) hD dB i hi m h0];exact hm
theorem qud{D n L j:Nat}{P:Nat->List Tm}(hD:D+1<=4)(dB:∀i,i<n->eH D (P i))(hL:L<=D)(h:MG L P n j):bE L (aQ (D+1) n P) j:=by
 refine⟨λm hm=>?_,?_⟩
 ·obtain⟨e,he,_,hc⟩:=qpl hD dB hm;have:=h.1 e he _ hc
  rwa[sZ,eQ _ _ _ (by omega) hD,ah (by omega),Int.sub_zero]at this
 ·refine h.2.imp id λ⟨i,m,hi,hc,hg⟩=>⟨_,qdY hD dB hi hc,?_⟩;rw[iH,eQ _ _ _ (by omega) hD,ah (by omega),Int.add_zero,hg]
theorem qbt{D n:Nat}{P:Nat->List Tm}(hD:D+1<=4)(hn:1<=n)(dB:∀i,i<n->eH D (P i))(fQ:¬af (P (n-1)) []):bE (D+1) (aQ (D+1) n P) (n-1):=by
 refine⟨λm hm=>?_,.inr ?_⟩
 ·obtain⟨e,he,h1,_⟩:=qpl hD dB hm;omega
 ·obtain⟨m,hm⟩:=OD fQ;have h0:m.get (D+1)=0:=eF λhc=>hm ((dB (n-1) (by omega)).vw (k:=D+1) (by omega) hD hc);refine⟨_,qdY hD dB (by omega) hm,?_⟩;rw[iH,eQ _ _ _ (by omega) hD,ai rfl,h0];omega
theorem Kids.qyI{M M':Nat->Prop}{w:World}{D g N:Nat}{P:Nat->List Tm}(h:Kids M w D g N P)(hm:∀g,M' g->M g\/w.heap.size<=g)(hg:¬M' g)(hN:N<=1099511627776):eY M' w D (.slice (some ⟨g,0,none⟩) N N) N P:=by
 have hlt:g<w.heap.size:=by
  obtain⟨f,hB,_⟩:=h;exact hB.lt
 exact⟨hN,.inr ⟨g,0,N,rfl,aI _,by unfold maxLen;omega,⟨hlt,hg⟩,λi hi=>h.bN hm i hi⟩⟩
end Go.Proofs.YtmcfpnmoklnhoaaGreat
namespace Go.Proofs.YtmcfpnmoklnhoaaGreat
def NN(l:List Tm):Prop:=∀m:Mo,m.nn=false->aL l m=0
theorem NN.dh{l r:List Tm}(h:NN l)(hs:af l r):NN r:=λm hm=>by rw[<-hs m];exact h m hm
theorem xe{l:List Tm}(h:∀t∈l,t.2.nn=true):NN l:=λm hm=>rQ λt ht e=>by rw[<-e,h t ht]at hm;cases hm
theorem Df(l:List Tm):∀t∈norm l,t.2.nn=true:=λt ht=>((sF l).2 t ht).2
def Nf(k:Nat)(e:Int)(m:Mo):Int × Mo:=(if m.get k=e then 1 else 0,wo k m)
def ck(k:Nat)(e:Int)(l:List Tm):List Tm:=mM (Nf k e) l
theorem jk{k:Nat}{e:Int}{l r:List Tm}(h:af l r):af (ck k e l) (ck k e r):=h.mM _
theorem qfd{k:Nat}(h1:1<=k)(h4:k<=4)(m:Mo):Mo.add (wo k m) (xp k (m.get k))=m:=Mo.ext_get λj _ _=>by
 rw[iH,Kl h1 h4,eQ k j _ h1 h4]
 split
 ·rename_i h;subst h;omega
 ·omega
theorem oh{k:Nat}(h1:1<=k)(h4:k<=4)(e:Int)(m:Mo):∀l:List Tm,aL (ck k e l) m=if m.get k=0 then aL l (Mo.add m (xp k e))else 0
 |[]=>by simp[ck,mM,aL]
 |t::l=>by
  have ih:=oh h1 h4 e m l;show(if wo k t.2=m then t.1*(if t.2.get k=e then 1 else 0)else 0)+aL (ck k e l) m=_;rw[ih]
  by_cases hm:m.get k=0
  ·rw[ai hm,ai hm];show _=(if t.2=Mo.add m (xp k e)then t.1 else 0)+_
   congr 1
   by_cases ht:t.2=Mo.add m (xp k e)
   ·have hg:t.2.get k=e:=by rw[ht,iH,hm,eQ k k _ h1 h4,ai rfl];omega
    have hw:wo k t.2=m:=by
     have:=qfd h1 h4 t.2;rw[hg]at this;have h5:=(Mo.add_eq _ _ _).1 (this.trans ht);rw[h5];exact((Mo.add_eq _ _ _).1 rfl).symm
    rw[ai hw,ai hg,ai ht,Int.mul_one]
   ·rw[ah ht]
    by_cases hw:wo k t.2=m
    ·rw[ai hw,ah,Int.mul_zero];intro hg;exact ht (by rw[<-qfd h1 h4 t.2,hw,hg])
    ·rw[ah hw]
  ·rw[ah hm,ah hm,ah]
   ·rfl
   ·intro hw;exact hm (by rw[<-hw,Kl h1 h4,ai rfl])
theorem ET{k:Nat}(h1:1<=k)(h4:k<=4){l:List Tm}{m:Mo}(h:aL l m≠0):¬af (ck k (m.get k) l) []:=λhs=>by
 have:=hs (wo k m);rw[oh h1 h4,ai (by rw[Kl h1 h4,ai rfl]),qfd h1 h4]at this;exact h this
theorem VA{k:Nat}(h1:1<=k)(h4:k<=4){e:Int}{l:List Tm}(h:¬af (ck k e l) []):∃m,aL l m≠0/\m.get k=e:=by
 obtain⟨m,hm⟩:=OD h;rw[oh h1 h4]at hm
 split at hm
 ·rename_i h0;exact⟨_,hm,by rw[iH,h0,eQ k k _ h1 h4,ai rfl];omega⟩
 ·exact absurd rfl hm
theorem fK{k:Nat}(h1:1<=k)(h4:k<=4){e:Int}{l:List Tm}(h:NN l):NN (ck k e l):=λm hm=>by
 rw[oh h1 h4]
 split
 ·rename_i h0;refine h _ ?_
  cases hc:(Mo.add m (xp k e)).nn with
  |false=>rfl
  |true=>
   rw[Mo.BN]at hc
   have:m.nn=true:=by
    rw[Mo.BN];have g1:(Mo.add m (xp k e)).a=m.a+(if k=1 then e else 0):=rfl;have g2:(Mo.add m (xp k e)).b=m.b+(if k=2 then e else 0):=rfl;have g3:(Mo.add m (xp k e)).c=m.c+(if k=3 then e else 0):=rfl;have g4:(Mo.add m (xp k e)).d=m.d+(if k=4 then e else 0):=rfl;rw[g1,g2,g3,g4]at hc;rcases Ow h1 h4 with rfl|rfl|rfl|rfl<;>simp[Mo.get]at h0 hc⊢ <;>omega
   rw[hm]at this;cases this
 ·rfl
theorem vg{D N:Nat}{P:Nat->List Tm}(hD:D+1<=4)(dB:∀i,i<N->eH D (P i))(e:Nat):af (ck (D+1) (e:Int) (aQ (D+1) N P)) (if e<N then P e else[]):=λm=>by
 rw[oh (by omega) hD]
 by_cases hm:m.get (D+1)=0
 ·rw[ai hm,EX (D+1) N P (by omega) hD dB _ e (by rw[iH,hm,eQ _ _ _ (by omega) hD,ai rfl];omega)]
  by_cases he:e<N
  ·rw[ai he,ai he, <-(Mo.add_eq m _ _).1 rfl]
  ·rw[ah he,ah he];rfl
 ·rw[ah hm]
  by_cases he:e<N
  ·rw[ai he];exact((dB e he).vw (k:=D+1) (by omega) hD hm).symm
  ·rw[ah he];rfl
theorem qfc{k:Nat}(h1:1<=k)(h4:k<=4)(x y:Mo):wo k (Mo.add x y)=Mo.add (wo k x) (wo k y):=Mo.ext_get λj _ _=>by
 rw[Kl h1 h4,iH,iH,Kl h1 h4,Kl h1 h4]
 split<;>omega
theorem qqW{k:Nat}(h1:1<=k)(h4:k<=4){x:Mo}(h:x.get k=0):wo k x=x:=Mo.ext_get λj _ _=>by
 rw[Kl h1 h4]
 split
 ·rename_i hj;subst hj;omega
 ·rfl
theorem VB{k:Nat}(h1:1<=k)(h4:k<=4){e e':Int}{g:List Tm}(hg:∀t∈g,t.2.get k<=e'):∀q:List Tm,(∀s∈q,s.2.get k<=e)->ck k (e+e') (aF q g)=aF (ck k e q) (ck k e' g)
 |[],_=>rfl
 |s::q,h=>by
  have ih:=VB h1 h4 hg q λt ht=>h t (List.mem_cons_of_mem _ ht);have hs:=h s List.mem_cons_self;show ck k (e+e') (shift s.2 (smul s.1 g)++aF q g)=shift (wo k s.2) (smul (s.1*(if s.2.get k=e then 1 else 0)) (ck k e' g))++aF (ck k e q) (ck k e' g);rw[<-ih];unfold ck;rw[SQ]
  congr 1
  unfold mM shift smul;rw[List.map_map,List.map_map,List.map_map,List.map_map];apply List.map_congr_left;intro t ht;have h2:=hg t ht;simp only[Function.comp_def,Nf,iH,qfc h1 h4]
  congr 1
  by_cases a1:s.2.get k=e
  ·by_cases a2:t.2.get k=e'
   ·rw[ai (by omega),ai a1,ai a2];simp
   ·rw[ah (by omega),ah a2];simp
  ·rw[ah (by omega),ah a1];simp
theorem qa8{k:Nat}(h1:1<=k)(h4:k<=4){e:Int}{g:List Tm}(hg:∀t∈g,t.2.get k=0):∀q:List Tm,ck k e (aF q g)=aF (ck k e q) g
 |[]=>rfl
 |s::q=>by
  have ih:=qa8 h1 h4 (e:=e) hg q;show ck k e (shift s.2 (smul s.1 g)++aF q g)=shift (wo k s.2) (smul (s.1*(if s.2.get k=e then 1 else 0)) g)++aF (ck k e q) g;rw[<-ih];unfold ck;rw[SQ]
  congr 1
  unfold mM shift smul;rw[List.map_map,List.map_map,List.map_map];apply List.map_congr_left;intro t ht;have h2:=hg t ht;simp only[Function.comp_def,Nf,iH,qfc h1 h4,qqW h1 h4 h2,h2]
  congr 1
  by_cases a1:s.2.get k=e
  ·rw[ai (by omega),ai a1];simp
  ·rw[ah (by omega),ah a1];simp
theorem XR(k:Nat):∀{l:List Tm},(∀t∈l,t.2.nn=true)->∃e:Nat,(∀s∈l,s.2.get k<=e)/\(l=[]\/∃s∈l,s.2.get k=e)
 |[],_=>⟨0,λs hs=>(by cases hs),.inl rfl⟩
 |t::l,h=>by
  obtain⟨e,h1,h2⟩:=XR k λs hs=>h s (List.mem_cons_of_mem _ hs);have h0:=wZ (h t List.mem_cons_self) k
  by_cases hc:t.2.get k<=e/\l≠[]
  ·refine⟨e,λs hs=>?_,.inr ?_⟩
   ·rcases List.mem_cons.1 hs with rfl|hs
    ·exact hc.1
    ·exact h1 s hs
   ·obtain⟨s,hs,he⟩:=h2.resolve_left hc.2;exact⟨s,List.mem_cons_of_mem _ hs,he⟩
  ·refine⟨(t.2.get k).toNat,λs hs=>?_,.inr ⟨t,List.mem_cons_self,by omega⟩⟩;rcases List.mem_cons.1 hs with rfl|hs
   ·omega
   ·by_cases hl:l=[]
    ·rw[hl]at hs;cases hs
    ·have:=h1 s hs;have:¬t.2.get k<=e:=λhx=>hc ⟨hx,hl⟩;omega
theorem Ke:∀{l:List Tm},Canon l->∀{t:Tm},t∈l->aL l t.2≠0
 |s::l,h,t,ht=>by
  rcases List.mem_cons.1 ht with rfl|ht
  ·rw[h.EW];exact(h.2 t List.mem_cons_self).1
  ·have h1:=Ke h.tail ht;have h2:=Mo.K9 (h.head t ht);simp only[aL];rw[ah (λe=>h2 e.symm),Int.zero_add];exact h1
theorem YC{k:Nat}(h1:1<=k)(h4:k<=4){q g:List Tm}{n:Nat}(hq:NN q)(hz:¬af q [])(hg:NN g)(hn:∀t∈g,t.2.get k<=n)(ht:¬af (ck k (n:Int) g) []):∃e:Nat,(∀s∈norm q,s.2.get k<=e)/\¬af (ck k ((e+n:Nat):Int) (aF q g)) []:=by
 obtain⟨e,he,hx⟩:=XR k (Df q);have hs:=ow hq;have hne:norm q≠[]:=λh=>hz (by rw[h]at hs;exact hs.symm);obtain⟨s,Oi,hse⟩:=hx.resolve_left hne;have hc:aL (norm q) s.2≠0:=Ke (sF q) Oi;have h5:=ET h1 h4 hc;rw[hse]at h5;refine⟨e,he,λhh=>?_⟩;have h6:=VB h1 h4 (e:=(e:Int)) (e':=(n:Int)) hn (norm q) he
 have h7:af (ck k ((e+n:Nat):Int) (aF q g)) (aF (ck k e (norm q)) (ck k n g)):=by
  rw[<-h6];exact jk (hs.symm.oC g)
 exact nV (fK h1 h4 (xe (Df q))) (fK h1 h4 hg) h5 ht (h7.symm.trans hh)
theorem qB8{k:Nat}(h1:1<=k)(h4:k<=4){g:List Tm}(hg:NN g)(hz:¬af g []):∃n:Nat,(∀t∈norm g,t.2.get k<=n)/\¬af (ck k (n:Int) (norm g)) []:=by
 obtain⟨e,he,hx⟩:=XR k (Df g);have hs:=ow hg;obtain⟨s,Oi,hse⟩:=hx.resolve_left λh=>hz (by rw[h]at hs;exact hs.symm);have hc:aL (norm g) s.2≠0:=Ke (sF g) Oi;have h5:=ET h1 h4 hc;rw[hse]at h5;exact⟨e,he,h5⟩
theorem qje{q g l:List Tm}{B:Nat}(hq:NN q)(hg:NN g)(hz:¬af g [])(h:af (aF q g) l)(hB:bH B l):bH B q:=λm hm k=>by
 by_cases hk:1<=k/\k<=4
 ·obtain⟨n,hn,ht⟩:=qB8 hk.1 hk.2 hg hz;have IL:¬af q []:=λhs=>hm (hs m);obtain⟨e,he,hc⟩:=YC hk.1 hk.2 hq IL (xe (Df g)) hn ht;have h5:af (aF q (norm g)) l:=((ow hg).sI q).trans h;obtain⟨m',hm',Rn⟩:=VA hk.1 hk.2 (λhs=>hc ((jk h5).trans hs));have h6:=hB m' hm' k;rw[<-(ow hq) m]at hm;obtain⟨s,hs,e2⟩:∃s∈norm q,s.2=m:=eF λgW=>hm (rQ λt ht e=>gW ⟨t,ht,e⟩);have h7:=he s hs;rw[e2]at h7;omega
 ·have:m.get k=0:=by
   unfold Mo.get;rw[ah (by omega),ah (by omega),ah (by omega),ah (by omega)]
  omega
def Dv(r l:List Tm):Prop:=∃q,NN q/\af (aF q r) l
theorem qes{D N:Nat}{P:Nat->List Tm}(hD:D+1<=4)(dB:∀i,i<N->eH D (P i)):∀t∈aQ (D+1) N P,∃i,i<N/\t.2.get (D+1)=(i:Int):=λt ht=>by
 obtain⟨i,hi,s,hs,rfl⟩:=FX ht;refine⟨i,hi,?_⟩;show(Mo.add s.2 (xp (D+1) (i:Int))).get (D+1)=i;rw[iH,dB i hi s hs (D+1) (by omega) hD,eQ _ _ _ (by omega) hD,ai rfl];omega
section
variable{D n:Nat}{G:Nat->List Tm}
theorem qDp(hD:D+1<=4)(hG:∀i,i<n+1->eH D (G i))(hz:¬af (G n) [])(hN:NN (aQ (D+1) (n+1) G)){h:List Tm}(hh:NN h){R:Nat->List Tm}{k:Nat}(hR:∀i,i<n+k+1->eH D (R i))(hs:af (aF h (aQ (D+1) (n+1) G)) (aQ (D+1) (n+k+1) R)):Dv (G n) (R (n+k)):=by
 have kR:∀t∈aQ (D+1) (n+1) G,t.2.get (D+1)<=(n:Int):=λt ht=>by
  obtain⟨i,hi,e⟩:=qes hD hG t ht;omega
 have Fw:=vg hD hG n;rw[ai (by omega)]at Fw
 have hle:∀s∈norm h,s.2.get (D+1)<=(k:Int):=by
  by_cases Sl:af h []
  ·have:norm h=[]:=Sl.norm;rw[this];intro s hs;cases hs
  ·obtain⟨e,he,hc⟩:=YC (by omega) hD hh Sl hN kR (λhx=>hz (Fw.symm.trans hx));have h5:=vg hD hR (e+n)
   have hlt:e+n<n+k+1:=by
    refine eF λfw=>hc ?_;rw[ah fw]at h5;exact(jk hs).trans h5
   intro s kC;have:=he s kC;omega
 have h6:=VB (by omega) hD (e:=(k:Int)) (e':=(n:Int)) kR (norm h) hle;have h7:=vg hD hR (n+k);rw[ai (by omega)]at h7;refine⟨ck (D+1) k (norm h),fK (by omega) hD (xe (Df h)),?_⟩;refine(Fw.symm.sI _).trans ?_;rw[<-h6,show(k:Int)+(n:Int)=((n+k:Nat):Int) by omega];exact(jk (((ow hh).oC _).trans hs)).trans h7
theorem quM(hD:D+1<=4)(hG:∀i,i<n+1->eH D (G i))(hz:¬af (G n) [])(hN:NN (aQ (D+1) (n+1) G)){h:List Tm}(hh:NN h){R:Nat->List Tm}{N:Nat}(hNn:N<=n)(hR:∀i,i<N->eH D (R i))(hs:af (aF h (aQ (D+1) (n+1) G)) (aQ (D+1) N R)):af (aQ (D+1) N R) []:=by
 by_cases Sl:af h []
 ·exact hs.symm.trans (Sl.oC _)
 ·exfalso
  have kR:∀t∈aQ (D+1) (n+1) G,t.2.get (D+1)<=(n:Int):=λt ht=>by
   obtain⟨i,hi,e⟩:=qes hD hG t ht;omega
  have Fw:=vg hD hG n;rw[ai (by omega)]at Fw;obtain⟨e,he,hc⟩:=YC (by omega) hD hh Sl hN kR (λhx=>hz (Fw.symm.trans hx));have h5:=vg hD hR (e+n);rw[ah (by omega)]at h5;exact hc ((jk hs).trans h5)
theorem quT(hD:D+1<=4)(hn:1<=n)(hG:∀i,i<n+1->eH D (G i))(hz:¬af (G n) [])(hN:NN (aQ (D+1) (n+1) G)){l:List Tm}(hl:∀t∈l,t.2.get (D+1)=0)(RH:¬af l []):¬Dv (aQ (D+1) (n+1) G) l:=by
 rintro⟨q,hq,hs⟩;have IL:¬af q []:=λhx=>RH (hs.symm.trans (hx.oC _))
 have kR:∀t∈aQ (D+1) (n+1) G,t.2.get (D+1)<=(n:Int):=λt ht=>by
  obtain⟨i,hi,e⟩:=qes hD hG t ht;omega
 have Fw:=vg hD hG n;rw[ai (by omega)]at Fw;obtain⟨e,he,hc⟩:=YC (by omega) hD hq IL hN kR (λhx=>hz (Fw.symm.trans hx));obtain⟨m,hm,DY⟩:=VA (by omega) hD (λhx=>hc ((jk hs).trans hx));obtain⟨t,ht,rfl⟩:∃t∈l,t.2=m:=eF λgW=>hm (rQ λt ht e=>gW ⟨t,ht,e⟩);rw[hl t ht]at DY;omega
end
theorem quS{D N:Nat}(hD:D+1<=4){F:Nat->List Tm}(hF:∀i,i<N->eH D (F i)){g:List Tm}(hg:∀t∈g,t.2.get (D+1)=0)(h:Dv g (aQ (D+1) N F))(i:Nat)(hi:i<N):Dv g (F i):=by
 obtain⟨q,hq,hs⟩:=h;refine⟨ck (D+1) (i:Int) q,fK (by omega) hD hq,?_⟩;rw[<-qa8 (by omega) hD hg];have h7:=vg hD hF i;rw[ai hi]at h7;exact(jk hs).trans h7
theorem Dv.dh{r r' l l':List Tm}(h:Dv r l)(hr:af r r')(hl:af l l'):Dv r' l':=by
 obtain⟨q,hq,hs⟩:=h;exact⟨q,hq,(hr.symm.sI q).trans (hs.trans hl)⟩
theorem qjy{y z:Int}(hz:z≠0):Dv [(z,Mo.zero)] [(y,Mo.zero)]↔y.tmod z=0:=by
 constructor
 ·rintro⟨q,hq,hs⟩;have h1:=hs Mo.zero;have h2:=I7 q (z,Mo.zero) Mo.zero;rw[FZ,iM]at h2;rw[h2]at h1;simp only[aL,if_true,Int.add_zero]at h1;exact Int.tmod_eq_zero_of_dvd ⟨_,h1.symm⟩
 ·intro h;have hd:=Int.dvd_of_tmod_eq_zero h;refine⟨[(y.tdiv z,Mo.zero)],xe λt ht=>by simp only[List.mem_singleton]at ht;subst ht;rfl,λm=>?_⟩;have:=Int.tdiv_mul_cancel hd;simp[aF,shift,smul,aL,Mo.add_zero',this]
end Go.Proofs.YtmcfpnmoklnhoaaGreat
