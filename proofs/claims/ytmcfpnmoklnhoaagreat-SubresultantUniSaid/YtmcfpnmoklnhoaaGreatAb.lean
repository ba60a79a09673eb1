/- Ab -/
import Derived.Test.YtmcfpnmoklnhoaaGreatNr
import Derived.Test.YtmcfpnmoklnhoaaGreatMi
set_option linter.unusedVariables false
set_option linter.unusedSimpArgs false
namespace Go.Proofs.YtmcfpnmoklnhoaaGreat
def lD(f:Mo->Int × Mo)(l:List Tm):List Tm:=l.map λt=>(t.1*(f t.2).1,(f t.2).2)
theorem QO(f:Mo->Int × Mo)(l r:List Tm):lD f (l++r)=lD f l++lD f r:=by simp[lD]
theorem qwl(f:Mo->Int × Mo)(c:Int)(l:List Tm):lD f (smul c l)=smul c (lD f l):=by
 simp[lD,smul,List.map_map,Function.comp_def,Int.mul_assoc]
theorem qmj{f:Mo->Int × Mo}{m0:Mo}:∀{l:List Tm},(∀t∈l,t.2=m0)->∀q,aB (lD f l) q=if(f m0).2=q then aB l m0*(f m0).1 else 0
 |[],_,q=>by simp[lD,aB]
 |t::l,h,q=>by
  have ht:=h t List.mem_cons_self;have ih:=qmj (f:=f) (λs hs=>h s (List.mem_cons_of_mem _ hs)) q;show(if(f t.2).2=q then t.1*(f t.2).1 else 0)+aB (lD f l) q=_;rw[ih,ht];simp only[aB];rw[if_pos ht]
  split
  ·rw[Int.add_mul]
  ·rfl
theorem qmk(f:Mo->Int × Mo):∀(n:Nat)(l:List Tm),l.length<=n->ae l []->ae (lD f l) []
 |_,[],_,_=>λ_=>rfl
 |0,t::l,h,_=>by simp at h
 |n+1,t::l,h,hs=>by
  have hp:=List.filter_append_perm (λs:Tm=>decide (s.2≠t.2)) (t::l)
  have h1:=qmk f n ((t::l).filter λs=>decide (s.2≠t.2)) (by
   rw[List.filter_cons_of_neg (by simp)];have:=List.length_filter_le (λs:Tm=>decide (s.2≠t.2)) l;simp only[List.length_cons]at h
   omega) (λm=>by
    rw[ZZ]
    split
    ·rfl
    ·exact hs m)
  have h2:∀q,aB (lD f ((t::l).filter λs=> !decide (s.2≠t.2))) q=0:=λq=>by
   rw[qmj (m0:=t.2) (λs hs=>by simpa using(List.mem_filter.1 hs).2)]
   have h3:aB ((t::l).filter λs=> !decide (s.2≠t.2)) t.2=0:=by
    have h4:=Z0 hp t.2;rw[gW,ZZ,if_pos rfl,Int.zero_add]at h4;rw[h4];exact hs t.2
   rw[h3,Int.zero_mul,ite_self]
  intro q;have h5:(lD f ((t::l).filter (λs=>decide (s.2≠t.2))++(t::l).filter (λs=> !decide (s.2≠t.2)))).Perm (lD f (t::l)):=hp.map _;rw[<-Z0 h5 q,QO,gW,h1 q,h2 q];rfl
theorem ae.lD{l r:List Tm}(h:ae l r)(f:Mo->Int × Mo):ae (lD f l) (lD f r):=λq=>by
 have:=qmk f _ (l++Go.Proofs.YtmcfpnmoklnhoaaGreat.smul (-1) r) (Nat.le_refl _) (λm=>by rw[gW,iD,h m];show _=(0:Int);omega) q;rw[QO,qwl,gW,iD]at this;have e:aB ([]:List Tm) q=0:=rfl;rw[e]at this;omega
def wo(L:Nat)(m:Mo):Mo:=Mo.sub m (xp L (m.get L))
theorem IW{L:Nat}(h1:1<=L)(h4:L<=4)(m:Mo)(k:Nat):(wo L m).get k=if k=L then 0 else m.get k:=by
 unfold wo;rw[sJ,dX L k _ h1 h4]
 split
 ·rename_i h;subst h;omega
 ·omega
def hL(u d:Int)(P:Nat->List Tm)(m:Nat):Nat->List Tm
 |0=>P m
 |k+1=>smul u (hL u d P m k)++smul (d^(k+1)) (P (m-1-k))
theorem qmi{f:Mo->Int × Mo}{K:Nat}:∀{l:List Tm},(∀t∈l,(f t.2).1.natAbs<=K)->aC (lD f l)<=aC l*K
 |[],_=>by simp[lD,aC]
 |t::l,h=>by
  have ih:=qmi (f:=f) (K:=K) (l:=l) λs hs=>h s (List.mem_cons_of_mem _ hs);have h1:=h t List.mem_cons_self;show(t.1*(f t.2).1).natAbs+aC (lD f l)<=(t.1.natAbs+aC l)*K;rw[Int.natAbs_mul,Nat.add_mul];have:=Nat.mul_le_mul_left t.1.natAbs h1;omega
def put(L:Nat)(x:Rat)(a:Nat->Rat):Nat->Rat:=λi=>if i=L-1 then x else a i
end Go.Proofs.YtmcfpnmoklnhoaaGreat
namespace Go.Proofs.YtmcfpnmoklnhoaaGreat
open Go.RowKit
def bD(L:Nat)(l:List Tm)(n:Nat):Prop:=(∀m,aB l m≠0->m.get L<=n)/\(n=0\/∃m,aB l m≠0/\m.get L=n)
theorem bD.bZ{L n:Nat}{l r:List Tm}(h:bD L l n)(hs:ae l r):bD L r n:=
 ⟨λm hm=>h.1 m (by rw[hs m];exact hm),h.2.imp id λ⟨m,h1,h2⟩=>⟨m,by rw[<-hs m];exact h1,h2⟩⟩
theorem aI.qml{M:Nat->Prop}{w:World}{L:Nat}{x:PE}{l:List Tm}(h:aI M w L x l)(m:Mo)(hm:aB l m≠0)(k:Nat)(hk:x.lv<k)(ll:k<=4):m.get k=0:=by
 obtain⟨t,h1,h2,h3,h4⟩:=h;obtain⟨e0,_⟩:=h1.form;simp only[Value.int.injEq,true_and]at e0;have hl:=IM _ t h2;have h0:=FM h2;refine Classical.byContradiction λhc=>hm ?_;rw[<-h4 m];exact hl.uX (k:=k) (by show t.1.toNat<k;omega) ll hc
def KH(L:Nat)(P:Nat->List Tm)(k n:Nat):Prop:=(∀i,i<k->∀m,aB (P i) m≠0->m.get L<=n)/\(n=0\/∃i m,i<k/\aB (P i) m≠0/\m.get L=n)
theorem KH.step{L:Nat}{P:Nat->List Tm}{k n j:Nat}(h:KH L P k n)(hj:bD L (P k) j):KH L P (k+1) (max n j):=by
 refine⟨λi hi m hm=>?_,?_⟩
 ·by_cases h1:i=k
  ·subst h1;have:=hj.1 m hm;omega
  ·have:=h.1 i (by omega) m hm;omega
 ·by_cases h1:n<=j
  ·rw[Nat.max_eq_right h1];exact hj.2.imp id λ⟨m,h2,h3⟩=>⟨k,m,by omega,h2,h3⟩
  ·rw[Nat.max_eq_left (by omega)];exact h.2.imp id λ⟨i,m,h2,h3,h4⟩=>⟨i,m,by omega,h3,h4⟩
theorem qnj{D n:Nat}{P:Nat->List Tm}(hD:D+1<=4)(bT:∀i,i<n->dN D (P i)){m:Mo}(hm:aB (aJ (D+1) n P) m≠0):∃e:Nat,e<n/\m.get (D+1)=e/\aB (P e) (Mo.sub m (xp (D+1) (e:Int)))≠0:=by
 have h0:0<=m.get (D+1):=Classical.byContradiction λhc=>hm (Z6 (D+1) n P (by omega) hD bT m (by omega));obtain⟨e,he⟩:∃e:Nat,m.get (D+1)=e:=⟨(m.get (D+1)).toNat,by omega⟩;rw[DV (D+1) n P (by omega) hD bT m e he]at hm
 by_cases wL:e<n
 ·rw[if_pos wL]at hm;exact⟨e,wL,he,hm⟩
 ·rw[if_neg wL]at hm;exact absurd rfl hm
theorem qcC{D n:Nat}{P:Nat->List Tm}(hD:D+1<=4)(bT:∀i,i<n->dN D (P i)){i:Nat}(hi:i<n){m:Mo}(hm:aB (P i) m≠0):aB (aJ (D+1) n P) (Mo.add m (xp (D+1) (i:Int)))≠0:=by
 have h0:m.get (D+1)=0:=Classical.byContradiction λhc=>hm ((bT i hi).uX (k:=D+1) (by omega) hD hc);rw[Ub (by omega) hD bT i hi m h0];exact hm
theorem qrX{D n L j:Nat}{P:Nat->List Tm}(hD:D+1<=4)(bT:∀i,i<n->dN D (P i))(hL:L<=D)(h:KH L P n j):bD L (aJ (D+1) n P) j:=by
 refine⟨λm hm=>?_,?_⟩
 ·obtain⟨e,he,_,hc⟩:=qnj hD bT hm;have:=h.1 e he _ hc
  rwa[sJ,dX _ _ _ (by omega) hD,if_neg (by omega),Int.sub_zero]at this
 ·refine h.2.imp id λ⟨i,m,hi,hc,hg⟩=>⟨_,qcC hD bT hi hc,?_⟩;rw[gL,dX _ _ _ (by omega) hD,if_neg (by omega),Int.add_zero,hg]
theorem qak{D n:Nat}{P:Nat->List Tm}(hD:D+1<=4)(hn:1<=n)(bT:∀i,i<n->dN D (P i))(fF:¬ae (P (n-1)) []):bD (D+1) (aJ (D+1) n P) (n-1):=by
 refine⟨λm hm=>?_,.inr ?_⟩
 ·obtain⟨e,he,h1,_⟩:=qnj hD bT hm;omega
 ·obtain⟨m,hm⟩:=MK fF;have h0:m.get (D+1)=0:=Classical.byContradiction λhc=>hm ((bT (n-1) (by omega)).uX (k:=D+1) (by omega) hD hc);refine⟨_,qcC hD bT (by omega) hm,?_⟩;rw[gL,dX _ _ _ (by omega) hD,if_pos rfl,h0];omega
theorem Kids.qwd{M M':Nat->Prop}{w:World}{D g N:Nat}{P:Nat->List Tm}(h:Kids M w D g N P)(hm:∀g,M' g->M g\/w.heap.size<=g)(hg:¬M' g)(hN:N<=1099511627776):dV M' w D (.slice (some ⟨g,0,none⟩) N N) N P:=by
 have hlt:g<w.heap.size:=by
  obtain⟨f,hB,_⟩:=h;exact hB.lt
 exact⟨hN,.inr ⟨g,0,N,rfl,Nat.le_refl _,by unfold maxLen;omega,⟨hlt,hg⟩,λi hi=>h.bu hm i hi⟩⟩
end Go.Proofs.YtmcfpnmoklnhoaaGreat
