/- Plain facts: monomial by monomial images of lists of terms; a variable replaced by a fraction. recpoly.degree. -/
import Derived.Test.YtmcfpnmoklnhoaaGreatNr
import Derived.Test.YtmcfpnmoklnhoaaGreatMi
set_option linter.unusedVariables false
set_option linter.unusedSimpArgs false

namespace Go.Proofs.YtmcfpnmoklnhoaaGreat

def lin (f:Mo->Int × Mo) (l:List Tm):List Tm:=l.map fun t=>(t.1*(f t.2).1,(f t.2).2)
theorem qcy (f:Mo->Int × Mo) (l r:List Tm):lin f (l ++ r)=lin f l ++ lin f r:=by simp [lin]
theorem qop (f:Mo->Int × Mo) (c:Int) (l:List Tm):lin f (smul c l)=smul c (lin f l):=by
 simp [lin,smul,List.map_map,Function.comp_def,Int.mul_assoc]
theorem qjD {f:Mo->Int × Mo} {m0:Mo} : ∀ {l:List Tm},(∀ t ∈ l,t.2=m0) -> ∀ q,qab (lin f l) q=if (f m0).2=q then qab l m0*(f m0).1 else 0
 | [],_,q=>by simp [lin,qab]
 | t :: l,h,q=>by
  have ht:=h t List.mem_cons_self;have ih:=qjD (f:=f) (fun s hs=>h s (List.mem_cons_of_mem _ hs)) q;show (if (f t.2).2=q then t.1*(f t.2).1 else 0)+qab (lin f l) q=_;rw [ih,ht];simp only [qab];rw [if_pos ht]
  split
  ·rw [Int.add_mul]
  ·rfl
theorem qjC (f:Mo->Int × Mo) : ∀ (n:Nat) (l:List Tm),l.length<=n->Sim l []->Sim (lin f l) []
 | _,[],_,_=>fun _=>rfl
 | 0,t :: l,h,_=>by simp at h
 | n+1,t :: l,h,hs=>by
  have hp:=List.filter_append_perm (fun s:Tm=>decide (s.2≠t.2)) (t :: l)
  have h1:=qjC f n ((t :: l).filter fun s=>decide (s.2≠t.2)) (by
   rw [List.filter_cons_of_neg (by simp)];have:=List.length_filter_le (fun s:Tm=>decide (s.2≠t.2)) l;simp only [List.length_cons] at h
   omega) (fun m=>by
    rw [qbZ]
    split
    ·rfl
    ·exact hs m)
  have h2 : ∀ q,qab (lin f ((t :: l).filter fun s=>!decide (s.2≠t.2))) q=0:=fun q=>by
   rw [qjD (m0:=t.2) (fun s hs=>by simpa using (List.mem_filter.1 hs).2)]
   have h3:qab ((t :: l).filter fun s=>!decide (s.2≠t.2)) t.2=0:=by
    have h4:=qdz hp t.2;rw [qae,qbZ,if_pos rfl,Int.zero_add] at h4;rw [h4];exact hs t.2
   rw [h3,Int.zero_mul,ite_self]
  intro q;have h5:(lin f ((t :: l).filter (fun s=>decide (s.2≠t.2)) ++ (t :: l).filter (fun s=>!decide (s.2≠t.2)))).Perm (lin f (t :: l)):=hp.map _;rw [<- qdz h5 q,qcy,qae,h1 q,h2 q];rfl
theorem Sim.lin {l r:List Tm} (h:Sim l r) (f:Mo->Int × Mo):Sim (lin f l) (lin f r):=fun q=>by
 have:=qjC f _ (l ++ Go.Proofs.YtmcfpnmoklnhoaaGreat.smul (-1) r) (Nat.le_refl _) (fun m=>by rw [qae,qao,h m];show _=(0:Int);omega) q;rw [qcy,qop,qae,qao] at this;have e:qab ([]:List Tm) q=0:=rfl;rw [e] at this;omega
def wo (L:Nat) (m:Mo):Mo:=Mo.sub m (xp L (m.get L))
theorem qfr {L:Nat} (h1:1<=L) (h4:L<=4) (m:Mo) (k:Nat):(wo L m).get k=if k=L then 0 else m.get k:=by
 unfold wo;rw [qbG,qat L k _ h1 h4]
 split
 ·rename_i h;subst h;omega
 ·omega
def hL (u d:Int) (P:Nat->List Tm) (m:Nat):Nat->List Tm
 | 0=>P m
 | k+1=>smul u (hL u d P m k) ++ smul (d ^ (k+1)) (P (m - 1 - k))
theorem qmm {f:Mo->Int × Mo} {K:Nat} : ∀ {l:List Tm},(∀ t ∈ l,(f t.2).1.natAbs<=K)->nrm (lin f l)<=nrm l*K
 | [],_=>by simp [lin,nrm]
 | t :: l,h=>by
  have ih:=qmm (f:=f) (K:=K) (l:=l) fun s hs=>h s (List.mem_cons_of_mem _ hs);have h1:=h t List.mem_cons_self;show (t.1*(f t.2).1).natAbs+nrm (lin f l)<=(t.1.natAbs+nrm l)*K;rw [Int.natAbs_mul,Nat.add_mul];have:=Nat.mul_le_mul_left t.1.natAbs h1;omega
def put (L:Nat) (x:Rat) (a:Nat->Rat):Nat->Rat:=fun i=>if i=L - 1 then x else a i
end Go.Proofs.YtmcfpnmoklnhoaaGreat

namespace Go.Proofs.YtmcfpnmoklnhoaaGreat
open Go.RowKit

def DgR (L:Nat) (l:List Tm) (n:Nat):Prop:=(∀ m,qab l m≠0->m.get L<=n)/\(n=0 ∨ ∃ m,qab l m≠0/\m.get L=n)
theorem DgR.sim {L n:Nat} {l r:List Tm} (h:DgR L l n) (hs:Sim l r):DgR L r n:=
 ⟨fun m hm=>h.1 m (by rw [hs m];exact hm),h.2.imp id fun ⟨m,h1,h2⟩=>⟨m,by rw [<- hs m];exact h1,h2⟩⟩
theorem CRx.lowc {M:Nat->Prop} {w:World} {L:Nat} {x:PE} {l:List Tm} (h:CRx M w L x l) (m:Mo) (hm:qab l m≠0) (k:Nat) (hk:x.lv<k) (hk4:k<=4):m.get k=0:=by
 obtain ⟨t,h1,h2,h3,h4⟩:=h;obtain ⟨e0,_⟩:=h1.form;simp only [Value.int.injEq,true_and] at e0;have hl:=qdA _ t h2;have h0:=qcP h2;refine Classical.byContradiction fun hc=>hm ?_;rw [<- h4 m];exact hl.coef (k:=k) (by show t.1.toNat<k;omega) hk4 hc
def MxR (L:Nat) (P:Nat->List Tm) (k n:Nat):Prop:=(∀ i,i<k -> ∀ m,qab (P i) m≠0->m.get L<=n)/\(n=0 ∨ ∃ i m,i<k/\qab (P i) m≠0/\m.get L=n)
theorem MxR.step {L:Nat} {P:Nat->List Tm} {k n j:Nat} (h:MxR L P k n) (hj:DgR L (P k) j):MxR L P (k+1) (max n j):=by
 refine ⟨fun i hi m hm=>?_,?_⟩
 ·by_cases h1:i=k
  ·subst h1;have:=hj.1 m hm;omega
  ·have:=h.1 i (by omega) m hm;omega
 ·by_cases h1:n<=j
  ·rw [Nat.max_eq_right h1];exact hj.2.imp id fun ⟨m,h2,h3⟩=>⟨k,m,by omega,h2,h3⟩
  ·rw [Nat.max_eq_left (by omega)];exact h.2.imp id fun ⟨i,m,h2,h3,h4⟩=>⟨i,m,by omega,h3,h4⟩
theorem qen {D n:Nat} {P:Nat->List Tm} (hD:D+1<=4) (hlow : ∀ i,i<n->Low D (P i)) {m:Mo} (hm:qab (poly (D+1) n P) m≠0) : ∃ e:Nat,e<n/\m.get (D+1)=e/\qab (P e) (Mo.sub m (xp (D+1) (e:Int)))≠0:=by
 have h0:0<=m.get (D+1):=Classical.byContradiction fun hc=>hm (qcN (D+1) n P (by omega) hD hlow m (by omega));obtain ⟨e,he⟩ : ∃ e:Nat,m.get (D+1)=e:=⟨(m.get (D+1)).toNat,by omega⟩;rw [qbI (D+1) n P (by omega) hD hlow m e he] at hm
 by_cases hen:e<n
 ·rw [if_pos hen] at hm;exact ⟨e,hen,he,hm⟩
 ·rw [if_neg hen] at hm;exact absurd rfl hm
theorem qgH {D n:Nat} {P:Nat->List Tm} (hD:D+1<=4) (hlow : ∀ i,i<n->Low D (P i)) {i:Nat} (hi:i<n) {m:Mo} (hm:qab (P i) m≠0):qab (poly (D+1) n P) (Mo.add m (xp (D+1) (i:Int)))≠0:=by
 have h0:m.get (D+1)=0:=Classical.byContradiction fun hc=>hm ((hlow i hi).coef (k:=D+1) (by omega) hD hc);rw [qdX (by omega) hD hlow i hi m h0];exact hm
theorem qra {D n L j:Nat} {P:Nat->List Tm} (hD:D+1<=4) (hlow : ∀ i,i<n->Low D (P i)) (hL:L<=D) (h:MxR L P n j):DgR L (poly (D+1) n P) j:=by
 refine ⟨fun m hm=>?_,?_⟩
 ·obtain ⟨e,he,_,hc⟩:=qen hD hlow hm;have:=h.1 e he _ hc
  rwa [qbG,qat _ _ _ (by omega) hD,if_neg (by omega),Int.sub_zero] at this
 ·refine h.2.imp id fun ⟨i,m,hi,hc,hg⟩=>⟨_,qgH hD hlow hi hc,?_⟩;rw [qas,qat _ _ _ (by omega) hD,if_neg (by omega),Int.add_zero,hg]
theorem qm4 {D n:Nat} {P:Nat->List Tm} (hD:D+1<=4) (hn:1<=n) (hlow : ∀ i,i<n->Low D (P i)) (hnz : ¬ Sim (P (n - 1)) []):DgR (D+1) (poly (D+1) n P) (n - 1):=by
 refine ⟨fun m hm=>?_,.inr ?_⟩
 ·obtain ⟨e,he,h1,_⟩:=qen hD hlow hm;omega
 ·obtain ⟨m,hm⟩:=qbM hnz;have h0:m.get (D+1)=0:=Classical.byContradiction fun hc=>hm ((hlow (n - 1) (by omega)).coef (k:=D+1) (by omega) hD hc);refine ⟨_,qgH hD hlow (by omega) hm,?_⟩;rw [qas,qat _ _ _ (by omega) hD,if_pos rfl,h0];omega
theorem qax.krow {M M':Nat->Prop} {w:World} {D g N:Nat} {P:Nat->List Tm} (h:qax M w D g N P) (hm : ∀ g,M' g->M g∨w.heap.size<=g) (hg : ¬ M' g) (hN:N<=1099511627776):qbA M' w D (.slice (some ⟨g,0,none⟩) N N) N P:=by
 have hlt:g<w.heap.size:=by
  obtain ⟨f,hB,_⟩:=h;exact hB.lt
 exact ⟨hN,.inr ⟨g,0,N,rfl,Nat.le_refl _,by unfold maxLen;omega,⟨hlt,hg⟩,fun i hi=>h.kid hm i hi⟩⟩
end Go.Proofs.YtmcfpnmoklnhoaaGreat
