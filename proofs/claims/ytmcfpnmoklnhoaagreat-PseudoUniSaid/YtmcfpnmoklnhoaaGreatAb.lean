/- Plain facts: monomial by monomial images of lists of terms; a variable replaced by a fraction. recpoly.degree. -/
import Derived.Test.YtmcfpnmoklnhoaaGreatNr
import Derived.Test.YtmcfpnmoklnhoaaGreatMi
set_option linter.unusedVariables false
set_option linter.unusedSimpArgs false

namespace Go.Proofs.YtmcfpnmoklnhoaaGreat

def lin (f:Mo->Int × Mo) (l:List Tm):List Tm:=l.map fun t=>(t.1*(f t.2).1,(f t.2).2)
theorem qdg (f:Mo->Int × Mo) (l r:List Tm):lin f (l ++ r)=lin f l ++ lin f r:=by simp [lin]
theorem qqD (f:Mo->Int × Mo) (c:Int) (l:List Tm):lin f (smul c l)=smul c (lin f l):=by
 simp [lin,smul,List.map_map,Function.comp_def,Int.mul_assoc]
theorem qlo {f:Mo->Int × Mo} {m0:Mo} : ∀ {l:List Tm},(∀ t ∈ l,t.2=m0) -> ∀ q,qab (lin f l) q=if (f m0).2=q then qab l m0*(f m0).1 else 0
 | [],_,q=>by simp [lin,qab]
 | t :: l,h,q=>by
  have ht:=h t List.mem_cons_self;have ih:=qlo (f:=f) (fun s hs=>h s (List.mem_cons_of_mem _ hs)) q;show (if (f t.2).2=q then t.1*(f t.2).1 else 0)+qab (lin f l) q=_;rw [ih,ht];simp only [qab];rw [if_pos ht]
  split
  ·rw [Int.add_mul]
  ·rfl
theorem qln (f:Mo->Int × Mo) : ∀ (n:Nat) (l:List Tm),l.length<=n->Sim l []->Sim (lin f l) []
 | _,[],_,_=>fun _=>rfl
 | 0,t :: l,h,_=>by simp at h
 | n+1,t :: l,h,hs=>by
  have hp:=List.filter_append_perm (fun s:Tm=>decide (s.2≠t.2)) (t :: l)
  have h1:=qln f n ((t :: l).filter fun s=>decide (s.2≠t.2)) (by
   rw [List.filter_cons_of_neg (by simp)];have:=List.length_filter_le (fun s:Tm=>decide (s.2≠t.2)) l;simp only [List.length_cons] at h
   omega) (fun m=>by
    rw [qcr]
    split
    ·rfl
    ·exact hs m)
  have h2 : ∀ q,qab (lin f ((t :: l).filter fun s=>!decide (s.2≠t.2))) q=0:=fun q=>by
   rw [qlo (m0:=t.2) (fun s hs=>by simpa using (List.mem_filter.1 hs).2)]
   have h3:qab ((t :: l).filter fun s=>!decide (s.2≠t.2)) t.2=0:=by
    have h4:=qdz hp t.2;rw [qad,qcr,if_pos rfl,Int.zero_add] at h4;rw [h4];exact hs t.2
   rw [h3,Int.zero_mul,ite_self]
  intro q;have h5:(lin f ((t :: l).filter (fun s=>decide (s.2≠t.2)) ++ (t :: l).filter (fun s=>!decide (s.2≠t.2)))).Perm (lin f (t :: l)):=hp.map _;rw [<- qdz h5 q,qdg,qad,h1 q,h2 q];rfl
theorem Sim.lin {l r:List Tm} (h:Sim l r) (f:Mo->Int × Mo):Sim (lin f l) (lin f r):=fun q=>by
 have:=qln f _ (l ++ Go.Proofs.YtmcfpnmoklnhoaaGreat.smul (-1) r) (Nat.le_refl _) (fun m=>by rw [qad,qag,h m];show _=(0:Int);omega) q;rw [qdg,qqD,qad,qag] at this;have e:qab ([]:List Tm) q=0:=rfl;rw [e] at this;omega
def wo (L:Nat) (m:Mo):Mo:=Mo.sub m (xp L (m.get L))
theorem qdU {L:Nat} (h1:1<=L) (h4:L<=4) (m:Mo) (k:Nat):(wo L m).get k=if k=L then 0 else m.get k:=by
 unfold wo;rw [qbM,qaB L k _ h1 h4]
 split
 ·rename_i h;subst h;omega
 ·omega
def atF (L n:Nat) (u d:Int) (m:Mo):Int × Mo:=(u ^ (m.get L).toNat*d ^ (n - (m.get L).toNat),wo L m)
def atL (L n:Nat) (u d:Int) (l:List Tm):List Tm:=lin (atF L n u d) l
def hL (u d:Int) (P:Nat->List Tm) (m:Nat):Nat->List Tm
 | 0=>P m
 | k+1=>smul u (hL u d P m k) ++ smul (d ^ (k+1)) (P (m - 1 - k))
def fL (u d:Int) (P:Nat->List Tm) (m:Nat):Nat->List Tm
 | 0=>[]
 | i+1=>fL u d P m i ++ smul (u ^ i*d ^ (m - i)) (P i)
theorem qka {f:Mo->Int × Mo} {K:Nat} : ∀ {l:List Tm},(∀ t ∈ l,(f t.2).1.natAbs<=K)->nrm (lin f l)<=nrm l*K
 | [],_=>by simp [lin,nrm]
 | t :: l,h=>by
  have ih:=qka (f:=f) (K:=K) (l:=l) fun s hs=>h s (List.mem_cons_of_mem _ hs);have h1:=h t List.mem_cons_self;show (t.1*(f t.2).1).natAbs+nrm (lin f l)<=(t.1.natAbs+nrm l)*K;rw [Int.natAbs_mul,Nat.add_mul];have:=Nat.mul_le_mul_left t.1.natAbs h1;omega
theorem qk3 {u:Int} {X:Nat} (h:u.natAbs<=X) (e:Nat):(u ^ e).natAbs<=X ^ e:=by
 rw [Int.natAbs_pow];exact Nat.pow_le_pow_left h e
theorem qoJ {a b:Nat->Rat} {f:Mo->Int × Mo} {k:Rat} : ∀ {l:List Tm},(∀ t ∈ l,((f t.2).1:Rat)*evM a (f t.2).2=k*evM b t.2)->evT a (lin f l)=k*evT b l
 | [],_=>by show evT a []=_;simp [evT]
 | t :: l,h=>by
  have ih:=qoJ (a:=a) (b:=b) (f:=f) (k:=k) (l:=l) fun s hs=>h s (List.mem_cons_of_mem _ hs);have h1:=h t List.mem_cons_self;show ((t.1*(f t.2).1:Int):Rat)*evM a (f t.2).2+evT a (lin f l)=k*((t.1:Rat)*evM b t.2+evT b l);rw [ih,Rat.intCast_mul,Rat.mul_assoc,h1];generalize evM b t.2=x;generalize evT b l=y
  grind
theorem qjV (x y:Rat) (n:Nat):(x*y) ^ n=x ^ n*y ^ n:=by
 induction n with
 | zero=>simp
 | succ n ih=>rw [Rat.pow_succ,Rat.pow_succ,Rat.pow_succ,ih];grind
theorem qgK (x:Int) (n:Nat):((x ^ n:Int):Rat)=(x:Rat) ^ n:=by
 induction n with
 | zero=>rw [Int.pow_zero,Rat.pow_zero];rfl
 | succ n ih=>rw [Int.pow_succ,Rat.pow_succ,Rat.intCast_mul,ih]
theorem qqO {u d:Int} {x:Rat} (hx:(u:Rat)=(d:Rat)*x) {n e:Nat} (he:e<=n):((u ^ e*d ^ (n - e):Int):Rat)=(d:Rat) ^ n*x ^ e:=by
 rw [Rat.intCast_mul,qgK,qgK,hx,qjV]
 have:(d:Rat) ^ n=(d:Rat) ^ e*(d:Rat) ^ (n - e):=by rw [<- qp7];congr 1;omega
 rw [this];generalize (d:Rat) ^ e=p;generalize (d:Rat) ^ (n - e)=q;generalize x ^ e=r
 grind
def put (L:Nat) (x:Rat) (a:Nat->Rat):Nat->Rat:=fun i=>if i=L - 1 then x else a i
theorem qtA {L:Nat} {x:Rat} {a:Nat->Rat} (h1:1<=L) (h4:L<=4) (m:Mo):evM (put L x a) m=x ^ (m.get L).toNat*evM a (wo L m):=by
 have hw:=qdU h1 h4 m;have w1:(wo L m).a=(wo L m).get 1:=rfl;have w2:(wo L m).b=(wo L m).get 2:=rfl;have w3:(wo L m).c=(wo L m).get 3:=rfl;have w4:(wo L m).d=(wo L m).get 4:=rfl;unfold evM;rw [w1,w2,w3,w4,hw,hw,hw,hw];rcases qcJ h1 h4 with rfl | rfl | rfl | rfl <;> simp [put,Mo.get] <;> grind
theorem qvs {L n:Nat} {u d:Int} {x:Rat} {a:Nat->Rat} (h1:1<=L) (h4:L<=4) (hx:(u:Rat)=(d:Rat)*x) {l:List Tm} (h : ∀ t ∈ l,(t.2.get L).toNat<=n):evT a (atL L n u d l)=(d:Rat) ^ n*evT (put L x a) l:=by
 refine qoJ fun t ht=>?_;rw [qtA h1 h4];show ((u ^ (t.2.get L).toNat*d ^ (n - (t.2.get L).toNat):Int):Rat)*evM a (wo L t.2)=_;rw [qqO hx (h t ht),Rat.mul_assoc]
theorem qvL {L n:Nat} {u d:Int} (h1:1<=L) (h4:L<=4) {l:List Tm} : ∀ t ∈ atL L n u d l,t.2.get L=0:=by
 intro t ht;obtain ⟨s,_,rfl⟩:=List.mem_map.1 ht;show (wo L s.2).get L=0;rw [qdU h1 h4,if_pos rfl]
theorem qwY {L n:Nat} {u d:Int} (h1:1<=L) (h4:L<=4) {l:List Tm} (h : ∀ t ∈ l,t.2.nn=true) : ∀ t ∈ atL L n u d l,t.2.nn=true:=by
 intro t ht;obtain ⟨s,hs,rfl⟩:=List.mem_map.1 ht;have h2:=(Mo.nn_iff _).1 (h s hs);show (wo L s.2).nn=true;have hw:=qdU h1 h4 s.2;rw [Mo.nn_iff];have w1:(wo L s.2).a=(wo L s.2).get 1:=rfl;have w2:(wo L s.2).b=(wo L s.2).get 2:=rfl;have w3:(wo L s.2).c=(wo L s.2).get 3:=rfl;have w4:(wo L s.2).d=(wo L s.2).get 4:=rfl;have g1:s.2.get 1=s.2.a:=rfl;have g2:s.2.get 2=s.2.b:=rfl;have g3:s.2.get 3=s.2.c:=rfl;have g4:s.2.get 4=s.2.d:=rfl;rw [w1,w2,w3,w4,hw,hw,hw,hw,g1,g2,g3,g4];refine ⟨?_,?_,?_,?_⟩ <;> split <;> omega
end Go.Proofs.YtmcfpnmoklnhoaaGreat

namespace Go.Proofs.YtmcfpnmoklnhoaaGreat
open Go.RowKit

def DgR (L:Nat) (l:List Tm) (n:Nat):Prop:=(∀ m,qab l m≠0->m.get L<=n)/\(n=0 ∨ ∃ m,qab l m≠0/\m.get L=n)
theorem DgR.sim {L n:Nat} {l r:List Tm} (h:DgR L l n) (hs:Sim l r):DgR L r n:=
 ⟨fun m hm=>h.1 m (by rw [hs m];exact hm),h.2.imp id fun ⟨m,h1,h2⟩=>⟨m,by rw [<- hs m];exact h1,h2⟩⟩
theorem CRx.lowc {M:Nat->Prop} {w:World} {L:Nat} {x:PE} {l:List Tm} (h:CRx M w L x l) (m:Mo) (hm:qab l m≠0) (k:Nat) (hk:x.lv<k) (hk4:k<=4):m.get k=0:=by
 obtain ⟨t,h1,h2,h3,h4⟩:=h;obtain ⟨e0,_⟩:=h1.form;simp only [Value.int.injEq,true_and] at e0;have hl:=qeH _ t h2;have h0:=qch h2;refine Classical.byContradiction fun hc=>hm ?_;rw [<- h4 m];exact hl.coef (k:=k) (by show t.1.toNat<k;omega) hk4 hc
def MxR (L:Nat) (P:Nat->List Tm) (k n:Nat):Prop:=(∀ i,i<k -> ∀ m,qab (P i) m≠0->m.get L<=n)/\(n=0 ∨ ∃ i m,i<k/\qab (P i) m≠0/\m.get L=n)
theorem MxR.step {L:Nat} {P:Nat->List Tm} {k n j:Nat} (h:MxR L P k n) (hj:DgR L (P k) j):MxR L P (k+1) (max n j):=by
 refine ⟨fun i hi m hm=>?_,?_⟩
 ·by_cases h1:i=k
  ·subst h1;have:=hj.1 m hm;omega
  ·have:=h.1 i (by omega) m hm;omega
 ·by_cases h1:n<=j
  ·rw [Nat.max_eq_right h1];exact hj.2.imp id fun ⟨m,h2,h3⟩=>⟨k,m,by omega,h2,h3⟩
  ·rw [Nat.max_eq_left (by omega)];exact h.2.imp id fun ⟨i,m,h2,h3,h4⟩=>⟨i,m,by omega,h3,h4⟩
theorem qfE {D n:Nat} {P:Nat->List Tm} (hD:D+1<=4) (hlow : ∀ i,i<n->Low D (P i)) {m:Mo} (hm:qab (poly (D+1) n P) m≠0) : ∃ e:Nat,e<n/\m.get (D+1)=e/\qab (P e) (Mo.sub m (xp (D+1) (e:Int)))≠0:=by
 have h0:0<=m.get (D+1):=Classical.byContradiction fun hc=>hm (qdy (D+1) n P (by omega) hD hlow m (by omega));obtain ⟨e,he⟩ : ∃ e:Nat,m.get (D+1)=e:=⟨(m.get (D+1)).toNat,by omega⟩;rw [qb4 (D+1) n P (by omega) hD hlow m e he] at hm
 by_cases hen:e<n
 ·rw [if_pos hen] at hm;exact ⟨e,hen,he,hm⟩
 ·rw [if_neg hen] at hm;exact absurd rfl hm
theorem qie {D n:Nat} {P:Nat->List Tm} (hD:D+1<=4) (hlow : ∀ i,i<n->Low D (P i)) {i:Nat} (hi:i<n) {m:Mo} (hm:qab (P i) m≠0):qab (poly (D+1) n P) (Mo.add m (xp (D+1) (i:Int)))≠0:=by
 have h0:m.get (D+1)=0:=Classical.byContradiction fun hc=>hm ((hlow i hi).coef (k:=D+1) (by omega) hD hc);rw [qej (by omega) hD hlow i hi m h0];exact hm
theorem qtN {D n L j:Nat} {P:Nat->List Tm} (hD:D+1<=4) (hlow : ∀ i,i<n->Low D (P i)) (hL:L<=D) (h:MxR L P n j):DgR L (poly (D+1) n P) j:=by
 refine ⟨fun m hm=>?_,?_⟩
 ·obtain ⟨e,he,_,hc⟩:=qfE hD hlow hm;have:=h.1 e he _ hc
  rwa [qbM,qaB _ _ _ (by omega) hD,if_neg (by omega),Int.sub_zero] at this
 ·refine h.2.imp id fun ⟨i,m,hi,hc,hg⟩=>⟨_,qie hD hlow hi hc,?_⟩;rw [qax,qaB _ _ _ (by omega) hD,if_neg (by omega),Int.add_zero,hg]
theorem qo2 {D n:Nat} {P:Nat->List Tm} (hD:D+1<=4) (hn:1<=n) (hlow : ∀ i,i<n->Low D (P i)) (hnz : ¬ Sim (P (n - 1)) []):DgR (D+1) (poly (D+1) n P) (n - 1):=by
 refine ⟨fun m hm=>?_,.inr ?_⟩
 ·obtain ⟨e,he,h1,_⟩:=qfE hD hlow hm;omega
 ·obtain ⟨m,hm⟩:=qbB hnz;have h0:m.get (D+1)=0:=Classical.byContradiction fun hc=>hm ((hlow (n - 1) (by omega)).coef (k:=D+1) (by omega) hD hc);refine ⟨_,qie hD hlow (by omega) hm,?_⟩;rw [qax,qaB _ _ _ (by omega) hD,if_pos rfl,h0];omega
theorem qaz.krow {M M':Nat->Prop} {w:World} {D g N:Nat} {P:Nat->List Tm} (h:qaz M w D g N P) (hm : ∀ g,M' g->M g∨w.heap.size<=g) (hg : ¬ M' g) (hN:N<=1099511627776):qa7 M' w D (.slice (some ⟨g,0,none⟩) N N) N P:=by
 have hlt:g<w.heap.size:=by
  obtain ⟨f,hB,_⟩:=h;exact hB.lt
 exact ⟨hN,.inr ⟨g,0,N,rfl,Nat.le_refl _,by unfold maxLen;omega,⟨hlt,hg⟩,fun i hi=>h.kid hm i hi⟩⟩
end Go.Proofs.YtmcfpnmoklnhoaaGreat
