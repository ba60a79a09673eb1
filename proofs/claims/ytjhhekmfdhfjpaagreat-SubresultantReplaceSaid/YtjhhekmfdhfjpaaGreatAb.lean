/- Plain facts: monomial by monomial images of lists of terms; a variable replaced by a fraction. recpoly.degree. -/
import Derived.Test.YtjhhekmfdhfjpaaGreatNr
import Derived.Test.YtjhhekmfdhfjpaaGreatMi
set_option linter.unusedVariables false
set_option linter.unusedSimpArgs false

namespace Go.Proofs.YtjhhekmfdhfjpaaGreat

def lin (f : Mo -> Int × Mo) (l : List Tm) : List Tm:=l.map fun t=>(t.1 * (f t.2).1,(f t.2).2)
theorem qbN (f : Mo -> Int × Mo) (l r : List Tm) : lin f (l ++ r) = lin f l ++ lin f r:=by simp [lin]
theorem qnl (f : Mo -> Int × Mo) (c : Int) (l : List Tm) : lin f (smul c l) = smul c (lin f l):=by
 simp [lin,smul,List.map_map,Function.comp_def,Int.mul_assoc]
theorem qiY {f : Mo -> Int × Mo} {m0 : Mo} : ∀ {l : List Tm},(∀ t ∈ l,t.2 = m0) -> ∀ q,qab (lin f l) q = if (f m0).2 = q then qab l m0 * (f m0).1 else 0
 | [],_,q=>by simp [lin,qab]
 | t :: l,h,q=>by
  have ht:=h t List.mem_cons_self
  have ih:=qiY (f:=f) (fun s hs=>h s (List.mem_cons_of_mem _ hs)) q
  show (if (f t.2).2 = q then t.1 * (f t.2).1 else 0) + qab (lin f l) q = _
  rw [ih,ht]
  simp only [qab]
  rw [if_pos ht]
  split
  ·rw [Int.add_mul]
  ·rfl
theorem qiX (f : Mo -> Int × Mo) : ∀ (n : Nat) (l : List Tm),l.length <= n -> Sim l [] -> Sim (lin f l) []
 | _,[],_,_=>fun _=>rfl
 | 0,t :: l,h,_=>by simp at h
 | n + 1,t :: l,h,hs=>by
  have hp:=List.filter_append_perm (fun s : Tm=>decide (s.2 ≠ t.2)) (t :: l)
  have h1:=qiX f n ((t :: l).filter fun s=>decide (s.2 ≠ t.2)) (by
   rw [List.filter_cons_of_neg (by simp)]
   have:=List.length_filter_le (fun s : Tm=>decide (s.2 ≠ t.2)) l
   simp only [List.length_cons] at h
   omega) (fun m=>by
    rw [qbY]
    split
    ·rfl
    ·exact hs m)
  have h2 : ∀ q,qab (lin f ((t :: l).filter fun s=>!decide (s.2 ≠ t.2))) q = 0:=fun q=>by
   rw [qiY (m0:=t.2) (fun s hs=>by simpa using (List.mem_filter.1 hs).2)]
   have h3 : qab ((t :: l).filter fun s=>!decide (s.2 ≠ t.2)) t.2 = 0:=by
    have h4:=qdE hp t.2
    rw [qad,qbY,if_pos rfl,Int.zero_add] at h4
    rw [h4];exact hs t.2
   rw [h3,Int.zero_mul,ite_self]
  intro q
  have h5 : (lin f ((t :: l).filter (fun s=>decide (s.2 ≠ t.2)) ++ (t :: l).filter (fun s=>!decide (s.2 ≠ t.2)))).Perm (lin f (t :: l)):=hp.map _
  rw [<- qdE h5 q,qbN,qad,h1 q,h2 q];rfl
theorem Sim.lin {l r : List Tm} (h : Sim l r) (f : Mo -> Int × Mo) : Sim (lin f l) (lin f r):=fun q=>by
 have:=qiX f _ (l ++ Go.Proofs.YtjhhekmfdhfjpaaGreat.smul (-1) r) (Nat.le_refl _) (fun m=>by rw [qad,qaj,h m];show _ = (0 : Int);omega) q
 rw [qbN,qnl,qad,qaj] at this
 have e : qab ([] : List Tm) q = 0:=rfl
 rw [e] at this
 omega
def wo (L : Nat) (m : Mo) : Mo:=Mo.sub m (xp L (m.get L))
theorem qa9 {L : Nat} (h1 : 1 <= L) (h4 : L <= 4) (m : Mo) (k : Nat) : (wo L m).get k = if k = L then 0 else m.get k:=by
 unfold wo
 rw [qbP,qav L k _ h1 h4]
 split
 ·rename_i h;subst h;omega
 ·omega
def atF (L n : Nat) (u d : Int) (m : Mo) : Int × Mo:=(u ^ (m.get L).toNat * d ^ (n - (m.get L).toNat),wo L m)
def atL (L n : Nat) (u d : Int) (l : List Tm) : List Tm:=lin (atF L n u d) l
theorem qrw {L n : Nat} {u d : Int} (h1 : 1 <= L) (h4 : L <= 4) {l : List Tm} (h : ∀ t ∈ l,t.2.get L = 0) : atL L n u d l = smul (d ^ n) l:=by
 unfold atL lin smul
 apply List.map_congr_left
 intro t ht
 have e:=h t ht
 have e2 : wo L t.2 = t.2:=Mo.ext_get fun k _ _=>by
  rw [qa9 h1 h4];split
  ·rename_i hk;subst hk;exact e.symm
  ·rfl
 simp only [atF,e,e2,Int.toNat_zero,Int.pow_zero,Int.one_mul,Nat.sub_zero]
 rw [Int.mul_comm]
theorem qfp {L n k i : Nat} {u d : Int} (h1 : 1 <= L) (h4 : L <= 4) (k1 : 1 <= k) (k4 : k <= 4) (hk : k ≠ L) (l : List Tm) : atL L n u d (shift (xp k (i : Int)) l) = shift (xp k (i : Int)) (atL L n u d l):=by
 unfold atL lin shift
 rw [List.map_map,List.map_map]
 apply List.map_congr_left
 intro t _
 have e : (Mo.add t.2 (xp k (i : Int))).get L = t.2.get L:=by rw [qap,qav k L _ k1 k4,if_neg (fun e=>hk e.symm)];omega
 have e2 : wo L (Mo.add t.2 (xp k (i : Int))) = Mo.add (wo L t.2) (xp k (i : Int)):=Mo.ext_get fun j _ _=>by
  rw [qa9 h1 h4,qap,qap,qa9 h1 h4,qav k j _ k1 k4]
  by_cases hj : j = L
  ·rw [if_pos hj,if_pos hj,if_neg (by omega)];rfl
  ·rw [if_neg hj,if_neg hj]
 simp only [Function.comp_def,atF,e,e2]
theorem qd2 {L n k : Nat} {u d : Int} (h1 : 1 <= L) (h4 : L <= 4) (k1 : 1 <= k) (k4 : k <= 4) (hk : k ≠ L) (N : Nat) (P : Nat -> List Tm) : atL L n u d (poly k N P) = poly k N (fun i=>atL L n u d (P i)):=by
 induction N with
 | zero=>rfl
 | succ N ih=>
  rw [qaf,qaf]
  unfold atL at ih ⊢
  rw [qbN,ih]
  congr 1
  exact qfp h1 h4 k1 k4 hk _
theorem qgw {L n i : Nat} {u d : Int} (h1 : 1 <= L) (h4 : L <= 4) {l : List Tm} (h : ∀ t ∈ l,t.2.get L = 0) : atL L n u d (shift (xp L (i : Int)) l) = smul (u ^ i * d ^ (n - i)) l:=by
 unfold atL lin smul shift
 rw [List.map_map]
 apply List.map_congr_left
 intro t ht
 have e:=h t ht
 have e1 : (Mo.add t.2 (xp L (i : Int))).get L = (i : Int):=by rw [qap,qav L L _ h1 h4,if_pos rfl,e];omega
 have e2 : wo L (Mo.add t.2 (xp L (i : Int))) = t.2:=Mo.ext_get fun k _ _=>by
  rw [qa9 h1 h4,qap,qav L k _ h1 h4];split
  ·rename_i hk;subst hk;exact e.symm
  ·omega
 simp only [Function.comp_def,atF,e1,e2,Int.toNat_natCast]
 rw [Int.mul_comm]
def hL (u d : Int) (P : Nat -> List Tm) (m : Nat) : Nat -> List Tm
 | 0=>P m
 | k + 1=>smul u (hL u d P m k) ++ smul (d ^ (k + 1)) (P (m - 1 - k))
def fL (u d : Int) (P : Nat -> List Tm) (m : Nat) : Nat -> List Tm
 | 0=>[]
 | i + 1=>fL u d P m i ++ smul (u ^ i * d ^ (m - i)) (P i)
theorem qq2 (u d : Int) (P : Nat -> List Tm) (m : Nat) (q : Mo) : ∀ k,k <= m -> u ^ (m - k) * qab (hL u d P m k) q + qab (fL u d P m (m - k)) q = qab (fL u d P m (m + 1)) q
 | 0,_=>by
  show _ = qab (fL u d P m m ++ smul (u ^ m * d ^ (m - m)) (P m)) q
  rw [qad,qaj,Nat.sub_self,Int.pow_zero,Int.mul_one,Nat.sub_zero]
  show u ^ m * qab (P m) q + _ = _
  omega
 | k + 1,h=>by
  have ih:=qq2 u d P m q k (by omega)
  obtain ⟨j,hj⟩ : ∃ j,m - k = j + 1:=⟨m - k - 1,by omega⟩
  rw [hj] at ih
  rw [show m - (k + 1) = j by omega,<- ih]
  show u ^ j * qab (smul u (hL u d P m k) ++ smul (d ^ (k + 1)) (P (m - 1 - k))) q + _ = _ + qab (fL u d P m j ++ smul (u ^ j * d ^ (m - j)) (P j)) q
  rw [qad,qad,qaj,qaj,qaj,show m - 1 - k = j by omega,show m - j = k + 1 by omega,Int.pow_succ u j]
  generalize qab (hL u d P m k) q = x
  generalize qab (P j) q = y
  generalize qab (fL u d P m j) q = z
  generalize u ^ j = v
  generalize d ^ (k + 1) = c
  grind
theorem qq5 {L n : Nat} {u d : Int} {P : Nat -> List Tm} {m : Nat} (h1 : 1 <= L) (h4 : L <= 4) (hm : m <= n) (q : Mo) : ∀ N,N <= m + 1 -> (∀ i,i < N -> ∀ t ∈ P i,t.2.get L = 0) -> d ^ (n - m) * qab (fL u d P m N) q = qab (atL L n u d (poly L N P)) q
 | 0,_,_=>by simp [fL,qbu,atL,lin,qab]
 | N + 1,hN,h=>by
  have ih:=qq5 (u:=u) (d:=d) h1 h4 hm q N (by omega) fun i hi=>h i (by omega)
  rw [qaf]
  unfold atL at ih ⊢
  rw [qbN,qad,<- ih]
  show d ^ (n - m) * qab (fL u d P m N ++ smul (u ^ N * d ^ (m - N)) (P N)) q = _ + qab (atL L n u d (shift (xp L (N : Int)) (P N))) q
  rw [qgw h1 h4 (h N (by omega)),qad,qaj,qaj,show n - N = (n - m) + (m - N) by omega,Int.pow_add]
  generalize qab (fL u d P m N) q = x
  generalize qab (P N) q = y
  generalize u ^ N = v
  generalize d ^ (n - m) = c
  generalize d ^ (m - N) = e
  grind
theorem qr8 {L n : Nat} {u d : Int} {P : Nat -> List Tm} {m : Nat} (h1 : 1 <= L) (h4 : L <= 4) (hm : m <= n) (h : ∀ i,i < m + 1 -> ∀ t ∈ P i,t.2.get L = 0) : Sim (smul (d ^ (n - m)) (hL u d P m m)) (atL L n u d (poly L (m + 1) P)):=fun q=>by
 have h2:=qq2 u d P m q m (Nat.le_refl _)
 rw [Nat.sub_self,Int.pow_zero,Int.one_mul] at h2
 have e : qab (fL u d P m 0) q = 0:=rfl
 rw [e] at h2
 rw [qaj,<- qq5 h1 h4 hm q (m + 1) (Nat.le_refl _) h,<- h2];congr 1;omega
theorem qgd {f : Mo -> Int × Mo} {K : Nat} : ∀ {l : List Tm},(∀ t ∈ l,(f t.2).1.natAbs <= K) -> nrm (lin f l) <= nrm l * K
 | [],_=>by simp [lin,nrm]
 | t :: l,h=>by
  have ih:=qgd (f:=f) (K:=K) (l:=l) fun s hs=>h s (List.mem_cons_of_mem _ hs)
  have h1:=h t List.mem_cons_self
  show (t.1 * (f t.2).1).natAbs + nrm (lin f l) <= (t.1.natAbs + nrm l) * K
  rw [Int.natAbs_mul,Nat.add_mul]
  have:=Nat.mul_le_mul_left t.1.natAbs h1
  omega
theorem qiJ {u : Int} {X : Nat} (h : u.natAbs <= X) (e : Nat) : (u ^ e).natAbs <= X ^ e:=by
 rw [Int.natAbs_pow];exact Nat.pow_le_pow_left h e
theorem qlR {a b : Nat -> Rat} {f : Mo -> Int × Mo} {k : Rat} : ∀ {l : List Tm},(∀ t ∈ l,((f t.2).1 : Rat) * evM a (f t.2).2 = k * evM b t.2) -> evT a (lin f l) = k * evT b l
 | [],_=>by show evT a [] = _;simp [evT]
 | t :: l,h=>by
  have ih:=qlR (a:=a) (b:=b) (f:=f) (k:=k) (l:=l) fun s hs=>h s (List.mem_cons_of_mem _ hs)
  have h1:=h t List.mem_cons_self
  show ((t.1 * (f t.2).1 : Int) : Rat) * evM a (f t.2).2 + evT a (lin f l) = k * ((t.1 : Rat) * evM b t.2 + evT b l)
  rw [ih,Rat.intCast_mul,Rat.mul_assoc,h1]
  generalize evM b t.2 = x
  generalize evT b l = y
  grind
theorem qhO (x y : Rat) (n : Nat) : (x * y) ^ n = x ^ n * y ^ n:=by
 induction n with
 | zero=>simp
 | succ n ih=>rw [Rat.pow_succ,Rat.pow_succ,Rat.pow_succ,ih];grind
theorem qfd (x : Int) (n : Nat) : ((x ^ n : Int) : Rat) = (x : Rat) ^ n:=by
 induction n with
 | zero=>rw [Int.pow_zero,Rat.pow_zero];rfl
 | succ n ih=>rw [Int.pow_succ,Rat.pow_succ,Rat.intCast_mul,ih]
theorem qnv {u d : Int} {x : Rat} (hx : (u : Rat) = (d : Rat) * x) {n e : Nat} (he : e <= n) : ((u ^ e * d ^ (n - e) : Int) : Rat) = (d : Rat) ^ n * x ^ e:=by
 rw [Rat.intCast_mul,qfd,qfd,hx,qhO]
 have : (d : Rat) ^ n = (d : Rat) ^ e * (d : Rat) ^ (n - e):=by rw [<- qmS];congr 1;omega
 rw [this]
 generalize (d : Rat) ^ e = p
 generalize (d : Rat) ^ (n - e) = q
 generalize x ^ e = r
 grind
def put (L : Nat) (x : Rat) (a : Nat -> Rat) : Nat -> Rat:=fun i=>if i = L - 1 then x else a i
theorem qpI {L : Nat} {x : Rat} {a : Nat -> Rat} (h1 : 1 <= L) (h4 : L <= 4) (m : Mo) : evM (put L x a) m = x ^ (m.get L).toNat * evM a (wo L m):=by
 have hw:=qa9 h1 h4 m
 have w1 : (wo L m).a = (wo L m).get 1:=rfl
 have w2 : (wo L m).b = (wo L m).get 2:=rfl
 have w3 : (wo L m).c = (wo L m).get 3:=rfl
 have w4 : (wo L m).d = (wo L m).get 4:=rfl
 unfold evM
 rw [w1,w2,w3,w4,hw,hw,hw,hw]
 rcases qc5 h1 h4 with rfl | rfl | rfl | rfl <;> simp [put,Mo.get] <;> grind
theorem qq9 {L n : Nat} {u d : Int} {x : Rat} {a : Nat -> Rat} (h1 : 1 <= L) (h4 : L <= 4) (hx : (u : Rat) = (d : Rat) * x) {l : List Tm} (h : ∀ t ∈ l,(t.2.get L).toNat <= n) : evT a (atL L n u d l) = (d : Rat) ^ n * evT (put L x a) l:=by
 refine qlR fun t ht=>?_
 rw [qpI h1 h4]
 show ((u ^ (t.2.get L).toNat * d ^ (n - (t.2.get L).toNat) : Int) : Rat) * evM a (wo L t.2) = _
 rw [qnv hx (h t ht),Rat.mul_assoc]
theorem qrx {L n : Nat} {u d : Int} (h1 : 1 <= L) (h4 : L <= 4) {l : List Tm} : ∀ t ∈ atL L n u d l,t.2.get L = 0:=by
 intro t ht
 obtain ⟨s,_,rfl⟩:=List.mem_map.1 ht
 show (wo L s.2).get L = 0
 rw [qa9 h1 h4,if_pos rfl]
theorem qrv {L n : Nat} {u d : Int} (h1 : 1 <= L) (h4 : L <= 4) {l : List Tm} (h : ∀ t ∈ l,t.2.nn = true) : ∀ t ∈ atL L n u d l,t.2.nn = true:=by
 intro t ht
 obtain ⟨s,hs,rfl⟩:=List.mem_map.1 ht
 have h2:=(Mo.nn_iff _).1 (h s hs)
 show (wo L s.2).nn = true
 have hw:=qa9 h1 h4 s.2
 rw [Mo.nn_iff]
 have w1 : (wo L s.2).a = (wo L s.2).get 1:=rfl
 have w2 : (wo L s.2).b = (wo L s.2).get 2:=rfl
 have w3 : (wo L s.2).c = (wo L s.2).get 3:=rfl
 have w4 : (wo L s.2).d = (wo L s.2).get 4:=rfl
 have g1 : s.2.get 1 = s.2.a:=rfl
 have g2 : s.2.get 2 = s.2.b:=rfl
 have g3 : s.2.get 3 = s.2.c:=rfl
 have g4 : s.2.get 4 = s.2.d:=rfl
 rw [w1,w2,w3,w4,hw,hw,hw,hw,g1,g2,g3,g4]
 refine ⟨?_,?_,?_,?_⟩ <;> split <;> omega
end Go.Proofs.YtjhhekmfdhfjpaaGreat

namespace Go.Proofs.YtjhhekmfdhfjpaaGreat
open Go.RowKit

def DgR (L : Nat) (l : List Tm) (n : Nat) : Prop:=(∀ m,qab l m ≠ 0 -> m.get L <= n) /\ (n = 0 ∨ ∃ m,qab l m ≠ 0 /\ m.get L = n)
theorem DgR.sim {L n : Nat} {l r : List Tm} (h : DgR L l n) (hs : Sim l r) : DgR L r n:=
 ⟨fun m hm=>h.1 m (by rw [hs m];exact hm),h.2.imp id fun ⟨m,h1,h2⟩=>⟨m,by rw [<- hs m];exact h1,h2⟩⟩
theorem CRx.lowc {M : Nat -> Prop} {w : World} {L : Nat} {x : PE} {l : List Tm} (h : CRx M w L x l) (m : Mo) (hm : qab l m ≠ 0) (k : Nat) (hk : x.lv < k) (hk4 : k <= 4) : m.get k = 0:=by
 obtain ⟨t,h1,h2,h3,h4⟩:=h
 obtain ⟨e0,_⟩:=h1.form
 simp only [Value.int.injEq,true_and] at e0
 have hl:=qdb _ t h2
 have h0:=qcT h2
 refine Classical.byContradiction fun hc=>hm ?_
 rw [<- h4 m]
 exact hl.coef (k:=k) (by show t.1.toNat < k;omega) hk4 hc
def MxR (L : Nat) (P : Nat -> List Tm) (k n : Nat) : Prop:=(∀ i,i < k -> ∀ m,qab (P i) m ≠ 0 -> m.get L <= n) /\ (n = 0 ∨ ∃ i m,i < k /\ qab (P i) m ≠ 0 /\ m.get L = n)
theorem MxR.step {L : Nat} {P : Nat -> List Tm} {k n j : Nat} (h : MxR L P k n) (hj : DgR L (P k) j) : MxR L P (k + 1) (max n j):=by
 refine ⟨fun i hi m hm=>?_,?_⟩
 ·by_cases h1 : i = k
  ·subst h1;have:=hj.1 m hm;omega
  ·have:=h.1 i (by omega) m hm;omega
 ·by_cases h1 : n <= j
  ·rw [Nat.max_eq_right h1]
   exact hj.2.imp id fun ⟨m,h2,h3⟩=>⟨k,m,by omega,h2,h3⟩
  ·rw [Nat.max_eq_left (by omega)]
   exact h.2.imp id fun ⟨i,m,h2,h3,h4⟩=>⟨i,m,by omega,h3,h4⟩
theorem qem {D n : Nat} {P : Nat -> List Tm} (hD : D + 1 <= 4) (hlow : ∀ i,i < n -> Low D (P i)) {m : Mo} (hm : qab (poly (D + 1) n P) m ≠ 0) : ∃ e : Nat,e < n /\ m.get (D + 1) = e /\ qab (P e) (Mo.sub m (xp (D + 1) (e : Int))) ≠ 0:=by
 have h0 : 0 <= m.get (D + 1):=Classical.byContradiction fun hc=>hm (qcQ (D + 1) n P (by omega) hD hlow m (by omega))
 obtain ⟨e,he⟩ : ∃ e : Nat,m.get (D + 1) = e:=⟨(m.get (D + 1)).toNat,by omega⟩
 rw [qbH (D + 1) n P (by omega) hD hlow m e he] at hm
 by_cases hen : e < n
 ·rw [if_pos hen] at hm;exact ⟨e,hen,he,hm⟩
 ·rw [if_neg hen] at hm;exact absurd rfl hm
theorem qeL {D n : Nat} {P : Nat -> List Tm} (hD : D + 1 <= 4) (hlow : ∀ i,i < n -> Low D (P i)) {i : Nat} (hi : i < n) {m : Mo} (hm : qab (P i) m ≠ 0) : qab (poly (D + 1) n P) (Mo.add m (xp (D + 1) (i : Int))) ≠ 0:=by
 have h0 : m.get (D + 1) = 0:=Classical.byContradiction fun hc=>hm ((hlow i hi).coef (k:=D + 1) (by omega) hD hc)
 rw [qeR (by omega) hD hlow i hi m h0];exact hm
theorem ql3 {D n L j : Nat} {P : Nat -> List Tm} (hD : D + 1 <= 4) (hlow : ∀ i,i < n -> Low D (P i)) (hL : L <= D) (h : MxR L P n j) : DgR L (poly (D + 1) n P) j:=by
 refine ⟨fun m hm=>?_,?_⟩
 ·obtain ⟨e,he,_,hc⟩:=qem hD hlow hm
  have:=h.1 e he _ hc
  rwa [qbP,qav _ _ _ (by omega) hD,if_neg (by omega),Int.sub_zero] at this
 ·refine h.2.imp id fun ⟨i,m,hi,hc,hg⟩=>⟨_,qeL hD hlow hi hc,?_⟩
  rw [qap,qav _ _ _ (by omega) hD,if_neg (by omega),Int.add_zero,hg]
theorem qhm {D n : Nat} {P : Nat -> List Tm} (hD : D + 1 <= 4) (hn : 1 <= n) (hlow : ∀ i,i < n -> Low D (P i)) (hnz : ¬ Sim (P (n - 1)) []) : DgR (D + 1) (poly (D + 1) n P) (n - 1):=by
 refine ⟨fun m hm=>?_,.inr ?_⟩
 ·obtain ⟨e,he,h1,_⟩:=qem hD hlow hm
  omega
 ·obtain ⟨m,hm⟩:=qbM hnz
  have h0 : m.get (D + 1) = 0:=Classical.byContradiction fun hc=>hm ((hlow (n - 1) (by omega)).coef (k:=D + 1) (by omega) hD hc)
  refine ⟨_,qeL hD hlow (by omega) hm,?_⟩
  rw [qap,qav _ _ _ (by omega) hD,if_pos rfl,h0];omega
def qmv (L D : Nat) : Prop:=∀ (M : Nat -> Prop) (l : List Tm) (x : PE) (w : World),CRx M w D x l -> Calls Tryz.prog 55 #[.agg (peA x),.int .i64 L] w fun e w'=>∃ n : Nat,e = .returned (.int .i64 n) /\ DgR L l n /\ n <= 1099511627776 /\ Ext w w'
set_option maxRecDepth 100000 in
set_option maxHeartbeats 4000000 in
theorem qic (L : Nat) (hL1 : 1 <= L) (hL4 : L <= 4) (D : Nat) (ih : ∀ E,E < D -> qmv L E) : qmv L D:=by
 intro M l x w h
 have hE:=(Ext.refl w).alloc (.cells (peA x) 32)
 have hB:=Blk.of_arr w (peA x) 32 4 rfl
 obtain ⟨x0,x1,x2,x3⟩:=hB.p4
 generalize hW : w.alloc (.cells (peA x) 32) = W at *
 have HW:=Lib.hid hW
 have HE:=Lib.hid hE
 have HB:=Lib.hid hB
 clear hW hE hB
 by_cases h1 : x.lv < L
 ·have HD : Hid (DgR L l 0):=⟨fun m hm=>by have:=h.lowc m hm L h1 hL4;omega,.inl rfl⟩
  clear h
  go_enter Tryz.func55,Tryz.ntmps55
  go_upto_region 1 with (fail)
  rw [HW.out]
  go_wp2
  exact bodyPost_ret (v:=.int .i64 0) (by simp [results,Tryz.results55,go_sem]) rfl ⟨0,rfl,HD.out,by omega,HE.out⟩
 obtain ⟨E,b,off,P,hlv,hE4,hEL,hb0,hn0,hka,hn2,hnL,hnc,hcm,hb,hMb,hlow,hnz,hsim,hnr,hkid⟩:=h.node (by omega)
 by_cases h2 : x.lv = L
 ·have hLE : L = E + 1:=by omega
  have HD : Hid (DgR L l (x.kn - 1)):=by
   have:=(qhm hE4 (by omega) hlow hnz).sim hsim
   rw [hLE];exact this
  have h2b : (x.lv == (L : Int)) = true:=by rw [h2];simp
  obtain ⟨k,hk⟩ : ∃ k,x.kn = k + 1:=⟨x.kn - 1,by omega⟩
  rw [hk,Nat.add_sub_cancel] at HD
  rw [hk] at x3 hnL
  clear h hlow hnz hsim hkid hnr hLE hlv
  go_enter Tryz.func55,Tryz.ntmps55
  go_upto_region 1 with (fail)
  rw [HW.out]
  go_wp2
  exact bodyPost_ret (v:=.int .i64 k) (by simp [results,Tryz.results55,go_sem]) rfl ⟨k,rfl,HD.out,by omega,HE.out⟩
 ·have h2b : (x.lv == (L : Int)) = false:=by simp [h2]
  have HFIN : Hid (∀ j,MxR L P x.kn j -> DgR L l j):=fun j hj=>(ql3 hE4 hlow (by omega) hj).sim hsim
  have HK : Hid (∀ i,i < x.kn -> ∃ y,qaV w b (off + i * 4) y /\ (∀ W',Ext w W' -> Calls Tryz.prog 55 #[.agg (peA y),.int .i64 L] W' fun e w'=>∃ n : Nat,e = .returned (.int .i64 n) /\ DgR L (P i) n /\ n <= 1099511627776 /\ Ext W' w')):=fun i hi=>by
   obtain ⟨y,hy1,hy2,_⟩:=hkid i hi
   exact ⟨y,hy1,fun W' he=>ih E (by omega) M (P i) y W' (hy2.ext he)⟩
  rw [hka] at x3
  clear h hlow hnz hsim hkid hnr hlv ih
  go_enter Tryz.func55,Tryz.ntmps55
  go_upto_region 1 with (fail)
  rw [HW.out]
  go_wp2
  go_loopw [5,25] (fun hv i wr=>∃ (k n : Nat),k <= x.kn /\ i = .int .i64 k /\ hv = .int .i64 n /\ n <= 1099511627776 /\ Hid (MxR L P k n) /\ Hid (Ext W wr)) (fun _ i _=>x.kn - (intOf i).toNat)
  case atStart=>exact ⟨0,0,by omega,rfl,rfl,by omega,⟨fun i hi=>absurd hi (Nat.not_lt_zero _),.inl rfl⟩,Ext.refl _⟩
  case round=>
   clear x0 x1 x2 x3
   obtain ⟨k,n,hk,rfl,rfl,hnLIM,HMX,HER⟩:=hrel
   by_cases hlt : k < x.kn
   ·obtain ⟨y,hy,hcall⟩:=HK.out k hlt
    have hEW:=HE.out.trans HER.out
    obtain ⟨e0,e1,e2,e3⟩:=hy.ext hb hEW
    have hbw : b < wr.heap.size:=Nat.lt_of_lt_of_le hb hEW.size
    have hEa:=(Ext.refl wr).alloc (.cells (peA y) 32)
    have CTR:=Lib.hid (hcall _ (hEW.trans hEa))
    have HEA:=Lib.hid (HER.out.trans hEa)
    have hltI : (k : Int) < (x.kn : Int):=by omega
    clear hcall hy hEa hEW
    go_wp2_with (fail)
    refine CTR.out.mono ?_
    rintro e w2 ⟨j,rfl,hj,hjL,he2⟩
    have HMX2:=Lib.hid (HMX.out.step hj)
    have HF:=Lib.hid (HEA.out.trans he2)
    have hmx : max (n : Int) (j : Int) = ((max n j : Nat) : Int):=by omega
    clear CTR hj he2 e0 e1 e2 e3 HMX HK
    go_wp2
    go_roundw
    case rel=>exact ⟨k + 1,max n j,by omega,by go_num,rfl,by omega,HMX2,HF⟩
    case measure=>simp [intOf];omega
   ·obtain rfl : k = x.kn:=by omega
    have HD:=Lib.hid (HFIN.out n HMX.out)
    clear HK
    go_wp2
    exact bodyPost_ret (v:=.int .i64 n) (by simp [results,Tryz.results55,go_sem]) rfl ⟨n,rfl,HD.out,hnLIM,HE.out.trans HER.out⟩
theorem qkP (L : Nat) (hL1 : 1 <= L) (hL4 : L <= 4) (D : Nat) : qmv L D:=by
 induction D using Nat.strongRecOn with
 | _ D ih=>exact qic L hL1 hL4 D fun E hE=>ih E hE
theorem qaC.krow {M M' : Nat -> Prop} {w : World} {D g N : Nat} {P : Nat -> List Tm} (h : qaC M w D g N P) (hm : ∀ g,M' g -> M g ∨ w.heap.size <= g) (hg : ¬ M' g) (hN : N <= 1099511627776) : qbL M' w D (.slice (some ⟨g,0,none⟩) N N) N P:=by
 have hlt : g < w.heap.size:=by
  obtain ⟨f,hB,_⟩:=h
  exact hB.lt
 exact ⟨hN,.inr ⟨g,0,N,rfl,Nat.le_refl _,by unfold maxLen;omega,⟨hlt,hg⟩,fun i hi=>h.kid hm i hi⟩⟩
end Go.Proofs.YtjhhekmfdhfjpaaGreat
