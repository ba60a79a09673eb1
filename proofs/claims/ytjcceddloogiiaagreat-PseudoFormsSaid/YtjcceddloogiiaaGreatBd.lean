/- the division of two polynomials with the same main variable: plain law. copy of a row of polynomials; products of polynomials without the variable. -/
import Derived.Test.YtjcceddloogiiaaGreatBc
set_option linter.unusedVariables false
set_option linter.unusedSimpArgs false

namespace Go.Proofs.YtjcceddloogiiaaGreat
open Go.RowKit

abbrev negL (l : List Tm) : List Tm := pmul l [(-1, Mo.zero)]
theorem negL_coef (l : List Tm) (m : Mo) : coefAt (negL l) m = - coefAt l m := by
 rw [pmul_single l _ m, shift_zero, coefAt_smul]; show (-1 : Int) * _ = _; omega
theorem negL_nrm (l : List Tm) : nrm (negL l) = nrm l := by rw [nrm_pmul, nrm_one]; show _ * 1 = _; omega
theorem negL_deg {B : Nat} {l : List Tm} (h : Deg B l) : Deg B (negL l) := fun m hm k => h m (fun h0 => hm (by rw [negL_coef, h0]; rfl)) k
theorem negL_nn {l : List Tm} (h : NN l) : NN (negL l) := fun m hm => by rw [negL_coef, h m hm]; rfl
theorem NN.append {l r : List Tm} (h : NN l) (k : NN r) : NN (l ++ r) := fun m hm => by rw [coefAt_append, h m hm, k m hm]; rfl
theorem NN.nil : NN [] := fun _ _ => rfl
theorem NN.shift {l : List Tm} (h : NN l) {k i : Nat} : NN (shift (xp k (i : Int)) l) := fun m hm => by
 rw [coefAt_shift]
 refine h _ ?_
 cases hc : (Mo.sub m (xp k (i : Int))).nn with
 | false => rfl
 | true =>
  rw [Mo.nn_iff] at hc
  have : m.nn = true := by
   rw [Mo.nn_iff]
   have g1 : (Mo.sub m (xp k (i : Int))).a = m.a - (if k = 1 then (i : Int) else 0) := rfl
   have g2 : (Mo.sub m (xp k (i : Int))).b = m.b - (if k = 2 then (i : Int) else 0) := rfl
   have g3 : (Mo.sub m (xp k (i : Int))).c = m.c - (if k = 3 then (i : Int) else 0) := rfl
   have g4 : (Mo.sub m (xp k (i : Int))).d = m.d - (if k = 4 then (i : Int) else 0) := rfl
   rw [g1, g2, g3, g4] at hc
   have f : ∀ P : Prop, [Decidable P] → (0 : Int) ≤ (if P then (i : Int) else 0) := fun P _ => by split <;> omega
   have := f (k = 1); have := f (k = 2); have := f (k = 3); have := f (k = 4)
   omega
  rw [hm] at this; cases this
theorem NN.poly {L : Nat} {P : Nat → List Tm} : ∀ {n : Nat}, (∀ i, i < n → NN (P i)) → NN (poly L n P)
 | 0, _ => NN.nil
 | n + 1, h => by rw [poly_succ]; exact (NN.poly fun i hi => h i (by omega)).append (h n (by omega)).shift
theorem poly_append (L : Nat) (P Q : Nat → List Tm) : ∀ n, Sim (poly L n fun i => P i ++ Q i) (poly L n P ++ poly L n Q)
 | 0 => Sim.refl _
 | n + 1 => fun m => by
  have ih := poly_append L P Q n m
  simp only [poly_succ, coefAt_append, shift_append] at ih ⊢
  omega
theorem poly_nil {L : Nat} {P : Nat → List Tm} : ∀ {n : Nat}, (∀ i, i < n → Sim (P i) []) → Sim (poly L n P) []
 | 0, _ => Sim.refl _
 | n + 1, h => by
  rw [poly_succ]
  exact (poly_nil fun i hi => h i (by omega)).append ((h n (by omega)).shift _)
theorem xp_add_xp (L i j : Nat) : Mo.add (xp L (i : Int)) (xp L (j : Int)) = xp L ((j + i : Nat) : Int) := Mo.ext_get fun k _ _ => by
 rw [get_add]
 by_cases h : 1 ≤ L ∧ L ≤ 4
 ·rw [get_xp _ _ _ h.1 h.2, get_xp _ _ _ h.1 h.2, get_xp _ _ _ h.1 h.2]; split <;> omega
 ·have h0 : ∀ i : Int, xp L i = Mo.zero := fun i => by
   simp only [xp, Mo.zero, Mo.mk.injEq]
   refine ⟨if_neg (by omega), if_neg (by omega), if_neg (by omega), if_neg (by omega)⟩
  rw [h0, h0, h0]
  have h1 : Mo.zero.get k = 0 := by simp only [Mo.get, Mo.zero]; repeat (first | rfl | split)
  omega
theorem poly_up (L k : Nat) (c : List Tm) (G : Nat → List Tm) : ∀ n, Sim (pmul (shift (xp L (k : Int)) c) (poly L n G)) (poly L (k + n) fun i => if k ≤ i then pmul c (G (i - k)) else [])
 | 0 => by
  rw [poly_zero, pmul_nil]
  exact (poly_nil fun i hi => by rw [if_neg (by omega)]; exact Sim.refl _).symm
 | n + 1 => by
  rw [poly_succ, show k + (n + 1) = (k + n) + 1 by omega, poly_succ, if_pos (by omega), show k + n - k = n by omega]
  refine (Sim.pmul_append_right _ _ _).trans ((poly_up L k c G n).append ?_)
  refine (pmul_shift_left _ _ _).trans (((pmul_shift_right _ _ _).shift _).trans ?_)
  rw [shift_shift, xp_add_xp]
  exact Sim.refl _
def rj (k : Nat) (c : List Tm) (G R : Nat → List Tm) (j : Nat) (i : Nat) : List Tm := if k ≤ i ∧ i < k + j then R i ++ negL (pmul c (G (i - k))) else R i
theorem rj_zero (k : Nat) (c : List Tm) (G R : Nat → List Tm) (i : Nat) : rj k c G R 0 i = R i := if_neg (by omega)
theorem rj_at (k : Nat) (c : List Tm) (G R : Nat → List Tm) (j : Nat) : rj k c G R j (k + j) = R (k + j) := if_neg (by omega)
theorem rj_succ (k : Nat) (c : List Tm) (G R : Nat → List Tm) (j i : Nat) : rj k c G R (j + 1) i = if i = k + j then R (k + j) ++ negL (pmul c (G j)) else rj k c G R j i := by
 unfold rj
 by_cases h : i = k + j
 ·subst h; rw [if_pos (by omega), if_pos rfl, show k + j - k = j by omega]
 ·rw [if_neg h]
  by_cases h2 : k ≤ i ∧ i < k + j
  ·rw [if_pos h2, if_pos (by omega)]
  ·rw [if_neg h2, if_neg (by omega)]
def DvT (D n K B C A X g : Nat) (l r : List Tm) (k : Nat) (R Q : Nat → List Tm) : Prop :=
 Sim l (pmul (poly (D + 1) K fun i => if k ≤ i then Q i else []) r ++ poly (D + 1) (n + k) R) ∧
 (∀ i, i < n + k → Deg (B + (K - k) * C) (R i) ∧ dlen (nrm (R i)) ≤ A + (K - k) * ((X + 1) * (g + 2))) ∧
 (∀ i, k ≤ i → i < K → NN (Q i) ∧ Deg (B + (K - k) * C) (Q i) ∧ dlen (nrm (Q i)) ≤ A + (K - k) * ((X + 1) * (g + 2)))
theorem DvT.start {D n K B C A X g : Nat} {l r : List Tm} {R Q : Nat → List Tm} (hs : Sim (poly (D + 1) (n + K) R) l) (h : ∀ i, i < n + K → Deg B (R i) ∧ dlen (nrm (R i)) ≤ A) : DvT D n K B C A X g l r K R Q := by
 refine ⟨?_, fun i hi => ?_, fun i h1 h2 => by omega⟩
 ·have h0 : Sim (poly (D + 1) K fun i => if K ≤ i then Q i else []) [] := poly_nil fun i hi => by rw [if_neg (by omega)]; exact Sim.refl _
  exact hs.symm.trans ((h0.pmul_left r).symm.append (Sim.refl (poly (D + 1) (n + K) R)))
 ·rw [Nat.sub_self, Nat.zero_mul, Nat.zero_mul]; exact h i hi
theorem DvT.no {D n K B C A X g : Nat} {l r : List Tm} {k : Nat} {R Q G T : Nat → List Tm} (h : DvT D n K B C A X g l r (k + 1) R Q) (hD : D + 1 ≤ 4) (hG : ∀ i, i < n + 1 → Low D (G i)) (hz : ¬ Sim (G n) []) (hr : Sim (poly (D + 1) (n + 1) G) r) (hN : NN r) (hT : ∀ i, i < n + k + 1 → Sim (T i) (R i) ∧ Low D (T i)) (hn : ¬ Dv (G n) (R (n + k))) : ¬ Dv r l := fun hd => hn (by
 obtain ⟨h1, _, h3⟩ := h
 obtain ⟨q, hq, hs⟩ := hd.rest (NN.poly (n := K) fun i hi => by
  by_cases hk : k + 1 ≤ i
  ·rw [if_pos hk]; exact (h3 i hk hi).1
  ·rw [if_neg hk]; exact NN.nil) h1
 have := dv_step hD hG hz (hN.sim hr.symm) hq (R := T) (k := k) (fun i hi => (hT i hi).2) ((hr.pmul_right q).trans (hs.trans (poly_congr _ _ _ _ fun i hi => (hT i hi).1.symm)))
 exact this.sim (Sim.refl _) (hT _ (by omega)).1)
theorem DvT.end_no {D n K B C A X g : Nat} {l r : List Tm} {R Q G T : Nat → List Tm} (h : DvT D n K B C A X g l r 0 R Q) (hD : D + 1 ≤ 4) (hG : ∀ i, i < n + 1 → Low D (G i)) (hz : ¬ Sim (G n) []) (hr : Sim (poly (D + 1) (n + 1) G) r) (hN : NN r) (hT : ∀ i, i < n → Sim (T i) (R i) ∧ Low D (T i)) (hn : ¬ Sim (poly (D + 1) n R) []) : ¬ Dv r l := fun hd => hn (by
 obtain ⟨h1, _, h3⟩ := h
 obtain ⟨q, hq, hs⟩ := hd.rest (NN.poly (n := K) fun i hi => by rw [if_pos (Nat.zero_le _)]; exact (h3 i (Nat.zero_le _) hi).1) h1
 have hpT : Sim (poly (D + 1) n T) (poly (D + 1) n R) := poly_congr _ _ _ _ fun i hi => (hT i hi).1
 exact hpT.symm.trans (dv_end hD hG hz (hN.sim hr.symm) hq (Nat.le_refl n) (fun i hi => (hT i hi).2) ((hr.pmul_right q).trans (hs.trans hpT.symm))))
theorem DvT.end_yes {D n K B C A X g : Nat} {l r : List Tm} {R Q : Nat → List Tm} (h : DvT D n K B C A X g l r 0 R Q) (hn : Sim (poly (D + 1) n R) []) : Sim (pmul (poly (D + 1) K Q) r) l := by
 have h1 := h.1
 have h2 : poly (D + 1) K (fun i => if 0 ≤ i then Q i else []) = poly (D + 1) K Q := poly_eq _ _ _ _ fun i _ => if_pos (Nat.zero_le _)
 rw [h2] at h1
 refine Sim.symm (h1.trans (fun m => ?_))
 rw [coefAt_append, show poly (D + 1) (n + 0) R = poly (D + 1) n R from rfl, hn m]; simp [coefAt]
theorem DvT.step {D n K B C A X g : Nat} {l r : List Tm} {k : Nat} {R Q G : Nat → List Tm} (h : DvT D n K B C A X g l r (k + 1) R Q) (hk : k < K) {c : List Tm} (hr : Sim (poly (D + 1) (n + 1) G) r) (hGd : ∀ i, i < n → Deg C (G i) ∧ dlen (nrm (G i)) ≤ g) (hc : NN c) (hcd : Deg (B + (K - (k + 1)) * C) c) (hcs : Sim (pmul c (G n)) (R (n + k))) (hcl : dlen (nrm c) ≤ A + (K - (k + 1)) * ((X + 1) * (g + 2)) + X * (g + 2)) :
  DvT D n K B C A X g l r k (rj k c G R n) (fun i => if i = k then c else Q i) := by
 obtain ⟨h1, h2, h3⟩ := h
 have e1 : (K - k) * C = (K - (k + 1)) * C + C := by
  rw [show K - k = (K - (k + 1)) + 1 by omega, Nat.add_mul, Nat.one_mul]
 have e2 : (K - k) * ((X + 1) * (g + 2)) = (K - (k + 1)) * ((X + 1) * (g + 2)) + (X * (g + 2) + (g + 2)) := by
  rw [show K - k = (K - (k + 1)) + 1 by omega, Nat.add_mul, Nat.one_mul, Nat.add_mul X 1, Nat.one_mul]
 generalize (K - (k + 1)) * ((X + 1) * (g + 2)) = u at *
 generalize (K - (k + 1)) * C = v at *
 refine ⟨?_, fun i hi => ?_, fun i hi hiK => ?_⟩
 ·have hQ : Sim (poly (D + 1) K fun i => if k ≤ i then (if i = k then c else Q i) else []) (poly (D + 1) K (fun i => if k + 1 ≤ i then Q i else []) ++ shift (xp (D + 1) (k : Int)) c) := by
   refine (poly_grow hk (F' := fun i => if k ≤ i then (if i = k then c else Q i) else []) (F := fun i => if k + 1 ≤ i then Q i else []) (l := c) (fun i hi hik => ?_) ?_).1
   ·by_cases h5 : k ≤ i
    ·rw [if_pos h5, if_neg hik, if_pos (by omega)]
    ·rw [if_neg h5, if_neg (by omega)]
   ·show (if k ≤ k then (if k = k then c else Q k) else []) = (if k + 1 ≤ k then Q k else []) ++ c
    rw [if_pos (Nat.le_refl _), if_pos rfl, if_neg (by omega)]; rfl
  have hU := ((hr.symm.pmul_right (shift (xp (D + 1) (k : Int)) c))).trans (poly_up (D + 1) k c G (n + 1))
  have hU2 : Sim (poly (D + 1) (k + (n + 1)) fun i => if k ≤ i then pmul c (G (i - k)) else []) (poly (D + 1) (n + k) (fun i => if k ≤ i then pmul c (G (i - k)) else []) ++ shift (xp (D + 1) ((n + k : Nat) : Int)) (R (n + k))) := by
   rw [show k + (n + 1) = (n + k) + 1 by omega, poly_succ, if_pos (by omega), show n + k - k = n by omega]
   exact (Sim.refl _).append (hcs.shift _)
  have hR : Sim (poly (D + 1) (n + k) (rj k c G R n)) (poly (D + 1) (n + k) R ++ negL (poly (D + 1) (n + k) fun i => if k ≤ i then pmul c (G (i - k)) else [])) := by
   refine Sim.trans (poly_congr _ _ _ (fun i => R i ++ negL (if k ≤ i then pmul c (G (i - k)) else [])) fun i hi => ?_) ((poly_append _ _ _ _).trans ((Sim.refl _).append (pmul_poly_right _ _ _ _)))
   unfold rj
   by_cases h5 : k ≤ i
   ·rw [if_pos (by omega), if_pos h5]; exact Sim.refl _
   ·rw [if_neg (by omega), if_neg h5]
    intro m; rw [coefAt_append, negL_coef]; simp [coefAt]
  intro m
  have a1 := h1 m
  have a2 := (hQ.pmul_left r) m
  have a3 := (hU.trans hU2) m
  have a4 := hR m
  rw [show n + (k + 1) = (n + k) + 1 by omega, poly_succ] at a1
  rw [pmul_append_left] at a2
  simp only [coefAt_append, negL_coef] at a1 a2 a3 a4 ⊢
  omega
 ·rw [e1, e2]
  obtain ⟨g1, g2⟩ := h2 i (by omega)
  unfold rj
  split
  ·rename_i h5
   obtain ⟨p1, p2⟩ := hGd (i - k) (by omega)
   refine ⟨(g1.mono (by omega)).append (negL_deg ((Deg.pmul hcd p1 hc).mono (by omega))), ?_⟩
   rw [nrm_append, negL_nrm, nrm_pmul]
   have q1 := dlen_add (nrm (R i)) (nrm c * nrm (G (i - k)))
   have q2 := dlen_mul (nrm c) (nrm (G (i - k)))
   omega
  ·exact ⟨g1.mono (by omega), by omega⟩
 ·rw [e1, e2]
  simp only
  by_cases hik : i = k
  ·rw [if_pos hik]; exact ⟨hc, hcd.mono (by omega), by omega⟩
  ·rw [if_neg hik]
   obtain ⟨p0, p1, p2⟩ := h3 i (by omega) hiK
   exact ⟨p0, p1.mono (by omega), by omega⟩
end Go.Proofs.YtjcceddloogiiaaGreat

namespace Go.Proofs.YtjcceddloogiiaaGreat
open Go.RowKit

theorem run_copy_wide (P : Program) (w : World) (dT sT ty elem : TypeId) (g o dLen dCap : Nat) (a : Addr) (sLen sCap : Nat) (cur : Array Value) (t : TypeId) (cs : List Value) (k : Nat)
  (hu : P.underlying dT = some (.slice elem)) (hs : (P.info? elem).map (·.size) = some k)
  (hg : w.heap[g]? = some (.cells cur t (0, 0))) (hn : cs.length = Nat.min sLen dLen * k)
  (hsrc : ∀ j v, cs[j]? = some v → w.cell? (a.add j) = some v) (hfit : o + cs.length ≤ cur.size) (h1 : ∀ v ∈ cs, v.oneCell' = true) :
  (Builtin.copy_ #[dT, sT] ty #[.slice (some ⟨g, o, none⟩) dLen dCap, .slice (some a) sLen sCap]).run P w =
   .ok (goInt (Nat.min sLen dLen)) (w.setRow g (cur.toList.take o ++ cs ++ cur.toList.drop (o + cs.length)).toArray) := by
 have hl := run_loadCells_list (P := P) w a cs hsrc
 have hst := run_storeCells_at P g o t cs 0 cur w hg (by simpa using hfit) h1
 cases hq : P.info? elem with
 | none => simp [hq] at hs
 | some i =>
  have hi : i.size = k := by simpa [hq] using hs
  simp [Builtin.copy_, run_underlying hu, Builtin.lenOf, Builtin.firstCells, sizeOf, typeInfo, hq, hi, ← hn, hl, hst]
theorem wpList_copy_wide {P : Program} {w : World} {ops : Array Oper} {rest : List Oper} {o : Oper} {a : Act} {Q : Exit → Act → World → Prop} (hgd : o.guard = none) (d s : Operand) (dT sT : TypeId)
  (ho : o.op = .call { callee := .builtin .copy, args := #[d, s], argTypes := #[dT, sT] }) (elem : TypeId) (hu : P.underlying dT = some (.slice elem)) (z : Nat) (hsz : (P.info? elem).map (·.size) = some z)
  (N dCap sCap : Nat) (g b off : Nat) (hd : a.eval d = .slice (some ⟨g, 0, none⟩) N dCap) (hs : a.eval s = .slice (some ⟨b, off, none⟩) N sCap)
  (t : TypeId) (f : Nat → Value) (hB : Blk w g t (N * z) f) (src : Nat → Value) (hsrc : ∀ j, j < N * z → w.cell? ⟨b, off + j, none⟩ = some (src j))
  (h1 : ∀ j, j < N * z → (src j).oneCell' = true)
  (h : ∀ w', Blk w' g t (N * z) (over f 0 (N * z) src) → w.grownBy w' (some g) → wpList P ops Q rest (a.put o.dst (goInt N)) w') :
  wpList P ops Q (o :: rest) a w := by
 obtain ⟨cur, hg, hcs, hb⟩ := hB.splice 0 (N * z) src (by omega)
 refine wpList_plain hgd fun K hK => ?_
 have hmin : Nat.min N N = N := Nat.min_self N
 have hrun := run_copy_wide P w dT sT o.type elem g 0 N dCap ⟨b, off, none⟩ N sCap cur t ((List.range (N * z)).map src) z hu hsz hg (by rw [hmin]; simp) (fun j v hv => by
  simp only [List.getElem?_map, Option.map_eq_some_iff] at hv
  obtain ⟨x, hx, rfl⟩ := hv
  have hlt := (List.getElem?_eq_some_iff.1 hx).1
  simp only [List.length_range] at hlt
  rw [List.getElem?_range hlt] at hx
  cases hx
  rw [addr_add]; exact hsrc j hlt) (by simp; omega) (fun v hv => by
  simp only [List.mem_map, List.mem_range] at hv
  obtain ⟨j, hj, rfl⟩ := hv
  exact h1 j hj)
 rw [hmin] at hrun
 unfold Oper.wp
 simp only [execOp, ho, resolve, invoke, builtin, Sem.run_bind, Sem.run_pure, List.map_toArray, List.map_cons, List.map_nil, hd, hs, hrun, Result.andThen_ok]
 refine hK _ _ (h _ ?_ ?_)
 ·simp only [List.append_assoc] at hb ⊢; exact hb
 ·exact grownBy_setRow _ _ _
theorem Kids.of_px {M : Nat → Prop} {w : World} {D g N : Nat} {xx : Nat → PE} {P : Nat → List Tm} {f : Nat → Value} (hB : Blk w g 33 (N * 4) f) (hf : ∀ j, j < N * 4 → f j = px xx j) (h : ∀ i, i < N → CRx M w D (xx i) (P i)) : Kids M w D g N P :=
 ⟨f, hB, fun i hi => by rw [hf _ (by omega), hf _ (by omega), hf _ (by omega), hf _ (by omega), px0, px1, px2, px3]; exact h i hi⟩
theorem px_cell {w : World} {b off N : Nat} {xx : Nat → PE} (h : ∀ i, i < N → KCell w b (off + i * 4) (xx i)) (j : Nat) (hj : j < N * 4) : w.cell? ⟨b, off + j, none⟩ = some (px xx j) := by
 obtain ⟨i, r, rfl, hr⟩ : ∃ i r, j = i * 4 + r ∧ r < 4 := ⟨j / 4, j % 4, by omega, by omega⟩
 obtain ⟨h0, h1, h2, h3⟩ := h i (by omega)
 match r, hr with
 | 0, _ => rw [Nat.add_zero, px0]; exact h0
 | 1, _ => rw [px1, ← Nat.add_assoc]; exact h1
 | 2, _ => rw [px2, ← Nat.add_assoc]; exact h2
 | 3, _ => rw [px3, ← Nat.add_assoc]; exact h3
theorem px_one (xx : Nat → PE) (j : Nat) : (px xx j).oneCell' = true := by
 unfold px
 split
 ·rfl
 ·split
  ·rfl
  ·split <;> rfl
theorem Kids.cells {M : Nat → Prop} {w : World} {D g N : Nat} {P : Nat → List Tm} (h : Kids M w D g N P) (i : Nat) (hi : i < N) : ∃ y : PE, KCell w g (i * 4) y ∧ CRx M w D y (P i) := by
 obtain ⟨f, hB, hc⟩ := h
 obtain ⟨x, e0, e1, e2, e3, hx, _⟩ := (hc i hi).pe
 refine ⟨x, ⟨?_, ?_, ?_, ?_⟩, hx⟩
 ·rw [hB.cell (by omega), e0]
 ·rw [hB.cell (by omega), e1]
 ·rw [hB.cell (by omega), e2]
 ·rw [hB.cell (by omega), e3]
theorem Low.pmul {L : Nat} {l r : List Tm} (h : Low L l) (k : Low L r) : Low L (pmul l r) := by
 induction l with
 | nil => intro t ht; cases ht
 | cons s l ih =>
  intro t ht j hj hj4
  simp only [Go.Proofs.YtjcceddloogiiaaGreat.pmul, List.mem_append] at ht
  rcases ht with h1 | h1
  ·simp only [shift, smul, List.mem_map, List.map_map] at h1
   obtain ⟨u, hu, rfl⟩ := h1
   show (Mo.add _ _).get j = 0
   simp only [get_add, h s (List.mem_cons_self ..) j hj hj4]
   have := k u hu j hj hj4
   simp [this]
  ·exact ih (fun t ht => h t (List.mem_cons_of_mem _ ht)) t h1 j hj hj4
theorem low_one (L : Nat) (z : Int) : Low L [(z, Mo.zero)] := (low_const z).mono (Nat.zero_le _)
theorem CRx.lowE {M : Nat → Prop} {w : World} {L : Nat} {x : PE} {l : List Tm} (h : CRx M w L x l) : ∃ T, Sim T l ∧ Low L T := by
 obtain ⟨T, h1, h2⟩ := h.lowU
 exact ⟨T, h1, fun t ht k hk hk4 => h2 t ht k (by have := h.lev; omega) hk4⟩
end Go.Proofs.YtjcceddloogiiaaGreat
