/- cylinderref39.Family: plain facts, parts of rows, append of a part. cylinderref39.Family: the walk. SimplifyPolys: the walk. -/
import Derived.Test.YtodiphjjdheoaaaGreatHc
import Derived.Test.YtodiphjjdheoaaaGreatGa
import Derived.Deep.Upon
import Derived.Test.YtodiphjjdheoaaaGreatHd
import Derived.Test.YtodiphjjdheoaaaGreatGc
import Derived.Test.YtodiphjjdheoaaaGreatNh
set_option linter.unusedVariables false
set_option linter.unusedSimpArgs false

namespace Go.Proofs.YtodiphjjdheoaaaGreat
open Go.RowKit

def FamLs (P : Nat → List Tm) (k : Nat) (GL : List (List Tm)) : Prop := (∀ g ∈ GL, ∃ j, j < k ∧ g = snorm (P j) ∧ lvM (g.map (·.2)) ≠ 0) ∧ (∀ j, j < k → lvM ((snorm (P j)).map (·.2)) ≠ 0 → snorm (P j) ∈ GL) ∧ GL.Pairwise fun a b => cmpP a b < 0
theorem FamLs.start (P : Nat → List Tm) : FamLs P 0 [] := ⟨fun g hg => absurd hg (by simp), fun j hj => absurd hj (Nat.not_lt_zero _), List.Pairwise.nil⟩
theorem FamLs.skip {P : Nat → List Tm} {k : Nat} {GL : List (List Tm)} (h : FamLs P k GL) (h0 : lvM ((snorm (P k)).map (·.2)) = 0 ∨ snorm (P k) ∈ GL) : FamLs P (k + 1) GL := by
 refine ⟨fun g hg => ?_, fun j hj hl => ?_, h.2.2⟩
 ·obtain ⟨j, hj, e⟩ := h.1 g hg; exact ⟨j, by omega, e⟩
 ·by_cases hjk : j = k
  ·subst hjk
   exact h0.elim (fun h1 => absurd h1 hl) id
  ·exact h.2.1 j (by omega) hl
theorem FamLs.put {P : Nat → List Tm} {k at_ : Nat} {GL : List (List Tm)} (h : FamLs P k GL) (hl : lvM ((snorm (P k)).map (·.2)) ≠ 0) (h1 : ∀ i, i < at_ → cmpP (GL.getD i []) (snorm (P k)) < 0) (hat : at_ ≤ GL.length) (h2 : at_ < GL.length → cmpP (snorm (P k)) (GL.getD at_ []) < 0) : FamLs P (k + 1) (GL.take at_ ++ [snorm (P k)] ++ GL.drop at_) := by
 have hsp : GL.take at_ ++ GL.drop at_ = GL := List.take_append_drop _ _
 have hpw := h.2.2
 rw [← hsp] at hpw
 obtain ⟨p1, p2, p3⟩ := List.pairwise_append.1 hpw
 have hmem : ∀ g, g ∈ GL ↔ g ∈ GL.take at_ ∨ g ∈ GL.drop at_ := fun g => by conv => lhs; rw [← hsp]; rw [List.mem_append]
 have hlow : ∀ x ∈ GL.take at_, cmpP x (snorm (P k)) < 0 := fun x hx => by
  obtain ⟨i, hi, rfl⟩ := List.mem_iff_getElem.1 hx
  have hi2 : i < at_ := by rw [List.length_take] at hi; omega
  have := h1 i hi2
  rw [List.getD_eq_getElem?_getD, List.getElem?_eq_getElem (by omega)] at this
  rw [List.getElem_take]; exact this
 have hhigh : ∀ y ∈ GL.drop at_, cmpP (snorm (P k)) y < 0 := fun y hy => by
  have hlt : at_ < GL.length := by
   refine Classical.byContradiction fun hc => ?_
   rw [List.drop_eq_nil_of_le (by omega)] at hy
   exact absurd hy (by simp)
  have h3 := h2 hlt
  have e : GL.drop at_ = GL.getD at_ [] :: GL.drop (at_ + 1) := by
   rw [List.drop_eq_getElem_cons hlt, List.getD_eq_getElem?_getD, List.getElem?_eq_getElem hlt]; rfl
  rw [e] at hy p2
  rcases List.mem_cons.1 hy with rfl | hy
  ·exact h3
  ·exact cmpP_trans h3 ((List.pairwise_cons.1 p2).1 y hy)
 refine ⟨fun g hg => ?_, fun j hj hlj => ?_, ?_⟩
 ·rw [List.mem_append, List.mem_append, List.mem_singleton] at hg
  have hg2 : g = snorm (P k) ∨ g ∈ GL := by
   rcases hg with (hg | hg) | hg
   ·exact .inr ((hmem g).2 (.inl hg))
   ·exact .inl hg
   ·exact .inr ((hmem g).2 (.inr hg))
  rcases hg2 with rfl | hg2
  ·exact ⟨k, by omega, rfl, hl⟩
  ·obtain ⟨j, hj, e⟩ := h.1 g hg2; exact ⟨j, by omega, e⟩
 ·rw [List.mem_append, List.mem_append, List.mem_singleton]
  by_cases hjk : j = k
  ·subst hjk; exact .inl (.inr rfl)
  ·rcases (hmem _).1 (h.2.1 j (by omega) hlj) with h4 | h4
   ·exact .inl (.inl h4)
   ·exact .inr h4
 ·rw [List.append_assoc]
  refine List.pairwise_append.2 ⟨p1, List.pairwise_append.2 ⟨List.pairwise_singleton _ _, p2, fun a ha b hb => ?_⟩, fun a ha b hb => ?_⟩
  ·rw [List.mem_singleton] at ha; rw [ha]; exact hhigh b hb
  ·rcases List.mem_append.1 hb with hb | hb
   ·rw [List.mem_singleton] at hb; rw [hb]; exact hlow a ha
   ·exact p3 a ha b hb
theorem FamLs.fam {P : Nat → List Tm} {N : Nat} {GL : List (List Tm)} (h : FamLs P N GL) : FamL N P GL.length fun j => GL.getD j [] := by
 have hgd : ∀ i (hi : i < GL.length), GL.getD i [] = GL[i] := fun i hi => by rw [List.getD_eq_getElem?_getD, List.getElem?_eq_getElem hi]; rfl
 refine ⟨fun i hi => ?_, fun j hj hl => ?_, fun i j hij hj => ?_⟩
 ·obtain ⟨j, hj, e, hl⟩ := h.1 (GL.getD i []) (by rw [hgd i hi]; exact List.getElem_mem hi)
  exact ⟨j, hj, e, hl⟩
 ·obtain ⟨i, hi, e⟩ := List.mem_iff_getElem.1 (h.2.1 j hj hl)
  exact ⟨i, hi, by show GL.getD i [] = _; rw [hgd i hi]; exact e⟩
 ·show cmpP (GL.getD i []) (GL.getD j []) < 0
  rw [hgd i (by omega), hgd j hj]
  exact List.pairwise_iff_getElem.1 h.2.2 i j (by omega) hj hij
theorem cmpP_of_nlt {a b : List Tm} (h : ¬ cmpP a b < 0) (hne : a ≠ b) : cmpP b a < 0 := by
 rcases cmpP_tri a b with h1 | h1 | h1
 ·exact absurd h1 h
 ·exact absurd h1 hne
 ·exact h1
theorem KRow.take {M : Nat → Prop} {w : World} {a : Option Addr} {n p : Nat} {P : Nat → List Tm} (h : KRow M w 4 (.slice a n p) n P) (k : Nat) (hk : k ≤ n) : KRow M w 4 (.slice a k p) k P := by
 obtain ⟨h1, h2⟩ := h
 refine ⟨by omega, ?_⟩
 rcases h2 with ⟨h2, h0⟩ | ⟨b, off, cap, hv, hn, hc, hb, hkid⟩
 ·subst h0
  simp only [Value.slice.injEq] at h2
  obtain ⟨rfl, _, rfl⟩ := h2
  obtain rfl : k = 0 := by omega
  exact .inl ⟨rfl, rfl⟩
 ·simp only [Value.slice.injEq] at hv
  obtain ⟨rfl, _, rfl⟩ := hv
  exact .inr ⟨b, off, p, rfl, by omega, hc, hb, fun i hi => hkid i (by omega)⟩
theorem KRow.drop {M : Nat → Prop} {w : World} {a : Option Addr} {n p : Nat} {P : Nat → List Tm} (h : KRow M w 4 (.slice a n p) n P) (k : Nat) (hk : k ≤ n) : (a = none ∧ n = 0 ∧ p = 0) ∨ ∃ b off, a = some ⟨b, off, none⟩ ∧ KRow M w 4 (.slice (some ⟨b, off + k * 4, none⟩) (n - k) (p - k)) (n - k) fun j => P (k + j) := by
 obtain ⟨h1, h2⟩ := h
 rcases h2 with ⟨h2, h0⟩ | ⟨b, off, cap, hv, hn, hc, hb, hkid⟩
 ·subst h0
  simp only [Value.slice.injEq] at h2
  exact .inl ⟨h2.1, rfl, h2.2.2⟩
 ·simp only [Value.slice.injEq] at hv
  obtain ⟨rfl, _, rfl⟩ := hv
  refine .inr ⟨b, off, rfl, by omega, .inr ⟨b, off + k * 4, p - k, rfl, by omega, by omega, hb, fun i hi => ?_⟩⟩
  have := hkid (k + i) (by omega)
  rw [show off + k * 4 + i * 4 = off + (k + i) * 4 by omega]
  exact this
theorem wp_append_prow {P : Program} (w : World) {o : Oper} {a : Act} {K : Act → World → Prop} {Q : Exit → Act → World → Prop} (s x : Operand) (t : TypeId)
  (ho : o.op = .call { callee := .builtin .append, args := #[s, x], argTypes := #[t, t] })
  (base : Nat) (i : TypeInfo) (z : Value) (ht : P.underlying t = some (.slice 29)) (hi : P.info? 29 = some i) (hz : i.zero = some z)
  (hsize : i.size = 4) (hby : i.bytes = 64) (hzs : z.cells.size = 4)
  (v : Value) (GL : List (List Tm)) (hs : a.eval s = v) (hown : PRow base w v GL)
  (ua : Option Addr) (m up : Nat) (RL : List (List Tm)) (hm : m = RL.length) (hx : a.eval x = .slice ua m up) (hu : KRow (MR M0 v) w 4 (.slice ua m up) m fun j => RL.getD j []) (h63 : GL.length + m ≤ 1000000) (hbase : base ≤ w.heap.size)
  (h : ∀ v' w', PRow base w' v' (GL ++ RL) → w.grownBy w' v.ownBlock → (∀ g, v'.ownBlock = some g → v.ownBlock = some g ∨ w.heap.size ≤ g) → K (a.put o.dst v') w') :
  Oper.wp P o a w K Q := by
 rcases Nat.eq_zero_or_pos m with h0 | h0
 ·subst h0
  have hRL : RL = [] := List.length_eq_zero_iff.1 hm.symm
  obtain ⟨xx, hO, hX⟩ := id hown
  have hle : ∃ va vp, v = .slice va GL.length vp ∧ GL.length ≤ vp := by
   rcases hO with ⟨rfl, h0⟩ | ⟨g, cap, F, rfl, _, _, hc, _⟩
   ·exact ⟨none, 0, by rw [h0], by omega⟩
   ·exact ⟨_, _, rfl, hc⟩
  obtain ⟨va, vp, hv, hle⟩ := hle
  have hsrc : Src P i.size t (.slice ua 0 up) 0 [] w := by
   cases ua with
   | none => exact Src.ofNil w ht up
   | some q => exact Src.ofSlice w ht q 0 up [] (by simp) (fun j u hj => by simp at hj) (fun u hu => by simp at hu)
  have hrun := run_append_nothing (P := P) w t t o.type 29 i ht hi va GL.length vp hle (.slice ua 0 up) hsrc
  have h2 := h v w (by rw [hRL, List.append_nil]; exact hown) (grownBy_refl w _) (fun g hg => .inl hg)
  rw [hv] at hs h2
  unfold Oper.wp
  simp [execOp, ho, resolve, invoke, builtin, hs, hx, hrun, Result.andThen]
  exact h2
 ·obtain ⟨xx, hO, hX⟩ := id hown
  obtain ⟨xu, hxu⟩ := hu.x
  obtain ⟨⟨b, off, rfl, hmc, hcm, hb, hMb, _⟩, _⟩ := hxu 0 h0
  refine wp_append_lies w s x t ho base 29 i z 4 64 ht hi hz hsize hby hzs (by omega) v GL.length (rowL (px xx) (GL.length * 4)) hs hO.toRow ⟨b, off, none⟩ m up (rowL (px xu) (m * 4)) hx (rowL_len _ _) ?_ ?_ h0 (by unfold maxLen; omega) (by omega) hbase w.heap.size rfl ?_
  ·intro j u hj
   have hj2 : j < m * 4 := by
    have := (List.getElem?_eq_some_iff.1 hj).1
    simpa [rowL_len] using this
   rw [rowL_get _ _ _ hj2] at hj
   cases hj
   rw [addr_add]
   obtain ⟨⟨b', off', he, _, _, _, _, k0, k1, k2, k3⟩, _⟩ := hxu (j / 4) (by omega)
   simp only [Option.some.injEq, Addr.mk.injEq, and_true] at he
   obtain ⟨rfl, rfl⟩ := he
   unfold px
   by_cases e0 : j % 4 = 0
   ·rw [if_pos e0, show off + j = off + j / 4 * 4 by omega]; exact k0
   ·rw [if_neg e0]
    by_cases e1 : j % 4 = 1
    ·rw [if_pos e1, show off + j = off + j / 4 * 4 + 1 by omega]; exact k1
    ·rw [if_neg e1]
     by_cases e2 : j % 4 = 2
     ·rw [if_pos e2, show off + j = off + j / 4 * 4 + 2 by omega]; exact k2
     ·rw [if_neg e2, show off + j = off + j / 4 * 4 + 3 by omega]; exact k3
  ·intro u hu
   simp only [rowL, List.mem_map, List.mem_range] at hu
   obtain ⟨j, hj, rfl⟩ := hu
   exact px_each xu j
  ·intro g cap w' ho hg hat hlt
   rw [rowL_app, show GL.length * 4 + m * 4 = (GL.length + m) * 4 from by rw [Nat.add_mul]] at ho
   have hat2 : v.ownBlock = some g ∨ w.heap.size ≤ g := hat.imp id (fun e => by omega)
   refine h _ w' ⟨appF GL.length xx xu, ?_, fun j hj => ?_⟩ hg (fun g' hg' => by
    simp only [Value.ownBlock, Option.some.injEq] at hg'
    rw [← hg']; exact hat2)
   ·rw [List.length_append, ← hm]
    exact (Own.ofRow ho).congr fun j _ => px_rows xx xu GL.length j
   ·rw [List.length_append, ← hm] at hj
    unfold appF
    by_cases hjn : j < GL.length
    ·rw [if_pos hjn, show (GL ++ RL).getD j [] = GL.getD j [] by simp [List.getD_eq_getElem?_getD, List.getElem?_append_left hjn]]
     exact keep_grownC (n := GL.length + m) (cap := cap) (hX j hjn) hg hat2
    ·rw [if_neg hjn, show (GL ++ RL).getD j [] = RL.getD (j - GL.length) [] by simp [List.getD_eq_getElem?_getD, List.getElem?_append_right (Nat.le_of_not_lt hjn)]]
     exact keep_grownC (n := GL.length + m) (cap := cap) (hxu (j - GL.length) (by omega)).2.1 hg hat2
theorem wp_append_zero {P : Program} (w : World) {o : Oper} {a : Act} {K : Act → World → Prop} {Q : Exit → Act → World → Prop} (s x : Operand) (t : TypeId)
  (ho : o.op = .call { callee := .builtin .append, args := #[s, x], argTypes := #[t, t] })
  (base : Nat) (i : TypeInfo) (ht : P.underlying t = some (.slice 29)) (hi : P.info? 29 = some i)
  (v : Value) (GL : List (List Tm)) (hs : a.eval s = v) (hown : PRow base w v GL)
  (ua : Option Addr) (up : Nat) (hx : a.eval x = .slice ua 0 up) (h : K (a.put o.dst v) w) : Oper.wp P o a w K Q := by
 obtain ⟨xx, hO, hX⟩ := hown
 have hle : ∃ va vp, v = .slice va GL.length vp ∧ GL.length ≤ vp := by
  rcases hO with ⟨rfl, h0⟩ | ⟨g, cap, F, rfl, _, _, hc, _⟩
  ·exact ⟨none, 0, by rw [h0], by omega⟩
  ·exact ⟨_, _, rfl, hc⟩
 obtain ⟨va, vp, hv, hle⟩ := hle
 have hsrc : Src P i.size t (.slice ua 0 up) 0 [] w := by
  cases ua with
  | none => exact Src.ofNil w ht up
  | some q => exact Src.ofSlice w ht q 0 up [] (by simp) (fun j u hj => by simp at hj) (fun u hu => by simp at hu)
 have hrun := run_append_nothing (P := P) w t t o.type 29 i ht hi va GL.length vp hle (.slice ua 0 up) hsrc
 rw [hv] at hs h
 unfold Oper.wp
 simp [execOp, ho, resolve, invoke, builtin, hs, hx, hrun, Result.andThen]
 exact h
theorem PRow.push2 {base : Nat} {w w' : World} {va : Option Addr} {n vc : Nat} {GL : List (List Tm)} {xx : Nat → PE} {y : PE} {l : List Tm} {g cap : Nat} (hn : n = GL.length) (hx : ∀ j, j < GL.length → CRx (MR M0 (.slice va n vc)) w 4 (xx j) (GL.getD j [])) (hy : CRx (MR M0 (.slice va n vc)) w 4 y l)
  (hO : Own w' base 29 4 (.slice (some ⟨g, 0, none⟩) (n + 1) cap) (n + 1) (app (px xx) (n * 4) (arr (peA y)))) (hg : w.grownBy w' (Value.slice va n vc).ownBlock) (hat : (Value.slice va n vc).ownBlock = some g ∨ w.heap.size ≤ g) :
  PRow base w' (.slice (some ⟨g, 0, none⟩) (n + 1) cap) (GL ++ [l]) := by
 subst hn
 exact PRow.push hx hy hO hg hat
theorem sn_f {M : Nat → Prop} {w : World} {x : PE} {l : List Tm} (hx : CRx M w 4 x l) (hD : Deg 66 l) (hL : dlen (nrm l) ≤ 5) (M' : Nat → Prop) (W' : World) (h1 : Mb M' W') (h2 : ∀ g, M' g → M g ∨ w.heap.size ≤ g) (h3 : Ext w W') : Calls Tryz.prog 59 #[.agg (peA x)] W' (RetX M' W' 4 (snorm l)) := by
 obtain ⟨t, hR, hT, hS, hN⟩ := hx.tbM (B := 66) (Nat.le_refl _) (by omega) hD (by decide)
 rw [← hS.snorm]
 refine mv_snorm M' (4 + 1) t x W' h1 (RR.ext (RR.more h2 hR) h3) hT ?_
 have h5 := dlen_mono hN
 omega
theorem cmp_f {M M2 : Nat → Prop} {w w2 : World} {x y : PE} {l r : List Tm} (hx : CRx M w 4 x l) (hy : CRx M2 w2 4 y r) (hDl : Deg 66 l) (hLl : dlen (nrm l) ≤ 5) (hDr : Deg 66 r) (hLr : dlen (nrm r) ≤ 5) (W' : World) (h3 : Ext w W') (h4 : Ext w2 W') : Calls Tryz.prog 60 #[.agg (peA x), .agg (peA y)] W' fun e w' => e = .returned (.int .i64 (cmpP (norm l) (norm r))) ∧ Ext W' w' := by
 obtain ⟨t, hR, hT, hS, hN⟩ := hx.tbM (B := 66) (Nat.le_refl _) (by omega) hDl (by decide)
 obtain ⟨u, hU, hV, hS2, hN2⟩ := hy.tbM (B := 66) (Nat.le_refl _) (by omega) hDr (by decide)
 rw [← hS.norm, ← hS2.norm]
 exact mv_Compare M0 5 5 t u x y W' (mb0 _) (RR.ext (RR.more (fun g h => h.elim) hR) h3) hT (RR.ext (RR.more (fun g h => h.elim) hU) h4) hV
end Go.Proofs.YtodiphjjdheoaaaGreat

namespace Go.Proofs.YtodiphjjdheoaaaGreat
open Go.RowKit

theorem PRow.low {base base' : Nat} {w : World} {v : Value} {GL : List (List Tm)} (h : PRow base w v GL) (hb : base' ≤ base) : PRow base' w v GL := by
 obtain ⟨xx, hO, hX⟩ := h
 refine ⟨xx, ?_, hX⟩
 rcases hO with h | ⟨g, cap, F, h1, h2, h3⟩
 ·exact .inl h
 ·exact .inr ⟨g, cap, F, h1, Nat.le_trans hb h2, h3⟩
theorem lvR_const {l : List Tm} {z : Int} (h : Sim l [(z, Mo.zero)]) : LvR l 0 := by
 refine ⟨by omega, fun m hm j hj hj4 => ?_, .inl rfl⟩
 have h1 := h m
 have hm0 : m = Mo.zero := by
  refine Classical.byContradiction fun hne => hm ?_
  rw [h1]
  exact coefAt_zero fun t ht e => by
   rw [List.mem_singleton] at ht
   rw [ht] at e
   exact hne e.symm
 rw [hm0]
 rcases (show j = 1 ∨ j = 2 ∨ j = 3 ∨ j = 4 by omega) with rfl | rfl | rfl | rfl <;> rfl
theorem lvM_const {l : List Tm} {z : Int} (hl : NN l) (h : Sim l [(z, Mo.zero)]) : lvM ((snorm l).map (·.2)) = 0 := by
 rw [lvM_sn, ← lv_lvF hl (lvR_const h)]
theorem lvM_nconst {M : Nat → Prop} {w : World} {x : PE} {l : List Tm} (hx : CRx M w 4 x l) (h : ∃ m k, coefAt l m ≠ 0 ∧ 1 ≤ k ∧ k ≤ 4 ∧ 0 < m.get k) : lvM ((snorm l).map (·.2)) ≠ 0 := by
 obtain ⟨k, _, hk⟩ := hx.lvR
 have h1 := lv_lvF hx.nn hk
 rw [lvM_sn, ← h1]
 rintro rfl
 obtain ⟨m, j, hm, h1, h4, hp⟩ := h
 have := hk.2.1 m hm j (by omega) h4
 omega
theorem FamLs.sm {P : Nat → List Tm} {k N : Nat} {GL : List (List Tm)} (h : FamLs P k GL) (hk : k ≤ N) (hP : ∀ j, j < N → SmF (P j)) (i : Nat) (hi : i < GL.length) : SmF (GL.getD i []) ∧ norm (GL.getD i []) = GL.getD i [] := by
 have hgd : GL.getD i [] = GL[i] := by rw [List.getD_eq_getElem?_getD, List.getElem?_eq_getElem hi]; rfl
 obtain ⟨j, hj, e, _⟩ := h.1 (GL.getD i []) (by rw [hgd]; exact List.getElem_mem hi)
 rw [e]
 exact ⟨(hP j (by omega)).sn, norm_snorm _⟩
def SP1 (b : Nat) (x : PE) (w : World) : Prop := P4 w b x
theorem SP1.ext {b : Nat} {x : PE} {w w' : World} (h : SP1 b x w) (he : Ext w w') : SP1 b x w' := P4.ext h he
def RetF39 (w : World) (N : Nat) (P : Nat → List Tm) (e : Ending) (w' : World) : Prop := ∃ (a : Option Addr) (c p : Nat) (F : Nat → List Tm), e = .returned (.slice a c p) ∧ KRow M0 w' 4 (.slice a c p) c F ∧ FamL N P c F ∧ Ext w w'
set_option maxRecDepth 100000 in
set_option maxHeartbeats 16000000 in
theorem rf_fam39 (a : Option Addr) (N cap : Nat) (P : Nat → List Tm) (w : World) (h : KRow M0 w 4 (.slice a N cap) N P) (hP : ∀ j, j < N → Deg 66 (P j) ∧ dlen (nrm (P j)) ≤ 5) (hN : N ≤ 1000) :
  Calls Tryz.prog 19 #[.slice a N cap] w (RetF39 w N P) := by
 obtain ⟨j0, ji, jz0, jz1, jz2⟩ := info_parts Tryz.info29
 obtain ⟨fx, hfx⟩ := h.x
 have HX := Lib.hid hfx
 have HSM : Hid (∀ j, j < N → SmF (P j)) := fun j hj => ⟨(hfx j hj).2.1.nn, (hP j hj).1, (hP j hj).2⟩
 clear h hfx hP
 go_enter Tryz.func19, Tryz.ntmps19
 go_wp2
 go_loopw [12, 3] (fun iv v wr => ∃ (k : Nat) (GL : List (List Tm)), k ≤ N ∧ iv = .int .i64 (k : Int) ∧ PRow w.heap.size wr v GL ∧ Hid (FamLs P k GL) ∧ Hid (GL.length ≤ k) ∧ Hid (Ext w wr)) (fun iv _ _ => N - (intOf iv).toNat)
 case atStart => exact ⟨0, [], Nat.zero_le _, rfl, PRow.nil _ _, FamLs.start P, Nat.le_refl _, Ext.refl _⟩
 case round =>
  obtain ⟨k, GL, hk, rfl, hPR, HFM, HLN, HE⟩ := hrel
  obtain ⟨va, n, vp, rfl, hn⟩ := hPR.form3
  have hnk : n ≤ 1000 := by have := HLN.out; omega
  have hKV := hPR.krow (by omega)
  rw [← hn] at hKV
  have HNL := Lib.hid hn
  obtain ⟨gx, hgx⟩ : ∃ gx : Nat → List Tm, gx = fun j => GL.getD j [] := ⟨_, rfl⟩
  rw [← hgx] at hKV
  have HGX : Hid (∀ j, gx j = GL.getD j []) := fun j => by rw [hgx]
  clear hn hgx
  by_cases hlt : k < N
  ·have hltI : (k : Int) < (N : Int) := by omega
   have HLT := Lib.hid hlt
   obtain ⟨⟨b, off, hab, hNc, hcm, hb, hMb, hkc⟩, hx, _, _, _⟩ := HX.out k hlt
   subst hab
   obtain ⟨c0, c1, c2, c3⟩ := hkc.ext hb HE.out
   have hbw : b < wr.heap.size := Nat.lt_of_lt_of_le hb HE.out.size
   have HKC := Lib.hid hkc
   have HXK := Lib.hid hx
   have CC := Lib.hid (rp_Constant M0 (fx k) (P k) wr (mb0 _) (hx.ext HE.out).pi)
   have HPR := Lib.hid hPR
   have HKV := Lib.hid hKV
   clear hkc hx hPR hKV hlt
   go_wp2_with (fail)
   refine CC.out.mono ?_
   rintro e w2 ⟨z, ok, zb, za, zn, zp, rfl, hz, hok1, hok2, he2⟩
   have HO1 := Lib.hid hok1
   have HO2 := Lib.hid hok2
   have hEz := he2.trans ((Ext.refl w2).alloc (.cells #[.bool zb, .slice za zn zp] 26))
   have HEZ := Lib.hid hEz
   clear hz hok1 hok2 he2 CC c0 c1 c2 c3 hEz
   cases ok with
   | true =>
    have HF : Hid (FamLs P (k + 1) GL) := HFM.out.skip (.inl (lvM_const (HSM.out k HLT.out).1 (HO1.out rfl)))
    have HL : Hid (GL.length ≤ k + 1) := by have := HLN.out; show _ ≤ _; omega
    have HPR2 := Lib.hid (HPR.out.ext HEZ.out)
    have HE2 := Lib.hid (HE.out.trans HEZ.out)
    clear HFM HLN HPR HE HEZ HKV HO1 HO2
    go_wp2
    go_roundw
    case rel => exact ⟨k + 1, GL, HLT.out, by go_num, HPR2.out, HF, HL, HE2⟩
    case measure => have := HLT.out; simp [intOf]; omega
   | false =>
    have hne := lvM_nconst HXK.out (HO2.out rfl).2
    have HNE := Lib.hid hne
    have hE2 := HE.out.trans HEZ.out
    have CS := Lib.hid (sn_f HXK.out (HSM.out k HLT.out).2.1 (HSM.out k HLT.out).2.2 M0 (w2.alloc (.cells #[.bool zb, .slice za zn zp] 26)) (mb0 _) (fun g h => .inl h) hE2)
    have HE2 := Lib.hid hE2
    obtain ⟨c0, c1, c2, c3⟩ := HKC.out.ext hb hE2
    have hbw2 : b < (w2.alloc (.cells #[.bool zb, .slice za zn zp] 26)).heap.size := Nat.lt_of_lt_of_le hb hE2.size
    go_upto_region 7 with (fail)
    generalize w2.alloc (.cells #[.bool zb, .slice za zn zp] 26) = w3 at *
    clear hne hE2 HO1 HO2 hbw
    go_wp2_with (fail)
    refine CS.out.mono ?_
    rintro e w4 ⟨y, rfl, hy, he4⟩
    have hE5 := he4.trans ((Ext.refl w4).alloc (.cells (peA y) 29))
    have HY := Lib.hid (hy.ext ((Ext.refl w4).alloc (.cells (peA y) 29)))
    have HB5 : Hid (P4 (w4.alloc (.cells (peA y) 29)) w4.heap.size y) := (Blk.of_arr w4 (peA y) 29 4 rfl).p4
    have HE5 := Lib.hid (HE2.out.trans hE5)
    have HPR5 := Lib.hid ((HPR.out.ext HEZ.out).ext hE5)
    have HKV5 := Lib.hid ((HKV.out.ext HEZ.out).ext hE5)
    clear hy he4 hE5 CS c0 c1 c2 c3 hbw2 HPR HKV HE HE2 HEZ HKC HXK
    go_wp2
    generalize w4.heap.size = gb at *
    generalize w4.alloc (.cells (peA y) 29) = w5 at *
    obtain ⟨vx, hvx⟩ := HKV5.out.x
    have HVX := Lib.hid hvx
    have HPK : Hid (SmF (snorm (P k))) := (HSM.out k HLT.out).sn
    clear hvx
    go_loopw [8] (fun iv wq => ∃ at_ : Nat, at_ ≤ n ∧ iv = .int .i64 (at_ : Int) ∧ Hid (∀ i, i < at_ → cmpP (gx i) (snorm (P k)) < 0) ∧ Hid (Ext w5 wq)) (fun iv _ => n - (intOf iv).toNat)
    case atStart => exact ⟨0, Nat.zero_le _, rfl, fun i hi => absurd hi (Nat.not_lt_zero _), Ext.refl _⟩
    case round =>
     obtain ⟨at_, hat, rfl, HLO, HEQ⟩ := hrel
     by_cases hal : at_ < n
     ·have HAL := Lib.hid hal
      have hatI : (at_ : Int) < (n : Int) := by omega
      obtain ⟨⟨b1, off1, hab1, hnc1, hcm1, hb1, _, hkc1⟩, hx1, _⟩ := HVX.out at_ hal
      subst hab1
      have hGM := HFM.out.sm (Nat.le_of_lt HLT.out) HSM.out at_ (by rw [← HNL.out]; exact hal)
      rw [← HGX.out] at hGM
      have hEd := HEQ.out.trans (Ext.refl wr).drew
      have hS : SBK gb y b1 (off1 + at_ * 4) (vx at_) wr.drew := ⟨HB5.out.ext hEd, hkc1.ext hb1 hEd⟩
      have HE6 := Lib.hid hEd
      have HGM := Lib.hid hGM
      have HX1 := Lib.hid hx1
      have HKC1 := Lib.hid hkc1
      have hlnx : (at_ : Int) + 1 ≤ (n : Int) := by omega
      clear hGM hEd hkc1 hx1 HEQ hal
      go_upto_region 9 with (fail)
      refine wp_region_u (SBK gb y b1 (off1 + at_ * 4) (vx at_)) 13 (by kernel_rfl) hS (fun hHeld => ?_)
      clear hS
      generalize wr.drew = wd at *
      (refine tkB [0, 1, 2, 3, 4, 5, 6, 7, 8, 9] ?_; (iterate 10 (refine tk1 (oi := ?_) (v := ?_) (by kernel_rfl) (by first | exact hSn | exact hHeld) ?_ ?_ ?_ ?_ ?_; rotate_left 2; (simp only [xgA, xgB, xgC]; rfl); rfl; (intro wS hSw; obtain ⟨⟨S1, S2, S3, S4⟩, S5, S6, S7, S8⟩ := hSw; go_simp; try with_reducible rfl); (exact fun _ _ _ h => h); (try simp only [Act.put, xgD, xgE, xgF]))); refine tkE ?_)
      ((refine wpAnyU_one 10 (o := ?_) (by kernel_rfl) ?_ ?_; rotate_left 1; (simp only [xgA, xgB, xgC]; rfl); intro K hK); go_simp; (refine (cmp_f HX1.out HY.out HGM.out.1.2.1 HGM.out.1.2.2 HPK.out.2.1 HPK.out.2.2 _ HE6.out HE6.out).mono ?_); rintro e_ u1 ⟨rfl, d1⟩; go_wp2_with (fail); (try clear hSn); (have hSn := hHeld.ext d1); (refine hK.out _ _ (fun _ => hSn) ?_); clear hK K; (try simp only [Act.put, xgD, xgE, xgF]))
      rw [HGM.out.2, norm_snorm]
      have HE7 := Lib.hid (HE6.out.trans d1)
      by_cases hz : cmpP (gx at_) (snorm (P k)) < 0
      ·have HLO2 : Hid (∀ i, i < at_ + 1 → cmpP (gx i) (snorm (P k)) < 0) := fun i hi => by
        by_cases hia : i = at_
        ·rw [hia]; exact hz
        ·exact HLO.out i (by omega)
       generalize cmpP (gx at_) (snorm (P k)) = zc at *
       have hzd : decide (zc < 0) = true := decide_eq_true hz
       (refine tkB [11, 12] ?_; (iterate 2 (refine tk1 (oi := ?_) (v := ?_) (by kernel_rfl) (by first | exact hSn | exact hHeld) ?_ ?_ ?_ ?_ ?_; rotate_left 2; (simp only [xgA, xgB, xgC]; rfl); rfl; (intro wS hSw; obtain ⟨⟨S1, S2, S3, S4⟩, S5, S6, S7, S8⟩ := hSw; go_simp; try with_reducible rfl); (exact fun _ _ _ h => h); (try simp only [Act.put, xgD, xgE, xgF]))); refine tkE ?_)
       refine wpAnyU_done (by kernel_rfl) ?_ _
       clear hHeld hSn d1 hz HLO
       go_wp2
       go_roundw
       case rel => exact ⟨at_ + 1, HAL.out, by go_num, HLO2, HE7⟩
       case measure => have := HAL.out; simp [intOf]; omega
      ·have HNZ := Lib.hid hz
       generalize hzc : cmpP (gx at_) (snorm (P k)) = zc at *
       have HZC := Lib.hid hzc
       have hzd : decide (zc < 0) = false := decide_eq_false hz
       (refine tkB [11, 12] ?_; (iterate 2 (refine tk1 (oi := ?_) (v := ?_) (by kernel_rfl) (by first | exact hSn | exact hHeld) ?_ ?_ ?_ ?_ ?_; rotate_left 2; (simp only [xgA, xgB, xgC]; rfl); rfl; (intro wS hSw; obtain ⟨⟨S1, S2, S3, S4⟩, S5, S6, S7, S8⟩ := hSw; go_simp; try with_reducible rfl); (exact fun _ _ _ h => h); (try simp only [Act.put, xgD, xgE, xgF]))); refine tkE ?_)
       refine wpAnyU_done (by kernel_rfl) ?_ _
       clear hHeld hSn d1 hz hzc hzd HE6
       have hEd2 := HE7.out.trans (Ext.refl u1).drew
       have hS : SBK gb y b1 (off1 + at_ * 4) (vx at_) u1.drew := ⟨HB5.out.ext hEd2, HKC1.out.ext hb1 hEd2⟩
       have HE8 := Lib.hid hEd2
       clear hEd2 HE7
       go_upto_region 11 with (fail)
       refine wp_region_u (SBK gb y b1 (off1 + at_ * 4) (vx at_)) 12 (by kernel_rfl) hS (fun hHeld => ?_)
       clear hS
       generalize u1.drew = wd2 at *
       (refine tkB [0, 1, 2, 3, 4, 5, 6, 7, 8, 9] ?_; (iterate 10 (refine tk1 (oi := ?_) (v := ?_) (by kernel_rfl) (by first | exact hSn | exact hHeld) ?_ ?_ ?_ ?_ ?_; rotate_left 2; (simp only [xgA, xgB, xgC]; rfl); rfl; (intro wS hSw; obtain ⟨⟨S1, S2, S3, S4⟩, S5, S6, S7, S8⟩ := hSw; go_simp; try with_reducible rfl); (exact fun _ _ _ h => h); (try simp only [Act.put, xgD, xgE, xgF]))); refine tkE ?_)
       ((refine wpAnyU_one 10 (o := ?_) (by kernel_rfl) ?_ ?_; rotate_left 1; (simp only [xgA, xgB, xgC]; rfl); intro K hK); go_simp; (refine (rf_samePolyB 4 M0 (gx at_) (snorm (P k)) (vx at_) y _ (HX1.out.ext HE8.out) (HY.out.ext HE8.out)).mono ?_); rintro e_ u2 ⟨rfl, d2⟩; go_wp2_with (fail); (try clear hSn); (have hSn := hHeld.ext d2); (refine hK.out _ _ (fun _ => hSn) ?_); clear hK K; (try simp only [Act.put, xgD, xgE, xgF]))
       have HE9 := Lib.hid (HE8.out.trans d2)
       cases hsb : simB (gx at_) (snorm (P k)) with
       | true =>
        have HIN : Hid (snorm (P k) ∈ GL) := by
         have h1 : norm (gx at_) = norm (snorm (P k)) := of_decide_eq_true hsb
         rw [HGM.out.2, norm_snorm, HGX.out] at h1
         have h2 : at_ < GL.length := by rw [← HNL.out]; exact HAL.out
         show _ ∈ _
         rw [← h1, List.getD_eq_getElem?_getD, List.getElem?_eq_getElem h2]
         exact List.getElem_mem h2
        (refine tkB [11] ?_; (iterate 1 (refine tk1 (oi := ?_) (v := ?_) (by kernel_rfl) (by first | exact hSn | exact hHeld) ?_ ?_ ?_ ?_ ?_; rotate_left 2; (simp only [xgA, xgB, xgC]; rfl); rfl; (intro wS hSw; obtain ⟨⟨S1, S2, S3, S4⟩, S5, S6, S7, S8⟩ := hSw; go_simp; try with_reducible rfl); (exact fun _ _ _ h => h); (try simp only [Act.put, xgD, xgE, xgF]))); refine tkE ?_)
        refine wpAnyU_done (by kernel_rfl) ?_ _
        have HF := Lib.hid (HFM.out.skip (.inr HIN.out))
        have HL : Hid (GL.length ≤ k + 1) := by have := HLN.out; show _ ≤ _; omega
        have HPR2 := Lib.hid (HPR5.out.ext HE9.out)
        have HE2 := Lib.hid (HE5.out.trans HE9.out)
        clear hHeld hSn d2 hsb HE8 HE9 HE5 HPR5 HKV5 HX1 HY HVX HB5
        go_wp2
        go_roundw
        case rel => exact ⟨k + 1, GL, HLT.out, by go_num, HPR2.out, HF, HL, HE2⟩
        case measure => have := HLT.out; simp [intOf]; omega
       | false =>
        have HPUT : Hid (FamLs P (k + 1) (GL.take at_ ++ [snorm (P k)] ++ GL.drop at_)) := HFM.out.put HNE.out (fun i hi => by rw [← HGX.out]; exact HLO.out i hi) (by rw [← HNL.out]; exact hat) (fun _ => by
         rw [← HGX.out]
         refine cmpP_of_nlt (by rw [HZC.out]; have := HNZ.out; omega) fun e => ?_
         rw [e, simB_true (Sim.refl _)] at hsb
         cases hsb)
        (refine tkB [11] ?_; (iterate 1 (refine tk1 (oi := ?_) (v := ?_) (by kernel_rfl) (by first | exact hSn | exact hHeld) ?_ ?_ ?_ ?_ ?_; rotate_left 2; (simp only [xgA, xgB, xgC]; rfl); rfl; (intro wS hSw; obtain ⟨⟨S1, S2, S3, S4⟩, S5, S6, S7, S8⟩ := hSw; go_simp; try with_reducible rfl); (exact fun _ _ _ h => h); (try simp only [Act.put, xgD, xgE, xgF]))); refine tkE ?_)
        refine wpAnyU_done (by kernel_rfl) ?_ _
        clear hHeld hSn d2 hsb HE8 HZC HNZ
        have HKQ : Hid (KRow M0 u2 4 (.slice (some ⟨b1, off1, none⟩) n vp) n gx) := HKV5.out.ext HE9.out
        have hatc : (at_ : Int) ≤ (vp : Int) := by omega
        have hS1 : Hid (KRow (MR M0 (.slice none 0 0)) u2 4 (.slice (some ⟨b1, off1, none⟩) at_ vp) at_ fun j => (GL.take at_).getD j []) := ((HKQ.out.take at_ hat).congr fun j hj => by
         have hj : j < at_ := hj
         have e : gx j = (GL.take at_).getD j [] := by
          rw [HGX.out]
          simp [List.getD_eq_getElem?_getD, List.getElem?_take, hj]
         rw [e]; exact Sim.refl _).more fun g hg => hg.elim .inl fun h => by cases h
        have HTL : Hid (at_ = (GL.take at_).length) := by
         show _ = _
         rw [List.length_take, ← HNL.out]; omega
        go_wp2_with (at_builtin; refine wpList_wanted (by rfl) (wp_append_prow _ (.tmp 56) (.tmp 59) _ rfl u2.heap.size j0 _ Tryz.underlying27 ji jz0 jz1 jz2 rfl (.slice none 0 0) [] rfl (PRow.nil _ _) (some ⟨b1, off1, none⟩) at_ vp (GL.take at_) HTL.out rfl hS1.out (by show 0 + at_ ≤ _; omega) (Nat.le_refl _) ?_))
        intro v1 w6 hR6 hg6 hb6
        have hE6 : Ext u2 w6 := (Ext.refl u2).grown hg6 (fun q hq => by cases hq)
        obtain ⟨a1, n1, p1, rfl, hn1⟩ := hR6.form3
        have hlo6 := hR6.lt
        have hE7 := hE6.trans ((Ext.refl w6).alloc (.cells (peA y) 29))
        obtain ⟨xx, hO7, hX7⟩ := hR6.ext ((Ext.refl w6).alloc (.cells (peA y) 29))
        rw [← hn1] at hO7
        have HX7 := Lib.hid hX7
        have HY7 : Hid (CRx (MR M0 (.slice a1 n1 p1)) (w6.alloc (.cells (peA y) 29)) 4 y (snorm (P k))) := ((HY.out.ext HE9.out).more (M' := MR M0 (.slice a1 n1 p1)) (fun g hg => hg.elim (fun h => h.elim) fun h' => .inr (hlo6 g h').1)).ext hE7
        have HN1 := Lib.hid hn1
        have HE7 := Lib.hid hE7
        have hB7 := Blk.of_arr w6 (peA y) 29 4 rfl
        have hn1b : n1 ≤ 1000 := by have h1 := HTL.out; omega
        have hsz7 := hE7.size
        have HLT7 := Lib.hid hO7.lt
        obtain ⟨g0, g1, g2, g3⟩ := HB5.out.ext (HE9.out.trans hE6)
        clear hR6 hg6 hb6 hE6 hn1 hX7 hE7 hlo6 hS1
        go_wp2_with (at_builtin; refine wpList_append_fn _ rfl (.tmp 61) (.tmp 63) _ rfl u2.heap.size 29 j0 _ 4 64 Tryz.underlying27 ji jz0 jz1 jz2 rfl (by omega) (.slice a1 n1 p1) n1 (px xx) rfl hO7 w6.heap.size 29 1 (arr (peA y)) rfl hB7 (pe_one y) ?s1 ?s2 ?s3 ?_)
        case s1 => unfold maxLen; omega
        case s2 => omega
        case s3 => exact hsz7
        intro gg cap2 w8 hO8 hg8 hat8 hlt8
        replace hat8 : (Value.slice a1 n1 p1).ownBlock = some gg ∨ (w6.alloc (.cells (peA y) 29)).heap.size ≤ gg := by rw [World.size_alloc]; exact hat8
        have hR8 : PRow u2.heap.size w8 (.slice (some ⟨gg, 0, none⟩) (n1 + 1) cap2) (GL.take at_ ++ [snorm (P k)]) := PRow.push2 HN1.out HX7.out HY7.out hO8 hg8 hat8
        have hE8 := HE7.out.grown hg8 (fun q hq => (HLT7.out q hq).1)
        have HE8 := Lib.hid hE8
        have HR8 := Lib.hid hR8
        have HL8 : Hid ((GL.take at_ ++ [snorm (P k)]).length = n1 + 1) := by show _ = _; rw [List.length_append, HN1.out]; rfl
        have HDL : Hid (n - at_ = (GL.drop at_).length) := by show _ = _; rw [List.length_drop, HNL.out]
        clear hO8 hg8 hat8 hlt8 hO7 hB7 hsz7 g0 g1 g2 g3 hR8
        have hdr : KRow M0 u2 4 (.slice (some ⟨b1, off1 + at_ * 4, none⟩) (n - at_) (vp - at_)) (n - at_) fun j => gx (at_ + j) := by
         rcases HKQ.out.drop at_ hat with ⟨h, _⟩ | ⟨b', o', h, h2⟩
         ·cases h
         ·simp only [Option.some.injEq, Addr.mk.injEq, and_true] at h
          obtain ⟨rfl, rfl⟩ := h
          exact h2
        have hS2 : Hid (KRow (MR M0 (.slice (some ⟨gg, 0, none⟩) (n1 + 1) cap2)) w8 4 (.slice (some ⟨b1, off1 + at_ * 4, none⟩) (n - at_) (vp - at_)) (n - at_) fun j => (GL.drop at_).getD j []) := ((hdr.congr fun j hj => by
         have e : gx (at_ + j) = (GL.drop at_).getD j [] := by
          rw [HGX.out]
          simp [List.getD_eq_getElem?_getD, List.getElem?_drop]
         rw [e]; exact Sim.refl _).more (M' := MR M0 (.slice (some ⟨gg, 0, none⟩) (n1 + 1) cap2)) (fun g hg => hg.elim (fun h => h.elim) fun h' => .inr (HR8.out.lt g h').1)).ext HE8.out
        have hsub : (n : Int) - (at_ : Int) = ((n - at_ : Nat) : Int) := by omega
        clear hdr
        go_wp2_with (at_builtin; refine wpList_wanted (by rfl) (wp_append_prow _ (.tmp 65) (.tmp 68) _ rfl u2.heap.size j0 _ Tryz.underlying27 ji jz0 jz1 jz2 rfl (.slice (some ⟨gg, 0, none⟩) (n1 + 1) cap2) (GL.take at_ ++ [snorm (P k)]) rfl HR8.out (some ⟨b1, off1 + at_ * 4, none⟩) (n - at_) (vp - at_) (GL.drop at_) HDL.out rfl hS2.out (by rw [HL8.out]; omega) HE8.out.size ?_))
        intro v3 w9 hR9 hg9 hb9
        have hE9 := HE8.out.grown hg9 (fun q hq => (HR8.out.lt q hq).1)
        obtain ⟨a3, n3, p3, rfl, _⟩ := hR9.form3
        have HR9 : Hid (PRow w.heap.size w9 (.slice a3 n3 p3) (GL.take at_ ++ [snorm (P k)] ++ GL.drop at_)) := by
         show PRow _ _ _ _
         rw [List.append_assoc]
         exact hR9.low (Nat.le_trans HE5.out.size HE9.out.size)
        have HL9 : Hid ((GL.take at_ ++ [snorm (P k)] ++ GL.drop at_).length ≤ k + 1) := by
         show _ ≤ _
         have h1 := HLN.out
         have h2 := HDL.out
         have h3 := HTL.out
         have h4 := HNL.out
         have h5 := HN1.out
         rw [List.length_append, HL8.out]
         omega
        have HEF := Lib.hid (HE5.out.trans (HE9.out.trans hE9))
        clear hR9 hg9 hb9 hE9 hE8 HE8 HR8 hS2 HE9 HE5 HX7 HY7 HE7 HLT7 HKQ HPR5 HKV5 HB5 HY HVX
        go_wp2
        go_roundw
        case rel => exact ⟨k + 1, _, HLT.out, by go_num, HR9.out, HPUT, HL9, HEF⟩
        case measure => have := HLT.out; simp [intOf]; omega
     ·obtain rfl : at_ = n := by omega
      have hnI : ¬ (at_ : Int) < (at_ : Int) := by omega
      have HNL2 := Lib.hid hal
      have hEd := HEQ.out.trans (Ext.refl wr).drew
      have hS : SP1 gb y wr.drew := HB5.out.ext hEd
      have HE6 := Lib.hid hEd
      clear hEd HEQ hal
      go_upto_region 9 with (fail)
      refine wp_region_u (SP1 gb y) 13 (by kernel_rfl) hS (fun hHeld => ?_)
      clear hS
      generalize wr.drew = wd at *
      (refine tkB [0, 1, 2, 3, 4] ?_; (iterate 5 (refine tk1 (oi := ?_) (v := ?_) (by kernel_rfl) (by first | exact hSn | exact hHeld) ?_ ?_ ?_ ?_ ?_; rotate_left 2; (simp only [xgA, xgB, xgC]; rfl); rfl; (intro wS hSw; obtain ⟨S1, S2, S3, S4⟩ := hSw; go_simp; try with_reducible rfl); (exact fun _ _ _ h => h); (try simp only [Act.put, xgD, xgE, xgF]))); refine tkE ?_)
      (refine tkB [5, 6, 7, 8, 9, 10, 11] ?_; (iterate 7 (refine ts1F (oi := ?_) (by kernel_rfl) (by first | exact hSn | exact hHeld) ?_ ?_ ?_ ?_; rotate_left 1; (simp only [xgA, xgB, xgC]; rfl); rfl; (exact fun _ _ _ h => h); (try simp only [Act.put, xgD, xgE, xgF]))); refine tkE ?_)
      (refine tkB [12] ?_; (iterate 1 (refine tk1 (oi := ?_) (v := ?_) (by kernel_rfl) (by first | exact hSn | exact hHeld) ?_ ?_ ?_ ?_ ?_; rotate_left 2; (simp only [xgA, xgB, xgC]; rfl); rfl; (intro wS hSw; obtain ⟨S1, S2, S3, S4⟩ := hSw; go_simp; try with_reducible rfl); (exact fun _ _ _ h => h); (try simp only [Act.put, xgD, xgE, xgF]))); refine tkE ?_)
      refine wpAnyU_done (by kernel_rfl) ?_ _
      clear hHeld
      have hEd2 := HE6.out.trans (Ext.refl wd).drew
      have hS : SP1 gb y wd.drew := HB5.out.ext hEd2
      have HEA := Lib.hid hEd2
      clear hEd2 HE6
      go_upto_region 11 with (fail)
      refine wp_region_u (SP1 gb y) 12 (by kernel_rfl) hS (fun hHeld => ?_)
      clear hS
      generalize wd.drew = wd2 at *
      (refine tkB [0, 1, 2, 3, 4] ?_; (iterate 5 (refine tk1 (oi := ?_) (v := ?_) (by kernel_rfl) (by first | exact hSn | exact hHeld) ?_ ?_ ?_ ?_ ?_; rotate_left 2; (simp only [xgA, xgB, xgC]; rfl); rfl; (intro wS hSw; obtain ⟨S1, S2, S3, S4⟩ := hSw; go_simp; try with_reducible rfl); (exact fun _ _ _ h => h); (try simp only [Act.put, xgD, xgE, xgF]))); refine tkE ?_)
      (refine tkB [5, 6, 7, 8, 9, 10] ?_; (iterate 6 (refine ts1F (oi := ?_) (by kernel_rfl) (by first | exact hSn | exact hHeld) ?_ ?_ ?_ ?_; rotate_left 1; (simp only [xgA, xgB, xgC]; rfl); rfl; (exact fun _ _ _ h => h); (try simp only [Act.put, xgD, xgE, xgF]))); refine tkE ?_)
      (refine tkB [11] ?_; (iterate 1 (refine tk1 (oi := ?_) (v := ?_) (by kernel_rfl) (by first | exact hSn | exact hHeld) ?_ ?_ ?_ ?_ ?_; rotate_left 2; (simp only [xgA, xgB, xgC]; rfl); rfl; (intro wS hSw; obtain ⟨S1, S2, S3, S4⟩ := hSw; go_simp; try with_reducible rfl); (exact fun _ _ _ h => h); (try simp only [Act.put, xgD, xgE, xgF]))); refine tkE ?_)
      refine wpAnyU_done (by kernel_rfl) ?_ _
      clear hHeld
      have HPUT : Hid (FamLs P (k + 1) (GL.take at_ ++ [snorm (P k)] ++ GL.drop at_)) := HFM.out.put HNE.out (fun i hi => by rw [← HGX.out]; exact HLO.out i hi) (by rw [← HNL.out]; exact hat) (fun h => absurd h (by rw [← HNL.out]; omega))
      have HDR := Lib.hid (HKV5.out.drop at_ (Nat.le_refl _))
      have HCP := Lib.hid (HKV5.out.2)
      rcases HDR.out with ⟨rfl, h0, hp0⟩ | ⟨b1, off1, rfl, _⟩
      ·subst hp0
       subst h0
       obtain rfl : GL = [] := List.length_eq_zero_iff.1 HNL.out.symm
       have HPUT2 : Hid (FamLs P (k + 1) ([] ++ [snorm (P k)])) := HPUT.out
       clear HDR HCP HPUT
       have hS1 : Hid (KRow (MR M0 (.slice none 0 0)) wd2 4 (.slice none 0 0) 0 fun j => ([] : List (List Tm)).getD j []) := ⟨by omega, .inl ⟨rfl, rfl⟩⟩
       have HTL : Hid (0 = ([] : List (List Tm)).length) := rfl
       go_wp2_with (at_builtin; refine wpList_wanted (by rfl) (wp_append_prow _ (.tmp 56) (.tmp 59) _ rfl wd2.heap.size j0 _ Tryz.underlying27 ji jz0 jz1 jz2 rfl (.slice none 0 0) [] rfl (PRow.nil _ _) none 0 0 (([] : List (List Tm))) HTL.out rfl hS1.out (by show 0 + 0 ≤ _; omega) (Nat.le_refl _) ?_))
       intro v1 w6 hR6 hg6 hb6
       have hE6 : Ext wd2 w6 := (Ext.refl wd2).grown hg6 (fun q hq => by cases hq)
       obtain ⟨a1, n1, p1, rfl, hn1⟩ := hR6.form3
       have hlo6 := hR6.lt
       have hE7 := hE6.trans ((Ext.refl w6).alloc (.cells (peA y) 29))
       obtain ⟨xx, hO7, hX7⟩ := hR6.ext ((Ext.refl w6).alloc (.cells (peA y) 29))
       rw [← hn1] at hO7
       have HX7 := Lib.hid hX7
       have HY7 : Hid (CRx (MR M0 (.slice a1 n1 p1)) (w6.alloc (.cells (peA y) 29)) 4 y (snorm (P k))) := ((HY.out.ext HEA.out).more (M' := MR M0 (.slice a1 n1 p1)) (fun g hg => hg.elim (fun h => h.elim) fun h' => .inr (hlo6 g h').1)).ext hE7
       have HN1 := Lib.hid hn1
       have HE7 := Lib.hid hE7
       have hB7 := Blk.of_arr w6 (peA y) 29 4 rfl
       have hn1b : n1 ≤ 1000 := by have h1 := HTL.out; omega
       have hsz7 := hE7.size
       have HLT7 := Lib.hid hO7.lt
       obtain ⟨g0, g1, g2, g3⟩ := HB5.out.ext (HEA.out.trans hE6)
       clear hR6 hg6 hb6 hE6 hn1 hX7 hE7 hlo6 hS1
       go_wp2_with (at_builtin; refine wpList_append_fn _ rfl (.tmp 61) (.tmp 63) _ rfl wd2.heap.size 29 j0 _ 4 64 Tryz.underlying27 ji jz0 jz1 jz2 rfl (by omega) (.slice a1 n1 p1) n1 (px xx) rfl hO7 w6.heap.size 29 1 (arr (peA y)) rfl hB7 (pe_one y) ?s1 ?s2 ?s3 ?_)
       case s1 => unfold maxLen; omega
       case s2 => omega
       case s3 => exact hsz7
       intro gg cap2 w8 hO8 hg8 hat8 hlt8
       replace hat8 : (Value.slice a1 n1 p1).ownBlock = some gg ∨ (w6.alloc (.cells (peA y) 29)).heap.size ≤ gg := by rw [World.size_alloc]; exact hat8
       have hR8 : PRow wd2.heap.size w8 (.slice (some ⟨gg, 0, none⟩) (n1 + 1) cap2) (([] : List (List Tm)) ++ [snorm (P k)]) := PRow.push2 HN1.out HX7.out HY7.out hO8 hg8 hat8
       have hE8 := HE7.out.grown hg8 (fun q hq => (HLT7.out q hq).1)
       have HE8 := Lib.hid hE8
       have HR8 := Lib.hid hR8
       have HL8 : Hid ((([] : List (List Tm)) ++ [snorm (P k)]).length = n1 + 1) := by show _ = _; rw [List.length_append, HN1.out]; rfl
       have HR9 : Hid (PRow w.heap.size w8 (.slice (some ⟨gg, 0, none⟩) (n1 + 1) cap2) (([] : List (List Tm)) ++ [snorm (P k)])) := hR8.low (Nat.le_trans HE5.out.size HEA.out.size)
       have HL9 : Hid ((([] : List (List Tm)) ++ [snorm (P k)]).length ≤ k + 1) := by
        show _ ≤ _
        have h1 := HLN.out
        have h3 := HTL.out
        have h4 := HNL.out
        have h5 := HN1.out
        rw [HL8.out]
        omega
       have HEF := Lib.hid (HE5.out.trans (HEA.out.trans hE8))
       clear hO8 hg8 hat8 hlt8 hO7 hB7 hsz7 g0 g1 g2 g3 hR8
       go_wp2_with (at_builtin; refine wpList_wanted (by rfl) (wp_append_zero _ (.tmp 65) (.tmp 68) _ rfl wd2.heap.size j0 Tryz.underlying27 ji (.slice (some ⟨gg, 0, none⟩) (n1 + 1) cap2) (([] : List (List Tm)) ++ [snorm (P k)]) rfl HR8.out _ _ rfl ?_))
       clear HR8 HE8 hE8 HEA HE5 HX7 HY7 HE7 HLT7 HPR5 HKV5 HB5 HY HVX
       go_wp2
       go_roundw
       case rel => exact ⟨k + 1, _, HLT.out, by go_num, HR9.out, HPUT2, HL9, HEF⟩
       case measure => have := HLT.out; simp [intOf]; omega
      ·have hnc1 : at_ ≤ vp := by
        rcases HCP.out with ⟨h, h0⟩ | ⟨b', o', c', h, h2, _⟩
        ·rw [h0]; exact Nat.zero_le _
        ·simp only [Value.slice.injEq] at h
         rw [h.2.2]; exact h2
       have HPUT2 : Hid (FamLs P (k + 1) (GL.take at_ ++ [snorm (P k)])) := by
        have h1 := HPUT.out
        rw [List.drop_eq_nil_of_le (by rw [← HNL.out]; omega), List.append_nil] at h1
        exact h1
       clear HDR HCP HPUT
       have HKQ : Hid (KRow M0 wd2 4 (.slice (some ⟨b1, off1, none⟩) at_ vp) at_ gx) := HKV5.out.ext HEA.out
       have hatc : (at_ : Int) ≤ (vp : Int) := by omega
       have hS1 : Hid (KRow (MR M0 (.slice none 0 0)) wd2 4 (.slice (some ⟨b1, off1, none⟩) at_ vp) at_ fun j => (GL.take at_).getD j []) := ((HKQ.out.take at_ hat).congr fun j hj => by
        have hj : j < at_ := hj
        have e : gx j = (GL.take at_).getD j [] := by
         rw [HGX.out]
         simp [List.getD_eq_getElem?_getD, List.getElem?_take, hj]
        rw [e]; exact Sim.refl _).more fun g hg => hg.elim .inl fun h => by cases h
       have HTL : Hid (at_ = (GL.take at_).length) := by
        show _ = _
        rw [List.length_take, ← HNL.out]; omega
       go_wp2_with (at_builtin; refine wpList_wanted (by rfl) (wp_append_prow _ (.tmp 56) (.tmp 59) _ rfl wd2.heap.size j0 _ Tryz.underlying27 ji jz0 jz1 jz2 rfl (.slice none 0 0) [] rfl (PRow.nil _ _) (some ⟨b1, off1, none⟩) at_ vp (GL.take at_) HTL.out rfl hS1.out (by show 0 + at_ ≤ _; omega) (Nat.le_refl _) ?_))
       intro v1 w6 hR6 hg6 hb6
       have hE6 : Ext wd2 w6 := (Ext.refl wd2).grown hg6 (fun q hq => by cases hq)
       obtain ⟨a1, n1, p1, rfl, hn1⟩ := hR6.form3
       have hlo6 := hR6.lt
       have hE7 := hE6.trans ((Ext.refl w6).alloc (.cells (peA y) 29))
       obtain ⟨xx, hO7, hX7⟩ := hR6.ext ((Ext.refl w6).alloc (.cells (peA y) 29))
       rw [← hn1] at hO7
       have HX7 := Lib.hid hX7
       have HY7 : Hid (CRx (MR M0 (.slice a1 n1 p1)) (w6.alloc (.cells (peA y) 29)) 4 y (snorm (P k))) := ((HY.out.ext HEA.out).more (M' := MR M0 (.slice a1 n1 p1)) (fun g hg => hg.elim (fun h => h.elim) fun h' => .inr (hlo6 g h').1)).ext hE7
       have HN1 := Lib.hid hn1
       have HE7 := Lib.hid hE7
       have hB7 := Blk.of_arr w6 (peA y) 29 4 rfl
       have hn1b : n1 ≤ 1000 := by have h1 := HTL.out; omega
       have hsz7 := hE7.size
       have HLT7 := Lib.hid hO7.lt
       obtain ⟨g0, g1, g2, g3⟩ := HB5.out.ext (HEA.out.trans hE6)
       clear hR6 hg6 hb6 hE6 hn1 hX7 hE7 hlo6 hS1
       go_wp2_with (at_builtin; refine wpList_append_fn _ rfl (.tmp 61) (.tmp 63) _ rfl wd2.heap.size 29 j0 _ 4 64 Tryz.underlying27 ji jz0 jz1 jz2 rfl (by omega) (.slice a1 n1 p1) n1 (px xx) rfl hO7 w6.heap.size 29 1 (arr (peA y)) rfl hB7 (pe_one y) ?s1 ?s2 ?s3 ?_)
       case s1 => unfold maxLen; omega
       case s2 => omega
       case s3 => exact hsz7
       intro gg cap2 w8 hO8 hg8 hat8 hlt8
       replace hat8 : (Value.slice a1 n1 p1).ownBlock = some gg ∨ (w6.alloc (.cells (peA y) 29)).heap.size ≤ gg := by rw [World.size_alloc]; exact hat8
       have hR8 : PRow wd2.heap.size w8 (.slice (some ⟨gg, 0, none⟩) (n1 + 1) cap2) (GL.take at_ ++ [snorm (P k)]) := PRow.push2 HN1.out HX7.out HY7.out hO8 hg8 hat8
       have hE8 := HE7.out.grown hg8 (fun q hq => (HLT7.out q hq).1)
       have HE8 := Lib.hid hE8
       have HR8 := Lib.hid hR8
       have HL8 : Hid ((GL.take at_ ++ [snorm (P k)]).length = n1 + 1) := by show _ = _; rw [List.length_append, HN1.out]; rfl
       have HR9 : Hid (PRow w.heap.size w8 (.slice (some ⟨gg, 0, none⟩) (n1 + 1) cap2) (GL.take at_ ++ [snorm (P k)])) := hR8.low (Nat.le_trans HE5.out.size HEA.out.size)
       have HL9 : Hid ((GL.take at_ ++ [snorm (P k)]).length ≤ k + 1) := by
        show _ ≤ _
        have h1 := HLN.out
        have h3 := HTL.out
        have h4 := HNL.out
        have h5 := HN1.out
        rw [HL8.out]
        omega
       have HEF := Lib.hid (HE5.out.trans (HEA.out.trans hE8))
       clear hO8 hg8 hat8 hlt8 hO7 hB7 hsz7 g0 g1 g2 g3 hR8
       by_cases hvc : vp = at_
       ·replace hvc := hvc.symm
        subst hvc
        go_wp2_with (at_builtin; refine wpList_wanted (by rfl) (wp_append_zero _ (.tmp 65) (.tmp 68) _ rfl wd2.heap.size j0 Tryz.underlying27 ji (.slice (some ⟨gg, 0, none⟩) (n1 + 1) cap2) (GL.take at_ ++ [snorm (P k)]) rfl HR8.out _ _ rfl ?_))
        clear HR8 HE8 hE8 HEA HE5 HX7 HY7 HE7 HLT7 HPR5 HKV5 HB5 HY HVX
        go_wp2
        go_roundw
        case rel => exact ⟨k + 1, _, HLT.out, by go_num, HR9.out, HPUT2, HL9, HEF⟩
        case measure => have := HLT.out; simp [intOf]; omega
       ·have hvc2 : (at_ : Int) < (vp : Int) := by omega
        go_wp2_with (at_builtin; refine wpList_wanted (by rfl) (wp_append_zero _ (.tmp 65) (.tmp 68) _ rfl wd2.heap.size j0 Tryz.underlying27 ji (.slice (some ⟨gg, 0, none⟩) (n1 + 1) cap2) (GL.take at_ ++ [snorm (P k)]) rfl HR8.out _ _ rfl ?_))
        clear HR8 HE8 hE8 HEA HE5 HX7 HY7 HE7 HLT7 HPR5 HKV5 HB5 HY HVX
        go_wp2
        go_roundw
        case rel => exact ⟨k + 1, _, HLT.out, by go_num, HR9.out, HPUT2, HL9, HEF⟩
        case measure => have := HLT.out; simp [intOf]; omega
  ·have hge : ¬ (k : Int) < (N : Int) := by omega
   obtain rfl : k = N := by omega
   have HF : Hid (RetF39 w k P (.returned (.slice va n vp)) wr) := ⟨va, n, vp, gx, rfl, hKV, by
    have h1 := HFM.out.fam
    rw [← HNL.out] at h1
    have h2 : (fun j => GL.getD j []) = gx := funext fun j => (HGX.out j).symm
    rw [h2] at h1
    exact h1, HE.out⟩
   clear hKV HFM HE hPR
   go_wp2
   exact bodyPost_ret (v := .slice va n vp) (by simp [results, Tryz.results19, go_sem]) rfl HF.out
end Go.Proofs.YtodiphjjdheoaaaGreat

namespace Go.Proofs.YtodiphjjdheoaaaGreat
open Go.RowKit

theorem polM_sm (W : World) : ∀ (d : Nat) (m : MT d), PMs W d m → OkM d m → ∀ l ∈ polM W d m, Deg 66 l ∧ dlen (nrm l) ≤ 5
 | 0, _, _, h => by unfold OkM at h; exact h.elim
 | d + 1, m, hP, hok => by
  obtain ⟨y, k⟩ := m
  obtain ⟨hr0, _, hkok⟩ := hok
  change 0 ≤ roomB 4 6 y.s 40 at hr0
  change ∀ i, i < y.n → OkM d (k i) at hkok
  obtain ⟨_, _, hps, _, _, hkid⟩ := hP
  simp only at hps hkid
  have hPM := polM_s W d (y, k)
  change polM W (d + 1) (y, k) = if y.kd = 2 then [tmS W y.s] else if y.kd = 3 ∨ y.kd = 4 then (List.range y.n).flatMap fun i => polM W d (k i) else [] at hPM
  rw [hPM]
  intro l hl
  split at hl
  ·rw [List.mem_singleton] at hl
   obtain ⟨t, _, _, h1, h2, _⟩ := tmS_spec hps hr0
   rw [hl]; exact ⟨h2, h1⟩
  ·split at hl
   ·obtain ⟨i, hi, hl⟩ := List.mem_flatMap.1 hl
    have hi : i < y.n := by simpa using hi
    obtain ⟨b, off, _, _, _, hp⟩ := hkid i hi
    exact polM_sm W d (k i) hp (hkok i hi) l hl
   ·simp at hl
theorem getD_mem {l : List (List Tm)} {i : Nat} (h : i < l.length) : l.getD i [] ∈ l := by
 rw [List.getD_eq_getElem?_getD, List.getElem?_eq_getElem h]
 exact List.getElem_mem h
def SMC (g : Nat) (y : ME) (w : World) : Prop := MCell w g 0 y
theorem SMC.ext {g : Nat} {y : ME} {w w' : World} (h : SMC g y w) (he : Ext w w') : SMC g y w' := MCell.ext h (World.block_lt_of_cell? _ _ h.1) he
def SKK (b o : Nat) (x : PE) (b' o' : Nat) (y : PE) (w : World) : Prop := KCell w b o x ∧ KCell w b' o' y
theorem SKK.ext {b o b' o' : Nat} {x y : PE} {w w' : World} (h : SKK b o x b' o' y w) (he : Ext w w') : SKK b o x b' o' y w' := ⟨KCell.ext h.1 (World.block_lt_of_cell? _ _ h.1.1) he, KCell.ext h.2 (World.block_lt_of_cell? _ _ h.2.1) he⟩
end Go.Proofs.YtodiphjjdheoaaaGreat
