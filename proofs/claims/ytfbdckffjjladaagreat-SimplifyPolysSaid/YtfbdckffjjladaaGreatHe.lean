/- cylinderref39.Family: plain facts, parts of rows, append of a part. -/
import Derived.Test.YtfbdckffjjladaaGreatHc
import Derived.Test.YtfbdckffjjladaaGreatGa
import Derived.Test.YtfbdckffjjladaaGreatGb
import Derived.Deep.Upon
set_option linter.unusedVariables false
set_option linter.unusedSimpArgs false

namespace Go.Proofs.YtfbdckffjjladaaGreat
open Go.RowKit

def FamLs (P : Nat → List Tm) (k : Nat) (GL : List (List Tm)) : Prop := (∀ g ∈ GL, ∃ j, j < k ∧ g = snorm (P j) ∧ lvM (g.map (·.2)) ≠ 0) ∧ (∀ j, j < k → lvM ((snorm (P j)).map (·.2)) ≠ 0 → snorm (P j) ∈ GL) ∧ GL.Pairwise fun a b => cmpP a b < 0
theorem FamLs.start (P : Nat → List Tm) : FamLs P 0 [] := ⟨fun g hg => absurd hg (by simp), fun j hj => absurd hj (Nat.not_lt_zero _), List.Pairwise.nil⟩
theorem FamLs.skip {P : Nat → List Tm} {k : Nat} {GL : List (List Tm)} (h : FamLs P k GL) (h0 : lvM ((snorm (P k)).map (·.2)) = 0 ∨ snorm (P k) ∈ GL) : FamLs P (k + 1) GL := by
 refine ⟨fun g hg => ?_, fun j hj hl => ?_, h.2.2⟩
 ·obtain ⟨j, hj, e⟩ := h.1 g hg; exact ⟨j, by omega, e⟩
 ·by_cases hjk : j = k
  ·subst hjk
   exact h0.elim (fun h1 => absurd h1 hl) id
  ·exact h.2.1 j (by omega) hl
theorem FamLs.put {P : Nat → List Tm} {k at_ : Nat} {GL : List (List Tm)} (h : FamLs P k GL) (hl : lvM ((snorm (P k)).map (·.2)) ≠ 0) (h1 : ∀ i, i < at_ → cmpP (GL.getD i []) (snorm (P k)) < 0) (hat : at_ ≤ GL.length) (h2 : at_ < GL.length → cmpP (snorm (P k)) (GL.getD at_ []) < 0) : FamLs P (k + 1) (GL.take at_ ++ [snorm (P k)] ++ GL.drop at_) := by
 have hsp : GL.take at_ ++ GL.drop at_ = GL := List.take_append_drop _ _
 have hpw := h.2.2
 rw [← hsp] at hpw
 obtain ⟨p1, p2, p3⟩ := List.pairwise_append.1 hpw
 have hmem : ∀ g, g ∈ GL ↔ g ∈ GL.take at_ ∨ g ∈ GL.drop at_ := fun g => by conv => lhs; rw [← hsp]; rw [List.mem_append]
 have hlow : ∀ x ∈ GL.take at_, cmpP x (snorm (P k)) < 0 := fun x hx => by
  obtain ⟨i, hi, rfl⟩ := List.mem_iff_getElem.1 hx
  have hi2 : i < at_ := by rw [List.length_take] at hi; omega
  have := h1 i hi2
  rw [List.getD_eq_getElem?_getD, List.getElem?_eq_getElem (by omega)] at this
  rw [List.getElem_take]; exact this
 have hhigh : ∀ y ∈ GL.drop at_, cmpP (snorm (P k)) y < 0 := fun y hy => by
  have hlt : at_ < GL.length := by
   refine Classical.byContradiction fun hc => ?_
   rw [List.drop_eq_nil_of_le (by omega)] at hy
   exact absurd hy (by simp)
  have h3 := h2 hlt
  have e : GL.drop at_ = GL.getD at_ [] :: GL.drop (at_ + 1) := by
   rw [List.drop_eq_getElem_cons hlt, List.getD_eq_getElem?_getD, List.getElem?_eq_getElem hlt]; rfl
  rw [e] at hy p2
  rcases List.mem_cons.1 hy with rfl | hy
  ·exact h3
  ·exact cmpP_trans h3 ((List.pairwise_cons.1 p2).1 y hy)
 refine ⟨fun g hg => ?_, fun j hj hlj => ?_, ?_⟩
 ·rw [List.mem_append, List.mem_append, List.mem_singleton] at hg
  have hg2 : g = snorm (P k) ∨ g ∈ GL := by
   rcases hg with (hg | hg) | hg
   ·exact .inr ((hmem g).2 (.inl hg))
   ·exact .inl hg
   ·exact .inr ((hmem g).2 (.inr hg))
  rcases hg2 with rfl | hg2
  ·exact ⟨k, by omega, rfl, hl⟩
  ·obtain ⟨j, hj, e⟩ := h.1 g hg2; exact ⟨j, by omega, e⟩
 ·rw [List.mem_append, List.mem_append, List.mem_singleton]
  by_cases hjk : j = k
  ·subst hjk; exact .inl (.inr rfl)
  ·rcases (hmem _).1 (h.2.1 j (by omega) hlj) with h4 | h4
   ·exact .inl (.inl h4)
   ·exact .inr h4
 ·rw [List.append_assoc]
  refine List.pairwise_append.2 ⟨p1, List.pairwise_append.2 ⟨List.pairwise_singleton _ _, p2, fun a ha b hb => ?_⟩, fun a ha b hb => ?_⟩
  ·rw [List.mem_singleton] at ha; rw [ha]; exact hhigh b hb
  ·rcases List.mem_append.1 hb with hb | hb
   ·rw [List.mem_singleton] at hb; rw [hb]; exact hlow a ha
   ·exact p3 a ha b hb
theorem FamLs.fam {P : Nat → List Tm} {N : Nat} {GL : List (List Tm)} (h : FamLs P N GL) : FamL N P GL.length fun j => GL.getD j [] := by
 have hgd : ∀ i (hi : i < GL.length), GL.getD i [] = GL[i] := fun i hi => by rw [List.getD_eq_getElem?_getD, List.getElem?_eq_getElem hi]; rfl
 refine ⟨fun i hi => ?_, fun j hj hl => ?_, fun i j hij hj => ?_⟩
 ·obtain ⟨j, hj, e, hl⟩ := h.1 (GL.getD i []) (by rw [hgd i hi]; exact List.getElem_mem hi)
  exact ⟨j, hj, e, hl⟩
 ·obtain ⟨i, hi, e⟩ := List.mem_iff_getElem.1 (h.2.1 j hj hl)
  exact ⟨i, hi, by show GL.getD i [] = _; rw [hgd i hi]; exact e⟩
 ·show cmpP (GL.getD i []) (GL.getD j []) < 0
  rw [hgd i (by omega), hgd j hj]
  exact List.pairwise_iff_getElem.1 h.2.2 i j (by omega) hj hij
theorem cmpP_of_nlt {a b : List Tm} (h : ¬ cmpP a b < 0) (hne : a ≠ b) : cmpP b a < 0 := by
 rcases cmpP_tri a b with h1 | h1 | h1
 ·exact absurd h1 h
 ·exact absurd h1 hne
 ·exact h1
theorem KRow.take {M : Nat → Prop} {w : World} {a : Option Addr} {n p : Nat} {P : Nat → List Tm} (h : KRow M w 4 (.slice a n p) n P) (k : Nat) (hk : k ≤ n) : KRow M w 4 (.slice a k p) k P := by
 obtain ⟨h1, h2⟩ := h
 refine ⟨by omega, ?_⟩
 rcases h2 with ⟨h2, h0⟩ | ⟨b, off, cap, hv, hn, hc, hb, hkid⟩
 ·subst h0
  simp only [Value.slice.injEq] at h2
  obtain ⟨rfl, _, rfl⟩ := h2
  obtain rfl : k = 0 := by omega
  exact .inl ⟨rfl, rfl⟩
 ·simp only [Value.slice.injEq] at hv
  obtain ⟨rfl, _, rfl⟩ := hv
  exact .inr ⟨b, off, p, rfl, by omega, hc, hb, fun i hi => hkid i (by omega)⟩
theorem KRow.drop {M : Nat → Prop} {w : World} {a : Option Addr} {n p : Nat} {P : Nat → List Tm} (h : KRow M w 4 (.slice a n p) n P) (k : Nat) (hk : k ≤ n) : (a = none ∧ n = 0 ∧ p = 0) ∨ ∃ b off, a = some ⟨b, off, none⟩ ∧ KRow M w 4 (.slice (some ⟨b, off + k * 4, none⟩) (n - k) (p - k)) (n - k) fun j => P (k + j) := by
 obtain ⟨h1, h2⟩ := h
 rcases h2 with ⟨h2, h0⟩ | ⟨b, off, cap, hv, hn, hc, hb, hkid⟩
 ·subst h0
  simp only [Value.slice.injEq] at h2
  exact .inl ⟨h2.1, rfl, h2.2.2⟩
 ·simp only [Value.slice.injEq] at hv
  obtain ⟨rfl, _, rfl⟩ := hv
  refine .inr ⟨b, off, rfl, by omega, .inr ⟨b, off + k * 4, p - k, rfl, by omega, by omega, hb, fun i hi => ?_⟩⟩
  have := hkid (k + i) (by omega)
  rw [show off + k * 4 + i * 4 = off + (k + i) * 4 by omega]
  exact this
theorem wp_append_prow {P : Program} (w : World) {o : Oper} {a : Act} {K : Act → World → Prop} {Q : Exit → Act → World → Prop} (s x : Operand) (t : TypeId)
  (ho : o.op = .call { callee := .builtin .append, args := #[s, x], argTypes := #[t, t] })
  (base : Nat) (i : TypeInfo) (z : Value) (ht : P.underlying t = some (.slice 29)) (hi : P.info? 29 = some i) (hz : i.zero = some z)
  (hsize : i.size = 4) (hby : i.bytes = 64) (hzs : z.cells.size = 4)
  (v : Value) (GL : List (List Tm)) (hs : a.eval s = v) (hown : PRow base w v GL)
  (ua : Option Addr) (m up : Nat) (RL : List (List Tm)) (hm : m = RL.length) (hx : a.eval x = .slice ua m up) (hu : KRow (MR M0 v) w 4 (.slice ua m up) m fun j => RL.getD j []) (h63 : GL.length + m ≤ 1000000) (hbase : base ≤ w.heap.size)
  (h : ∀ v' w', PRow base w' v' (GL ++ RL) → w.grownBy w' v.ownBlock → (∀ g, v'.ownBlock = some g → v.ownBlock = some g ∨ w.heap.size ≤ g) → K (a.put o.dst v') w') :
  Oper.wp P o a w K Q := by
 rcases Nat.eq_zero_or_pos m with h0 | h0
 ·subst h0
  have hRL : RL = [] := List.length_eq_zero_iff.1 hm.symm
  obtain ⟨xx, hO, hX⟩ := id hown
  have hle : ∃ va vp, v = .slice va GL.length vp ∧ GL.length ≤ vp := by
   rcases hO with ⟨rfl, h0⟩ | ⟨g, cap, F, rfl, _, _, hc, _⟩
   ·exact ⟨none, 0, by rw [h0], by omega⟩
   ·exact ⟨_, _, rfl, hc⟩
  obtain ⟨va, vp, hv, hle⟩ := hle
  have hsrc : Src P i.size t (.slice ua 0 up) 0 [] w := by
   cases ua with
   | none => exact Src.ofNil w ht up
   | some q => exact Src.ofSlice w ht q 0 up [] (by simp) (fun j u hj => by simp at hj) (fun u hu => by simp at hu)
  have hrun := run_append_nothing (P := P) w t t o.type 29 i ht hi va GL.length vp hle (.slice ua 0 up) hsrc
  have h2 := h v w (by rw [hRL, List.append_nil]; exact hown) (grownBy_refl w _) (fun g hg => .inl hg)
  rw [hv] at hs h2
  unfold Oper.wp
  simp [execOp, ho, resolve, invoke, builtin, hs, hx, hrun, Result.andThen]
  exact h2
 ·obtain ⟨xx, hO, hX⟩ := id hown
  obtain ⟨xu, hxu⟩ := hu.x
  obtain ⟨⟨b, off, rfl, hmc, hcm, hb, hMb, _⟩, _⟩ := hxu 0 h0
  refine wp_append_lies w s x t ho base 29 i z 4 64 ht hi hz hsize hby hzs (by omega) v GL.length (rowL (px xx) (GL.length * 4)) hs hO.toRow ⟨b, off, none⟩ m up (rowL (px xu) (m * 4)) hx (rowL_len _ _) ?_ ?_ h0 (by unfold maxLen; omega) (by omega) hbase w.heap.size rfl ?_
  ·intro j u hj
   have hj2 : j < m * 4 := by
    have := (List.getElem?_eq_some_iff.1 hj).1
    simpa [rowL_len] using this
   rw [rowL_get _ _ _ hj2] at hj
   cases hj
   rw [addr_add]
   obtain ⟨⟨b', off', he, _, _, _, _, k0, k1, k2, k3⟩, _⟩ := hxu (j / 4) (by omega)
   simp only [Option.some.injEq, Addr.mk.injEq, and_true] at he
   obtain ⟨rfl, rfl⟩ := he
   unfold px
   by_cases e0 : j % 4 = 0
   ·rw [if_pos e0, show off + j = off + j / 4 * 4 by omega]; exact k0
   ·rw [if_neg e0]
    by_cases e1 : j % 4 = 1
    ·rw [if_pos e1, show off + j = off + j / 4 * 4 + 1 by omega]; exact k1
    ·rw [if_neg e1]
     by_cases e2 : j % 4 = 2
     ·rw [if_pos e2, show off + j = off + j / 4 * 4 + 2 by omega]; exact k2
     ·rw [if_neg e2, show off + j = off + j / 4 * 4 + 3 by omega]; exact k3
  ·intro u hu
   simp only [rowL, List.mem_map, List.mem_range] at hu
   obtain ⟨j, hj, rfl⟩ := hu
   exact px_each xu j
  ·intro g cap w' ho hg hat hlt
   rw [rowL_app, show GL.length * 4 + m * 4 = (GL.length + m) * 4 from by rw [Nat.add_mul]] at ho
   have hat2 : v.ownBlock = some g ∨ w.heap.size ≤ g := hat.imp id (fun e => by omega)
   refine h _ w' ⟨appF GL.length xx xu, ?_, fun j hj => ?_⟩ hg (fun g' hg' => by
    simp only [Value.ownBlock, Option.some.injEq] at hg'
    rw [← hg']; exact hat2)
   ·rw [List.length_append, ← hm]
    exact (Own.ofRow ho).congr fun j _ => px_rows xx xu GL.length j
   ·rw [List.length_append, ← hm] at hj
    unfold appF
    by_cases hjn : j < GL.length
    ·rw [if_pos hjn, show (GL ++ RL).getD j [] = GL.getD j [] by simp [List.getD_eq_getElem?_getD, List.getElem?_append_left hjn]]
     exact keep_grownC (n := GL.length + m) (cap := cap) (hX j hjn) hg hat2
    ·rw [if_neg hjn, show (GL ++ RL).getD j [] = RL.getD (j - GL.length) [] by simp [List.getD_eq_getElem?_getD, List.getElem?_append_right (Nat.le_of_not_lt hjn)]]
     exact keep_grownC (n := GL.length + m) (cap := cap) (hxu (j - GL.length) (by omega)).2.1 hg hat2
theorem wp_append_zero {P : Program} (w : World) {o : Oper} {a : Act} {K : Act → World → Prop} {Q : Exit → Act → World → Prop} (s x : Operand) (t : TypeId)
  (ho : o.op = .call { callee := .builtin .append, args := #[s, x], argTypes := #[t, t] })
  (base : Nat) (i : TypeInfo) (ht : P.underlying t = some (.slice 29)) (hi : P.info? 29 = some i)
  (v : Value) (GL : List (List Tm)) (hs : a.eval s = v) (hown : PRow base w v GL)
  (ua : Option Addr) (up : Nat) (hx : a.eval x = .slice ua 0 up) (h : K (a.put o.dst v) w) : Oper.wp P o a w K Q := by
 obtain ⟨xx, hO, hX⟩ := hown
 have hle : ∃ va vp, v = .slice va GL.length vp ∧ GL.length ≤ vp := by
  rcases hO with ⟨rfl, h0⟩ | ⟨g, cap, F, rfl, _, _, hc, _⟩
  ·exact ⟨none, 0, by rw [h0], by omega⟩
  ·exact ⟨_, _, rfl, hc⟩
 obtain ⟨va, vp, hv, hle⟩ := hle
 have hsrc : Src P i.size t (.slice ua 0 up) 0 [] w := by
  cases ua with
  | none => exact Src.ofNil w ht up
  | some q => exact Src.ofSlice w ht q 0 up [] (by simp) (fun j u hj => by simp at hj) (fun u hu => by simp at hu)
 have hrun := run_append_nothing (P := P) w t t o.type 29 i ht hi va GL.length vp hle (.slice ua 0 up) hsrc
 rw [hv] at hs h
 unfold Oper.wp
 simp [execOp, ho, resolve, invoke, builtin, hs, hx, hrun, Result.andThen]
 exact h
theorem PRow.push2 {base : Nat} {w w' : World} {va : Option Addr} {n vc : Nat} {GL : List (List Tm)} {xx : Nat → PE} {y : PE} {l : List Tm} {g cap : Nat} (hn : n = GL.length) (hx : ∀ j, j < GL.length → CRx (MR M0 (.slice va n vc)) w 4 (xx j) (GL.getD j [])) (hy : CRx (MR M0 (.slice va n vc)) w 4 y l)
  (hO : Own w' base 29 4 (.slice (some ⟨g, 0, none⟩) (n + 1) cap) (n + 1) (app (px xx) (n * 4) (arr (peA y)))) (hg : w.grownBy w' (Value.slice va n vc).ownBlock) (hat : (Value.slice va n vc).ownBlock = some g ∨ w.heap.size ≤ g) :
  PRow base w' (.slice (some ⟨g, 0, none⟩) (n + 1) cap) (GL ++ [l]) := by
 subst hn
 exact PRow.push hx hy hO hg hat
theorem sn_f {M : Nat → Prop} {w : World} {x : PE} {l : List Tm} (hx : CRx M w 4 x l) (hD : Deg 66 l) (hL : dlen (nrm l) ≤ 5) (M' : Nat → Prop) (W' : World) (h1 : Mb M' W') (h2 : ∀ g, M' g → M g ∨ w.heap.size ≤ g) (h3 : Ext w W') : Calls Tryz.prog 76 #[.agg (peA x)] W' (RetX M' W' 4 (snorm l)) := by
 obtain ⟨t, hR, hT, hS, hN⟩ := hx.tbM (B := 66) (Nat.le_refl _) (by omega) hD (by decide)
 rw [← hS.snorm]
 refine mv_snorm M' (4 + 1) t x W' h1 (RR.ext (RR.more h2 hR) h3) hT ?_
 have h5 := dlen_mono hN
 omega
theorem cmp_f {M M2 : Nat → Prop} {w w2 : World} {x y : PE} {l r : List Tm} (hx : CRx M w 4 x l) (hy : CRx M2 w2 4 y r) (hDl : Deg 66 l) (hLl : dlen (nrm l) ≤ 5) (hDr : Deg 66 r) (hLr : dlen (nrm r) ≤ 5) (W' : World) (h3 : Ext w W') (h4 : Ext w2 W') : Calls Tryz.prog 77 #[.agg (peA x), .agg (peA y)] W' fun e w' => e = .returned (.int .i64 (cmpP (norm l) (norm r))) ∧ Ext W' w' := by
 obtain ⟨t, hR, hT, hS, hN⟩ := hx.tbM (B := 66) (Nat.le_refl _) (by omega) hDl (by decide)
 obtain ⟨u, hU, hV, hS2, hN2⟩ := hy.tbM (B := 66) (Nat.le_refl _) (by omega) hDr (by decide)
 rw [← hS.norm, ← hS2.norm]
 exact mv_Compare M0 5 5 t u x y W' (mb0 _) (RR.ext (RR.more (fun g h => h.elim) hR) h3) hT (RR.ext (RR.more (fun g h => h.elim) hU) h4) hV
end Go.Proofs.YtfbdckffjjladaaGreat
