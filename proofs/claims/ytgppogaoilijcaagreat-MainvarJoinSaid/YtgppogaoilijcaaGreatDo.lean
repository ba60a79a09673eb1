/- cylinderref23.Times. MainvarJoin: plain facts and the walk. -/
import Derived.Test.YtgppogaoilijcaaGreatDl
import Derived.Laws.AppendOwnNone
set_option linter.unusedVariables false
set_option linter.unusedSimpArgs false

namespace Go.Proofs.YtgppogaoilijcaaGreat
open Go.RowKit

def timesL (L : Nat) (i : Int) (l : List Tm) : List Tm := (l.filter fun t => decide (0 ≤ t.2.get L)).map fun t => (t.1, Mo.add t.2 (xp L i))
theorem timesL_skip (L : Nat) (i : Int) (k : Nat) (z : Nat → Int) (x : Nat → TE) (h : ¬ 0 ≤ (x k).m.get L) : timesL L i (xls (k + 1) z x) = timesL L i (xls k z x) := by
  unfold timesL
  rw [xls_succ, List.filter_append, List.map_append]
  simp [h]
theorem timesL_take (L : Nat) (i : Int) (k : Nat) (z : Nat → Int) (x : Nat → TE) (h : 0 ≤ (x k).m.get L) : timesL L i (xls (k + 1) z x) = timesL L i (xls k z x) ++ [(z k, Mo.add (x k).m (xp L i))] := by
  unfold timesL
  rw [xls_succ, List.filter_append, List.map_append]
  simp [h]
theorem timesL_len (L : Nat) (i : Int) (l : List Tm) : (timesL L i l).length ≤ l.length := by
  unfold timesL
  rw [List.length_map]
  exact List.length_filter_le _ _
def TimesPost (M : Nat → Prop) (base : Nat) (w : World) (l : List Tm) (e : Ending) (w' : World) : Prop := ∃ u n z x, e = .returned u ∧ RowV M base w' u n z x ∧ (∀ g, u.ownBlock = some g → w.heap.size ≤ g) ∧ (n = 0 → u = .slice none 0 0) ∧ xls n z x = l ∧ Ext w w'
set_option maxRecDepth 100000 in
set_option maxHeartbeats 8000000 in
theorem rf_times (M : Nat → Prop) (base : Nat) (v : Value) (nl : Nat) (zl : Nat → Int) (xl : Nat → TE) (j i : Nat) (w : World) (hbase : base ≤ w.heap.size) (h : PolyX (Mf M base) w v nl zl xl) (hj : j < 4) (hi : i ≤ 1000) (hx : ∀ k, k < nl → (xl k).m.get (j + 1) ≤ 1073741824) :
    Calls Tryz.prog 37 #[v, .int .i64 ((j : Int) + 1), .int .i64 (i : Int)] w (TimesPost M base w (timesL (j + 1) (i : Int) (xls nl zl xl))) := by
  obtain ⟨i0, hi0, hz0, hz1, hz2⟩ := info_parts Tryz.info115
  have hnL := h.1
  have HI := Lib.hid h.2.2
  have HXE := Lib.hid hx
  have lj0 : (0 : Int) ≤ (j : Int) := Int.natCast_nonneg _
  have lj1 : (j : Int) < 4 := by omega
  have hform : ∃ a p, v = .slice a nl p := by
    rcases h.2.1 with ⟨⟨a, p, hv, _⟩, h0⟩ | ⟨b, off, cap, hv, _⟩
    · exact ⟨a, p, by rw [hv, h0]⟩
    · exact ⟨_, _, hv⟩
  obtain ⟨la, lp, rfl⟩ := hform
  have HC : Hid (∀ k, k < nl → ∃ b off, la = some ⟨b, off, none⟩ ∧ nl ≤ lp ∧ lp ≤ maxLen ∧ b < w.heap.size ∧ w.cell? ⟨b, off + k * 6, none⟩ = some (.bool (xl k).b) ∧ w.cell? ⟨b, off + k * 6 + 1, none⟩ = some (.slice (xl k).a (xl k).n (xl k).p) ∧
    w.cell? ⟨b, off + k * 6 + 2, none⟩ = some (.int .i64 (xl k).m.a) ∧ w.cell? ⟨b, off + k * 6 + 3, none⟩ = some (.int .i64 (xl k).m.b) ∧ w.cell? ⟨b, off + k * 6 + 4, none⟩ = some (.int .i64 (xl k).m.c) ∧ w.cell? ⟨b, off + k * 6 + 5, none⟩ = some (.int .i64 (xl k).m.d)) := fun k hk => by
    rcases h.2.1 with ⟨_, h0⟩ | ⟨b, off, cap, hv, h1, h2, h3, h4⟩
    · omega
    · simp only [Value.slice.injEq, true_and] at hv
      obtain ⟨rfl, rfl⟩ := hv
      exact ⟨b, off, rfl, h1, h2, h3.1, h4 k hk⟩
  clear h hx
  go_enter Tryz.func37, Tryz.ntmps37
  go_wp2
  go_loopw [8, 7] (fun iv v wr => ∃ (k n : Nat) (z : Nat → Int) (x : Nat → TE), k ≤ nl ∧ iv = .int .i64 k ∧ RowV M base wr v n z x ∧ Hid ((∀ g, v.ownBlock = some g → w.heap.size ≤ g) ∧ (n = 0 → v = .slice none 0 0)) ∧ Hid (xls n z x = timesL (j + 1) (i : Int) (xls k zl xl)) ∧ Hid (Ext w wr)) (fun iv _ _ => nl - (intOf iv).toNat)
  case atStart => exact ⟨0, 0, fun _ => 0, fun _ => ⟨false, none, 0, 0, Mo.zero⟩, Nat.zero_le _, rfl, ⟨Own.nil _ _ _ _ _, fun i hi => by omega⟩, ⟨(fun g hg => by cases hg), fun _ => rfl⟩, rfl, Ext.refl _⟩
  case round =>
    obtain ⟨k, n, z, x, hk, rfl, hR, HOB, HXL, HER⟩ := hrel
    obtain ⟨va, vc, rfl⟩ := hR.1.form
    by_cases hlt : k < nl
    · obtain ⟨b, off, rfl, hnk, hkm, hb, c0, c1, c2, c3, c4, c5⟩ := HC.out k hlt
      rw [← HER.out.cell hb] at c0 c1 c2 c3 c4 c5
      have hbw : b < wr.heap.size := by have := HER.out.size; omega
      have hltI : (k : Int) < (nl : Int) := by omega
      have HLT := Lib.hid hlt
      have hex2 : (xl k).m.get (j + 1) ≤ 1073741824 := HXE.out k hlt
      have hnn : n ≤ k := by
        have h2 := congrArg List.length HXL.out
        have h3 := timesL_len (j + 1) (i : Int) (xls k zl xl)
        rw [xls_len] at h2 h3
        omega
      have HIK : Hid (IntV (Mf M base) wr (.bool (xl k).b) (.slice (xl k).a (xl k).n (xl k).p) (zl k)) := (HI.out k hlt).ext HER.out
      have hB1 := Blk.of_arr wr #[.bool (xl k).b, .slice (xl k).a (xl k).n (xl k).p, .int .i64 (xl k).m.a, .int .i64 (xl k).m.b, .int .i64 (xl k).m.c, .int .i64 (xl k).m.d] 115 6 rfl
      have s0 := hB1.cell (i := 2 + j) (by omega)
      rw [te_get _ _ hj] at s0
      have s1 := hB1.frozen (2 + j)
      have hE1 : Ext wr (wr.alloc (.cells #[.bool (xl k).b, .slice (xl k).a (xl k).n (xl k).p, .int .i64 (xl k).m.a, .int .i64 (xl k).m.b, .int .i64 (xl k).m.c, .int .i64 (xl k).m.d] 115)) := (Ext.refl wr).alloc _
      have hlt1 : wr.heap.size < (wr.alloc (.cells #[.bool (xl k).b, .slice (xl k).a (xl k).n (xl k).p, .int .i64 (xl k).m.a, .int .i64 (xl k).m.b, .int .i64 (xl k).m.c, .int .i64 (xl k).m.d] 115)).heap.size := by simp
      have hsz1 : (wr.alloc (.cells #[.bool (xl k).b, .slice (xl k).a (xl k).n (xl k).p, .int .i64 (xl k).m.a, .int .i64 (xl k).m.b, .int .i64 (xl k).m.c, .int .i64 (xl k).m.d] 115)).heap.size = wr.heap.size + 1 := by simp
      by_cases hpos : 0 ≤ (xl k).m.get (j + 1)
      · have hB2 := (hB1.set (2 + j) (.int .i64 ((xl k).m.get (j + 1) + (i : Int)))).congr (f' := arr (teA ⟨(xl k).b, (xl k).a, (xl k).n, (xl k).p, Mo.add (xl k).m (xp (j + 1) (i : Int))⟩)) (fun i' hi' => teA_upd (xl k) j hj i i' hi')
        have o0 := hB2.cell (i := 0) (by omega)
        have o1 := hB2.cell (i := 1) (by omega)
        have o2 := hB2.cell (i := 2) (by omega)
        have o3 := hB2.cell (i := 3) (by omega)
        have o4 := hB2.cell (i := 4) (by omega)
        have o5 := hB2.cell (i := 5) (by omega)
        simp only [arr] at o0 o1 o2 o3 o4 o5
        have hE2 : Ext wr ((wr.alloc (.cells #[.bool (xl k).b, .slice (xl k).a (xl k).n (xl k).p, .int .i64 (xl k).m.a, .int .i64 (xl k).m.b, .int .i64 (xl k).m.c, .int .i64 (xl k).m.d] 115)).setCell ⟨wr.heap.size, 2 + j, none⟩ (.int .i64 ((xl k).m.get (j + 1) + (i : Int)))) := hE1.set (p := ⟨wr.heap.size, 2 + j, none⟩) (Nat.le_refl _) _
        have HE3 := Lib.hid (hE2.alloc (.cells #[.bool (xl k).b, .slice (xl k).a (xl k).n (xl k).p, .int .i64 (Mo.add (xl k).m (xp (j + 1) (i : Int))).a, .int .i64 (Mo.add (xl k).m (xp (j + 1) (i : Int))).b, .int .i64 (Mo.add (xl k).m (xp (j + 1) (i : Int))).c, .int .i64 (Mo.add (xl k).m (xp (j + 1) (i : Int))).d] 115))
        have hO5 := hR.1.ext HE3.out
        have hB5 := Blk.of_arr ((wr.alloc (.cells #[.bool (xl k).b, .slice (xl k).a (xl k).n (xl k).p, .int .i64 (xl k).m.a, .int .i64 (xl k).m.b, .int .i64 (xl k).m.c, .int .i64 (xl k).m.d] 115)).setCell ⟨wr.heap.size, 2 + j, none⟩ (.int .i64 ((xl k).m.get (j + 1) + (i : Int)))) #[.bool (xl k).b, .slice (xl k).a (xl k).n (xl k).p, .int .i64 (Mo.add (xl k).m (xp (j + 1) (i : Int))).a, .int .i64 (Mo.add (xl k).m (xp (j + 1) (i : Int))).b, .int .i64 (Mo.add (xl k).m (xp (j + 1) (i : Int))).c, .int .i64 (Mo.add (xl k).m (xp (j + 1) (i : Int))).d] 115 6 rfl
        simp only [World.size_setCell, World.size_alloc] at hB5
        have HONE := Lib.hid (one_te ⟨(xl k).b, (xl k).a, (xl k).n, (xl k).p, Mo.add (xl k).m (xp (j + 1) (i : Int))⟩)
        have HR' := Lib.hid hR
        generalize hW1 : wr.alloc (.cells #[.bool (xl k).b, .slice (xl k).a (xl k).n (xl k).p, .int .i64 (xl k).m.a, .int .i64 (xl k).m.b, .int .i64 (xl k).m.c, .int .i64 (xl k).m.d] 115) = W1 at s0 s1 o0 o1 o2 o3 o4 o5 HE3 hO5 hB5 hlt1 hsz1
        have HW1 := Lib.hid hW1
        have HSZ1 := Lib.hid hsz1
        clear hB1 hB2 hE1 hE2 hR hW1 hsz1
        go_upto_region 6 with (fail)
        rw [HW1.out]
        have hsz1 := HSZ1.out
        clear c0 c1 c2 c3 c4 c5
        go_wp2_with (at_builtin; refine wpList_append_fn _ rfl (.tmp 35) (.tmp 37) _ rfl base 115 i0 _ 6 64 Tryz.underlying23 hi0 hz0 hz1 hz2 rfl (by omega) (.slice va n vc) n (tx x) rfl hO5 (wr.heap.size + 1) 115 1 (arr #[.bool (xl k).b, .slice (xl k).a (xl k).n (xl k).p, .int .i64 (Mo.add (xl k).m (xp (j + 1) (i : Int))).a, .int .i64 (Mo.add (xl k).m (xp (j + 1) (i : Int))).b, .int .i64 (Mo.add (xl k).m (xp (j + 1) (i : Int))).c, .int .i64 (Mo.add (xl k).m (xp (j + 1) (i : Int))).d]) rfl hB5 HONE.out ?p1 ?p2 ?p3 ?_)
        case p1 => unfold maxLen; omega
        case p2 => omega
        case p3 => have := HER.out.size; simp; omega
        intro gg cap2 w5 hO6 hg6 hat hlt6
        have hkp : Kp (Mf M base) wr w5 := (Kp.of_ext HE3.out).trans (Kp.grown hg6 fun g hg => .inr (HR'.out.1.lt g hg).1)
        have HF : Hid (∃ (k' n' : Nat) (z' : Nat → Int) (x' : Nat → TE), k' ≤ nl ∧ Value.int .i64 ((k : Int) + 1) = .int .i64 k' ∧ RowV M base w5 (.slice (some ⟨gg, 0, none⟩) (n + 1) cap2) n' z' x' ∧ Hid ((∀ g, (Value.slice (some ⟨gg, 0, none⟩) (n + 1) cap2).ownBlock = some g → w.heap.size ≤ g) ∧ (n' = 0 → Value.slice (some ⟨gg, 0, none⟩) (n + 1) cap2 = .slice none 0 0)) ∧ Hid (xls n' z' x' = timesL (j + 1) (i : Int) (xls k' zl xl)) ∧ Hid (Ext w w5)) := by
          refine ⟨k + 1, n + 1, fun i' => if i' = n then zl k else z i', fun i' => if i' = n then ⟨(xl k).b, (xl k).a, (xl k).n, (xl k).p, Mo.add (xl k).m (xp (j + 1) (i : Int))⟩ else x i', HLT.out, by simp, ⟨hO6.congr (fun j' hj' => tx_app x n ⟨(xl k).b, (xl k).a, (xl k).n, (xl k).p, Mo.add (xl k).m (xp (j + 1) (i : Int))⟩ j' hj'), fun i' hi' => ?_⟩, ⟨fun g hg => ?_, fun h0 => by omega⟩, ?_, ?_⟩
          · by_cases hin : i' = n
            · simp only [if_pos hin]; exact HIK.out.kp hkp
            · simp only [if_neg hin]; exact (HR'.out.2 i' (by omega)).kp hkp
          · cases hg
            have := HER.out.size
            rcases hat with h1 | h1
            · exact HOB.out.1 gg h1
            · show w.heap.size ≤ gg
              omega
          · show _ = _
            rw [xls_app, HXL.out, timesL_take _ _ _ _ _ hpos]
          · exact (HER.out.trans HE3.out).grown hg6 (fun g hg => HOB.out.1 g hg)
        clear hO6 hg6 hat hkp hO5 hB5
        go_wp2
        go_roundw
        case rel => exact HF.out
        case measure => have := HLT.out; simp [intOf]; omega
      · have hpos2 : (xl k).m.get (j + 1) < 0 := by omega
        have HF : Hid (∃ (k' n' : Nat) (z' : Nat → Int) (x' : Nat → TE), k' ≤ nl ∧ Value.int .i64 ((k : Int) + 1) = .int .i64 k' ∧ RowV M base (wr.alloc (.cells #[.bool (xl k).b, .slice (xl k).a (xl k).n (xl k).p, .int .i64 (xl k).m.a, .int .i64 (xl k).m.b, .int .i64 (xl k).m.c, .int .i64 (xl k).m.d] 115)) (.slice va n vc) n' z' x' ∧ Hid ((∀ g, (Value.slice va n vc).ownBlock = some g → w.heap.size ≤ g) ∧ (n' = 0 → Value.slice va n vc = .slice none 0 0)) ∧ Hid (xls n' z' x' = timesL (j + 1) (i : Int) (xls k' zl xl)) ∧ Hid (Ext w (wr.alloc (.cells #[.bool (xl k).b, .slice (xl k).a (xl k).n (xl k).p, .int .i64 (xl k).m.a, .int .i64 (xl k).m.b, .int .i64 (xl k).m.c, .int .i64 (xl k).m.d] 115)))) :=
          ⟨k + 1, n, z, x, HLT.out, by simp, hR.ext hE1, HOB.out, by show _ = _; rw [HXL.out, timesL_skip _ _ _ _ _ hpos], HER.out.trans hE1⟩
        generalize hW1 : wr.alloc (.cells #[.bool (xl k).b, .slice (xl k).a (xl k).n (xl k).p, .int .i64 (xl k).m.a, .int .i64 (xl k).m.b, .int .i64 (xl k).m.c, .int .i64 (xl k).m.d] 115) = W1 at s0 s1 HF hlt1 hsz1
        have HW1 := Lib.hid hW1
        clear hB1 hE1 hW1 hR hpos
        go_upto_region 6 with (fail)
        rw [HW1.out]
        clear c0 c1 c2 c3 c4 c5
        go_wp2
        go_roundw
        case rel => exact HF.out
        case measure => have := HLT.out; simp [intOf]; omega
    · obtain rfl : nl = k := by omega
      have hge : ¬ (nl : Int) < (nl : Int) := by omega
      have HF : Hid (TimesPost M base w (timesL (j + 1) (i : Int) (xls nl zl xl)) (.returned (.slice va n vc)) wr) := ⟨_, n, z, x, rfl, hR, HOB.out.1, HOB.out.2, HXL.out, HER.out⟩
      clear hR
      go_wp2
      go_ret
      exact HF.out
end Go.Proofs.YtgppogaoilijcaaGreat

namespace Go.Proofs.YtgppogaoilijcaaGreat
open Go.RowKit

def joinT (L n : Nat) (P : Nat → List Tm) : List Tm := (List.range n).flatMap fun (i : Nat) => timesL L (i : Int) (P i)
theorem joinT_zero (L : Nat) (P : Nat → List Tm) : joinT L 0 P = [] := by simp [joinT]
theorem joinT_succ (L n : Nat) (P : Nat → List Tm) : joinT L (n + 1) P = joinT L n P ++ timesL L (n : Int) (P n) := by
  unfold joinT
  rw [List.range_succ, List.flatMap_append]
  simp
theorem coef_timesL (L : Nat) (i : Int) (l : List Tm) (m : Mo) : coefAt (timesL L i l) m = if 0 ≤ (Mo.sub m (xp L i)).get L then coefAt l (Mo.sub m (xp L i)) else 0 := by
  have hs : timesL L i l = shift (xp L i) (l.filter fun t => decide (0 ≤ t.2.get L)) := rfl
  rw [hs, coefAt_shift]
  clear hs
  generalize Mo.sub m (xp L i) = q
  induction l with
  | nil => split <;> rfl
  | cons t l ih =>
    rw [List.filter_cons]
    by_cases ht : 0 ≤ t.2.get L
    · rw [if_pos (by simpa using ht)]
      simp only [coefAt]
      rw [ih]
      by_cases hq : 0 ≤ q.get L
      · rw [if_pos hq, if_pos hq]
      · rw [if_neg hq, if_neg hq]
        have : t.2 ≠ q := fun e => hq (e ▸ ht)
        rw [if_neg this]; rfl
    · rw [if_neg (by simpa using ht), ih]
      by_cases hq : 0 ≤ q.get L
      · rw [if_pos hq, if_pos hq]
        have : t.2 ≠ q := fun e => ht (e ▸ hq)
        simp only [coefAt]
        rw [if_neg this]; omega
      · rw [if_neg hq, if_neg hq]
theorem nn_sub_xp {L : Nat} (h1 : 1 ≤ L) (h4 : L ≤ 4) {i : Int} {m : Mo} (hm : m.nn = true) : (Mo.sub m (xp L i)).nn = true ↔ 0 ≤ (Mo.sub m (xp L i)).get L := by
  constructor
  · intro h; exact nn_get h L
  · intro h
    have hg : ∀ k, 0 ≤ (Mo.sub m (xp L i)).get k := fun k => by
      by_cases hk : k = L
      · subst hk; exact h
      · rw [get_sub, get_xp _ _ _ h1 h4, if_neg hk]
        have := nn_get hm k; omega
    have g1 := hg 1
    have g2 := hg 2
    have g3 := hg 3
    have g4 := hg 4
    rw [Mo.nn_iff]
    exact ⟨g1, g2, g3, g4⟩
theorem norm_joinT {L : Nat} (h1 : 1 ≤ L) (h4 : L ≤ 4) (n : Nat) (P : Nat → List Tm) : norm (joinT L n P) = norm (poly L n fun i => norm (P i)) := by
  refine norm_congr fun m hm => ?_
  induction n with
  | zero => rw [joinT_zero, poly_zero]
  | succ n ih =>
    rw [joinT_succ, poly_succ, coefAt_append, coefAt_append, ih, coef_timesL, coefAt_shift]
    congr 1
    by_cases hq : 0 ≤ (Mo.sub m (xp L (n : Int))).get L
    · rw [if_pos hq, norm_coef_nn _ _ ((nn_sub_xp h1 h4 hm).2 hq)]
    · rw [if_neg hq]
      have : ¬ (Mo.sub m (xp L (n : Int))).nn = true := fun e => hq ((nn_sub_xp h1 h4 hm).1 e)
      rw [norm_coef]; unfold ncoef; rw [if_neg this]
theorem timesL_nrm (L : Nat) (i : Int) (l : List Tm) : nrm (timesL L i l) ≤ nrm l := by
  induction l with
  | nil => exact Nat.le_refl _
  | cons t l ih =>
    unfold timesL at ih ⊢
    rw [List.filter_cons]
    split
    · simp only [List.map_cons, nrm]; omega
    · simp only [nrm]; omega
theorem joinT_nrm {L c : Nat} {P : Nat → List Tm} : ∀ n, (∀ i, i < n → nrm (P i) ≤ c) → nrm (joinT L n P) ≤ n * c
  | 0, _ => by rw [joinT_zero]; exact Nat.zero_le _
  | n + 1, h => by
    rw [joinT_succ, nrm_append, Nat.add_mul, Nat.one_mul]
    exact Nat.add_le_add (joinT_nrm n fun i hi => h i (by omega)) (Nat.le_trans (timesL_nrm _ _ _) (h n (by omega)))
theorem joinT_len {L c : Nat} {P : Nat → List Tm} : ∀ n, (∀ i, i < n → (P i).length ≤ c) → (joinT L n P).length ≤ n * c
  | 0, _ => by rw [joinT_zero]; exact Nat.zero_le _
  | n + 1, h => by
    rw [joinT_succ, List.length_append, Nat.add_mul, Nat.one_mul]
    exact Nat.add_le_add (joinT_len n fun i hi => h i (by omega)) (Nat.le_trans (timesL_len _ _ _) (h n (by omega)))
theorem deg_poly {L S N : Nat} {P : Nat → List Tm} (h1 : 1 ≤ L) (h4 : L ≤ 4) (h : ∀ i, i < N → Deg S (P i)) : Deg (S + N) (poly L N P) := by
  intro m hm k
  induction N with
  | zero => exact absurd rfl hm
  | succ N ih =>
    rw [poly_succ, coefAt_append, coefAt_shift] at hm
    by_cases h0 : coefAt (poly L N P) m = 0
    · rw [h0] at hm
      have h2 : coefAt (P N) (Mo.sub m (xp L (N : Int))) ≠ 0 := by omega
      have h3 := h N (by omega) _ h2 k
      rw [get_sub, get_xp _ _ _ h1 h4] at h3
      split at h3 <;> omega
    · have := ih (fun i hi => h i (by omega)) h0
      omega
theorem wpList_append_rowJ {P : Program} (w : World) {ops : Array Oper} {rest : List Oper} {o : Oper} {a : Act} {Q : Exit → Act → World → Prop} (hgd : o.guard = none) (s x : Operand) (t : TypeId)
    (ho : o.op = .call { callee := .builtin .append, args := #[s, x], argTypes := #[t, t] })
    (base : Nat) (e : TypeId) (i : TypeInfo) (z : Value) (k bytes : Nat) (ht : P.underlying t = some (.slice e)) (hi : P.info? e = some i) (hz : i.zero = some z)
    (hsize : i.size = k) (hby : i.bytes = bytes) (hzs : z.cells.size = k) (hsz : 0 < k)
    (v : Value) (n : Nat) (f : Nat → Value) (hs : a.eval s = v) (hown : Own w base e k v n f)
    (q off m c : Nat) (src : Nat → Value) (hx : a.eval x = .slice (some ⟨q, off, none⟩) m c) (hB : ∀ j, j < m * k → w.cell? ⟨q, off + j, none⟩ = some (src j)) (h1 : ∀ j, j < m * k → (src j).oneCell' = true) (hm : 0 < m)
    (h63 : n + m ≤ maxLen) (hbytes : (n + m) * bytes ≤ 140737488355328) (hbase : base ≤ w.heap.size)
    (h : ∀ g cap w', Own w' base e k (.slice (some ⟨g, 0, none⟩) (n + m) cap) (n + m) (app f (n * k) src) → w.grownBy w' v.ownBlock → (v.ownBlock = some g ∨ w.heap.size ≤ g) → g < w'.heap.size → wpList P ops Q rest (a.put o.dst (.slice (some ⟨g, 0, none⟩) (n + m) cap)) w') :
    wpList P ops Q (o :: rest) a w := by
  refine wpList_append_lies w hgd s x t ho base e i z k bytes ht hi hz hsize hby hzs hsz v n (rowL f (n * k)) hs hown.toRow ⟨q, off, none⟩ m c (rowL src (m * k)) hx (rowL_len _ _) ?_ ?_ hm h63 hbytes hbase w.heap.size rfl ?_
  · intro j u hu
    have hj : j < m * k := by
      have := (List.getElem?_eq_some_iff.1 hu).1
      simpa [rowL_len] using this
    rw [rowL_get _ _ _ hj] at hu
    cases hu
    rw [addr_add]; exact hB j hj
  · intro u hu
    simp only [rowL, List.mem_map, List.mem_range] at hu
    obtain ⟨j, hj, rfl⟩ := hu
    exact h1 j hj
  · intro g cap w' ho hg hat hlt
    rw [rowL_app, show n * k + m * k = (n + m) * k from by rw [Nat.add_mul]] at ho
    exact h g cap w' (Own.ofRow ho) hg (hat.imp id (fun e => by omega)) hlt
def appN {T : Type} (n : Nat) (x y : Nat → T) : Nat → T := fun i => if i < n then x i else y (i - n)
theorem tx_rows (x y : Nat → TE) (n : Nat) (j : Nat) : app (tx x) (n * 6) (tx y) j = tx (appN n x y) j := by
  unfold app tx tcell appN
  by_cases h : j < n * 6
  · rw [if_pos h]
    have h2 : j / 6 < n := by omega
    simp only [if_pos h2]
  · rw [if_neg h]
    have h2 : ¬ j / 6 < n := by omega
    have h3 : (j - n * 6) % 6 = j % 6 := by omega
    have h4 : (j - n * 6) / 6 = j / 6 - n := by omega
    simp only [if_neg h2, h3, h4]
theorem xls_rows (n m : Nat) (z u : Nat → Int) (x y : Nat → TE) : xls (n + m) (appN n z u) (appN n x y) = xls n z x ++ xls m u y := by
  unfold xls appN
  rw [List.range_add, List.map_append, List.map_map]
  congr 1
  · apply List.map_congr_left
    intro i hi
    have : i < n := by simpa using hi
    simp [this]
  · apply List.map_congr_left
    intro i hi
    have h1 : ¬ n + i < n := by omega
    have h2 : n + i - n = i := by omega
    simp only [Function.comp_def, if_neg h1, h2]
theorem tx_one (x : Nat → TE) (j : Nat) : (tx x j).oneCell' = true := by
  unfold tx tcell
  split
  · rfl
  · split
    · rfl
    · split
      · rfl
      · split
        · rfl
        · split <;> rfl
theorem wpList_append_terms {P : Program} (w : World) {ops : Array Oper} {rest : List Oper} {o : Oper} {a : Act} {Q : Exit → Act → World → Prop} (hgd : o.guard = none) (s x : Operand) (t : TypeId)
    (ho : o.op = .call { callee := .builtin .append, args := #[s, x], argTypes := #[t, t] })
    (M : Nat → Prop) (base : Nat) (i : TypeInfo) (z0 : Value) (ht : P.underlying t = some (.slice 115)) (hi : P.info? 115 = some i) (hz : i.zero = some z0)
    (hsize : i.size = 6) (hby : i.bytes = 64) (hzs : z0.cells.size = 6)
    (v : Value) (n : Nat) (z : Nat → Int) (xx : Nat → TE) (hs : a.eval s = v) (hown : RowV M base w v n z xx)
    (u : Value) (m : Nat) (zu : Nat → Int) (xu : Nat → TE) (hx : a.eval x = u) (hu : RowV M base w u m zu xu) (hu0 : m = 0 → u = .slice none 0 0) (hne : ∀ g, v.ownBlock = some g → base ≤ g)
    (h63 : n + m ≤ 1000000) (hbase : base ≤ w.heap.size)
    (h : ∀ v' w', RowV M base w' v' (n + m) (appN n z zu) (appN n xx xu) → w.grownBy w' v.ownBlock → (∀ g, v'.ownBlock = some g → v.ownBlock = some g ∨ w.heap.size ≤ g) → wpList P ops Q rest (a.put o.dst v') w') :
    wpList P ops Q (o :: rest) a w := by
  rcases Nat.eq_zero_or_pos m with h0 | h0
  · subst h0
    refine wpList_append_own_none hgd s x t ho base 115 i 6 ht hi v n _ hs hown.1.toRow (hx.trans (hu0 rfl)) ?_
    refine h v w ⟨hown.1.congr fun j hj => ?_, fun k hk => ?_⟩ (grownBy_refl w v.ownBlock) fun g hg => .inl hg
    · have h2 : j / 6 < n := by omega
      unfold tx tcell appN
      simp only [if_pos h2]
    · have := hown.2 k (by omega)
      unfold appN
      rw [if_pos (by omega), if_pos (by omega)]
      exact this
  · obtain ⟨g, cap, F, rfl, hg, hB, hc, hm, hF⟩ := hu.1.some h0
    refine wpList_append_rowJ w hgd s x t ho base 115 i z0 6 64 ht hi hz hsize hby hzs (by omega) v n (tx xx) hs hown.1 g 0 m cap (tx xu) hx (fun j hj => ?_) (fun j _ => tx_one xu j) h0 ?_ ?_ hbase ?_
    · rw [Nat.zero_add, hB.cell (by omega), hF j hj]
    · unfold maxLen; omega
    · omega
    · intro gg cap' w' hO hgr hat hlt
      have hkp : Kp (Mf M base) w w' := Kp.grown hgr fun k hk => .inr (hne k hk)
      refine h _ w' ⟨hO.congr fun j _ => tx_rows xx xu n j, fun k hk => ?_⟩ hgr fun k hk => ?_
      · unfold appN
        by_cases hkn : k < n
        · rw [if_pos hkn, if_pos hkn]; exact (hown.2 k hkn).kp hkp
        · rw [if_neg hkn, if_neg hkn]; exact (hu.2 (k - n) (by omega)).kp hkp
      · cases hk; exact hat
end Go.Proofs.YtgppogaoilijcaaGreat
