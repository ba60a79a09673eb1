/- sparse.Derivative. -/
import Derived.Test.YtgppogaoilijcaaGreatDv
import Derived.Test.YtgppogaoilijcaaGreatDw
import Derived.Sort.CutIn
set_option linter.unusedVariables false
set_option linter.unusedSimpArgs false

namespace Go.Proofs.YtgppogaoilijcaaGreat
open Go.RowKit
attribute [local go_sem] Oper.semAt_some

def dvT (K : Nat) (t : Tm) : Tm := (t.1 * t.2.get K, Mo.add t.2 (xp K (-1)))
def dvL (K : Nat) (L : List Tm) : List Tm := (L.filter fun t => decide (0 < t.2.get K)).map (dvT K)
theorem dvL_take {K : Nat} (L : List Tm) {t : Tm} (h : 0 < t.2.get K) : dvL K (L ++ [t]) = dvL K L ++ [dvT K t] := by
  unfold dvL
  rw [List.filter_append, List.map_append]
  simp [h]
theorem dvL_skip {K : Nat} (L : List Tm) {t : Tm} (h : ¬ 0 < t.2.get K) : dvL K (L ++ [t]) = dvL K L := by
  unfold dvL
  rw [List.filter_append, List.map_append]
  simp [h]
theorem dvL_len (K : Nat) (L : List Tm) : (dvL K L).length ≤ L.length := by
  unfold dvL
  rw [List.length_map]
  exact List.length_filter_le _ _
theorem dvL_nrm {K E : Nat} : ∀ {L : List Tm}, (∀ t ∈ L, t.2.get K ≤ (E : Int)) → nrm (dvL K L) ≤ E * nrm L
  | [], _ => Nat.zero_le _
  | t :: L, h => by
    have ih := dvL_nrm (K := K) (E := E) (L := L) fun s hs => h s (List.mem_cons_of_mem _ hs)
    unfold dvL at ih ⊢
    rw [List.filter_cons]
    have h1 : nrm (t :: L) = t.1.natAbs + nrm L := rfl
    rw [h1, Nat.mul_add]
    split
    · rename_i hp
      rw [List.map_cons]
      have h2 : nrm (dvT K t :: (L.filter fun t => decide (0 < t.2.get K)).map (dvT K)) = (t.1 * t.2.get K).natAbs + nrm ((L.filter fun t => decide (0 < t.2.get K)).map (dvT K)) := rfl
      rw [h2, Int.natAbs_mul, Nat.mul_comm t.1.natAbs]
      have hp' : 0 < t.2.get K := by simpa using hp
      have h3 : (t.2.get K).natAbs ≤ E := by have := h t (List.mem_cons_self ..); omega
      exact Nat.add_le_add (Nat.mul_le_mul_right _ h3) ih
    · omega
theorem polyV_nilD (M : Nat → Prop) (w : World) : PolyV M w (.slice none 0 0) [] := ⟨0, fun _ => 0, fun _ => Mo.zero, fun _ => undef, fun _ => undef, ⟨Nat.zero_le _, .inl ⟨⟨none, 0, rfl, Nat.zero_le _⟩, rfl⟩⟩, rfl, fun i hi => absurd hi (Nat.not_lt_zero _)⟩
structure DvI (M : Nat → Prop) (w w2 : World) (n2 bs G ab lb j : Nat) (pre : List Yc) (W : World) : Prop where
  g : GAcc M bs W G (dvL (j + 1) (ycL pre))
  r : ∃ r, W.cell? ⟨G, 0, none⟩ = some (.map (some r)) ∧ r < w2.heap.size
  z : ∀ b, GBlk W G b → b < n2 ∨ w2.heap.size ≤ b
  a : W.cell? ⟨ab, 0, none⟩ = some (.pointer (some ⟨G, 0, none⟩))
  l : W.cell? ⟨lb, 0, none⟩ = some (.int .i64 ((j : Int) + 1))
  e : Ext w W
  s : w2.heap.size ≤ W.heap.size
theorem DvI.own {M : Nat → Prop} {w w2 : World} {n2 bs G ab lb j : Nat} (hG : G < w2.heap.size) (ha : ab < w2.heap.size) (hl : lb < w2.heap.size) (hw : w.heap.size ≤ w2.heap.size) : OwnFrom w2.heap.size (DvI M w w2 n2 bs G ab lb j) := by
  rintro pre W W' row ⟨h1, ⟨r, h2, h3⟩, h4, h5, h6, h7, h8⟩ hg hr
  have hc : ∀ b, b < w2.heap.size → ∀ o, W'.cell? ⟨b, o, none⟩ = W.cell? ⟨b, o, none⟩ := fun b hb o => World.cell?_of_block (w := W) (hg.block b (Nat.lt_of_lt_of_le hb h8) (fun e => by have := (hr b e.symm).1; omega))
  refine ⟨h1.grown h2 h3 hg hr, ⟨r, by rw [hc G hG]; exact h2, h3⟩, fun b hb => h4 b ?_, by rw [hc ab ha]; exact h5, by rw [hc lb hl]; exact h6, h7.grown hg (fun k hk => by have := (hr k hk).1; omega), Nat.le_trans h8 hg.size⟩
  unfold GBlk at hb ⊢
  rw [hc G hG, hc G hG] at hb
  exact hb
theorem DvI.ext {M : Nat → Prop} {w w2 : World} {n2 bs G ab lb j : Nat} {pre : List Yc} {W W' : World} (h : DvI M w w2 n2 bs G ab lb j pre W) (he : Ext W W') : DvI M w w2 n2 bs G ab lb j pre W' := by
  obtain ⟨h1, ⟨r, h2, h3⟩, h4, h5, h6, h7, h8⟩ := h
  exact ⟨h1.ext he, ⟨r, by rw [he.cell h1.lt.2]; exact h2, h3⟩, fun b hb => h4 b (hb.ext he h1.lt.2), by rw [he.cell (World.block_lt_of_cell? _ _ h5)]; exact h5, by rw [he.cell (World.block_lt_of_cell? _ _ h6)]; exact h6, h7.trans he, Nat.le_trans h8 he.size⟩
theorem YcPre.ext {X : Nat → Prop} {G : Nat} {L : List Tm} {pre : List Yc} {x : Yc} {W W' : World} (h : YcPre X (fun W b => GBlk W G b) L pre x W) (he : Ext W W') (hG : G < W.heap.size) : YcPre X (fun W b => GBlk W G b) L pre x W' :=
  ⟨⟨(h.1.1.ext he).more (M' := fun b => X b ∨ GBlk W' G b) (fun g hg => .inl (hg.imp id fun h => h.ext he hG)), h.1.2⟩, h.2⟩
theorem gblk_cells {M : Nat → Prop} {bs G : Nat} {W : World} {L : List Tm} (h : GAcc M bs W G L) {k : Nat} (hk : GBlk W G k) : k = G ∨ W.cell? ⟨G, 0, none⟩ = some (.map (some k)) ∨ ∃ o : Obj, W.heap[k]? = some o ∧ o.isCells = true := by
  obtain ⟨n, z, m, ⟨r, tv, c0, c1, h1, h2, h3, h4, h5, h6, h7, h8, _⟩, _⟩ := h
  rcases (h1.gblk k).1 hk with h | h | h
  · exact .inl h
  · subst h; exact .inr (.inl (h1.cell (i := 0) (by omega)))
  · rcases h8 with ⟨rfl, _⟩ | ⟨g', cap, F, rfl, _, ⟨cur, hcur, _⟩, _⟩
    · cases h
    · cases h; exact .inr (.inr ⟨_, hcur, rfl⟩)
theorem GAcc.more {M M' : Nat → Prop} {bs G : Nat} {W : World} {L : List Tm} (h : GAcc M bs W G L) (hm : ∀ g, M' g → M g ∨ W.heap.size ≤ g) : GAcc M' bs W G L := by
  obtain ⟨n, z, m, ⟨r, tv, c0, c1, h1, h2, h3, h4, h5, h6, h7, h8, h9, h10⟩, k2⟩ := h
  refine ⟨n, z, m, ⟨r, tv, c0, c1, h1, h2, h3, h4, h5, h6, h7, h8, fun i hi => (h9 i hi).more fun g hg => ?_, h10⟩, k2⟩
  unfold GM at hg ⊢
  rcases hg with hg | hg
  · exact (hm g hg).imp .inl id
  · exact .inl (.inr hg)
theorem GAcc.setM {M : Nat → Prop} {bs G mb o : Nat} {W : World} {L : List Tm} {u : Value} (h : GAcc M bs W G L) (hmb : M mb) (hne : ∀ b, GBlk W G b → b ≠ mb) : GAcc M bs (W.setCell ⟨mb, o, none⟩ u) G L := by
  obtain ⟨n, z, m, ⟨r, tv, c0, c1, h1, h2, h3, h4, h5, h6, h7, h8, h9, h10⟩, k2⟩ := h
  have hb := fun b hb => hne b ((h1.gblk b).2 hb)
  refine ⟨n, z, m, ⟨r, tv, c0, c1, h1.set_other (p := ⟨mb, o, none⟩) (hb G (.inl rfl)) _, h2, h3, h4, h5, h6, h7.of_heap (Below.heap_setCell _ _ _ _ (hb r (.inr (.inl rfl)))), h8.of_heap (fun g hg => Below.heap_setCell _ _ _ _ (hb g (.inr (.inr hg)))), fun i hi => (h9 i hi).kp (Kp.set _ _ (p := ⟨mb, o, none⟩) (.inl hmb) _), h10⟩, k2⟩
structure DvA (M X : Nat → Prop) (w2 : World) (bs G j : Nat) (L : List Tm) (pre : List Yc) (x : Yc) (mb cx : Nat) (W : World) : Prop where
  m1 : w2.heap.size ≤ mb
  c1 : w2.heap.size ≤ cx
  ne : mb ≠ cx
  gm : ∀ b, GBlk W G b → b ≠ mb
  s : w2.heap.size ≤ W.heap.size
  bm : Blk W mb 105 4 (moF x.1.m)
  bc : Blk W cx 31 2 (arr (iA ⟨x.1.b, x.1.a, x.1.n, x.1.p⟩))
  y : YcPre (fun b => X b ∨ b = mb) (fun W b => GBlk W G b) L pre x W
  g : GAcc (fun b => M b ∨ b = mb) bs W G (dvL (j + 1) (ycL pre))
  r : ∃ r, W.cell? ⟨G, 0, none⟩ = some (.map (some r)) ∧ r < w2.heap.size
theorem DvA.grown {M X : Nat → Prop} {w2 : World} {bs G j : Nat} {L : List Tm} {pre : List Yc} {x : Yc} {mb cx : Nat} {W W' : World} {row : Option Nat} (h : DvA M X w2 bs G j L pre x mb cx W) (hG : G < w2.heap.size) (hg : W.grownBy W' row) (hr : ∀ k, row = some k → w2.heap.size ≤ k ∧ ∃ o : Obj, W.heap[k]? = some o ∧ o.isCells = false) : DvA M X w2 bs G j L pre x mb cx W' := by
  obtain ⟨h1, h2, h3, h4, h5, h6, h7, ⟨⟨h8, h9⟩, h10⟩, h11, ⟨r, h12, h13⟩⟩ := h
  have hr' := fun r e => (hr r e).2
  have hc : ∀ o, W'.cell? ⟨G, o, none⟩ = W.cell? ⟨G, o, none⟩ := fun o => World.cell?_of_block (w := W) (hg.block G (by omega) (fun e => by have := (hr G e.symm).1; omega))
  have hgb : ∀ b, GBlk W' G b → GBlk W G b := fun b hb => by
    unfold GBlk at hb ⊢
    rw [hc, hc] at hb
    exact hb
  exact ⟨h1, h2, h3, fun b hb => h4 b (hgb b hb), Nat.le_trans h5 hg.size, h6.grownN hg hr', h7.grownN hg hr', ⟨⟨(h8.grown hg hr').more (fun g hg' => .inl (hg'.imp id (hgb g))), h9⟩, h10⟩, h11.grown h12 h13 hg hr, ⟨r, by rw [hc]; exact h12, h13⟩⟩
theorem fr_keeps {M : Nat → Prop} {bs G B r : Nat} {u2 u3 : World} {L : List Tm} (hg : GAcc M bs u2 G L) (hr : u2.cell? ⟨G, 0, none⟩ = some (.map (some r))) (hrB : r < B) (hG : G < B) (hf : Fr G u2 u3) : KeepsFrom B u2 u3 :=
  ⟨hf.1, fun k o hk ho hno => by
    rw [hf.2.1 k (Array.getElem?_eq_some_iff.1 ho).1 (fun hb => ?_)]
    · exact ho
    · rcases gblk_cells hg hb with h | h | ⟨o', h, hc⟩
      · omega
      · rw [hr] at h
        have : r = k := by simpa using h
        omega
      · rw [ho] at h; cases h; rw [hno] at hc; cases hc⟩
theorem ext_keeps (B : Nat) {W W' : World} (h : Ext W W') : KeepsFrom B W W' := ⟨h.size, fun k o _ ho _ => by rw [h.heap (Array.getElem?_eq_some_iff.1 ho).1]; exact ho⟩
def SDd (ab G mb cx : Nat) (m : Mo) (y : TE) (W : World) : Prop := W.cell? ⟨ab, 0, none⟩ = some (.pointer (some ⟨G, 0, none⟩)) ∧ (W.cell? ⟨mb, 0, none⟩ = some (.int .i64 m.a) ∧ W.cell? ⟨mb, 1, none⟩ = some (.int .i64 m.b) ∧ W.cell? ⟨mb, 2, none⟩ = some (.int .i64 m.c) ∧ W.cell? ⟨mb, 3, none⟩ = some (.int .i64 m.d)) ∧ W.cell? ⟨cx, 0, none⟩ = some (.bool y.b) ∧ W.cell? ⟨cx, 1, none⟩ = some (.slice y.a y.n y.p)
theorem SDd.ext {ab G mb cx : Nat} {m : Mo} {y : TE} {W W' : World} (h : SDd ab G mb cx m y W) (he : Ext W W') : SDd ab G mb cx m y W' := by
  obtain ⟨h1, ⟨h2, h3, h4, h5⟩, h6, h7⟩ := h
  refine ⟨?_, ⟨?_, ?_, ?_, ?_⟩, ?_, ?_⟩
  · rw [he.cell (World.block_lt_of_cell? _ _ h1)]; exact h1
  · rw [he.cell (World.block_lt_of_cell? _ _ h2)]; exact h2
  · rw [he.cell (World.block_lt_of_cell? _ _ h3)]; exact h3
  · rw [he.cell (World.block_lt_of_cell? _ _ h4)]; exact h4
  · rw [he.cell (World.block_lt_of_cell? _ _ h5)]; exact h5
  · rw [he.cell (World.block_lt_of_cell? _ _ h6)]; exact h6
  · rw [he.cell (World.block_lt_of_cell? _ _ h7)]; exact h7
theorem kq_refl (X : Nat → Prop) (n : Nat) (W : World) : Kq X n W W := ⟨Nat.le_refl _, fun _ _ _ => rfl⟩
theorem mo_dec (m : Mo) (j : Nat) (hj : j < 4) (i : Nat) (hi : i < 4) : upd (moF m) j (.int .i64 (m.get (j + 1) - 1)) i = moF (Mo.add m (xp (j + 1) (-1))) i := by
  unfold upd moF
  rw [get_add, get_xp _ _ _ (by omega) (by omega)]
  by_cases h : i = j
  · subst h; simp; omega
  · rw [if_neg h, if_neg (by omega)]; simp
theorem PolyV.grownN {M : Nat → Prop} {W W' : World} {v : Value} {l : List Tm} {row : Option Nat} (h : PolyV M W v l) (hg : W.grownBy W' row) (hr : ∀ r, row = some r → ∃ o : Obj, W.heap[r]? = some o ∧ o.isCells = false) : PolyV M W' v l := by
  obtain ⟨n, z, m, c0, c1, ⟨hnL, hrow⟩, h1, h2⟩ := h
  refine ⟨n, z, m, c0, c1, ⟨hnL, ?_⟩, h1, fun i hi => ?_⟩
  · rcases hrow with hrow | ⟨b, off, cap, hv, hn, hc, hb, hcell⟩
    · exact .inl hrow
    · refine .inr ⟨b, off, cap, hv, hn, hc, ⟨Nat.lt_of_lt_of_le hb.1 hg.size, hb.2⟩, fun i hi => ?_⟩
      have hne : some b ≠ row := fun e => by
        obtain ⟨o, ho, hno⟩ := hr b e.symm
        obtain ⟨q, hq, hyes⟩ := cells_of_cell (hcell i hi).1
        rw [ho] at hq; cases hq; rw [hno] at hyes; cases hyes
      have hcc : ∀ o, W'.cell? ⟨b, o, none⟩ = W.cell? ⟨b, o, none⟩ := fun o => World.cell?_of_block (w := W) (hg.block b hb.1 hne)
      rw [hcc, hcc, hcc, hcc, hcc, hcc]
      exact hcell i hi
  · obtain ⟨b1, x1, e0, ⟨n1, d1, k1, k2⟩, e2⟩ := h2 i hi
    exact ⟨b1, x1, e0, ⟨n1, d1, k1.grown hg hr, k2⟩, e2⟩
set_option maxRecDepth 100000 in
set_option maxHeartbeats 8000000 in
theorem sp_derivative (M : Nat → Prop) (v : Value) (l : List Tm) (L : Int) (w : World) (hM : Mb M w) (hP : PolyV M w v l) (hL : dlen (nrm l) ≤ 80) (hE : Deg 1000 (norm l)) :
    Calls Tryz.prog 59 #[v, .int .i64 L] w fun e w' => ∃ u r, e = .returned u ∧ PolyV M w' u r ∧ (¬ (1 ≤ L ∧ L ≤ 4) → r = []) ∧ (∀ K : Nat, L = K → 1 ≤ K → K ≤ 4 → r = norm (dvL K (norm l))) ∧ Ext w w' := by
  obtain ⟨va, vc, rfl⟩ := hP.form
  have hE0 : Ext w (w.alloc (.cells #[.int .i64 L] 3)) := (Ext.refl w).alloc _
  have hB0 := Blk.of_alloc1 w (.int .i64 L) 3
  have HP := Lib.hid hP
  have HM := Lib.hid hM
  have CTL := Lib.hid (fun W => sp_isLevelD L W)
  generalize hW0 : w.alloc (.cells #[.int .i64 L] 3) = W0 at *
  have HW0 := Lib.hid hW0
  have HE0 := Lib.hid hE0
  have HLL := Lib.hid hL
  have HEE := Lib.hid hE
  have l0 := hB0.cell (i := 0) (by omega)
  have hlw := hB0.lt
  have hs0 : W0.heap.size = w.heap.size + 1 := by rw [← hW0]; simp
  clear hP hW0 hE0 hM hL hE hB0
  refine callsIn_wide.1 (callsIn_of_wp_marks (F := Fence.wide) (n := 3) Tryz.func59 rfl trivial ?_)
  refine wpIn_wide.2 ?_
  simp only [Tryz.ntmps59, List.size_toArray, List.length_cons, List.length_nil, Nat.reduceAdd, Nat.reduceSub, Array.replicate_succ, Array.replicate_zero, List.push_toArray, List.append_toArray, List.nil_append, List.cons_append]
  go_upto_region 1 with (fail)
  rw [HW0.out]
  by_cases hlev : ¬ (1 ≤ L ∧ L ≤ 4)
  · have hlevB : isLevB L = false := by unfold isLevB; simp only [decide_eq_false_iff_not]; exact hlev
    rw [hlevB] at CTL
    go_wp2_with (fail)
    refine (CTL.out _).mono ?_
    rintro e w2 ⟨rfl, rfl⟩
    clear CTL
    have HF : Hid (∃ u r, Ending.returned (.slice none 0 0) = .returned u ∧ PolyV M W0 u r ∧ (¬ (1 ≤ L ∧ L ≤ 4) → r = []) ∧ (∀ K : Nat, L = K → 1 ≤ K → K ≤ 4 → r = norm (dvL K (norm l))) ∧ Ext w W0) := ⟨_, [], rfl, polyV_nilD _ _, fun _ => rfl, fun K hK h1 h4 => absurd ⟨by omega, by omega⟩ hlev, HE0.out⟩
    go_wp2
    exact ⟨.slice none 0 0, by simp [results, Tryz.results59, go_sem], HF.out⟩
  obtain ⟨j, rfl, hj4⟩ : ∃ j : Nat, L = (j : Int) + 1 ∧ j < 4 := ⟨(L - 1).toNat, by omega, by omega⟩
  have hlevB : isLevB ((j : Int) + 1) = true := by unfold isLevB; simp only [decide_eq_true_eq]; omega
  rw [hlevB] at CTL
  clear hlev hlevB
  have CG := Lib.hid (gacc_mk M W0)
  go_wp2_with (fail)
  refine (CTL.out _).mono ?_
  rintro e w2 ⟨rfl, rfl⟩
  clear CTL
  go_wp2_with (fail)
  refine CG.out.mono ?_
  rintro e w1 ⟨rfl, hg, he1⟩
  rw [hs0] at hg
  have hEa : Ext w1 (w1.alloc (.cells #[.pointer (some ⟨w.heap.size + 1 + 1, 0, none⟩)] 132)) := (Ext.refl _).alloc _
  have hBa := Blk.of_alloc1 w1 (.pointer (some ⟨w.heap.size + 1 + 1, 0, none⟩)) 132
  go_upto_region 4 with (fail)
  have hs1 : w.heap.size + 2 < w1.heap.size := by have := hg.lt; omega
  have hg2 := hg.ext hEa
  obtain ⟨rm, hrm, hrl⟩ : ∃ r, w1.cell? ⟨w.heap.size + 1 + 1, 0, none⟩ = some (.map (some r)) ∧ r < w1.heap.size := by
    obtain ⟨n, z, m, ⟨r, tv, c0, c1, h1, h2, h3, h4, h5, h6, h7, _⟩, _⟩ := hg
    exact ⟨r, h1.cell (i := 0) (by omega), h7.lt⟩
  have hrm2 : (w1.alloc (.cells #[.pointer (some ⟨w.heap.size + 1 + 1, 0, none⟩)] 132)).cell? ⟨w.heap.size + 1 + 1, 0, none⟩ = some (.map (some rm)) := by rw [hEa.cell (by omega)]; exact hrm
  have l2 : (w1.alloc (.cells #[.pointer (some ⟨w.heap.size + 1 + 1, 0, none⟩)] 132)).cell? ⟨w.heap.size, 0, none⟩ = some (.int .i64 ((j : Int) + 1)) := by rw [hEa.cell (by omega), he1.cell hlw]; exact l0
  have a2 := hBa.cell (i := 0) (by omega)
  have hgb : ∀ b, GBlk w1 (w.heap.size + 1 + 1) b → b < w1.heap.size := fun b hb => (hg.gblk hb).2
  have hgb2 : ∀ b, GBlk (w1.alloc (.cells #[.pointer (some ⟨w.heap.size + 1 + 1, 0, none⟩)] 132)) (w.heap.size + 1 + 1) b → b < w1.heap.size := fun b hb => hgb b (hb.ext hEa (by omega))
  have HE2 := Lib.hid ((HE0.out.trans he1).trans hEa)
  have HSZ2 : Hid ((w1.alloc (.cells #[.pointer (some ⟨w.heap.size + 1 + 1, 0, none⟩)] 132)).heap.size = w1.heap.size + 1) := by show _ = _; simp
  have hMX : Mb (fun b => M b ∨ (w.heap.size ≤ b ∧ b < w1.heap.size + 1)) (w1.alloc (.cells #[.pointer (some ⟨w.heap.size + 1 + 1, 0, none⟩)] 132)) := fun b hb => by
    rw [HSZ2.out]
    rcases hb with hb | hb
    · have := HM.out b hb; omega
    · omega
  have CT := Lib.hid (sp_termsW (fun b => M b ∨ (w.heap.size ≤ b ∧ b < w1.heap.size + 1)) _ l _ hMX ((HP.out.more (M' := fun b => M b ∨ (w.heap.size ≤ b ∧ b < w1.heap.size + 1)) (fun g hg => hg.imp id fun h => h.1)).ext HE2.out).w (by have := HLL.out; omega))
  generalize hab : w1.heap.size = ab at *
  generalize hW2 : w1.alloc (.cells #[.pointer (some ⟨w.heap.size + 1 + 1, 0, none⟩)] 132) = W2 at *
  have hGl : w.heap.size + 1 + 1 < ab := by omega
  have HW2S : Hid (W2.heap.size = ab + 1) := HSZ2.out
  have HMX := Lib.hid hMX
  have HG2 := Lib.hid hg2
  have HGB := Lib.hid hgb2
  have HCL := Lib.hid (And.intro hrm2 (And.intro l2 a2))
  clear hg hg2 hgb hgb2 hrm hrm2 l2 a2 hMX hBa he1 hEa hW2 l0 hlw HSZ2 CG
  go_wp2_with (fail)
  refine CT.out.mono ?_
  rintro e w3 ⟨u, cb, rfl, hcb, hcs, hu, he3⟩
  have hs3 : ab + 1 ≤ w3.heap.size := by have := he3.size; have := HW2S.out; omega
  have hcb2 : ab + 1 ≤ cb := by have := HW2S.out; omega
  have HX := Lib.hid (terms_pre (fun b => M b ∨ (w.heap.size ≤ b ∧ b < ab + 1)) (fun W b => GBlk W (w.heap.size + 1 + 1) b) w3 (fun W W' b h1 h2 h3 => h3.ext h2 (by omega)) cb u (norm l) (HMX.out.ext he3) hcb (fun h => by
    rcases h with h | h
    · have := HM.out cb h; omega
    · omega) hu)
  have hab2 : ab < W2.heap.size := by have := HW2S.out; omega
  have HI0 : Hid (DvI M w w3 ab (w.heap.size + 1) (w.heap.size + 1 + 1) ab w.heap.size j [] w3) :=
    ⟨HG2.out.ext he3, ⟨rm, by rw [he3.cell (by omega)]; exact HCL.out.1, by omega⟩, fun b hb => .inl (HGB.out b (hb.ext he3 (by omega))), by rw [he3.cell hab2]; exact HCL.out.2.2, by rw [he3.cell (by omega)]; exact HCL.out.2.1, HE2.out.trans he3, Nat.le_refl _⟩
  have HLN := Lib.hid hu.len
  clear CT hcb hcs hu he3 HG2 HGB HCL
  go_wp2
  refine wpIn_wide.1 (wpIn_rangeFunc_pre (F := Fence.wide) (n := 3) rfl (by omega) (gf := 130) (lb := #[.pointer (some ⟨cb, 0, none⟩)]) rfl trivial (enters_of Tryz.func130 (by kernel_rfl) rfl) HX.out (Below.refl _ _) (fun _ => rfl) Kq.trans (fun W l o hl => Kq.putObj W l o hl)
    (DvI M w w3 ab (w.heap.size + 1) (w.heap.size + 1 + 1) ab w.heap.size j) (DvI.own (by omega) (by omega) (by omega) (by omega))
    (fun pre W h b hb => ⟨(h.g.gblk hb).2, fun hlt => .inr ⟨by have := (h.g.gblk hb).1; omega, by rcases h.z b hb with h1 | h1 <;> omega⟩⟩)
    (fun pre x a' W => ∃ mb cx, DvA M (fun b => M b ∨ (w.heap.size ≤ b ∧ b < ab + 1)) w3 (w.heap.size + 1) (w.heap.size + 1 + 1) j (norm l) pre x mb cx W ∧ a' = { tmps := #[.slice va l.length vc, .int .i64 ((j : Int) + 1), undef, .pointer (some ⟨w.heap.size, 0, none⟩), .slice none 0 0, .pointer (some ⟨ab, 0, none⟩), .pointer (some ⟨mb, 0, none⟩), .pointer (some ⟨cx, 0, none⟩), undef, .int .i64 ((j : Int) + 1), .bool true, .bool false, .pointer (some ⟨w.heap.size + 1 + 1, 0, none⟩), .slice va l.length vc, .func (.func 130) #[] #[.pointer (some ⟨cb, 0, none⟩)], .agg #[.int .i64 x.1.m.a, .int .i64 x.1.m.b, .int .i64 x.1.m.c, .int .i64 x.1.m.d], .agg #[.bool x.1.b, .slice x.1.a x.1.n x.1.p], undef, undef, undef, undef, undef, undef, undef, undef, undef, undef, undef, undef, undef, undef, undef, undef, undef, undef, undef, undef, undef], defers := [] })
    (fun pre x a' s W W' row h hg hr => ?hax) ?assign ?body HI0.out ?done)
  case hax =>
    obtain ⟨mb, cx, h1, h2⟩ := h
    exact ⟨mb, cx, h1.grown (by omega) hg hr, h2⟩
  case assign =>
    rintro lq pre x W K hIv hlive hK
    gi_wp2
    have hE1 : Ext W (W.alloc (.cells #[.int .i64 x.1.m.a, .int .i64 x.1.m.b, .int .i64 x.1.m.c, .int .i64 x.1.m.d] 105)) := (Ext.refl W).alloc _
    have hE2 := hE1.alloc (.cells #[.bool x.1.b, .slice x.1.a x.1.n x.1.p] 31)
    have hb1 := ((Blk.of_arr W #[.int .i64 x.1.m.a, .int .i64 x.1.m.b, .int .i64 x.1.m.c, .int .i64 x.1.m.d] 105 4 rfl).congr (f' := moF x.1.m) (fun i hi => moF_arr x.1.m i hi)).alloc (.cells #[.bool x.1.b, .slice x.1.a x.1.n x.1.p] 31)
    have hb2 := Blk.of_arr (W.alloc (.cells #[.int .i64 x.1.m.a, .int .i64 x.1.m.b, .int .i64 x.1.m.c, .int .i64 x.1.m.d] 105)) (iA ⟨x.1.b, x.1.a, x.1.n, x.1.p⟩) 31 2 rfl
    simp only [World.size_alloc] at hb2
    have hws := hIv.s
    obtain ⟨⟨y1, y2⟩, y3⟩ := hlive
    have hy : YcPre (fun b => (M b ∨ (w.heap.size ≤ b ∧ b < ab + 1)) ∨ b = W.heap.size) (fun W b => GBlk W (w.heap.size + 1 + 1) b) (norm l) pre x W := ⟨⟨y1.more (fun g hg => by
      rcases hg with (hg | hg) | hg
      · exact .inl (.inl hg)
      · exact .inr (by omega)
      · exact .inl (.inr hg)), y2⟩, y3⟩
    have hgm := hIv.g.more (M' := fun b => M b ∨ b = W.heap.size) (fun g hg => hg.imp id fun h => by omega)
    have hI2 := hIv.ext hE2
    exact hK _ _ (((KeepsOthers.alloc _ _).trans (KeepsOthers.alloc _ _)).from _) (Kq.of_ext hE2 hws) hI2 ⟨W.heap.size, W.heap.size + 1, ⟨hws, by omega, by omega, fun b hb => by have := (hIv.g.gblk (hb.ext hE2 hIv.g.lt.2)).2; omega, by simp only [World.size_alloc]; omega, hb1, hb2, hy.ext hE2 hIv.g.lt.2, hgm.ext hE2, hI2.r⟩, rfl⟩
  case body =>
    rintro lq pre x a' W hIv ⟨mb, cx, hA, rfl⟩
    have hBm := hA.bm
    have hlive := hA.y
    have hl0 := hIv.l
    have hmj := hBm.cell (i := j) hj4
    have hfz := hBm.frozen j
    simp only [moF] at hmj
    have hbl := World.block_lt_of_cell? _ _ hl0
    have hbm := hBm.lt
    have hyc : ycL (pre ++ [x]) = ycL pre ++ [(x.2, x.1.m)] := by simp [ycL]
    have hco : coefAt (norm l) x.1.m ≠ 0 := canon_coef_ne (norm_canon l) (t := (x.2, x.1.m)) hlive.1.2
    have hex := HEE.out x.1.m hco (j + 1)
    have hen := nn_get (all_nn_norm l _ hlive.1.2) (j + 1)
    simp only at hen
    by_cases hpos : ¬ 0 < x.1.m.get (j + 1)
    · have HN : Hid (DvI M w w3 ab (w.heap.size + 1) (w.heap.size + 1 + 1) ab w.heap.size j (pre ++ [x]) W) :=
        ⟨by rw [hyc, dvL_skip _ hpos]; exact hIv.g, hIv.r, hIv.z, hIv.a, hIv.l, hIv.e, hIv.s⟩
      have he0 : x.1.m.get (j + 1) = 0 := by omega
      rw [he0] at hmj
      clear hIv hlive hyc hco hex hen hpos he0
      gi_wp2
      exact ⟨KeepsFrom.refl _ _, kq_refl _ _ _, HN.out⟩
    · have hps : 0 < x.1.m.get (j + 1) := by omega
      have hm1 := hA.m1
      have hc1 := hA.c1
      have hB9 := (hBm.set j (.int .i64 (x.1.m.get (j + 1) - 1))).congr (f' := moF (Mo.add x.1.m (xp (j + 1) (-1)))) (fun i hi => mo_dec x.1.m j hj4 i hi)
      have hC9 := hA.bc.set_other (p := ⟨mb, j, none⟩) (fun e => hA.ne e.symm) (.int .i64 (x.1.m.get (j + 1) - 1))
      have hG9 := hA.g.setM (o := j) (u := .int .i64 (x.1.m.get (j + 1) - 1)) (.inr rfl) hA.gm
      have hcc : ∀ b, b ≠ mb → ∀ o, (W.setCell ⟨mb, j, none⟩ (.int .i64 (x.1.m.get (j + 1) - 1))).cell? ⟨b, o, none⟩ = W.cell? ⟨b, o, none⟩ := fun b hb o => World.cell?_of_block (w := W) (Below.heap_setCell _ _ _ _ hb)
      have ha9 := hIv.a
      rw [← hcc ab (by omega)] at ha9
      have hl9 := hIv.l
      rw [← hcc w.heap.size (by omega)] at hl9
      obtain ⟨rr, hr9, hrB⟩ := hIv.r
      rw [← hcc (w.heap.size + 1 + 1) (by omega)] at hr9
      have hgb9 : ∀ b, GBlk (W.setCell ⟨mb, j, none⟩ (.int .i64 (x.1.m.get (j + 1) - 1))) (w.heap.size + 1 + 1) b → GBlk W (w.heap.size + 1 + 1) b := fun b hb => by
        unfold GBlk at hb ⊢
        rw [hcc _ (by omega), hcc _ (by omega)] at hb
        exact hb
      have hy9 := hlive.1.1.kp (Kp.set _ _ (p := ⟨mb, j, none⟩) (.inl (.inr rfl)) (.int .i64 (x.1.m.get (j + 1) - 1)))
      have hE9 := hIv.e.set (p := ⟨mb, j, none⟩) (by show w.heap.size ≤ mb; omega) (.int .i64 (x.1.m.get (j + 1) - 1))
      have HK9 := Lib.hid ((KeepsOthers.setCell W ⟨mb, j, none⟩ (.int .i64 (x.1.m.get (j + 1) - 1))).from w3.heap.size)
      have HQ9 : Hid (Kq (fun b => M b ∨ (w.heap.size ≤ b ∧ b < ab + 1)) w3.heap.size W (W.setCell ⟨mb, j, none⟩ (.int .i64 (x.1.m.get (j + 1) - 1)))) := ⟨by simp [World.setCell], fun b hb _ => Below.heap_setCell _ _ _ _ (show b ≠ mb by omega)⟩
      have hs9 : W.heap.size = (W.setCell ⟨mb, j, none⟩ (.int .i64 (x.1.m.get (j + 1) - 1))).heap.size := by simp [World.setCell]
      have hws9 := hA.s
      have HZ9 := Lib.hid hIv.z
      have HA9 := Lib.hid (And.intro hlive.1.2 (And.intro hlive.2 hyc))
      generalize hW9 : W.setCell ⟨mb, j, none⟩ (.int .i64 (x.1.m.get (j + 1) - 1)) = W9 at *
      have HW9 := Lib.hid hW9
      have he1 : (1 : Int) ≤ x.1.m.get (j + 1) := by omega
      have HC := Lib.hid (And.intro hB9 (And.intro hC9 (And.intro hG9 (And.intro ha9 (And.intro hl9 (And.intro hr9 (And.intro hgb9 (And.intro hy9 hE9))))))))
      have HEX := Lib.hid hex
      generalize hev : x.1.m.get (j + 1) = ev at *
      have HEV := Lib.hid hev
      clear hpos hIv hA hBm hlive hyc hco hcc hB9 hC9 hG9 ha9 hl9 hr9 hgb9 hy9 hE9 hW9 hev hen
      gi_upto_region 10 with (fail)
      rw [HW9.out]
      obtain ⟨hB9, hC9, hG9, ha9, hl9, hr9, hgb9, hy9, hE9⟩ := HC.out
      obtain ⟨hmem, ⟨kk, hkk, hpre⟩, hyc⟩ := HA9.out
      have hEd := (Ext.refl W9).drew
      have hmA := moF_blk hB9
      have hS : SDd ab (w.heap.size + 1 + 1) mb cx (Mo.add x.1.m (xp (j + 1) (-1))) x.1 W9.drew := SDd.ext ⟨ha9, hmA, hC9.cell (i := 0) (by omega), hC9.cell (i := 1) (by omega)⟩ hEd
      have hGl9 := hG9.lt.2
      have HMq : Hid (Mb (fun b => (M b ∨ b = mb) ∨ GBlk W9.drew (w.heap.size + 1 + 1) b) W9.drew) := fun b hb => by
        have h0 := hEd.size
        have h1 := hE9.size
        rcases hb with (hb | hb) | hb
        · have := HM.out b hb; omega
        · have := hB9.lt; omega
        · have := (hG9.ext hEd).gblk hb; omega
      have HY9 : Hid (IntC (fun b => (M b ∨ b = mb) ∨ GBlk W9.drew (w.heap.size + 1 + 1) b) W9.drew (.bool x.1.b) (.slice x.1.a x.1.n x.1.p) x.2) := (hy9.ext hEd).more (fun g hg => .inl (by
        rcases hg with (hg | hg) | hg
        · exact .inl (.inl (.inl hg))
        · exact .inl (.inr hg)
        · exact .inr (hgb9 g (hg.ext hEd hGl9))))
      have hxn : x.2.natAbs ≤ nrm l := Nat.le_trans (nrm_mem hmem) (norm_nrm l)
      have hxd : dlen x.2.natAbs ≤ 80 := Nat.le_trans (dlen_mono hxn) HLL.out
      have hed : dlen ev.natAbs ≤ 1 := by
        rw [dlen_le_iff]
        show ev.natAbs < 4294967296 ^ 1
        have := HEX.out
        omega
      have hdt : dvL (j + 1) (ycL (pre ++ [x])) = dvL (j + 1) (ycL pre) ++ [(x.2 * ev, Mo.add x.1.m (xp (j + 1) (-1)))] := by
        rw [hyc, dvL_take _ (by rw [HEV.out]; exact hps)]
        unfold dvT
        rw [HEV.out]
      have hlen : (dvL (j + 1) (ycL pre)).length + 1 ≤ 1099511627776 := by
        have h1 := dvL_len (j + 1) (ycL pre)
        have h2 := congrArg List.length hpre
        rw [hyc, List.length_append, List.length_take] at h2
        have h3 := HLN.out
        simp only [List.length_cons, List.length_nil] at h2
        omega
      have hnm : dlen (nrm (dvL (j + 1) (ycL pre)) + (x.2 * ev).natAbs) ≤ 1099511627776 := by
        have h1 : nrm (dvL (j + 1) (ycL (pre ++ [x]))) = nrm (dvL (j + 1) (ycL pre)) + (x.2 * ev).natAbs := by rw [hdt, nrm_append]; rfl
        rw [← h1]
        have h2 := dvL_nrm (K := j + 1) (E := 1000) (L := ycL (pre ++ [x])) (fun t ht => HEE.out t.2 (canon_coef_ne (norm_canon l) (t := t) (List.mem_of_mem_take (hpre ▸ ht))) (j + 1))
        have h3 : nrm (ycL (pre ++ [x])) ≤ nrm (norm l) := by rw [hpre]; exact nrm_take_le _ _
        have h4 : nrm (dvL (j + 1) (ycL (pre ++ [x]))) ≤ 1000 * nrm l := Nat.le_trans h2 (Nat.mul_le_mul_left _ (Nat.le_trans h3 (norm_nrm l)))
        have h5 := dlen_mul 1000 (nrm l)
        have h6 : dlen 1000 ≤ 1 := by decide
        have h7 := HLL.out
        have h8 := dlen_mono h4
        omega
      refine wp_region_uR (SDd ab (w.heap.size + 1 + 1) mb cx (Mo.add x.1.m (xp (j + 1) (-1))) x.1) 6 (by kernel_rfl) (by kernel_rfl) (by rintro ⟨a, w, h⟩; exact h) hS (fun hHeld => ?_)
      have HWD : Hid (Ext W9 W9.drew) := hEd
      have HG9 := Lib.hid hG9
      have HR9 := Lib.hid hr9
      have HGB9 := Lib.hid hgb9
      have HE9 := Lib.hid hE9
      have HL9 := Lib.hid hl9
      have HA92 := Lib.hid ha9
      have HDT := Lib.hid hdt
      have HNM := Lib.hid hnm
      have hev2 : ev ≤ 1000 := HEX.out
      have HRB := Lib.hid hrB
      clear hS hEd hB9 hC9 hG9 hr9 hgb9 hE9 hl9 ha9 hy9 hmem hpre hyc hdt hnm hmA hxn HC HA9 HW9 hrB
      generalize W9.drew = wd at *
      (refine tkB [0, 1] ?_; (iterate 2 (refine tk1 (oi := ?_) (v := ?_) (by kernel_rfl) (by first | exact hSn | exact hHeld) ?_ ?_ ?_ ?_ ?_; rotate_left 2; (simp only [List.getElem?_toArray, List.getElem?_cons_succ, List.getElem?_cons_zero]; rfl); rfl; (intro wS hSw; obtain ⟨S1, ⟨S2, S3, S4, S5⟩, S6, S7⟩ := hSw; go_simp; try with_reducible rfl); (exact fun _ _ _ h => h); (try simp only [Act.put, List.setIfInBounds_toArray, List.set_cons_zero, List.set_cons_succ]))); refine tkE ?_)
      ((refine wpAnyU_takeT 2 (oi := ?_) (v := ?_) (by kernel_rfl) (by kernel_rfl) (by kernel_rfl) (by kernel_rfl) (by kernel_rfl) (by first | exact hSn | exact hHeld) ?_ ?_ ?_ ?_ ?_; rotate_left 2; (simp only [List.getElem?_toArray, List.getElem?_cons_succ, List.getElem?_cons_zero]; rfl); rfl; (intro wS hSw; obtain ⟨S1, ⟨S2, S3, S4, S5⟩, S6, S7⟩ := hSw; go_simp; try with_reducible rfl); (exact fun _ _ _ h => h); (try simp only [Act.put, List.setIfInBounds_toArray, List.set_cons_zero, List.set_cons_succ])); (refine wpAnyU_takeT 3 (oi := ?_) (v := ?_) (by kernel_rfl) (by kernel_rfl) (by kernel_rfl) (by kernel_rfl) (by kernel_rfl) (by first | exact hSn | exact hHeld) ?_ ?_ ?_ ?_ ?_; rotate_left 2; (simp only [List.getElem?_toArray, List.getElem?_cons_succ, List.getElem?_cons_zero]; rfl); rfl; (intro wS hSw; obtain ⟨S1, ⟨S2, S3, S4, S5⟩, S6, S7⟩ := hSw; go_simp; try with_reducible rfl); (exact fun _ _ _ h => h); (try simp only [Act.put, List.setIfInBounds_toArray, List.set_cons_zero, List.set_cons_succ])))
      ((refine wpAnyU_one 4 (o := ?_) (by kernel_rfl) ?_ ?_; rotate_left 1; (simp only [List.getElem?_toArray, List.getElem?_cons_succ, List.getElem?_cons_zero]; rfl); intro K hK); go_simp; (refine (int_of (M := fun b => (M b ∨ b = mb) ∨ GBlk wd (w.heap.size + 1 + 1) b) ev _ HMq.out (by omega) (by omega)).mono ?_); rintro e_ u1 ⟨e0, e1, rfl, hi, d1⟩; go_wp2_with (fail); (try clear hSn); (have hSn := hHeld.ext d1); (refine hK.out _ _ (fun _ => hSn) ?_); clear hK K; (try simp only [Act.put, List.setIfInBounds_toArray, List.set_cons_zero, List.set_cons_succ]))
      obtain ⟨ib, ia, il, ip, rfl, rfl⟩ := hi.form
      ((refine wpAnyU_one 5 (o := ?_) (by kernel_rfl) ?_ ?_; rotate_left 1; (simp only [List.getElem?_toArray, List.getElem?_cons_succ, List.getElem?_cons_zero]; rfl); intro K hK); go_simp; (refine (int_mul (M := fun b => (M b ∨ b = mb) ∨ GBlk wd (w.heap.size + 1 + 1) b) (.bool x.1.b) (.slice x.1.a x.1.n x.1.p) (.bool ib) (.slice ia il ip) x.2 ev _ (HMq.out.ext d1) (HY9.out.ext d1).toV hi.toV (by omega)).mono ?_); rintro e_ u2 ⟨p0, p1, rfl, hp, d2⟩; go_wp2_with (fail); (try clear hSn); (have hSn := hHeld.ext (d1.trans d2)); (refine hK.out _ _ (fun _ => hSn) ?_); clear hK K; (try simp only [Act.put, List.setIfInBounds_toArray, List.set_cons_zero, List.set_cons_succ]))
      have hE2 := HWD.out.trans (d1.trans d2)
      obtain ⟨pb, pa, pl, pp, rfl, rfl⟩ := hp.form
      have hgu := HG9.out.ext hE2
      have hMu : Mb (fun b => M b ∨ b = mb) u2 := fun b hb => (HMq.out.ext (d1.trans d2)) b (.inl hb)
      have hgw : ∀ b, GBlk u2 (w.heap.size + 1 + 1) b → GBlk wd (w.heap.size + 1 + 1) b := fun b hb => hb.ext (d1.trans d2) (Nat.lt_of_lt_of_le hGl9 HWD.out.size)
      have hpI : IntV (fun b => (M b ∨ b = mb) ∨ GBlk u2 (w.heap.size + 1 + 1) b) u2 (.bool pb) (.slice pa pl pp) (x.2 * ev) := hp.toV.more (fun g hg => .inl (hg.imp id (hgw g)))
      have CA := Lib.hid (gacc_add (fun b => M b ∨ b = mb) (w.heap.size + 1) (w.heap.size + 1 + 1) _ (Mo.add x.1.m (xp (j + 1) (-1))) (.bool pb) (.slice pa pl pp) (x.2 * ev) u2 hMu hgu hpI hlen HNM.out)
      have HE2 := Lib.hid hE2
      have HGU := Lib.hid hgu
      clear hi hp d1 d2 hE2 hgu hMu hgw hpI hHeld HNM
      ((refine wpAnyU_one 6 (o := ?_) (by kernel_rfl) ?_ ?_; rotate_left 1; (simp only [List.getElem?_toArray, List.getElem?_cons_succ, List.getElem?_cons_zero]; rfl); intro K hK); go_simp; (refine (CA.out).mono ?_); rintro e_ u3 ⟨rfl, hg6, hbel, hfr⟩; go_wp2_with (fail); (refine hK.out _ _ (fun h => absurd rfl h) ?_); clear hK K; refine wpAnyU_done (by kernel_rfl) ?_ _)
      have hE2 := HE2.out
      have hz2 : W9.heap.size ≤ u2.heap.size := hE2.size
      have hgx : ∀ b, GBlk u2 (w.heap.size + 1 + 1) b → b < ab ∨ w3.heap.size ≤ b := fun b hb => HZ9.out b (HGB9.out b (hb.ext hE2 hGl9))
      have hbs : ∀ b, GBlk u2 (w.heap.size + 1 + 1) b → w.heap.size + 1 ≤ b := fun b hb => (HGU.out.gblk hb).1
      have hru : u2.cell? ⟨w.heap.size + 1 + 1, 0, none⟩ = some (.map (some rr)) := by rw [hE2.cell hGl9]; exact HR9.out
      have hau : u2.cell? ⟨ab, 0, none⟩ = some (.pointer (some ⟨w.heap.size + 1 + 1, 0, none⟩)) := by rw [hE2.cell (World.block_lt_of_cell? _ _ HA92.out)]; exact HA92.out
      have hlu : u2.cell? ⟨w.heap.size, 0, none⟩ = some (.int .i64 ((j : Int) + 1)) := by rw [hE2.cell (World.block_lt_of_cell? _ _ HL9.out)]; exact HL9.out
      have hau3 : u3.cell? ⟨ab, 0, none⟩ = some (.pointer (some ⟨w.heap.size + 1 + 1, 0, none⟩)) := by
        rw [World.cell?_of_block (w := u2) (hfr.2.1 ab (World.block_lt_of_cell? _ _ hau) (fun hb => by rcases hgx ab hb with h | h <;> omega))]; exact hau
      have hlu3 : u3.cell? ⟨w.heap.size, 0, none⟩ = some (.int .i64 ((j : Int) + 1)) := by
        rw [World.cell?_of_block (w := u2) (hfr.2.1 w.heap.size (World.block_lt_of_cell? _ _ hlu) (fun hb => by have := hbs _ hb; omega))]; exact hlu
      have HN : Hid (DvI M w w3 ab (w.heap.size + 1) (w.heap.size + 1 + 1) ab w.heap.size j (pre ++ [x]) u3) :=
        ⟨by rw [HDT.out]; exact hg6.more (fun g hg => .inl (.inl hg)), ⟨rr, by rw [hfr.2.2.2]; exact hru, HRB.out⟩, fun b hb => by
          rcases hfr.2.2.1 b hb with h | h
          · exact hgx b h
          · right; omega, hau3, hlu3, Below.trans (HE9.out.trans hE2) (hbel.mono (by omega)), by have := hfr.1; omega⟩
      have HKF : Hid (KeepsFrom w3.heap.size W u3) := (HK9.out.trans (ext_keeps _ hE2)).trans (fr_keeps HGU.out hru HRB.out (by omega) hfr)
      have HKQ : Hid (Kq (fun b => M b ∨ (w.heap.size ≤ b ∧ b < ab + 1)) w3.heap.size W u3) := by
        refine (HQ9.out.trans (Kq.of_ext hE2 (by omega))).trans ⟨hfr.1, fun b hb hx => hfr.2.1 b (by omega) (fun hgb => hx (.inr ⟨by have := hbs b hgb; omega, by rcases hgx b hgb with h | h <;> omega⟩))⟩
      clear hg6 hbel hfr hE2 hgx hbs hru hau hlu hau3 hlu3 CA HE2 HGU HR9 HGB9 HE9 HL9 HA92 HDT HY9 HMq HWD hSn
      gi_wp2
      exact ⟨HKF.out, HKQ.out, HN.out⟩
  case done =>
    rintro D ys W hD hys hIv hK
    have ca := hIv.a
    have hDl : D < W.heap.size := (Array.getElem?_eq_some_iff.1 hK).1
    have CP := Lib.hid (gacc_poly M (w.heap.size + 1) (w.heap.size + 1 + 1) _ W (HM.out.ext hIv.e) hIv.g)
    rw [hys] at CP
    have HEW := Lib.hid hIv.e
    have HKD := Lib.hid hK
    clear hIv hK
    go_wp2_with (fail)
    refine CP.out.mono ?_
    rintro e w5 ⟨r, rfl, hr, he5⟩
    have hK' : w5.heap[D]? = some (.deferred (some [])) := by rw [he5.heap hDl]; exact HKD.out
    have hgr := grownBy_putObj' w5 D (.deferred none)
    obtain ⟨ra, rc, rfl⟩ := hr.toV.form
    have HF : Hid (∃ u r, Ending.returned (.slice ra (norm (dvL (j + 1) (norm l))).length rc) = .returned u ∧ PolyV M (w5.putObj D (.deferred none)) u r ∧ (¬ (1 ≤ (j : Int) + 1 ∧ (j : Int) + 1 ≤ 4) → r = []) ∧ (∀ K : Nat, (j : Int) + 1 = K → 1 ≤ K → K ≤ 4 → r = norm (dvL K (norm l))) ∧ Ext w (w5.putObj D (.deferred none))) :=
      ⟨_, _, rfl, hr.toV.grownN hgr (fun q e => by cases e; exact ⟨_, hK', rfl⟩), fun h => absurd ⟨by omega, by omega⟩ h, fun K hK _ _ => by rw [show K = j + 1 by omega], (HEW.out.trans he5).grown hgr (fun k hk => by cases hk; have := HEW.out.size; omega)⟩
    clear hr he5 hgr CP ca HEW HKD
    go_wp2
    refine ⟨by simp, .inl ⟨_, _, rfl, run_takeDeferred hK', ?_⟩⟩
    exact ⟨.slice ra (norm (dvL (j + 1) (norm l))).length rc, by simp [results, Tryz.results59, go_sem], HF.out⟩
end Go.Proofs.YtgppogaoilijcaaGreat
