/- Copies of: terms_stops, sp_terms, hiU_le, lvM_snoc, lvM_le, sp_level, ret_bool, sp_isZero. -/
import Derived.Test.YtgppogaoilijcaaGreatMt
set_option linter.unusedVariables false
set_option linter.unusedSimpArgs false

namespace Go.Proofs.YtgppogaoilijcaaGreat
open Go.RowKit

set_option maxRecDepth 100000 in
set_option maxHeartbeats 4000000 in
theorem terms_stopsD (X : Nat → Prop) (w : World) (cb : Nat) (u : Value) (L : List Tm) (Pm : Mo → Prop) (hM : Mb X w) (hc : w.cell? ⟨cb, 0, none⟩ = some u) (hX : ¬ X cb) (hP : PolyV X w u L) (hpm : ∀ t ∈ L, Pm t.2) :
    SeqStopsK Fence.wide 2 Tryz.prog 130 #[.pointer (some ⟨cb, 0, none⟩)] (ytA (Pm := Pm)) (Kq X w.heap.size) (fun xs => ytM xs = L.map (fun t => t.2)) (fun _ => True) L.length w := by
  intro l J Jx W hW hJ hJx hY h0
  have hcb := World.block_lt_of_cell? _ _ hc
  have heW : Ext w W := hW
  obtain ⟨ua, uc, rfl⟩ := hP.form
  have HY := Lib.hid hY
  have HJ := Lib.hid hJ
  have HP := Lib.hid hP
  have HPM := Lib.hid hpm
  have hcW : W.cell? ⟨cb, 0, none⟩ = some (.slice ua L.length uc) := by rw [heW.cell hcb]; exact hc
  have hll := hP.len
  have hkW : Kp X w W := Kp.of_ext heW
  clear hY hJ hJx hW hP hpm hc
  refine callsIn_wide.2 ?_
  show Calls Tryz.prog 130 #[.func (.yield l) #[] #[], .pointer (some ⟨cb, 0, none⟩)] W _
  go_enter Tryz.func130, Tryz.ntmps130
  go_wp2
  go_loopw [7] (fun i wr => ∃ (k : Nat) (pre : List (Yt Pm)), k ≤ L.length ∧ i = .int .i64 k ∧ J pre wr ∧ Hid (pre.map (fun x => x.1.m) = (L.take k).map (fun t => t.2)) ∧ Kp X w wr) (fun i _ => L.length - (intOf i).toNat)
  case atStart => exact ⟨0, [], Nat.zero_le _, rfl, h0, (rfl : [] = []), hkW⟩
  case round =>
    clear h0 hkW hcW heW
    obtain ⟨k, pre, hk, rfl, hJp, HPR, hkr⟩ := hrel
    by_cases hlt : k < L.length
    · have hPr := HP.out.kp hkr
      obtain ⟨b, off, c, m, b1, a1, n1, p1, hua, hcap, hmx, hb, x0, x1, x2, x3, x4, x5, hI, hT, hmem⟩ := hPr.at (k := k) hlt
      subst hua
      have hpm := HPM.out _ hmem
      have HT := Lib.hid hT
      have hEa : Ext wr (wr.alloc (.cells #[.bool b1, .slice a1 n1 p1, .int .i64 m.a, .int .i64 m.b, .int .i64 m.c, .int .i64 m.d] 115)) := (Ext.refl wr).alloc _
      have hBt := Blk.of_arr wr #[.bool b1, .slice a1 n1 p1, .int .i64 m.a, .int .i64 m.b, .int .i64 m.c, .int .i64 m.d] 115 6 rfl
      have HI := Lib.hid hI
      clear hPr hT hmem hI
      go_upto_region 3 with (fail)
      generalize wr.alloc (.cells #[.bool b1, .slice a1 n1 p1, .int .i64 m.a, .int .i64 m.b, .int .i64 m.c, .int .i64 m.d] 115) = Wa at hEa hBt ⊢
      clear x0 x1 x2 x3 x4 x5
      have HS : Hid (STm wr.heap.size (.bool b1) (.slice a1 n1 p1) m Wa.drew) := STm.ext (w := Wa) ⟨hBt.cell (i := 0) (by omega), hBt.cell (i := 1) (by omega), hBt.cell (i := 2) (by omega), hBt.cell (i := 3) (by omega), hBt.cell (i := 4) (by omega), hBt.cell (i := 5) (by omega)⟩ (Ext.refl Wa).drew
      have hEd := hEa.trans (Ext.refl Wa).drew
      have hMd := hM.size (Nat.le_trans hkr.1 hEd.size)
      refine wp_region_y (STm wr.heap.size (.bool b1) (.slice a1 n1 p1) m) 6 (by kernel_rfl) HS.out (fun hHeld => ?_)
      ((refine wpAnyY_take 0 (oi := ?_) (v := ?_) (by kernel_rfl) (by kernel_rfl) (by kernel_rfl) (by kernel_rfl) (by kernel_rfl) (by kernel_rfl) (by first | exact hSn | exact hHeld) ?_ ?_ ?_ ?_ ?_; rotate_left 2; (simp only [List.getElem?_toArray, List.getElem?_cons_succ, List.getElem?_cons_zero]; rfl); rfl; (intro wS hSw; obtain ⟨S1, S2, S3, S4, S5, S6⟩ := hSw; go_simp; try with_reducible rfl); (exact fun _ _ _ h => h); (try simp only [Act.put, List.setIfInBounds_toArray, List.set_cons_zero, List.set_cons_succ])); (refine wpAnyY_take 1 (oi := ?_) (v := ?_) (by kernel_rfl) (by kernel_rfl) (by kernel_rfl) (by kernel_rfl) (by kernel_rfl) (by kernel_rfl) (by first | exact hSn | exact hHeld) ?_ ?_ ?_ ?_ ?_; rotate_left 2; (simp only [List.getElem?_toArray, List.getElem?_cons_succ, List.getElem?_cons_zero]; rfl); rfl; (intro wS hSw; obtain ⟨S1, S2, S3, S4, S5, S6⟩ := hSw; go_simp; try with_reducible rfl); (exact fun _ _ _ h => h); (try simp only [Act.put, List.setIfInBounds_toArray, List.set_cons_zero, List.set_cons_succ])); (refine wpAnyY_take 2 (oi := ?_) (v := ?_) (by kernel_rfl) (by kernel_rfl) (by kernel_rfl) (by kernel_rfl) (by kernel_rfl) (by kernel_rfl) (by first | exact hSn | exact hHeld) ?_ ?_ ?_ ?_ ?_; rotate_left 2; (simp only [List.getElem?_toArray, List.getElem?_cons_succ, List.getElem?_cons_zero]; rfl); rfl; (intro wS hSw; obtain ⟨S1, S2, S3, S4, S5, S6⟩ := hSw; go_simp; try with_reducible rfl); (exact fun _ _ _ h => h); (try simp only [Act.put, List.setIfInBounds_toArray, List.set_cons_zero, List.set_cons_succ])); (refine wpAnyY_take 3 (oi := ?_) (v := ?_) (by kernel_rfl) (by kernel_rfl) (by kernel_rfl) (by kernel_rfl) (by kernel_rfl) (by kernel_rfl) (by first | exact hSn | exact hHeld) ?_ ?_ ?_ ?_ ?_; rotate_left 2; (simp only [List.getElem?_toArray, List.getElem?_cons_succ, List.getElem?_cons_zero]; rfl); rfl; (intro wS hSw; obtain ⟨S1, S2, S3, S4, S5, S6⟩ := hSw; go_simp; try with_reducible rfl); (exact fun _ _ _ h => h); (try simp only [Act.put, List.setIfInBounds_toArray, List.set_cons_zero, List.set_cons_succ])); (refine wpAnyY_take 4 (oi := ?_) (v := ?_) (by kernel_rfl) (by kernel_rfl) (by kernel_rfl) (by kernel_rfl) (by kernel_rfl) (by kernel_rfl) (by first | exact hSn | exact hHeld) ?_ ?_ ?_ ?_ ?_; rotate_left 2; (simp only [List.getElem?_toArray, List.getElem?_cons_succ, List.getElem?_cons_zero]; rfl); rfl; (intro wS hSw; obtain ⟨S1, S2, S3, S4, S5, S6⟩ := hSw; go_simp; try with_reducible rfl); (exact fun _ _ _ h => h); (try simp only [Act.put, List.setIfInBounds_toArray, List.set_cons_zero, List.set_cons_succ])))
      (refine wpAnyY_one 5 (o := ?_) (by kernel_rfl) (by kernel_rfl) ?_ ?_; rotate_left 1; (simp only [List.getElem?_toArray, List.getElem?_cons_succ, List.getElem?_cons_zero]; rfl); intro K hK)
      go_simp
      refine (int_normal _ _ c _ hMd (HI.out.ext hEd)).mono ?_
      rintro e_ wz ⟨e0, e1, rfl, hr, he1⟩
      go_wp2_with (fail)
      refine hK.out _ _ (fun _ => hHeld.ext he1) ?_
      clear hK K
      (try simp only [Act.put, List.setIfInBounds_toArray, List.set_cons_zero, List.set_cons_succ])
      obtain ⟨b2, a2, n2, p2, rfl, rfl⟩ := hr.form
      have hEz := hEd.trans he1
      have hJz : J pre wz := HJ.out pre wr wz none hJp (hEz.grownBy none) (fun r e => by cases e)
      have hln : pre.length < L.length := by
        have h1 := congrArg List.length HPR.out
        simp only [List.length_map, List.length_take] at h1
        omega
      obtain ⟨fn, tmps, assign, body, hy, hR⟩ := HY.out pre ⟨⟨b2, a2, n2, p2, m⟩, hpm⟩ wz hJz hln
      (refine wpAnyY_yield (o := ?_) (by kernel_rfl) ?_ ?_; rotate_left 1; (simp only [List.getElem?_toArray, List.getElem?_cons_succ, List.getElem?_cons_zero]; rfl); intro K hK)
      rw [if_pos (by rfl)]
      refine ⟨fun _ _ => trivial, ?_⟩
      rw [Fence.wide_round, Oper.semAt_none]
      go_simp
      clear hy
      refine hR.mono ?_
      have hkz : Kp X w wz := hkr.trans (Kp.of_ext hEz)
      have HPR2 : Hid ((pre ++ [(⟨⟨b2, a2, n2, p2, m⟩, hpm⟩ : Yt Pm)]).map (fun x => x.1.m) = (L.take (k + 1)).map (fun t => t.2)) := by
        show _ = _
        rw [HT.out, List.map_append, List.map_append, HPR.out]; rfl
      rintro e_ wy (⟨rfl, hJy, hky⟩ | ⟨rfl, hJx⟩)
      · have hkF : Kp X w wy := ⟨Nat.le_trans hkz.1 hky.1, fun q hq hx => (hky.2 q hq hx).trans (hkz.2 q hq hx)⟩
        clear hR hkz hky hJz hEz hr he1 hEd hMd hHeld hEa hBt hJp hkr
        refine hK.out _ _ ?_
        clear hK K
        (try simp only [Act.put, List.setIfInBounds_toArray, List.set_cons_zero, List.set_cons_succ])
        (refine wpAnyY_one 7 (o := ?_) (by kernel_rfl) (by kernel_rfl) ?_ ?_; rotate_left 1; (simp only [List.getElem?_toArray, List.getElem?_cons_succ, List.getElem?_cons_zero]; rfl); intro K hK)
        go_simp
        refine hK.out _ _ (fun h => by cases h) ?_
        clear hK K
        (try simp only [Act.put, List.setIfInBounds_toArray, List.set_cons_zero, List.set_cons_succ])
        refine wpAnyY_done (by kernel_rfl) ?_ _
        go_wp2
        go_roundw
        case rel => exact ⟨k + 1, _, by omega, by go_num, hJy, HPR2, hkF⟩
        case measure => simp [intOf]; omega
      · clear hR hkz hJz hEz hr he1 hEd hMd hHeld hEa hBt hJp hkr
        refine hK.out _ _ ?_
        clear hK K
        (try simp only [Act.put, List.setIfInBounds_toArray, List.set_cons_zero, List.set_cons_succ])
        (refine wpAnyY_one 7 (o := ?_) (by kernel_rfl) (by kernel_rfl) ?_ ?_; rotate_left 1; (simp only [List.getElem?_toArray, List.getElem?_cons_succ, List.getElem?_cons_zero]; rfl); intro K hK)
        go_simp
        refine hK.out _ _ (fun h => by cases h) ?_
        clear hK K
        (try simp only [Act.put, List.setIfInBounds_toArray, List.set_cons_zero, List.set_cons_succ])
        refine wpAnyY_done (by kernel_rfl) ?_ _
        go_wp2
        refine bodyPost_ret (results_none rfl _ _ _) rfl ?_
        exact ⟨⟨_, rfl⟩, .inr ⟨_, trivial, hJx⟩⟩
    · have hk2 : k = L.length := by omega
      subst hk2
      have HF : Hid (pre.map (fun x => x.1.m) = L.map (fun t => t.2)) := by show _ = _; rw [HPR.out, List.take_length]
      go_wp2
      go_end0
      exact ⟨⟨_, rfl⟩, .inl ⟨pre, HF.out, hJp⟩⟩
theorem sp_termsD (M : Nat → Prop) (v : Value) (l : List Tm) (w : World) (hM : Mb M w) (hP : PolyV M w v l) (hL : dlen (nrm l) ≤ 1099511627776) :
    Calls Tryz.prog 82 #[v] w fun e w' => ∃ u cb, e = .returned (.func (.func 130) #[] #[.pointer (some ⟨cb, 0, none⟩)]) ∧ w'.cell? ⟨cb, 0, none⟩ = some u ∧ w.heap.size ≤ cb ∧ PolyV M w' u (norm l) ∧ Ext w w' := by
  obtain ⟨va, vc, rfl⟩ := hP.form
  have HP := Lib.hid hP
  clear hP
  go_enter Tryz.func82, Tryz.ntmps82
  go_wp2_with (fail)
  refine (sp_normal M _ l w hM HP.out hL).mono ?_
  rintro e w1 ⟨u, rfl, hu, he1⟩
  obtain ⟨ua, uc, rfl⟩ := hu.toV.form
  have hB := Blk.of_alloc1 w1 (.slice ua (norm l).length uc) 23
  have HF : Hid (∃ u cb, Ending.returned (.func (.func 130) #[] #[.pointer (some ⟨w1.heap.size, 0, none⟩)]) = .returned (.func (.func 130) #[] #[.pointer (some ⟨cb, 0, none⟩)]) ∧ (w1.alloc (.cells #[.slice ua (norm l).length uc] 23)).cell? ⟨cb, 0, none⟩ = some u ∧ w.heap.size ≤ cb ∧ PolyV M (w1.alloc (.cells #[.slice ua (norm l).length uc] 23)) u (norm l) ∧ Ext w (w1.alloc (.cells #[.slice ua (norm l).length uc] 23))) :=
    ⟨_, _, rfl, hB.cell (i := 0) (by omega), he1.size, hu.toV.ext ((Ext.refl w1).alloc _), he1.alloc _⟩
  clear hu hB he1
  go_wp2
  go_ret
  exact HF.out
attribute [local go_sem] Oper.semAt_some
theorem hiU_leD (m : Mo) (k : Nat) : hiU m k ≤ k := by
  induction k with
  | zero => exact Nat.le_refl _
  | succ k ih => unfold hiU; split <;> omega
theorem lvM_snocD (l : List Mo) (m : Mo) : lvM (l ++ [m]) = max (lvM l) (hiU m 4) := by simp [lvM]
theorem lvM_leD (l : List Mo) : lvM l ≤ 4 := by
  suffices h : ∀ (l : List Mo) (k : Nat), k ≤ 4 → l.foldl (fun h m => max h (hiU m 4)) k ≤ 4 from h l 0 (by omega)
  intro l
  induction l with
  | nil => intro k hk; exact hk
  | cons m l ih => intro k hk; exact ih _ (by have := hiU_leD m 4; show max k (hiU m 4) ≤ 4; omega)
set_option maxRecDepth 100000 in
set_option maxHeartbeats 4000000 in
theorem sp_levelD (M : Nat → Prop) (v : Value) (l : List Tm) (w : World) (hM : Mb M w) (hP : PolyV M w v l) (hL : dlen (nrm l) ≤ 1099511627776) :
    Calls Tryz.prog 18 #[v] w fun e w' => e = .returned (.int .i64 (lvM ((norm l).map (·.2)) : Nat)) ∧ Ext w w' := by
  obtain ⟨va, vc, rfl⟩ := hP.form
  have hE0 : Ext w (w.alloc (.cells #[.int .i64 0] 3)) := (Ext.refl w).alloc _
  have hB0 := Blk.of_alloc1 w (.int .i64 0) 3
  have hM0 : Mb (Mx M w.heap.size (w.heap.size + 1)) (w.alloc (.cells #[.int .i64 0] 3)) := Mx.mb hM (by simp) (by simp)
  have HP := Lib.hid ((hP.more (M' := Mx M w.heap.size (w.heap.size + 1)) (Mx.more (Nat.le_refl _))).ext hE0)
  clear hP
  refine callsIn_wide.1 (callsIn_of_wp_marks (F := Fence.wide) (n := 3) Tryz.func18 rfl trivial ?_)
  refine wpIn_wide.2 ?_
  simp only [Tryz.ntmps18, List.size_toArray, List.length_cons, List.length_nil, Nat.reduceAdd, Nat.reduceSub, Array.replicate_succ, Array.replicate_zero, List.push_toArray, List.append_toArray, List.nil_append, List.cons_append]
  go_wp2_with (fail)
  refine (sp_termsD _ _ l _ hM0 HP.out hL).mono ?_
  rintro e w1 ⟨u, cb, rfl, hcb, hcs, hu, he1⟩
  have hE1 := hE0.trans he1
  have hx : ¬ Mx M w.heap.size (w.heap.size + 1) cb := fun h => by
    rcases h with h | h
    · have := hM cb h; simp at hcs; omega
    · simp at hcs; omega
  have hsz : w.heap.size + 1 ≤ w1.heap.size := by have := he1.size; simp at this; omega
  have HB1 : Hid (LvI w w.heap.size 3 w1.heap.size (fun _ => .int .i64 0) w1) := ⟨hB0.ext he1, hE1, Nat.le_refl _⟩
  have HSQ := Lib.hid (terms_stopsD (Mx M w.heap.size (w.heap.size + 1)) w1 cb u (norm l) (fun _ => True) (hM0.ext he1) hcb hx hu (fun _ _ => trivial))
  clear hB0 hE0 hM0 HP hcb hcs hu he1 hE1 hx
  go_wp2
  refine wpIn_wide.1 (wpIn_rangeFunc_ownH (F := Fence.wide) (n := 3) rfl (by omega) (gf := 130) (lb := #[.pointer (some ⟨cb, 0, none⟩)]) rfl trivial (enters_of Tryz.func130 (by kernel_rfl) rfl) HSQ.out Kq.trans (fun W l o o' hl _ _ _ => Kq.putObj W l o' hl) (Below.refl _ _) (fun _ => rfl)
    (fun (pre : List (Yt (fun _ => True))) W => LvI w w.heap.size 3 w1.heap.size (fun _ => .int .i64 (lvM (ytM pre) : Nat)) W) (fun _ _ _ => False)
    (fun pre W W' row h hg hr => h.grown (Nat.le_trans (Nat.le_succ _) hsz) hsz hg hr) (fun c s W W' row h => h.elim) HB1.out
    (fun x a' W => ∃ Bx, w1.heap.size ≤ Bx ∧ Blk W Bx 105 4 (arr (moA x.1.m)) ∧ a' = { tmps := #[.slice va l.length vc, undef, .int .i64 0, .pointer (some ⟨w.heap.size, 0, none⟩), .pointer (some ⟨Bx, 0, none⟩), undef, undef, .slice va l.length vc, .func (.func 130) #[] #[.pointer (some ⟨cb, 0, none⟩)], .agg #[.int .i64 x.1.m.a, .int .i64 x.1.m.b, .int .i64 x.1.m.c, .int .i64 x.1.m.d], .agg #[.bool x.1.b, .slice x.1.a x.1.n x.1.p], undef, undef, undef, undef, undef, undef, undef, undef, undef, undef, undef, undef, undef, undef, undef, undef, undef], defers := [] })
    (fun x a' s W W' row h hg hr => ?hax) ?assign ?body ?done ?stop)
  case hax =>
    obtain ⟨Bx, h1, h2, h3⟩ := h
    refine ⟨Bx, h1, h2.grown hg (fun e => ?_), h3⟩
    obtain ⟨_, o, ho, hoc⟩ := hr Bx e.symm
    obtain ⟨cur, hcur, _⟩ := h2
    rw [hcur] at ho
    cases ho
    cases hoc
  case assign =>
    intro lq pre x W K hi hK
    gi_wp2
    exact hK _ _ ((KeepsOthers.alloc _ _).from _) (Kq.of_ext ((Ext.refl W).alloc _) hi.2.2) ⟨hi.1.alloc _, hi.2.1.alloc _, Nat.le_trans hi.2.2 (by simp)⟩ ⟨W.heap.size, hi.2.2, Blk.of_arr W (moA x.1.m) 105 4 rfl, rfl⟩
  case body =>
    rintro lq pre x a' W hl ⟨r, hr⟩ hi ⟨Bx, hBx, hBm, rfl⟩ hlen
    obtain ⟨⟨xb, xa, xn, xp, m⟩, hpm⟩ := x
    have y0 := hBm.cell (i := 0) (by omega)
    have y1 := hBm.cell (i := 1) (by omega)
    have y2 := hBm.cell (i := 2) (by omega)
    have y3 := hBm.cell (i := 3) (by omega)
    simp only [arr, moA] at y0 y1 y2 y3
    have HS : Hid (lvM (ytM (pre ++ [(⟨⟨xb, xa, xn, xp, m⟩, hpm⟩ : Yt (fun _ => True))])) = max (lvM (ytM pre)) (hiU m 4)) := by
      show _ = _
      rw [show ytM (pre ++ [(⟨⟨xb, xa, xn, xp, m⟩, hpm⟩ : Yt (fun _ => True))]) = ytM pre ++ [m] by simp [ytM], lvM_snocD]
    have h4 := lvM_leD (ytM pre)
    generalize lvM (ytM pre) = h0 at *
    have HI := Lib.hid hi
    clear hBm hi hr hlen
    gi_wp2
    gi_loopw [12] (fun i wz => ∃ k : Nat, k ≤ 4 ∧ i = .int .i64 k ∧ LvI w w.heap.size 3 w1.heap.size (fun _ => .int .i64 (max h0 (hiU m k) : Nat)) wz ∧ KeepsFrom w1.heap.size W wz ∧ Kq (Mx M w.heap.size (w.heap.size + 1)) w1.heap.size W wz) (fun i _ => 4 - (intOf i).toNat)
    case atStart => exact ⟨0, by omega, rfl, by simpa [hiU] using HI.out, (KeepsOthers.refl _).from _, ⟨Nat.le_refl _, fun _ _ _ => rfl⟩⟩
    case round =>
      obtain ⟨k, hk, rfl, ⟨hB, hE, hS⟩, hKF, hKQ⟩ := hrel
      clear y0 y1 y2 y3
      have i0 : ∀ w, (Instr.index 105 (.agg #[.int .i64 m.a, .int .i64 m.b, .int .i64 m.c, .int .i64 m.d]) (.int .i64 0)).run Tryz.prog w = .ok (.int .i64 m.a) w := fun _ => by kernel_rfl
      have i1 : ∀ w, (Instr.index 105 (.agg #[.int .i64 m.a, .int .i64 m.b, .int .i64 m.c, .int .i64 m.d]) (.int .i64 1)).run Tryz.prog w = .ok (.int .i64 m.b) w := fun _ => by kernel_rfl
      have i2 : ∀ w, (Instr.index 105 (.agg #[.int .i64 m.a, .int .i64 m.b, .int .i64 m.c, .int .i64 m.d]) (.int .i64 2)).run Tryz.prog w = .ok (.int .i64 m.c) w := fun _ => by kernel_rfl
      have i3 : ∀ w, (Instr.index 105 (.agg #[.int .i64 m.a, .int .i64 m.b, .int .i64 m.c, .int .i64 m.d]) (.int .i64 3)).run Tryz.prog w = .ok (.int .i64 m.d) w := fun _ => by kernel_rfl
      by_cases hlt : k < 4
      · have hget : ∃ e, m.get (k + 1) = e ∧ ∀ w, (Instr.index 105 (.agg #[.int .i64 m.a, .int .i64 m.b, .int .i64 m.c, .int .i64 m.d]) (.int .i64 (k : Int))).run Tryz.prog w = .ok (.int .i64 e) w := by
          have : k = 0 ∨ k = 1 ∨ k = 2 ∨ k = 3 := by omega
          rcases this with rfl | rfl | rfl | rfl
          · exact ⟨m.a, rfl, i0⟩
          · exact ⟨m.b, rfl, i1⟩
          · exact ⟨m.c, rfl, i2⟩
          · exact ⟨m.d, rfl, i3⟩
        obtain ⟨e, he, ix⟩ := hget
        clear i0 i1 i2 i3
        have c0 := hB.cell (i := 0) (by omega)
        have f0 := hB.frozen 0
        have hle := hiU_leD m k
        generalize hg : max h0 (hiU m k) = g at *
        have hblt := hB.lt
        by_cases hpos : 0 < e
        · have hu : hiU m (k + 1) = k + 1 := by unfold hiU; rw [he, if_pos hpos]
          by_cases hgt : g < k + 1
          · have hg2 : max h0 (hiU m (k + 1)) = k + 1 := by rw [hu]; omega
            have HG := Lib.hid hg2
            clear he hu hg hg2
            gi_wp2
            refine ⟨⟨k + 1, by omega, by go_num, ?_, hKF.trans ((KeepsOthers.setCell _ _ _).from _), hKQ.set (.inr ⟨Nat.le_refl _, by omega⟩) _⟩, by simp [intOf]; omega⟩
            rw [HG.out]
            exact LvI.set ⟨hB, hE, hS⟩ (Nat.le_refl _) _
          · have hg2 : max h0 (hiU m (k + 1)) = g := by rw [hu]; omega
            have HG := Lib.hid hg2
            clear he hu hg hg2
            gi_wp2
            refine ⟨⟨k + 1, by omega, by go_num, ?_, hKF, hKQ⟩, by simp [intOf]; omega⟩
            rw [HG.out]
            exact ⟨hB, hE, hS⟩
        · have hu : hiU m (k + 1) = hiU m k := by conv => lhs; unfold hiU
                                                  rw [he, if_neg hpos]
          have hg2 : max h0 (hiU m (k + 1)) = g := by rw [hu]; exact hg
          have HG := Lib.hid hg2
          clear he hu hg hg2
          gi_wp2
          refine ⟨⟨k + 1, by omega, by go_num, ?_, hKF, hKQ⟩, by simp [intOf]; omega⟩
          rw [HG.out]
          exact ⟨hB, hE, hS⟩
      · have hk4 : k = 4 := by omega
        subst hk4
        clear i0 i1 i2 i3
        gi_wp2
        refine ⟨hKF, hKQ, ?_⟩
        show LvI _ _ _ _ _ _
        rw [HS.out]
        exact ⟨hB, hE, hS⟩
  case done =>
    rintro D ys W hD hys ⟨hB, hE, hS⟩ hK
    have c0 := hB.cell (i := 0) (by omega)
    have HYS : Hid (lvM (ytM ys) = lvM ((norm l).map (·.2))) := by show _ = _; rw [hys]
    clear hys
    go_wp2
    refine ⟨by simp, .inl ⟨_, _, rfl, run_takeDeferred hK, ?_⟩⟩
    refine ⟨_, results_tmp rfl _ _ _, ?_⟩
    exact ⟨by rw [← HYS.out]; rfl, hE.grown (grownBy_putObj' W D _) (fun k hk => by cases hk; omega)⟩
  case stop => exact fun D c pre W hD hs h => h.elim
theorem ret_boolD {a b : Bool} (h : a = b) : Ending.returned (.bool a) = .returned (.bool b) := by rw [h]
theorem sp_isZeroD (M : Nat → Prop) (v : Value) (l : List Tm) (w : World) (hM : Mb M w) (hP : PolyV M w v l) (hL : dlen (nrm l) ≤ 1099511627776) :
    Calls Tryz.prog 17 #[v] w fun e w' => e = .returned (.bool (decide (norm l = []))) ∧ Ext w w' := by
  obtain ⟨va, vc, rfl⟩ := hP.form
  have HP := Lib.hid hP
  clear hP
  go_enter Tryz.func17, Tryz.ntmps17
  go_wp2_with (fail)
  refine (sp_normal M _ l w hM HP.out hL).mono ?_
  rintro e w1 ⟨u, rfl, hu, he1⟩
  obtain ⟨ua, uc, rfl⟩ := hu.toV.form
  clear hu
  go_wp2
  go_ret
  exact ⟨ret_boolD (by rw [Bool.eq_iff_iff]; simp), he1⟩
end Go.Proofs.YtgppogaoilijcaaGreat
