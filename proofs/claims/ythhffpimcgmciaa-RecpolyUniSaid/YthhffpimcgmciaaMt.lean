/- sparse: IsZero, Const; recpoly.Constant; cylinderref20: Valid, CompareMono. cylinderref20: CompareMono, Canonical. cylinderref20.Canonical at canonical polynomials. recpoly.Constant. The law RecpolyTo returns true at every input, without a panic, and leaves its arguments as they were; no conditions. -/
import Derived.Test.YthhffpimcgmciaaMp
import Derived.Test.YthhffpimcgmciaaMs
import Derived.Test.YthhffpimcgmciaaMn
set_option linter.unusedVariables false
set_option linter.unusedSimpArgs false

namespace Go.Proofs.Ythhffpimcgmciaa
open Go.RowKit

theorem ret_bool {a b : Bool} (h : a = b) : Ending.returned (.bool a) = .returned (.bool b) := by rw [h]
theorem sp_isZero (M : Nat → Prop) (v : Value) (l : List Tm) (w : World) (hM : Mb M w) (hP : PolyV M w v l) (hL : dlen (nrm l) ≤ 1099511627776) :
    Calls Try.prog 25 #[v] w fun e w' => e = .returned (.bool (decide (norm l = []))) ∧ Ext w w' := by
  obtain ⟨va, vc, rfl⟩ := hP.form
  have HP := Lib.hid hP
  clear hP
  go_enter Try.func25, Try.ntmps25
  go_wp2_with (fail)
  refine (sp_normal M _ l w hM HP.out hL).mono ?_
  rintro e w1 ⟨u, rfl, hu, he1⟩
  obtain ⟨ua, uc, rfl⟩ := hu.toV.form
  clear hu
  go_wp2
  go_ret
  exact ⟨ret_bool (by rw [Bool.eq_iff_iff]; simp), he1⟩
def constL (c : Int) : List Tm := if c = 0 then [] else [(c, Mo.zero)]
theorem constL_norm (c : Int) : norm (constL c) = norm [(c, Mo.zero)] := by
  unfold constL
  split
  · rename_i h
    refine (Sim.norm fun m => ?_)
    simp [coefAt, h]
  · rfl
theorem sp_const (M : Nat → Prop) (b : Bool) (a : Option Addr) (n p : Nat) (c : Int) (w : World) (hM : Mb M w) (h : IntV M w (.bool b) (.slice a n p) c) :
    Calls Try.prog 27 #[.agg #[.bool b, .slice a n p]] w fun e w' => ∃ u, e = .returned u ∧ PolyV M w' u (constL c) ∧ Ext w w' := by
  have hE : Ext w (w.alloc (.cells #[.bool b, .slice a n p] 28)) := (Ext.refl w).alloc _
  have hB := Blk.of_arr w #[.bool b, .slice a n p] 28 2 rfl
  have HI := Lib.hid (h.ext hE)
  clear h
  by_cases hz : c = 0
  · have t0 : (c.sign == 0) = true := by simp [hz]
    have HR : Hid (constL c = []) := by show _ = _; unfold constL; rw [if_pos hz]
    clear hz
    go_enter Try.func27, Try.ntmps27
    go_wp2_with (fail)
    refine (int_sign _ _ c _ HI.out).mono ?_
    rintro e w1 ⟨rfl, he1⟩
    go_wp2
    go_ret
    exact ⟨_, rfl, by rw [HR.out]; exact ⟨0, fun _ => 0, fun _ => Mo.zero, fun _ => undef, fun _ => undef, ⟨by omega, .inl ⟨rfl, rfl⟩⟩, rfl, fun i hi => by omega⟩, hE.trans he1⟩
  · have t0 : (c.sign == 0) = false := by simp [hz]
    have HR : Hid (constL c = [(c, Mo.zero)]) := by show _ = _; unfold constL; rw [if_neg hz]
    clear hz
    go_enter Try.func27, Try.ntmps27
    go_wp2_with (fail)
    refine (int_sign _ _ c _ HI.out).mono ?_
    rintro e w1 ⟨rfl, he1⟩
    have c0 := (hB.ext he1).cell (i := 0) (by omega)
    have c1 := (hB.ext he1).cell (i := 1) (by omega)
    simp only [arr] at c0 c1
    have hlt := (hB.ext he1).lt
    have hE1 := hE.trans he1
    have HI1 := Lib.hid (HI.out.ext he1)
    clear hB he1 hE
    go_wp2_with (fail)
    refine (int_normal _ _ c _ (hM.ext hE1) HI1.out).mono ?_
    rintro e w2 ⟨d0, d1, rfl, hc, he2⟩
    obtain ⟨b2, a2, n2, p2, rfl, rfl⟩ := hc.form
    have hEx : Ext w2 (w2.alloc (.cells #[.bool b2, .slice a2 n2 p2, .int .i64 0, .int .i64 0, .int .i64 0, .int .i64 0] 83)) := (Ext.refl w2).alloc _
    have hBx := Blk.of_arr w2 #[.bool b2, .slice a2 n2 p2, .int .i64 0, .int .i64 0, .int .i64 0, .int .i64 0] 83 6 rfl
    have HF : Hid (PolyV M (w2.alloc (.cells #[.bool b2, .slice a2 n2 p2, .int .i64 0, .int .i64 0, .int .i64 0, .int .i64 0] 83)) (.slice (some ⟨w2.heap.size, 0, none⟩) 1 1) (constL c)) := by
      show PolyV _ _ _ _
      rw [HR.out]
      refine ⟨1, fun _ => c, fun _ => Mo.zero, fun _ => .bool b2, fun _ => .slice a2 n2 p2, ⟨by omega, .inr ⟨w2.heap.size, 0, 1, rfl, Nat.le_refl _, by unfold maxLen; omega, ⟨hBx.lt, ((hM.ext hE1).ext he2).new (Nat.le_refl _)⟩, fun i hi => ?_⟩⟩, rfl, fun i hi => (hc.ext hEx).toV⟩
      have : i = 0 := by omega
      subst this
      exact ⟨hBx.cell (i := 0) (by omega), hBx.cell (i := 1) (by omega), hBx.cell (i := 2) (by omega), hBx.cell (i := 3) (by omega), hBx.cell (i := 4) (by omega), hBx.cell (i := 5) (by omega)⟩
    have HE := Lib.hid ((hE1.trans he2).trans hEx)
    clear hBx hEx hc he2 c0 c1 hE1
    go_wp2
    go_ret
    exact ⟨_, rfl, HF.out, HE.out⟩
set_option maxHeartbeats 2000000 in
theorem rf_valid (m : Mo) (w : World) : Calls Try.prog 64 #[moV m] w fun e w' => e = .returned (.bool m.nn) ∧ Ext w w' := by
  obtain ⟨a, b, c, d⟩ := m
  have hE : Hid (Ext w (w.alloc (.cells #[.int .i64 a, .int .i64 b, .int .i64 c, .int .i64 d] 81))) := (Ext.refl w).alloc _
  by_cases h0 : a < 0
  · have H : Hid (Mo.nn ⟨a, b, c, d⟩ = false) := by show _ = _; unfold Mo.nn; simp [show ¬ (0 ≤ a) from by omega]
    go_enter Try.func64, Try.ntmps64
    go_wp2
    refine wp_loop_rounds 1 ?_
    rw [rounds_succ]
    go_wp2
    go_ret
    exact ⟨by rw [H.out]; rfl, hE.out⟩
  by_cases h1 : b < 0
  · have H : Hid (Mo.nn ⟨a, b, c, d⟩ = false) := by show _ = _; unfold Mo.nn; simp [show ¬ (0 ≤ b) from by omega]
    go_enter Try.func64, Try.ntmps64
    go_wp2
    refine wp_loop_rounds 2 ?_
    rw [rounds_succ]
    go_wp2
    rw [rounds_succ]
    go_wp2
    go_ret
    exact ⟨by rw [H.out]; rfl, hE.out⟩
  by_cases h2 : c < 0
  · have H : Hid (Mo.nn ⟨a, b, c, d⟩ = false) := by show _ = _; unfold Mo.nn; simp [show ¬ (0 ≤ c) from by omega]
    go_enter Try.func64, Try.ntmps64
    go_wp2
    refine wp_loop_rounds 3 ?_
    rw [rounds_succ]
    go_wp2
    rw [rounds_succ]
    go_wp2
    rw [rounds_succ]
    go_wp2
    go_ret
    exact ⟨by rw [H.out]; rfl, hE.out⟩
  by_cases h3 : d < 0
  · have H : Hid (Mo.nn ⟨a, b, c, d⟩ = false) := by show _ = _; unfold Mo.nn; simp [show ¬ (0 ≤ d) from by omega]
    go_enter Try.func64, Try.ntmps64
    go_wp2
    refine wp_loop_rounds 4 ?_
    rw [rounds_succ]
    go_wp2
    rw [rounds_succ]
    go_wp2
    rw [rounds_succ]
    go_wp2
    rw [rounds_succ]
    go_wp2
    go_ret
    exact ⟨by rw [H.out]; rfl, hE.out⟩
  have H : Hid (Mo.nn ⟨a, b, c, d⟩ = true) := by show _ = _; unfold Mo.nn; simp [show 0 ≤ a from by omega, show 0 ≤ b from by omega, show 0 ≤ c from by omega, show 0 ≤ d from by omega]
  go_enter Try.func64, Try.ntmps64
  go_wp2
  refine wp_loop_rounds 5 ?_
  rw [rounds_succ]
  go_wp2
  rw [rounds_succ]
  go_wp2
  rw [rounds_succ]
  go_wp2
  rw [rounds_succ]
  go_wp2
  rw [rounds_succ]
  go_wp2
  go_ret
  exact ⟨by rw [H.out]; rfl, hE.out⟩
end Go.Proofs.Ythhffpimcgmciaa

namespace Go.Proofs.Ythhffpimcgmciaa
open Go.RowKit

set_option maxRecDepth 100000 in
set_option maxHeartbeats 4000000 in
theorem rf_cmpMono (x y : Mo) (w : World) : Calls Try.prog 65 #[moV x, moV y] w fun e w' => e = .returned (.int .i64 (cmpMo x y)) ∧ Ext w w' := by
  have hE : Ext w ((w.alloc (.cells #[.int .i64 x.a, .int .i64 x.b, .int .i64 x.c, .int .i64 x.d] 81)).alloc (.cells #[.int .i64 y.a, .int .i64 y.b, .int .i64 y.c, .int .i64 y.d] 81)) := ((Ext.refl w).alloc _).alloc _
  go_enter Try.func65, Try.ntmps65
  go_wp2
  go_loopw [5] (fun i wr => ∃ k : Nat, k ≤ 4 ∧ i = .int .i64 ((k : Int) - 1) ∧ MoEq x y k ∧ Hid (Ext ((w.alloc (.cells #[.int .i64 x.a, .int .i64 x.b, .int .i64 x.c, .int .i64 x.d] 81)).alloc (.cells #[.int .i64 y.a, .int .i64 y.b, .int .i64 y.c, .int .i64 y.d] 81)) wr)) (fun i _ => ((intOf i) + 1).toNat)
  case atStart => exact ⟨4, Nat.le_refl _, rfl, ⟨by omega, by omega, by omega, by omega⟩, Ext.refl _⟩
  case round =>
    obtain ⟨k, hk, rfl, hq, he⟩ := hrel
    obtain ⟨hcc, hff⟩ := bcell he.out
    have HE := Lib.hid (hE.trans he.out)
    clear hE
    match k, hk, hq with
    | 0, _, hq =>
      have H : Hid (cmpMo x y = 0) := (cmpMo_zero x y).2 (Mo.ext' (hq.2.2.2 (by omega)) (hq.2.2.1 (by omega)) (hq.2.1 (by omega)) (hq.1 (by omega)))
      clear hq
      go_wp2
      go_ret
      exact ⟨by rw [H.out]; rfl, HE.out⟩
    | 1, _, hq =>
      have z0 : ((1 : Nat) : Int) - 1 = 0 := by decide
      rw [z0]
      rcases Int.lt_trichotomy x.a y.a with h | h | h
      · have H : Hid (cmpMo x y = -1) := by
          have h : x.a ≠ y.a := by omega
          show _ = _; rw [cmpMo_a x y (hq.1 (by omega)) (hq.2.1 (by omega)) (hq.2.2.1 (by omega)) h]; exact cmpZ_lt (by omega)
        have l1 : ¬ y.a < x.a := by omega
        clear hq z0
        go_wp2
        go_quiet (fail)
        go_wp2
        go_quiet (fail)
        go_wp2
        go_ret
        exact ⟨by rw [H.out]; rfl, by first | exact HE.out.drewN _ | exact (HE.out.drewN _).drewN _⟩
      · have H : Hid (MoEq x y 0) := ⟨fun _ => hq.1 (by omega), fun _ => hq.2.1 (by omega), fun _ => hq.2.2.1 (by omega), fun _ => h⟩
        have l1 : ¬ y.a < x.a := by omega
        have l2 : ¬ x.a < y.a := by omega
        clear hq z0 h
        go_wp2
        go_quiet (fail)
        go_wp2
        go_quiet (fail)
        go_wp2
        go_roundw
        case rel => exact ⟨0, by omega, by go_num, H.out, by show Ext _ _; first | exact he.out.drewN _ | exact (he.out.drewN _).drewN _⟩
        case measure => simp [intOf]
      · have H : Hid (cmpMo x y = 1) := by
          have h : x.a ≠ y.a := by omega
          show _ = _; rw [cmpMo_a x y (hq.1 (by omega)) (hq.2.1 (by omega)) (hq.2.2.1 (by omega)) h]; exact cmpZ_gt (by omega)
        clear hq z0
        go_wp2
        go_quiet (fail)
        go_wp2
        go_ret
        exact ⟨by rw [H.out]; rfl, HE.out.drewN _⟩
    | 2, _, hq =>
      have z0 : ((2 : Nat) : Int) - 1 = 1 := by decide
      rw [z0]
      rcases Int.lt_trichotomy x.b y.b with h | h | h
      · have H : Hid (cmpMo x y = -1) := by
          have h : x.b ≠ y.b := by omega
          show _ = _; rw [cmpMo_b x y (hq.1 (by omega)) (hq.2.1 (by omega)) h]; exact cmpZ_lt (by omega)
        have l1 : ¬ y.b < x.b := by omega
        clear hq z0
        go_wp2
        go_quiet (fail)
        go_wp2
        go_quiet (fail)
        go_wp2
        go_ret
        exact ⟨by rw [H.out]; rfl, by first | exact HE.out.drewN _ | exact (HE.out.drewN _).drewN _⟩
      · have H : Hid (MoEq x y 1) := ⟨fun _ => hq.1 (by omega), fun _ => hq.2.1 (by omega), fun _ => h, by omega⟩
        have l1 : ¬ y.b < x.b := by omega
        have l2 : ¬ x.b < y.b := by omega
        clear hq z0 h
        go_wp2
        go_quiet (fail)
        go_wp2
        go_quiet (fail)
        go_wp2
        go_roundw
        case rel => exact ⟨1, by omega, by go_num, H.out, by show Ext _ _; first | exact he.out.drewN _ | exact (he.out.drewN _).drewN _⟩
        case measure => simp [intOf]
      · have H : Hid (cmpMo x y = 1) := by
          have h : x.b ≠ y.b := by omega
          show _ = _; rw [cmpMo_b x y (hq.1 (by omega)) (hq.2.1 (by omega)) h]; exact cmpZ_gt (by omega)
        clear hq z0
        go_wp2
        go_quiet (fail)
        go_wp2
        go_ret
        exact ⟨by rw [H.out]; rfl, HE.out.drewN _⟩
    | 3, _, hq =>
      have z0 : ((3 : Nat) : Int) - 1 = 2 := by decide
      rw [z0]
      rcases Int.lt_trichotomy x.c y.c with h | h | h
      · have H : Hid (cmpMo x y = -1) := by
          have h : x.c ≠ y.c := by omega
          show _ = _; rw [cmpMo_c x y (hq.1 (by omega)) h]; exact cmpZ_lt (by omega)
        have l1 : ¬ y.c < x.c := by omega
        clear hq z0
        go_wp2
        go_quiet (fail)
        go_wp2
        go_quiet (fail)
        go_wp2
        go_ret
        exact ⟨by rw [H.out]; rfl, by first | exact HE.out.drewN _ | exact (HE.out.drewN _).drewN _⟩
      · have H : Hid (MoEq x y 2) := ⟨fun _ => hq.1 (by omega), fun _ => h, by omega, by omega⟩
        have l1 : ¬ y.c < x.c := by omega
        have l2 : ¬ x.c < y.c := by omega
        clear hq z0 h
        go_wp2
        go_quiet (fail)
        go_wp2
        go_quiet (fail)
        go_wp2
        go_roundw
        case rel => exact ⟨2, by omega, by go_num, H.out, by show Ext _ _; first | exact he.out.drewN _ | exact (he.out.drewN _).drewN _⟩
        case measure => simp [intOf]
      · have H : Hid (cmpMo x y = 1) := by
          have h : x.c ≠ y.c := by omega
          show _ = _; rw [cmpMo_c x y (hq.1 (by omega)) h]; exact cmpZ_gt (by omega)
        clear hq z0
        go_wp2
        go_quiet (fail)
        go_wp2
        go_ret
        exact ⟨by rw [H.out]; rfl, HE.out.drewN _⟩
    | 4, _, hq =>
      have z0 : ((4 : Nat) : Int) - 1 = 3 := by decide
      rw [z0]
      rcases Int.lt_trichotomy x.d y.d with h | h | h
      · have H : Hid (cmpMo x y = -1) := by
          have h : x.d ≠ y.d := by omega
          show _ = _; rw [cmpMo_d x y h]; exact cmpZ_lt (by omega)
        have l1 : ¬ y.d < x.d := by omega
        clear hq z0
        go_wp2
        go_quiet (fail)
        go_wp2
        go_quiet (fail)
        go_wp2
        go_ret
        exact ⟨by rw [H.out]; rfl, by first | exact HE.out.drewN _ | exact (HE.out.drewN _).drewN _⟩
      · have H : Hid (MoEq x y 3) := ⟨fun _ => h, by omega, by omega, by omega⟩
        have l1 : ¬ y.d < x.d := by omega
        have l2 : ¬ x.d < y.d := by omega
        clear hq z0 h
        go_wp2
        go_quiet (fail)
        go_wp2
        go_quiet (fail)
        go_wp2
        go_roundw
        case rel => exact ⟨3, by omega, by go_num, H.out, by show Ext _ _; first | exact he.out.drewN _ | exact (he.out.drewN _).drewN _⟩
        case measure => simp [intOf]
      · have H : Hid (cmpMo x y = 1) := by
          have h : x.d ≠ y.d := by omega
          show _ = _; rw [cmpMo_d x y h]; exact cmpZ_gt (by omega)
        clear hq z0
        go_wp2
        go_quiet (fail)
        go_wp2
        go_ret
        exact ⟨by rw [H.out]; rfl, HE.out.drewN _⟩
end Go.Proofs.Ythhffpimcgmciaa

namespace Go.Proofs.Ythhffpimcgmciaa
open Go.RowKit

/-- what the loads of Canonical's last region read -/
def SCn (b o1 o2 : Nat) (m m' : Mo) (w : World) : Prop := (w.cell? ⟨b, o1, none⟩ = some (.int .i64 m.a) ∧ w.cell? ⟨b, o1 + 1, none⟩ = some (.int .i64 m.b) ∧ w.cell? ⟨b, o1 + 2, none⟩ = some (.int .i64 m.c) ∧ w.cell? ⟨b, o1 + 3, none⟩ = some (.int .i64 m.d)) ∧
  (w.cell? ⟨b, o2, none⟩ = some (.int .i64 m'.a) ∧ w.cell? ⟨b, o2 + 1, none⟩ = some (.int .i64 m'.b) ∧ w.cell? ⟨b, o2 + 2, none⟩ = some (.int .i64 m'.c) ∧ w.cell? ⟨b, o2 + 3, none⟩ = some (.int .i64 m'.d))
theorem SCn.ext {b o1 o2 : Nat} {m m' : Mo} {w w' : World} (h : SCn b o1 o2 m m' w) (he : Ext w w') : SCn b o1 o2 m m' w' := by
  have h1 := World.block_lt_of_cell? _ _ h.1.1
  unfold SCn; rw [he.cell h1, he.cell h1, he.cell h1, he.cell h1, he.cell h1, he.cell h1, he.cell h1, he.cell h1]; exact h
/-- a canonical number other than 0 has a last digit other than 0 -/
theorem IntC.last {M : Nat → Prop} {w : World} {b : Bool} {a : Option Addr} {n p : Nat} {z : Int} (h : IntC M w (.bool b) (.slice a n p) z) (hz : z ≠ 0) : 0 < n ∧ n ≤ 1099511627776 ∧ n ≤ p ∧ p ≤ maxLen ∧ ∃ g off q, a = some ⟨g, off, none⟩ ∧ g < w.heap.size ∧ w.cell? ⟨g, off + (n - 1), none⟩ = some (.int .u32 (q : Nat)) ∧ q ≠ 0 := by
  obtain ⟨n', d, ⟨h1, h2, h3⟩, h4, h5⟩ := h.1
  rcases h3 with ⟨rfl, a', cap, hv, _⟩ | ⟨g, off, cap, hv, hc1, hc2, hb, hcell⟩
  · simp [nv] at h4
    exact absurd (by omega) hz
  · simp only [Value.slice.injEq] at hv
    obtain ⟨rfl, rfl, rfl⟩ := hv
    have hn : 0 < n := by
      rcases Nat.eq_zero_or_pos n with h0 | h0
      · subst h0; simp [nv] at h4; exact absurd (by omega) hz
      · exact h0
    exact ⟨hn, h1, hc1, hc2, g, off, d (n - 1), rfl, hb.1, hcell (n - 1) (by omega), h5.resolve_left (by omega)⟩
set_option maxRecDepth 100000 in
set_option maxHeartbeats 8000000 in
theorem rf_can20 (M : Nat → Prop) (B : Nat) (v : Value) (l : List Tm) (w : World) (h : PolyO M B w v l) (hc : Canon l) : Calls Try.prog 23 #[v] w fun e w' => e = .returned (.bool true) ∧ Ext w w' := by
  obtain ⟨n, z, x, hx, rfl, hI⟩ := h.x
  obtain ⟨va, vc, rfl⟩ := hx.form
  have hn := hx.1
  have HX := Lib.hid hx
  have HI := Lib.hid hI
  have HZ : Hid (∀ i, i < n → z i ≠ 0 ∧ (x i).m.nn = true) := fun i hi => hc.2 (z i, (x i).m) (List.mem_map.2 ⟨i, List.mem_range.2 hi, rfl⟩)
  have HL : Hid (∀ i, i + 1 < n → Mo.lt (x (i + 1)).m (x i).m) := fun i hi => by
    have h1 := hc.1
    unfold xls at h1
    rw [List.pairwise_map] at h1
    have h2 := List.pairwise_iff_getElem.1 h1 i (i + 1) (by simp; omega) (by simp; omega) (by omega)
    simpa using h2
  clear h hx hI hc
  go_enter Try.func23, Try.ntmps23
  go_wp2
  go_loopw [3] (fun i wr => ∃ k : Nat, k ≤ n ∧ i = .int .i64 k ∧ Ext w wr) (fun i _ => n - (intOf i).toNat)
  case atStart => exact ⟨0, Nat.zero_le _, rfl, Ext.refl _⟩
  case round =>
    obtain ⟨k, hk, rfl, her⟩ := hrel
    by_cases hlt : k < n
    · obtain ⟨b, off, hva, hcap, hmx, hb, x0, x1, x2, x3, x4, x5⟩ := (HX.out.ext her).at k hlt
      subst hva
      obtain ⟨hz, hnn⟩ := HZ.out k hlt
      obtain ⟨hp, hpL, hpp, hpm, g, goff, q, hga, hg, hq, hq0⟩ := ((HI.out k hlt).ext her).last hz
      rw [hga] at x1
      have ctr := fun W => rf_valid (x k).m W
      rw [hnn] at ctr
      have CTR := Lib.hid ctr
      clear ctr hz hnn
      have hEa : Ext wr (wr.alloc (.cells #[.bool (x k).b, .slice (some ⟨g, goff, none⟩) (x k).n (x k).p] 28)) := (Ext.refl wr).alloc _
      have hBa := Blk.of_arr wr #[.bool (x k).b, .slice (some ⟨g, goff, none⟩) (x k).n (x k).p] 28 2 rfl
      go_wp2_with (fail)
      refine (CTR.out _).mono ?_
      rintro e w1 ⟨rfl, he1⟩
      have hE1 := hEa.trans he1
      have c1 := (hBa.ext he1).cell (i := 1) (by omega)
      have hlb := (hBa.ext he1).lt
      simp only [arr] at c1
      rw [← hE1.cell hg] at hq
      rw [← hE1.cell hb] at x0 x1 x2 x3 x4 x5
      have hgl : g < w1.heap.size := Nat.lt_of_lt_of_le hg hE1.size
      have hbl : b < w1.heap.size := Nat.lt_of_lt_of_le hb hE1.size
      have hn0 : (((x k).n : Int) == 0) = false := by simp; omega
      have hq1 : (((q : Nat) : Int) == 0) = false := by simp; omega
      have i1 : (0 : Int) ≤ ((x k).n : Int) - 1 := by omega
      have i2 : (((x k).n : Int) - 1).toNat = (x k).n - 1 := by omega
      have i3 : (x k).n - 1 < (x k).n := by omega
      have her1 := her.trans hE1
      clear hBa he1 hEa hE1 her CTR
      go_upto_region 8 with (fail)
      clear hq hq0 hq1 hn0 i1 i2 i3 c1 hlb hgl hg hga hp hpL hpp hpm
      by_cases hk0 : k = 0
      · subst hk0
        clear x0 x1 x2 x3 x4 x5
        go_quiet (fail)
        go_wp2
        go_roundw
        case rel => exact ⟨1, by omega, by go_num, her1.drewN _⟩
        case measure => simp [intOf]; omega
      · obtain ⟨b', off', hva', _, _, _, y0, y1, y2, y3, y4, y5⟩ := (HX.out.ext her1).at (k - 1) (by omega)
        simp only [Option.some.injEq, Addr.mk.injEq, and_true] at hva'
        obtain ⟨rfl, rfl⟩ := hva'
        have HS : Hid (SCn b (off + (k - 1) * 6 + 2) (off + k * 6 + 2) (x (k - 1)).m (x k).m w1.drew) := SCn.ext (w := w1) ⟨⟨y2, y3, y4, y5⟩, x2, x3, x4, x5⟩ (Ext.refl w1).drew
        have HLT : Hid (cmpMo (x (k - 1)).m (x k).m = 1) := by
          have h1 := HL.out (k - 1) (by omega)
          rw [show k - 1 + 1 = k by omega] at h1
          exact cmpMo_gt h1
        have CT2 := Lib.hid (fun W => rf_cmpMono (x (k - 1)).m (x k).m W)
        have w1e : IntKind.i64.wrap ((k : Int) - 1) = (k : Int) - 1 := IntWalk.i64_in _ (by omega)
        have j1 : (0 : Int) ≤ (k : Int) - 1 := by omega
        have j2 : ((k : Int) - 1).toNat = k - 1 := by omega
        have j3 : (k : Int) - 1 < (n : Int) := by omega
        have j4 : decide (0 < (k : Int)) = true := by simp; omega
        have j5 : 0 < k := by omega
        have j6 : (1 : Int) ≤ (k : Int) := by omega
        have her2 := her1.trans (Ext.refl w1).drew
        clear x0 x1 x2 x3 x4 x5 y0 y1 y2 y3 y4 y5 hk0
        refine wp_region_u (SCn b (off + (k - 1) * 6 + 2) (off + k * 6 + 2) (x (k - 1)).m (x k).m) 17 (by kernel_rfl) HS.out (fun hHeld => ?_)
        ((refine wpAnyU_take 0 (oi := ?_) (v := ?_) (by kernel_rfl) (by kernel_rfl) (by kernel_rfl) (by kernel_rfl) (by first | exact hSn | exact hHeld) ?_ ?_ ?_ ?_ ?_; rotate_left 2; (simp only [List.getElem?_toArray, List.getElem?_cons_succ, List.getElem?_cons_zero]; rfl); rfl; (intro wS hSw; obtain ⟨⟨S1, S2, S3, S4⟩, S5, S6, S7, S8⟩ := hSw; go_simp; try with_reducible rfl); (exact fun _ _ _ h => h); (try simp only [Act.put, List.setIfInBounds_toArray, List.set_cons_zero, List.set_cons_succ])); (refine wpAnyU_take 1 (oi := ?_) (v := ?_) (by kernel_rfl) (by kernel_rfl) (by kernel_rfl) (by kernel_rfl) (by first | exact hSn | exact hHeld) ?_ ?_ ?_ ?_ ?_; rotate_left 2; (simp only [List.getElem?_toArray, List.getElem?_cons_succ, List.getElem?_cons_zero]; rfl); rfl; (intro wS hSw; obtain ⟨⟨S1, S2, S3, S4⟩, S5, S6, S7, S8⟩ := hSw; go_simp; try with_reducible rfl); (exact fun _ _ _ h => h); (try simp only [Act.put, List.setIfInBounds_toArray, List.set_cons_zero, List.set_cons_succ])); (refine wpAnyU_take 2 (oi := ?_) (v := ?_) (by kernel_rfl) (by kernel_rfl) (by kernel_rfl) (by kernel_rfl) (by first | exact hSn | exact hHeld) ?_ ?_ ?_ ?_ ?_; rotate_left 2; (simp only [List.getElem?_toArray, List.getElem?_cons_succ, List.getElem?_cons_zero]; rfl); rfl; (intro wS hSw; obtain ⟨⟨S1, S2, S3, S4⟩, S5, S6, S7, S8⟩ := hSw; go_simp; try with_reducible rfl); (exact fun _ _ _ h => h); (try simp only [Act.put, List.setIfInBounds_toArray, List.set_cons_zero, List.set_cons_succ])); (refine wpAnyU_take 3 (oi := ?_) (v := ?_) (by kernel_rfl) (by kernel_rfl) (by kernel_rfl) (by kernel_rfl) (by first | exact hSn | exact hHeld) ?_ ?_ ?_ ?_ ?_; rotate_left 2; (simp only [List.getElem?_toArray, List.getElem?_cons_succ, List.getElem?_cons_zero]; rfl); rfl; (intro wS hSw; obtain ⟨⟨S1, S2, S3, S4⟩, S5, S6, S7, S8⟩ := hSw; go_simp; try with_reducible rfl); (exact fun _ _ _ h => h); (try simp only [Act.put, List.setIfInBounds_toArray, List.set_cons_zero, List.set_cons_succ])); (refine wpAnyU_take 4 (oi := ?_) (v := ?_) (by kernel_rfl) (by kernel_rfl) (by kernel_rfl) (by kernel_rfl) (by first | exact hSn | exact hHeld) ?_ ?_ ?_ ?_ ?_; rotate_left 2; (simp only [List.getElem?_toArray, List.getElem?_cons_succ, List.getElem?_cons_zero]; rfl); rfl; (intro wS hSw; obtain ⟨⟨S1, S2, S3, S4⟩, S5, S6, S7, S8⟩ := hSw; go_simp; try with_reducible rfl); (exact fun _ _ _ h => h); (try simp only [Act.put, List.setIfInBounds_toArray, List.set_cons_zero, List.set_cons_succ])); (refine wpAnyU_take 5 (oi := ?_) (v := ?_) (by kernel_rfl) (by kernel_rfl) (by kernel_rfl) (by kernel_rfl) (by first | exact hSn | exact hHeld) ?_ ?_ ?_ ?_ ?_; rotate_left 2; (simp only [List.getElem?_toArray, List.getElem?_cons_succ, List.getElem?_cons_zero]; rfl); rfl; (intro wS hSw; obtain ⟨⟨S1, S2, S3, S4⟩, S5, S6, S7, S8⟩ := hSw; go_simp; try with_reducible rfl); (exact fun _ _ _ h => h); (try simp only [Act.put, List.setIfInBounds_toArray, List.set_cons_zero, List.set_cons_succ])); (refine wpAnyU_take 6 (oi := ?_) (v := ?_) (by kernel_rfl) (by kernel_rfl) (by kernel_rfl) (by kernel_rfl) (by first | exact hSn | exact hHeld) ?_ ?_ ?_ ?_ ?_; rotate_left 2; (simp only [List.getElem?_toArray, List.getElem?_cons_succ, List.getElem?_cons_zero]; rfl); rfl; (intro wS hSw; obtain ⟨⟨S1, S2, S3, S4⟩, S5, S6, S7, S8⟩ := hSw; go_simp; try with_reducible rfl); (exact fun _ _ _ h => h); (try simp only [Act.put, List.setIfInBounds_toArray, List.set_cons_zero, List.set_cons_succ])); (refine wpAnyU_take 7 (oi := ?_) (v := ?_) (by kernel_rfl) (by kernel_rfl) (by kernel_rfl) (by kernel_rfl) (by first | exact hSn | exact hHeld) ?_ ?_ ?_ ?_ ?_; rotate_left 2; (simp only [List.getElem?_toArray, List.getElem?_cons_succ, List.getElem?_cons_zero]; rfl); rfl; (intro wS hSw; obtain ⟨⟨S1, S2, S3, S4⟩, S5, S6, S7, S8⟩ := hSw; go_simp; try with_reducible rfl); (exact fun _ _ _ h => h); (try simp only [Act.put, List.setIfInBounds_toArray, List.set_cons_zero, List.set_cons_succ])); (refine wpAnyU_take 8 (oi := ?_) (v := ?_) (by kernel_rfl) (by kernel_rfl) (by kernel_rfl) (by kernel_rfl) (by first | exact hSn | exact hHeld) ?_ ?_ ?_ ?_ ?_; rotate_left 2; (simp only [List.getElem?_toArray, List.getElem?_cons_succ, List.getElem?_cons_zero]; rfl); rfl; (intro wS hSw; obtain ⟨⟨S1, S2, S3, S4⟩, S5, S6, S7, S8⟩ := hSw; go_simp; try with_reducible rfl); (exact fun _ _ _ h => h); (try simp only [Act.put, List.setIfInBounds_toArray, List.set_cons_zero, List.set_cons_succ])); (refine wpAnyU_take 9 (oi := ?_) (v := ?_) (by kernel_rfl) (by kernel_rfl) (by kernel_rfl) (by kernel_rfl) (by first | exact hSn | exact hHeld) ?_ ?_ ?_ ?_ ?_; rotate_left 2; (simp only [List.getElem?_toArray, List.getElem?_cons_succ, List.getElem?_cons_zero]; rfl); rfl; (intro wS hSw; obtain ⟨⟨S1, S2, S3, S4⟩, S5, S6, S7, S8⟩ := hSw; go_simp; try with_reducible rfl); (exact fun _ _ _ h => h); (try simp only [Act.put, List.setIfInBounds_toArray, List.set_cons_zero, List.set_cons_succ])); (refine wpAnyU_take 10 (oi := ?_) (v := ?_) (by kernel_rfl) (by kernel_rfl) (by kernel_rfl) (by kernel_rfl) (by first | exact hSn | exact hHeld) ?_ ?_ ?_ ?_ ?_; rotate_left 2; (simp only [List.getElem?_toArray, List.getElem?_cons_succ, List.getElem?_cons_zero]; rfl); rfl; (intro wS hSw; obtain ⟨⟨S1, S2, S3, S4⟩, S5, S6, S7, S8⟩ := hSw; go_simp; try with_reducible rfl); (exact fun _ _ _ h => h); (try simp only [Act.put, List.setIfInBounds_toArray, List.set_cons_zero, List.set_cons_succ])); (refine wpAnyU_take 11 (oi := ?_) (v := ?_) (by kernel_rfl) (by kernel_rfl) (by kernel_rfl) (by kernel_rfl) (by first | exact hSn | exact hHeld) ?_ ?_ ?_ ?_ ?_; rotate_left 2; (simp only [List.getElem?_toArray, List.getElem?_cons_succ, List.getElem?_cons_zero]; rfl); rfl; (intro wS hSw; obtain ⟨⟨S1, S2, S3, S4⟩, S5, S6, S7, S8⟩ := hSw; go_simp; try with_reducible rfl); (exact fun _ _ _ h => h); (try simp only [Act.put, List.setIfInBounds_toArray, List.set_cons_zero, List.set_cons_succ])); (refine wpAnyU_take 12 (oi := ?_) (v := ?_) (by kernel_rfl) (by kernel_rfl) (by kernel_rfl) (by kernel_rfl) (by first | exact hSn | exact hHeld) ?_ ?_ ?_ ?_ ?_; rotate_left 2; (simp only [List.getElem?_toArray, List.getElem?_cons_succ, List.getElem?_cons_zero]; rfl); rfl; (intro wS hSw; obtain ⟨⟨S1, S2, S3, S4⟩, S5, S6, S7, S8⟩ := hSw; go_simp; try with_reducible rfl); (exact fun _ _ _ h => h); (try simp only [Act.put, List.setIfInBounds_toArray, List.set_cons_zero, List.set_cons_succ])); (refine wpAnyU_take 13 (oi := ?_) (v := ?_) (by kernel_rfl) (by kernel_rfl) (by kernel_rfl) (by kernel_rfl) (by first | exact hSn | exact hHeld) ?_ ?_ ?_ ?_ ?_; rotate_left 2; (simp only [List.getElem?_toArray, List.getElem?_cons_succ, List.getElem?_cons_zero]; rfl); rfl; (intro wS hSw; obtain ⟨⟨S1, S2, S3, S4⟩, S5, S6, S7, S8⟩ := hSw; go_simp; try with_reducible rfl); (exact fun _ _ _ h => h); (try simp only [Act.put, List.setIfInBounds_toArray, List.set_cons_zero, List.set_cons_succ])))
        ((refine wpAnyU_one 14 (o := ?_) (by kernel_rfl) ?_ ?_; rotate_left 1; (simp only [List.getElem?_toArray, List.getElem?_cons_succ, List.getElem?_cons_zero]; rfl); intro K hK); go_simp; (refine (CT2.out _).mono ?_); rintro e_ wz ⟨rfl, he2⟩; go_wp2_with (fail); (try clear hSn); (have hSn := hHeld.ext he2); (refine hK.out _ _ (fun _ => hSn) ?_); clear hK K; (try simp only [Act.put, List.setIfInBounds_toArray, List.set_cons_zero, List.set_cons_succ]))
        rw [HLT.out]
        ((refine wpAnyU_take 15 (oi := ?_) (v := ?_) (by kernel_rfl) (by kernel_rfl) (by kernel_rfl) (by kernel_rfl) (by first | exact hSn | exact hHeld) ?_ ?_ ?_ ?_ ?_; rotate_left 2; (simp only [List.getElem?_toArray, List.getElem?_cons_succ, List.getElem?_cons_zero]; rfl); rfl; (intro wS hSw; obtain ⟨⟨S1, S2, S3, S4⟩, S5, S6, S7, S8⟩ := hSw; go_simp; try with_reducible rfl); (exact fun _ _ _ h => h); (try simp only [Act.put, List.setIfInBounds_toArray, List.set_cons_zero, List.set_cons_succ])); (refine wpAnyU_take 16 (oi := ?_) (v := ?_) (by kernel_rfl) (by kernel_rfl) (by kernel_rfl) (by kernel_rfl) (by first | exact hSn | exact hHeld) ?_ ?_ ?_ ?_ ?_; rotate_left 2; (simp only [List.getElem?_toArray, List.getElem?_cons_succ, List.getElem?_cons_zero]; rfl); rfl; (intro wS hSw; obtain ⟨⟨S1, S2, S3, S4⟩, S5, S6, S7, S8⟩ := hSw; go_simp; try with_reducible rfl); (exact fun _ _ _ h => h); (try simp only [Act.put, List.setIfInBounds_toArray, List.set_cons_zero, List.set_cons_succ])))
        refine wpAnyU_done (by kernel_rfl) ?_ _
        have her3 := her2.trans he2
        clear hHeld hSn her2 her1 he2 w1e j1 j2 j3 j4
        go_wp2
        go_roundw
        case rel => exact ⟨k + 1, by omega, by go_num, her3⟩
        case measure => simp [intOf]; omega
    · go_wp2
      go_ret
      exact ⟨rfl, her⟩
end Go.Proofs.Ythhffpimcgmciaa

namespace Go.Proofs.Ythhffpimcgmciaa
open Go.RowKit

/-- what Constant returns -/
def RetC (M : Nat → Prop) (w : World) (l : List Tm) (e : Ending) (w' : World) : Prop :=
  ∃ (z : Int) (ok b : Bool) (a : Option Addr) (n p : Nat), e = .returned (.tuple #[.agg #[.bool b, .slice a n p], .bool ok]) ∧ IntC M w' (.bool b) (.slice a n p) z ∧ (ok = true → Sim l [(z, Mo.zero)]) ∧ (ok = false → z = 0 ∧ ∃ m k, coefAt l m ≠ 0 ∧ 1 ≤ k ∧ k ≤ 4 ∧ 0 < m.get k) ∧ Ext w w'
theorem CRx.notConst {M : Nat → Prop} {w : World} {x : PE} {l : List Tm} (h : CRx M w 4 x l) (h0 : x.lv ≠ 0) : ∃ m k, coefAt l m ≠ 0 ∧ 1 ≤ k ∧ k ≤ 4 ∧ 0 < m.get k := by
  obtain ⟨t, h1, h2, h3, h4⟩ := h
  obtain ⟨e0, _⟩ := h1.form
  simp only [Value.int.injEq, true_and] at e0
  have hlv := can_lev h2
  obtain ⟨m, hm, hp⟩ := can_top h2 h1.ok (by rw [← e0]; exact h0)
  exact ⟨m, t.1.toNat, by rw [← h4]; exact hm, by rw [e0] at h0; omega, by omega, hp⟩
theorem CRx.const {M : Nat → Prop} {w : World} {x : PE} {l : List Tm} (h : CRx M w 4 x l) (h0 : x.lv = 0) : ∃ z, IntV M w (.bool x.b) (.slice x.a x.n x.p) z ∧ Sim l [(z, Mo.zero)] := by
  obtain ⟨t, h1, h2, h3, h4⟩ := h
  obtain ⟨e0, _⟩ := h1.form
  simp only [Value.int.injEq, true_and] at e0
  have ht : t.1 ≤ 0 := by omega
  rw [terms_const ht] at h4
  have h5 : IntR M w (.bool x.b) (.slice x.a x.n x.p) t.2.1 := h1.2.2.1
  exact ⟨t.2.1.val, ⟨t.2.1.neg, nv t.2.1.dg t.2.1.n, h5.1, ⟨_, _, h5.2, rfl⟩, rfl⟩, h4.symm⟩
theorem constant_ret {M : Nat → Prop} {w W : World} {l : List Tm} {g : Nat} {ok b : Bool} {a : Option Addr} {n p : Nat} {v0 v1 v4 v5 v6 v7 v8 v9 v10 v11 v12 : Value} (t0 : W.cell? ⟨g, 0, none⟩ = some (.bool b)) (t1 : W.cell? ⟨g, 1, none⟩ = some (.slice a n p)) (h : RetC M w l (.returned (.tuple #[.agg #[.bool b, .slice a n p], .bool ok])) W) :
    bodyPost Try.prog Try.f22 (RetC M w l) Exit.ret { tmps := #[v0, v1, .pointer (some ⟨g, 0, none⟩), .bool ok, v4, v5, v6, v7, v8, v9, v10, v11, v12], defers := [] } W :=
  bodyPost_ret (v := .tuple #[.agg #[.bool b, .slice a n p], .bool ok]) (by simp [results, Try.results22, go_sem, t0, t1]) rfl h
set_option maxRecDepth 100000 in
set_option maxHeartbeats 4000000 in
theorem rp_Constant (M : Nat → Prop) (x : PE) (l : List Tm) (w : World) (hM : Mb M w) (h : PI M w x l) : Calls Try.prog 22 #[.agg (peA x)] w (RetC M w l) := by
  have hE : Ext w ((w.alloc (.cells (peA x) 31)).alloc (.cells #[.bool false, .slice none 0 0] 28)) := ((Ext.refl w).alloc _).alloc _
  have hBx := (Blk.of_arr w (peA x) 31 4 rfl).alloc (.cells #[.bool false, .slice none 0 0] 28)
  have hBr := Blk.of_arr (w.alloc (.cells (peA x) 31)) #[.bool false, .slice none 0 0] 28 2 rfl
  simp only [World.size_alloc] at hBr
  have hM2 : Mb (Mx M w.heap.size (w.heap.size + 2)) ((w.alloc (.cells (peA x) 31)).alloc (.cells #[.bool false, .slice none 0 0] 28)) := Mx.mb hM (by simp; omega) (by simp)
  have h2 := (h.more (M' := Mx M w.heap.size (w.heap.size + 2)) (Mx.more (Nat.le_refl _))).ext hE
  have HI := Lib.hid h2
  clear h h2
  go_enter Try.func22, Try.ntmps22
  go_wp2_with (fail)
  refine (rp_can _ x l _ hM2 HI.out).mono ?_
  rintro e w1 ⟨y, rfl, hy, he1⟩
  have hE1 := hE.trans he1
  have hB1 := hBx.ext he1
  have hB2 := hBr.ext he1
  have hM3 := hM2.ext he1
  obtain ⟨⟨q0, q1, q2, q3⟩, ⟨f0, f1, f2, f3⟩, ⟨r0, r1, r2, r3⟩, hk, hf⟩ := fin4 (M' := Mx M w.heap.size (w.heap.size + 2)) (w := w) (.int .i64 y.lv) (.bool y.b) (.slice y.a y.n y.p) (.slice y.ka y.kn y.kp) hB1 (Mx.at (by omega)) (Nat.le_refl _) hE1
  have hB3 : Blk (set4 w1 w.heap.size 0 (.int .i64 y.lv) (.bool y.b) (.slice y.a y.n y.p) (.slice y.ka y.kn y.kp)) (w.heap.size + 1) 28 2 (arr #[.bool false, .slice none 0 0]) := hB2.of_heap (heap_set4 w1 w.heap.size 0 _ _ _ _ (w.heap.size + 1) (by omega))
  have HY := Lib.hid (hy.kp hk)
  have hM4 : Mb (Mx M w.heap.size (w.heap.size + 2)) (set4 w1 w.heap.size 0 (.int .i64 y.lv) (.bool y.b) (.slice y.a y.n y.p) (.slice y.ka y.kn y.kp)) := hM3.size hk.1
  have hlt1 := hB1.lt
  clear q0 q1 q2 q3
  obtain ⟨q0, q1, q2, q3⟩ := hB1.p4
  have hlt3 := hB3.lt
  generalize hW : set4 w1 w.heap.size 0 (.int .i64 y.lv) (.bool y.b) (.slice y.a y.n y.p) (.slice y.ka y.kn y.kp) = W at r0 r1 r2 r3 hf hB3 HY hM4 hlt3
  unfold set4 at hW
  have HW := Lib.hid hW
  have HF4 := Lib.hid hf
  have HM := Lib.hid hM4
  have HB := Lib.hid hB3
  clear hBx hBr hM2 he1 hE hB1 hB2 hM3 hy HI hk hf hM4 hB3 hE1 hW
  go_upto_region 2 with (fail)
  rw [HW.out]
  clear q0 q1 q2 q3 f0 f1 f2 f3 hlt1 HW
  by_cases h0 : y.lv = 0
  · obtain ⟨z, hz, hs⟩ := HY.out.const h0
    have HZ := Lib.hid hz
    have HS := Lib.hid hs
    clear hz hs HY
    rw [h0] at r0
    go_wp2_with (fail)
    refine (int_normal _ _ z _ HM.out HZ.out).mono ?_
    rintro e w2 ⟨d0, d1, rfl, hc, he2⟩
    obtain ⟨b2, a2, n2, p2, rfl, rfl⟩ := hc.form
    obtain ⟨⟨s0, s1, g0, g1⟩, ⟨t0, t1⟩, hk2, hf2⟩ := fin2 (M' := Mx M w.heap.size (w.heap.size + 2)) (w := w) (.bool b2) (.slice a2 n2 p2) (HB.out.ext he2) (Mx.at (by omega)) (by omega) (HF4.out.trans he2)
    have HF : Hid (RetC M w l (.returned (.tuple #[.agg #[.bool b2, .slice a2 n2 p2], .bool true])) ((w2.setCell ⟨w.heap.size + 1, 0, none⟩ (.bool b2)).setCell ⟨w.heap.size + 1, 1, none⟩ (.slice a2 n2 p2))) := ⟨z, true, b2, a2, n2, p2, rfl, (hc.kp hk2).more Mx.less, fun _ => HS.out, fun h => absurd h (by decide), hf2⟩
    clear r0 r1 r2 r3 hc he2 hk2 hf2
    simp only [arr] at s0 s1
    go_wp2
    exact constant_ret t0 t1 HF.out
  · obtain ⟨m, k, h1, h2, h3, h4⟩ := HY.out.notConst h0
    have hz := intc_zero (Mx M w.heap.size (w.heap.size + 2)) W
    obtain ⟨⟨s0, s1, g0, g1⟩, ⟨t0, t1⟩, hk2, hf2⟩ := fin2 (M' := Mx M w.heap.size (w.heap.size + 2)) (w := w) (.bool false) (.slice none 0 0) HB.out (Mx.at (by omega)) (by omega) HF4.out
    have HF : Hid (RetC M w l (.returned (.tuple #[.agg #[.bool false, .slice none 0 0], .bool false])) ((W.setCell ⟨w.heap.size + 1, 0, none⟩ (.bool false)).setCell ⟨w.heap.size + 1, 1, none⟩ (.slice none 0 0))) := ⟨0, false, false, none, 0, 0, rfl, (hz.kp hk2).more Mx.less, fun h => absurd h (by decide), fun _ => ⟨rfl, m, k, h1, h2, h3, h4⟩, hf2⟩
    clear hz HY hk2 hf2 h1 h2 h3 h4
    simp only [arr] at s0 s1
    have l1 : (y.lv == 0) = false := by simp [h0]
    go_wp2
    exact constant_ret t0 t1 HF.out
end Go.Proofs.Ythhffpimcgmciaa

namespace Go.Proofs.Ythhffpimcgmciaa
open Go.ChangeShapes Go.WideShapes Go.ChangeAt Go.RowKit Go.Deep

theorem PolyO.ext {M : Nat → Prop} {B : Nat} {w w' : World} {v : Value} {l : List Tm} (h : PolyO M B w v l) (he : Ext w w') : PolyO M B w' v l := by
  obtain ⟨n, z, x, h1, h2, h3⟩ := h
  exact ⟨n, z, x, h1.ext he, fun i hi => (h2 i hi).ext he, h3⟩
theorem toM_le_of {B : Int} (hB : -1 ≤ B) (l : List Mo) (h : ∀ m ∈ l, sumU m 4 ≤ B) : toM l ≤ B := by
  suffices g : ∀ (l : List Mo) (k : Int), k ≤ B → (∀ m ∈ l, sumU m 4 ≤ B) → l.foldl (fun h m => max h (sumU m 4)) k ≤ B from g l (-1) hB h
  intro l
  induction l with
  | nil => intro k hk _; exact hk
  | cons m l ih => intro k hk hm; exact ih _ (by have := hm m (List.mem_cons_self ..); show max k (sumU m 4) ≤ B; omega) (fun m hm' => hm m (List.mem_cons_of_mem _ hm'))
theorem le_toM {l : List Mo} {m : Mo} (h : m ∈ l) : sumU m 4 ≤ toM l := by
  suffices g : ∀ (l : List Mo) (k : Int), k ≤ l.foldl (fun h m => max h (sumU m 4)) k ∧ ∀ m ∈ l, sumU m 4 ≤ l.foldl (fun h m => max h (sumU m 4)) k from (g l (-1)).2 m h
  intro l
  induction l with
  | nil => intro k; exact ⟨Int.le_refl _, fun m hm => by cases hm⟩
  | cons m l ih =>
    intro k
    have h1 := ih (max k (sumU m 4))
    have h2 : max k (sumU m 4) ≤ (m :: l).foldl (fun h m => max h (sumU m 4)) k := h1.1
    refine ⟨by omega, fun q hq => ?_⟩
    rcases List.mem_cons.1 hq with rfl | hq
    · omega
    · exact h1.2 q hq
theorem mem_norm_of {l : List Tm} {m : Mo} (h : coefAt (norm l) m ≠ 0) : m ∈ (norm l).map (·.2) :=
  Classical.byContradiction fun hc => h (coefAt_zero fun s hs e => hc (List.mem_map.2 ⟨s, hs, e⟩))
theorem coef_of_mem_norm {l : List Tm} {m : Mo} (h : m ∈ (norm l).map (·.2)) : coefAt (norm l) m ≠ 0 := by
  obtain ⟨s, hs, rfl⟩ := List.mem_map.1 h
  rw [coefAt_of_mem (norm_canon l) hs]
  exact ((norm_canon l).2 s hs).1
theorem sumU4 (m : Mo) : sumU m 4 = m.get 1 + m.get 2 + m.get 3 + m.get 4 := by simp [sumU]
/-- constants have no positive total degree -/
theorem total_const {l : List Tm} {z : Int} (h : Sim l [(z, Mo.zero)]) : toM ((norm l).map (·.2)) ≤ 0 := by
  refine toM_le_of (by omega) _ fun m hm => ?_
  have h1 := coef_of_mem_norm hm
  have h2 : coefAt [(z, Mo.zero)] m ≠ 0 := fun e => h1 (by rw [norm_coef]; unfold ncoef; split; rw [h m, e]; rfl)
  have h3 : m = Mo.zero := Classical.byContradiction fun hc => h2 (coefAt_zero fun s hs e => by
    rw [List.mem_singleton.1 hs] at e; exact hc e.symm)
  subst h3
  rw [sumU4]; simp [get_zero]
/-- other polynomials have one -/
theorem total_pos {l : List Tm} (hn : ∀ s ∈ l, s.2.nn = true) {m : Mo} {k : Nat} (h : coefAt l m ≠ 0) (h1 : 1 ≤ k) (h4 : k ≤ 4) (hp : 0 < m.get k) : ¬ toM ((norm l).map (·.2)) ≤ 0 := by
  have hs := sim_norm hn
  have hm : coefAt (norm l) m ≠ 0 := by rw [hs m]; exact h
  have h2 := le_toM (mem_norm_of hm)
  have hnn : m.nn = true := by
    refine Classical.byContradiction fun hc => h (coefAt_zero fun s hs e => ?_)
    exact hc (e ▸ hn s hs)
  have h5 := (Mo.nn_iff m).1 hnn
  rw [sumU4] at h2
  have e1 : m.get 1 = m.a := rfl
  have e2 : m.get 2 = m.b := rfl
  have e3 : m.get 3 = m.c := rfl
  have e4 : m.get 4 = m.d := rfl
  rw [e1, e2, e3, e4] at h2
  rcases lev_cases h1 h4 with rfl | rfl | rfl | rfl <;> omega
theorem norm_pmb {l : List Tm} (h : ∀ s ∈ l, ∀ k, s.2.get k ≤ 1073741824) : ∀ t ∈ norm l, PmB t.2 := by
  intro t ht k
  obtain ⟨s, hs, e⟩ := norm_mem ht
  have h5 := (Mo.nn_iff t.2).1 ((norm_canon l).2 t ht).2
  refine ⟨?_, by rw [← e]; exact h s hs k⟩
  unfold Mo.get
  split
  · exact h5.1
  · split
    · exact h5.2.1
    · split
      · exact h5.2.2.1
      · split
        · exact h5.2.2.2
        · exact Int.le_refl _
set_option maxRecDepth 100000 in
set_option maxHeartbeats 16000000 in
theorem law_to (a1 : Option Addr) (n1 p1 : Nat) (w : World) (h1 : n1 ≤ 24 → ∃ L C K, NodesR M0 w (.slice a1 n1 p1) n1 L C K) : Calls Try.prog 5 #[.slice a1 n1 p1] w fun e w' => e = .returned (.bool true) ∧ Ext w w' := by
  have cf1 := fun W => rf_few a1 n1 p1 W
  by_cases hn1 : ¬ n1 ≤ 24
  · rw [decide_eq_false hn1] at cf1
    have CF1 := Lib.hid cf1
    clear cf1 h1
    go_enter Try.func5, Try.ntmps5
    go_wp2_with (fail)
    refine (law_fit _).mono ?_
    rintro e w1 ⟨rfl, he1⟩
    go_wp2_with (fail)
    refine (CF1.out _).mono ?_
    rintro e w2 ⟨rfl, rfl⟩
    go_wp2
    go_ret
    exact ⟨rfl, he1⟩
  have hn1' : n1 ≤ 24 := Decidable.not_not.1 hn1
  rw [decide_eq_true hn1'] at cf1
  have CF1 := Lib.hid cf1
  clear cf1 hn1
  obtain ⟨L1, C1, K1, h1'⟩ := h1 hn1'
  have HN1 := Lib.hid h1'
  clear h1 h1'
  go_enter Try.func5, Try.ntmps5
  go_wp2_with (fail)
  refine (law_fit _).mono ?_
  rintro e w1 ⟨rfl, he1⟩
  go_wp2_with (fail)
  refine (CF1.out _).mono ?_
  rintro e w2 ⟨rfl, rfl⟩
  go_wp2_with (fail)
  refine (rf_build M0 _ n1 L1 C1 K1 w1 (mb0 _) (HN1.out.ext he1)).mono ?_
  rintro e w2 ⟨x, l, rfl, hx, he2⟩
  have he3 : Ext w2 (w2.alloc (.cells #[.int .i64 x.lv, .bool x.b, .slice x.a x.n x.p, .slice x.ka x.kn x.kp] 31)) := (Ext.refl w2).alloc _
  have b5 := (Blk.of_arr w2 (peA x) 31 4 rfl).p4
  have hX3 := hx.ext he3
  have hE3 := (he1.trans he2).trans he3
  have hl3 : w2.heap.size < (w2.alloc (.cells #[.int .i64 x.lv, .bool x.b, .slice x.a x.n x.p, .slice x.ka x.kn x.kp] 31)).heap.size := by simp
  generalize hW0 : w2.alloc (.cells #[.int .i64 x.lv, .bool x.b, .slice x.a x.n x.p, .slice x.ka x.kn x.kp] 31) = W0 at b5 hX3 hE3 hl3
  have HW0 := Lib.hid hW0
  have HX := Lib.hid hX3
  have HP := Lib.hid b5
  have HE := Lib.hid hE3
  have HDL : Hid (dlen (nrm l) ≤ 1099511627776) := Nat.le_trans hX3.nrm (by omega)
  clear hx he1 he2 he3 hX3 hE3 hW0
  go_upto_region 6 with (fail)
  rw [HW0.out]
  obtain ⟨A1, A2, A3, A4⟩ := b5
  go_wp2_with (fail)
  refine (bt_terms x l _ HX.out).mono ?_
  rintro e_ w3 ⟨v, rfl, hv, q3⟩
  obtain ⟨va, vc, rfl⟩ := hv.form
  have HV := Lib.hid hv
  clear A1 A2 A3 A4 hv
  obtain ⟨A1, A2, A3, A4⟩ := HP.out.ext q3
  have hl4 := Nat.lt_of_lt_of_le hl3 q3.size
  obtain ⟨t, hRR, hSm, hTm⟩ := HX.out.ext q3
  have HRR := Lib.hid hRR
  have HTB := Lib.hid (hSm.tb (Nat.le_refl _))
  have HTM := Lib.hid hTm
  clear hRR hSm hTm
  go_wp2_with (fail)
  refine (rp_To M0 7 t x _ (mb0 _) HRR.out HTB.out).mono ?_
  rintro e_ w4 ⟨u, rfl, hu, q4⟩
  rw [HTM.out] at hu
  obtain ⟨ua, uc, rfl⟩ := hu.toV.form
  have HU := Lib.hid hu
  have q34 := q3.trans q4
  clear A1 A2 A3 A4 hu hl4 HRR HTB HTM
  obtain ⟨A1, A2, A3, A4⟩ := HP.out.ext q34
  have hl4 := Nat.lt_of_lt_of_le hl3 q34.size
  go_wp2_with (fail)
  refine (rp_Constant M0 x l _ (mb0 _) (HX.out.ext q34).pi).mono ?_
  rintro e_ w5 ⟨z, ok, zb, za, zn, zp, rfl, hz, hok, hno, q5⟩
  have he6 : Ext w5 (w5.alloc (.cells #[.bool zb, .slice za zn zp] 28)) := (Ext.refl w5).alloc _
  have b6 := Blk.of_arr w5 #[.bool zb, .slice za zn zp] 28 2 rfl
  have hl6 := b6.lt
  have hz6 := hz.ext he6
  have hE6 := (q34.trans q5).trans he6
  have hU6 := (HU.out.ext q5).ext he6
  have hV6 := ((HV.out.ext q4).ext q5).ext he6
  have c60 := b6.cell (i := 0) (by omega)
  have c61 := b6.cell (i := 1) (by omega)
  simp only [arr] at c60 c61
  generalize hW6 : w5.alloc (.cells #[.bool zb, .slice za zn zp] 28) = W6 at hl6 hz6 hE6 hU6 hV6 c60 c61
  have HW6 := Lib.hid hW6
  have HZ6 := Lib.hid hz6
  have HE6 := Lib.hid hE6
  have HU6 := Lib.hid hU6
  have HV6 := Lib.hid hV6
  have HOK := Lib.hid hok
  have HNO := Lib.hid hno
  have HC6 : Hid (W6.cell? ⟨w5.heap.size, 0, none⟩ = some (.bool zb) ∧ W6.cell? ⟨w5.heap.size, 1, none⟩ = some (.slice za zn zp)) := ⟨c60, c61⟩
  clear A1 A2 A3 A4 hl4 q3 q4 q34 q5 he6 hz hz6 hE6 hU6 hV6 hW6 b6 hok hno c60 c61 HU HV
  go_upto_region 9 with (fail)
  rw [HW6.out]
  have hlp := Nat.lt_of_lt_of_le hl3 HE6.out.size
  obtain ⟨A1, A2, A3, A4⟩ := HP.out.ext HE6.out
  go_wp2_with (fail)
  refine (rf_can20 M0 _ _ (norm l) _ HU6.out (norm_canon l)).mono ?_
  rintro e_ w7 ⟨rfl, q7⟩
  have ctr := sp_same M0 _ _ (norm l) l w7 (mb0 _) (HU6.out.ext q7).toV (HV6.out.ext q7) (Nat.le_trans (dlen_mono (norm_nrm l)) HDL.out) HDL.out
  rw [decide_eq_true (norm_norm l)] at ctr
  have CTR := Lib.hid ctr
  clear ctr
  go_wp2_with (fail)
  refine CTR.out.mono ?_
  rintro e_ w8 ⟨rfl, q8⟩
  have q78 := q7.trans q8
  clear A1 A2 A3 A4 CTR q7 q8
  obtain ⟨A1, A2, A3, A4⟩ := HP.out.ext (HE6.out.trans q78)
  have hl8 := Nat.lt_of_lt_of_le hlp q78.size
  go_wp2_with (fail)
  refine (rp_IsZero M0 x l _ (mb0 _) (HX.out.ext (HE6.out.trans q78)).pi).mono ?_
  rintro e_ w9 ⟨bz, rfl, hbz, q9⟩
  have q79 := q78.trans q9
  have hbz' : bz = decide (norm l = []) := by
    have h3 : norm l = [] ↔ Sim l [] := (bt_simB (m := []) HX.out.nnT (fun s hs => by cases hs)).2
    rw [Bool.eq_iff_iff, decide_eq_true_iff, h3]
    exact hbz
  subst hbz'
  clear A1 A2 A3 A4 hbz q78 q9 hl8
  go_wp2_with (fail)
  refine (sp_isZero M0 _ l _ (mb0 _) (HV6.out.ext q79) HDL.out).mono ?_
  rintro e_ w10 ⟨rfl, q10⟩
  have q710 := q79.trans q10
  have hbb : (decide (norm l = []) != decide (norm l = [])) = false := by simp
  clear q79 q10
  go_wp2_with (fail)
  refine (sp_total M0 _ l _ (mb0 _) (HV6.out.ext q710) HDL.out (norm_pmb HX.out.exp)).mono ?_
  rintro e_ w11 ⟨rfl, q11⟩
  have q711 := q710.trans q11
  have hl11 := Nat.lt_of_lt_of_le hl6 q711.size
  obtain ⟨c60, c61⟩ := HC6.out
  rw [← q711.cell hl6] at c60 c61
  clear q710 q11 hbb
  cases ok with
  | true =>
    have ht : decide (toM ((norm l).map (·.2)) ≤ 0) = true := decide_eq_true (total_const (HOK.out rfl))
    have HS := Lib.hid (HOK.out rfl)
    clear HOK HNO
    go_wp2_with (fail)
    refine (sp_const M0 zb za zn zp z _ (mb0 _) (HZ6.out.ext q711).toV).mono ?_
    rintro e_ w12 ⟨r, rfl, hr, q12⟩
    obtain ⟨ra, rc, rfl⟩ := hr.form
    have hdz : dlen (nrm (constL z)) ≤ 1099511627776 := by
      have h1 := (HZ6.out.ext q711).toV.dlen
      unfold constL
      split
      · exact Nat.zero_le _
      · rw [nrm_one]; exact h1
    have ctr := sp_same M0 _ _ (constL z) l w12 (mb0 _) hr (HV6.out.ext (q711.trans q12)) hdz HDL.out
    rw [decide_eq_true (show norm (constL z) = norm l by rw [constL_norm]; exact HS.out.symm.norm)] at ctr
    have CTR := Lib.hid ctr
    clear ctr hr hdz
    go_wp2_with (fail)
    refine CTR.out.mono ?_
    rintro e_ w13 ⟨rfl, q13⟩
    have HEF := Lib.hid (HE.out.trans (HE6.out.trans ((q711.trans q12).trans q13)))
    clear q711 q12 q13 ht
    go_wp2
    go_ret
    exact ⟨rfl, HEF.out⟩
  | false =>
    obtain ⟨hz0, m, k, k1, k2, k3, k4⟩ := HNO.out rfl
    have ht : decide (toM ((norm l).map (·.2)) ≤ 0) = false := decide_eq_false (total_pos HX.out.nnT k1 k2 k3 k4)
    clear HOK HNO k1 k2 k3 k4
    subst hz0
    go_wp2_with (fail)
    refine (int_sign _ _ 0 _ (HZ6.out.ext q711).toV).mono ?_
    rintro e_ w12 ⟨rfl, q12⟩
    have HEF := Lib.hid (HE.out.trans (HE6.out.trans (q711.trans q12)))
    clear q711 q12 ht
    go_wp2
    go_ret
    exact ⟨rfl, HEF.out⟩
namespace recpolyTo
theorem own : ownKnob Try.prog.godebug = none := by kernel_rfl
set_option maxRecDepth 100000 in
theorem contract (H : Type) (enc : TypeId × Value → H) (W : World) (base : Nat) (args : Array Value) (ds gs : List (DataW H)) (before : List MemPlace)
    (hval : ∀ (j : Nat) t v, Try.f5.params[j]? = some t → args[j]? = some v → Value.okWide Try.prog W .any base t v)
    (hW : DataW.Whole enc Try.prog Try.f5.params.toList Rows.recpolyToSpec.vars false W args.toList ds gs before) :
    Calls Try.prog 5 args W fun e W' => ∃ v, e = .returned v ∧ Rows.recpolyToSpec.post enc Try.prog Try.f5 false true false false W args v W' := by
  have hW' := hW
  obtain ⟨p, q, hA0, hV, rfl, hfz, hnd⟩ := hW
  have hA : DataW.TrodAll enc Try.prog W 0 (fun _ => true) true Try.f5.params.toList args.toList ds p := hA0
  rw [Try.params5] at hA hval
  obtain ⟨v0, vs0, d0, ds0, p0, q0, hargs, rfl, rfl, h0, r0⟩ := trodAll_cons hA
  obtain ⟨rfl, rfl, rfl⟩ := trodAll_nil r0
  obtain rfl : args = #[v0] := by cases args; simp_all
  obtain ⟨rfl, rfl⟩ := trodVars_none hV
  obtain ⟨a0, n0, c0, rfl, g0⟩ := open_nodes (hval 0 22 v0 rfl rfl) h0
  refine (law_to a0 n0 c0 W g0).mono fun e W' ⟨he, hg⟩ => ?_
  subst he
  refine ⟨_, rfl, post_true (tb := 4) (by kernel_rfl) ?_ rfl rfl (by kernel_rfl) Try.underlying4 hW' hg⟩
  rw [Try.params5]
  intro t ht
  simp only [List.mem_cons, List.not_mem_nil, or_false, or_self] at ht
  subst ht
  exact ⟨by kernel_rfl, of_decide_eq_true (by kernel_rfl)⟩
set_option maxRecDepth 100000 in
theorem lifted (os : Os) (started : os.Started) (H : Type) (enc : TypeId × Value → H) :
    ReturnsInHanded {} Try.checked os 5 .any (Rows.recpolyToSpec.pre6 enc Try.prog Try.f5 Rows.recpolyToRow.domain false) (Rows.recpolyToSpec.post enc Try.prog Try.f5 false true false false) := by
  refine returnsInHanded_of_change (C := Try.checked) own started (by kernel_rfl) Try.func5
    (ChangeSpec.witness6 (enc := enc) (C := Try.checked) false ⟨#[], #[.slice none 0 0], []⟩ 8 (by kernel_rfl) (by kernel_rfl) (by kernel_rfl) (by kernel_rfl)) ?_
  intro W base args ds gs before hval hW _ _
  exact contract H enc W base args ds gs before hval hW
theorem proved : Rows.RecpolyToSaid :=
  OpenClaim.holds_of_wide (p := Try.pinned) (s := Rows.recpolyToSpec) (c := Rows.recpolyToRow) 5 Try.f5 rfl rfl rfl rfl rfl rfl rfl ⟨rfl, rfl, rfl, rfl, rfl⟩ rfl rfl rfl rfl rfl (by kernel_rfl) Try.func5 (by kernel_rfl)
    (of_decide_eq_true (by kernel_rfl)) (by unfold Func.isWrapper; first | (rw [if_pos (by decide +kernel)]; kernel_rfl) | (rw [if_neg (by decide +kernel)]; exact ⟨rfl, rfl⟩))
    (fun os started H enc _ => lifted os started H enc)
end recpolyTo
end Go.Proofs.Ythhffpimcgmciaa
