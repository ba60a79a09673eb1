/- sparse.Degree. -/
import Derived.Test.YtgppogaoilijcaaGreatDe
set_option linter.unusedVariables false
set_option linter.unusedSimpArgs false

namespace Go.Proofs.YtgppogaoilijcaaGreat
open Go.RowKit

theorem sp_isLevelD (l : Int) (w : World) : Calls Tryz.prog 112 #[.int .i64 l] w fun e w' => e = .returned (.bool (isLevB l)) ∧ w = w' := by
  by_cases h1 : 1 ≤ l
  · by_cases h2 : l ≤ 4
    · have H : Hid (isLevB l = true) := by show _ = _; unfold isLevB; simp [h1, h2]
      go_enter Tryz.func112, Tryz.ntmps112
      go_wp2
      go_ret
      exact ⟨by rw [H.out]; rfl, rfl⟩
    · have H : Hid (isLevB l = false) := by show _ = _; unfold isLevB; simp [h2]
      go_enter Tryz.func112, Tryz.ntmps112
      go_wp2
      go_ret
      exact ⟨by rw [H.out]; rfl, rfl⟩
  · have H : Hid (isLevB l = false) := by show _ = _; unfold isLevB; simp [h1]
    go_enter Tryz.func112, Tryz.ntmps112
    go_wp2
    go_ret
    exact ⟨by rw [H.out]; rfl, rfl⟩
def MxE (K : Nat) (x : Nat → TE) (k m : Nat) : Prop := (∀ j, j < k → (x j).m.get K ≤ (m : Int)) ∧ (m = 0 ∨ ∃ j, j < k ∧ (x j).m.get K = (m : Int))
theorem MxE.step {K k m : Nat} {x : Nat → TE} (h : MxE K x k m) (hn : 0 ≤ (x k).m.get K) : ∃ m' : Nat, (m' : Int) = max (m : Int) ((x k).m.get K) ∧ MxE K x (k + 1) m' := by
  by_cases hc : (x k).m.get K ≤ (m : Int)
  · refine ⟨m, by omega, fun j hj => ?_, h.2.imp id fun ⟨j, h1, h2⟩ => ⟨j, by omega, h2⟩⟩
    by_cases hjk : j = k
    · subst hjk; exact hc
    · exact h.1 j (by omega)
  · refine ⟨((x k).m.get K).toNat, by omega, fun j hj => ?_, .inr ⟨k, by omega, by omega⟩⟩
    by_cases hjk : j = k
    · subst hjk; omega
    · have := h.1 j (by omega); omega
def RetSd (w : World) (l : List Tm) (L : Int) (e : Ending) (w' : World) : Prop := ∃ z : Int, e = .returned (.int .i64 z) ∧ ((norm l = [] ∧ z = -1) ∨ (norm l ≠ [] ∧ ¬ (1 ≤ L ∧ L ≤ 4) ∧ z = 0) ∨ (norm l ≠ [] ∧ ∃ K n : Nat, L = K ∧ 1 ≤ K ∧ K ≤ 4 ∧ z = n ∧ DgR K (norm l) n)) ∧ Ext w w'
theorem mx_dgr {K n m : Nat} {z : Nat → Int} {x : Nat → TE} {l : List Tm} (hl : norm l = xls n z x) (h : MxE K x n m) : DgR K (norm l) m := by
  refine ⟨fun q hq => ?_, h.2.imp id fun ⟨j, h1, h2⟩ => ⟨(x j).m, ?_, h2⟩⟩
  · obtain ⟨s, hs, e⟩ := mem_coef hq
    rw [hl] at hs
    unfold xls at hs
    obtain ⟨i, hi, rfl⟩ := List.mem_map.1 hs
    rw [← e]
    exact h.1 i (by simpa using hi)
  · exact canon_coef_ne (norm_canon l) (t := (z j, (x j).m)) (by rw [hl]; exact xls_mem h1)
set_option maxRecDepth 100000 in
set_option maxHeartbeats 8000000 in
theorem sp_degree (M : Nat → Prop) (v : Value) (l : List Tm) (L : Int) (w : World) (hM : Mb M w) (hP : PolyV M w v l) (hL : dlen (nrm l) ≤ 1099511627776) : Calls Tryz.prog 57 #[v, .int .i64 L] w (RetSd w l L) := by
  obtain ⟨va, vc, rfl⟩ := hP.form
  have CN := Lib.hid (sp_normal M _ l w hM hP hL)
  have CTL := Lib.hid (fun W => sp_isLevelD L W)
  clear hM hP hL
  go_enter Tryz.func57, Tryz.ntmps57
  go_wp2_with (fail)
  refine CN.out.mono ?_
  rintro e w1 ⟨u, rfl, hu, he1⟩
  obtain ⟨n, z, x, hx, hxl, _⟩ := hu.x
  have hnL := hx.1
  obtain ⟨ua, uc, rfl⟩ := hx.form
  have HE1 := Lib.hid he1
  have HXL := Lib.hid hxl
  have HX := Lib.hid hx
  clear hu he1 CN hxl hx
  by_cases hn : n = 0
  · subst hn
    have HF : Hid (RetSd w l L (.returned (.int .i64 (-1))) w1) := ⟨-1, rfl, .inl ⟨by rw [HXL.out]; rfl, rfl⟩, HE1.out⟩
    go_wp2
    go_ret
    exact HF.out
  have hnz : ((n : Int) == 0) = false := by simp; omega
  have hne : norm l ≠ [] := fun e => by
    have h1 := congrArg List.length HXL.out
    rw [e, xls_len] at h1
    exact hn h1.symm
  by_cases hlev : ¬ (1 ≤ L ∧ L ≤ 4)
  · have hlevB : isLevB L = false := by unfold isLevB; simp only [decide_eq_false_iff_not]; exact hlev
    rw [hlevB] at CTL
    have HF : Hid (RetSd w l L (.returned (.int .i64 0)) w1) := ⟨0, rfl, .inr (.inl ⟨hne, hlev, rfl⟩), HE1.out⟩
    clear hlev hlevB hne
    go_wp2_with (fail)
    refine (CTL.out _).mono ?_
    rintro e w2 ⟨rfl, rfl⟩
    clear CTL
    go_wp2
    go_ret
    exact HF.out
  obtain ⟨j, rfl, hj4⟩ : ∃ j : Nat, L = (j : Int) + 1 ∧ j < 4 := ⟨(L - 1).toNat, by omega, by omega⟩
  have hlevB : isLevB ((j : Int) + 1) = true := by unfold isLevB; simp only [decide_eq_true_eq]; omega
  rw [hlevB] at CTL
  have HNE := Lib.hid hne
  have lj0 : (0 : Int) ≤ (j : Int) := Int.natCast_nonneg _
  have lj1 : (j : Int) < 4 := by omega
  have HC : Hid (∀ k, k < n → ∃ b off, ua = some ⟨b, off, none⟩ ∧ n ≤ uc ∧ uc ≤ maxLen ∧ b < w1.heap.size ∧ w1.cell? ⟨b, off + k * 6, none⟩ = some (.bool (x k).b) ∧ w1.cell? ⟨b, off + k * 6 + 1, none⟩ = some (.slice (x k).a (x k).n (x k).p) ∧
    w1.cell? ⟨b, off + k * 6 + 2, none⟩ = some (.int .i64 (x k).m.a) ∧ w1.cell? ⟨b, off + k * 6 + 3, none⟩ = some (.int .i64 (x k).m.b) ∧ w1.cell? ⟨b, off + k * 6 + 4, none⟩ = some (.int .i64 (x k).m.c) ∧ w1.cell? ⟨b, off + k * 6 + 5, none⟩ = some (.int .i64 (x k).m.d)) := fun k hk => by
    rcases HX.out.2.1 with ⟨_, h0⟩ | ⟨b, off, cap, hv, h1, h2, h3, h4⟩
    · omega
    · simp only [Value.slice.injEq, true_and] at hv
      obtain ⟨rfl, rfl⟩ := hv
      exact ⟨b, off, rfl, h1, h2, h3.1, h4 k hk⟩
  have HNN : Hid (∀ k, k < n → 0 ≤ (x k).m.get (j + 1)) := fun k hk => nn_get (all_nn_norm l (z k, (x k).m) (by rw [HXL.out]; exact xls_mem hk)) _
  clear hlev hlevB hne HX
  go_wp2_with (fail)
  refine (CTL.out _).mono ?_
  rintro e w2 ⟨rfl, rfl⟩
  clear CTL
  go_wp2
  go_loopw [20, 6] (fun iv v wr => ∃ k m : Nat, k ≤ n ∧ iv = .int .i64 k ∧ v = .int .i64 m ∧ Hid (MxE (j + 1) x k m) ∧ Hid (Ext w1 wr)) (fun iv _ _ => n - (intOf iv).toNat)
  case atStart => exact ⟨0, 0, Nat.zero_le _, rfl, rfl, ⟨fun j hj => absurd hj (Nat.not_lt_zero _), .inl rfl⟩, Ext.refl _⟩
  case round =>
    obtain ⟨k, m, hk, rfl, rfl, HMX, HE⟩ := hrel
    by_cases hlt : k < n
    · obtain ⟨b, off, rfl, hnk, hkm, hb, c0, c1, c2, c3, c4, c5⟩ := HC.out k hlt
      rw [← HE.out.cell hb] at c0 c1 c2 c3 c4 c5
      have hbw : b < wr.heap.size := by have := HE.out.size; omega
      have hltI : (k : Int) < (n : Int) := by omega
      have HLT := Lib.hid hlt
      obtain ⟨m', hm', hst⟩ := HMX.out.step (HNN.out k hlt)
      have HST := Lib.hid hst
      have hB1 := Blk.of_arr wr #[.bool (x k).b, .slice (x k).a (x k).n (x k).p, .int .i64 (x k).m.a, .int .i64 (x k).m.b, .int .i64 (x k).m.c, .int .i64 (x k).m.d] 115 6 rfl
      have s0 := hB1.cell (i := 2 + j) (by omega)
      rw [te_get _ _ hj4] at s0
      have HEX : Hid (Ext w1 (wr.alloc (.cells #[.bool (x k).b, .slice (x k).a (x k).n (x k).p, .int .i64 (x k).m.a, .int .i64 (x k).m.b, .int .i64 (x k).m.c, .int .i64 (x k).m.d] 115))) := HE.out.trans ((Ext.refl wr).alloc _)
      have hlt1 : wr.heap.size < (wr.alloc (.cells #[.bool (x k).b, .slice (x k).a (x k).n (x k).p, .int .i64 (x k).m.a, .int .i64 (x k).m.b, .int .i64 (x k).m.c, .int .i64 (x k).m.d] 115)).heap.size := by simp
      generalize hW1 : wr.alloc (.cells #[.bool (x k).b, .slice (x k).a (x k).n (x k).p, .int .i64 (x k).m.a, .int .i64 (x k).m.b, .int .i64 (x k).m.c, .int .i64 (x k).m.d] 115) = W1 at s0 HEX hlt1
      have HW1 := Lib.hid hW1
      generalize (x k).m.get (j + 1) = ek at hm' s0
      have hm2 : max (m : Int) ek = (m' : Int) := hm'.symm
      clear hB1 hW1 HMX HE hst hm'
      go_upto_region 10 with (fail)
      rw [HW1.out]
      clear c0 c1 c2 c3 c4 c5
      go_wp2
      go_roundw
      case rel => exact ⟨k + 1, m', HLT.out, by go_num, by simp [hm2], HST, HEX⟩
      case measure => have := HLT.out; simp [intOf]; omega
    · obtain rfl : n = k := by omega
      have hge : ¬ (n : Int) < (n : Int) := by omega
      have HF : Hid (RetSd w l ((j : Int) + 1) (.returned (.int .i64 (m : Int))) wr) := ⟨m, rfl, .inr (.inr ⟨HNE.out, j + 1, m, by omega, by omega, by omega, rfl, mx_dgr HXL.out HMX.out⟩), HE1.out.trans HE.out⟩
      clear HMX HE
      go_wp2
      go_ret
      exact HF.out
end Go.Proofs.YtgppogaoilijcaaGreat
