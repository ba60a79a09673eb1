/- cylinderref38.room, Few; prenex.kind. -/
import Derived.Test.YtodiphjjdheoaaaGreatHa
set_option linter.unusedVariables false
set_option linter.unusedSimpArgs false

namespace Go.Proofs.YtodiphjjdheoaaaGreat
open Go.RowKit

theorem new_m7 (w : World) (m : ME) : MCell (w.alloc (.cells m.A 32)) w.heap.size 0 m := by
 have hB := Blk.of_arr w m.A 32 7 rfl
 exact ⟨hB.cell (i := 0) (by omega), hB.cell (i := 1) (by omega), hB.cell (i := 2) (by omega), hB.cell (i := 3) (by omega), hB.cell (i := 4) (by omega), hB.cell (i := 5) (by omega), hB.cell (i := 6) (by omega)⟩
theorem MCell.at {W : World} {b o o' : Nat} {m : ME} (h : MCell W b o m) (e : o = o') : MCell W b o' m := e ▸ h
set_option maxRecDepth 100000 in
set_option maxHeartbeats 8000000 in
theorem rf_roomM : ∀ (d : Nat), d ≤ 100 → ∀ (m : MT d) (n : Int) (w : World), PMs w d m → 0 ≤ n → n ≤ 1000000 → Calls Tryz.prog 102 #[.agg (MT.me d m).A, .int .i64 n, .int .i64 d] w fun e w' => e = .returned (.int .i64 (roomM d m n)) ∧ Ext w w' := by
 intro d
 induction d with
 | zero =>
  intro hd m n w hP hn hn2
  generalize MT.me 0 m = y
  unfold roomM
  have HE : Hid (Ext w (w.alloc (.cells y.A 32))) := (Ext.refl w).alloc _
  go_enter Tryz.func102, Tryz.ntmps102
  go_wp2
  exact bodyPost_ret (v := .int .i64 (-1)) (by simp [results, Tryz.results102, go_sem]) rfl ⟨rfl, HE.out⟩
 | succ d ih =>
  intro hd m n w hP hn hn2
  obtain ⟨y, k⟩ := m
  have hE := (Ext.refl w).alloc (.cells y.A 32)
  have hB := new_m7 w y
  have hP2 := PMs.ext hE hP
  obtain ⟨_, _, hps, hk1, hk2, hkid⟩ := hP2
  simp only at hps hk1 hk2 hkid
  have CF : Hid (Calls Tryz.prog 135 #[.agg (peA y.x), .int .i64 40, .int .i64 4] (w.alloc (.cells y.A 32)) fun e w' => e = .returned (.bool (decide (0 ≤ roomB 4 6 y.s 40))) ∧ Ext (w.alloc (.cells y.A 32)) w') := rf_fewPoly 4 (by omega) y.s 40 _ hps (by omega) (by omega)
  show Calls _ _ #[.agg (mcA y.kd y.rl y.x y.a y.n y.p), _, _] _ _
  have hd0 : (((d + 1 : Nat) : Int) == 0) = false := by rw [beq_eq_false_iff_ne]; omega
  have hwr : ((d + 1 : Nat) : Int) - 1 = (d : Int) := by omega
  obtain ⟨x0, x1, x2, x3, x4, x5, x6⟩ := hB
  have HB := Lib.hid (new_m7 w y)
  generalize hW : w.alloc (.cells y.A 32) = W at *
  have HW := Lib.hid hW
  have HE := Lib.hid hE
  have HK := Lib.hid hkid
  unfold maxLen at hk2
  have HRS := Lib.hid (roomM_s d (y, k) n)
  change Hid (roomM (d + 1) (y, k) n = if roomB 4 6 y.s 40 < 0 then -1 else roomK (fun i q => roomM d (k i) q) y.n (n - 1)) at HRS
  clear hW hE hkid hP hps
  go_enter Tryz.func102, Tryz.ntmps102
  go_upto_region 1 with (fail)
  rw [HW.out]
  go_wp2_with (fail)
  refine CF.out.mono ?_
  rintro e w1 ⟨rfl, he1⟩
  have HE1 := Lib.hid he1
  by_cases hr : roomB 4 6 y.s 40 < 0
  ·have hD : decide (0 ≤ roomB 4 6 y.s 40) = false := decide_eq_false (by omega)
   rw [hD]
   have HR : Hid (roomM (d + 1) (y, k) n = -1) := HRS.out.trans (if_pos hr)
   have HF := Lib.hid (HE.out.trans he1)
   clear CF HK HB HE he1 hr x0 x1 x2 x3 x4 x5 x6
   go_wp2
   exact bodyPost_ret (v := .int .i64 (-1)) (by simp [results, Tryz.results102, go_sem]) rfl ⟨by rw [HR.out], HF.out⟩
  have hD : decide (0 ≤ roomB 4 6 y.s 40) = true := decide_eq_true (by omega)
  rw [hD]
  have HR : Hid (roomM (d + 1) (y, k) n = roomK (fun i q => roomM d (k i) q) y.n (n - 1)) := HRS.out.trans (if_neg hr)
  have HBD : Hid (∀ i, -1 ≤ roomK (fun i q => roomM d (k i) q) i (n - 1) ∧ roomK (fun i q => roomM d (k i) q) i (n - 1) ≤ n) := by
   intro i
   induction i with
   | zero => simp only [roomK]; omega
   | succ i ih =>
    simp only [roomK]
    split
    ·omega
    ·have := roomM_bd d (k i) (roomK (fun i q => roomM d (k i) q) i (n - 1)) (by omega)
     omega
  obtain ⟨f, hf⟩ : ∃ f : Nat → Int → Int, f = fun i q => roomM d (k i) q := ⟨_, rfl⟩
  rw [← hf] at HBD HR
  have IH : Hid (∀ i, i < y.n → ∀ q w', Ext W w' → 0 ≤ q → q ≤ 1000000 → Calls Tryz.prog 102 #[.agg (MT.me d (k i)).A, .int .i64 q, .int .i64 d] w' fun e w'' => e = .returned (.int .i64 (f i q)) ∧ Ext w' w'') := by
   intro i hi q w' he h0 h1
   rw [hf]
   obtain ⟨b, off, e, hb, hkc, hp⟩ := HK.out i hi
   exact ih (by omega) (k i) q w' (hp.ext he) h0 h1
  have HB1 := Lib.hid (HB.out.ext (World.block_lt_of_cell? _ _ HB.out.1) he1)
  clear hf ih CF HRS hr hD x0 x1 x2 x3 x4 x5 x6 he1
  obtain ⟨x0, x1, x2, x3, x4, x5, x6⟩ := HB1.out
  go_wp2
  rw [show ((d : Int) + 1 == 0) = false by rw [beq_eq_false_iff_ne]; omega]
  go_loopw [21, 1] (fun i nv wr => ∃ (j : Nat) (q : Int), j ≤ y.n ∧ i = .int .i64 j ∧ nv = .int .i64 q ∧ Hid (q = roomK f j (n - 1)) ∧ Hid (Ext W wr)) (fun i _ _ => y.n - (intOf i).toNat)
  case atStart => exact ⟨0, n - 1, Nat.zero_le _, rfl, rfl, rfl, HE1.out⟩
  case round =>
   clear x0 x1 x2 x3 x4 x5 x6
   obtain ⟨j, q, hj, rfl, rfl, HMm, HEX⟩ := hrel
   obtain ⟨x0, x1, x2, x3, x4, x5, x6⟩ := HB.out.ext (World.block_lt_of_cell? _ _ HB.out.1) HEX.out
   have hm := HBD.out j
   rw [← HMm.out] at hm
   by_cases hlt : j < y.n
   ·have hltI : (j : Int) < (y.n : Int) := by omega
    by_cases hneg : q < 0
    ·have HR2 : Hid (roomM (d + 1) (y, k) n = -1) := by
      have h1 := roomK_neg f (n - 1) j (by rw [← HMm.out]; exact hneg) (y.n - j - 1)
      rw [show j + 1 + (y.n - j - 1) = y.n by omega] at h1
      exact HR.out.trans h1
     clear HK HBD IH HB
     go_wp2
     exact bodyPost_ret (v := .int .i64 (-1)) (by simp [results, Tryz.results102, go_sem]) rfl ⟨by rw [HR2.out], HE.out.trans HEX.out⟩
    ·have hm0 : 0 ≤ q := by omega
     have CT := Lib.hid (IH.out j hlt q wr HEX.out hm0 (by omega))
     have HF : Hid (f j q = roomK f (j + 1) (n - 1)) := by
      show _ = _
      simp only [roomK]
      rw [if_neg (by rw [← HMm.out]; exact hneg), ← HMm.out]
     obtain ⟨b, off, e, hb, hkc, hp⟩ := HK.out j hlt
     obtain ⟨e0, e1, e2, e3, e4, e5, e6⟩ := hkc.ext hb HEX.out
     rw [e] at x6
     generalize MT.me d (k j) = z at *
     clear hp e HBD hkc HB1
     go_wp2_with (fail)
     refine CT.out.mono ?_
     rintro e w2 ⟨rfl, he2⟩
     clear CT e0 e1 e2 e3 e4 e5 e6
     go_wp2
     go_roundw
     case rel => exact ⟨j + 1, _, by omega, by go_num, rfl, HF, HEX.out.trans he2⟩
     case measure => simp [intOf]; omega
   ·obtain rfl : j = y.n := by omega
    have HR2 : Hid (roomM (d + 1) (y, k) n = q) := by show _ = _; rw [HR.out, HMm.out]
    clear HK HBD IH
    go_wp2
    exact bodyPost_ret (v := .int .i64 q) (by simp [results, Tryz.results102, go_sem]) rfl ⟨by rw [HR2.out], HE.out.trans HEX.out⟩
set_option maxRecDepth 100000 in
set_option maxHeartbeats 4000000 in
theorem law_small39 (m : MT 12) (w : World) (hP : PMs w 12 m) : Calls Tryz.prog 12 #[.agg (MT.me 12 m).A] w fun e w' => e = .returned (.bool (decide (0 ≤ roomM 12 m 80))) ∧ Ext w w' := by
 have CR : Hid (∀ W', Ext w W' → Calls Tryz.prog 102 #[.agg (MT.me 12 m).A, .int .i64 80, .int .i64 12] W' fun e w' => e = .returned (.int .i64 (roomM 12 m 80)) ∧ Ext W' w') := fun W' he => rf_roomM 12 (by omega) m 80 W' (PMs.ext he hP) (by omega) (by omega)
 clear hP
 generalize roomM 12 m 80 = r at *
 generalize MT.me 12 m = y at *
 have CF : Hid (∀ W', Ext w W' → Calls Tryz.prog 49 #[.agg y.A, .int .i64 80] W' fun e w' => e = .returned (.bool (decide (0 ≤ r))) ∧ Ext W' w') := by
  intro W' he
  have HE := Lib.hid ((Ext.refl W').alloc (.cells y.A 32))
  obtain ⟨x0, x1, x2, x3, x4, x5, x6⟩ := new_m7 W' y
  have CT := Lib.hid (CR.out _ (he.trans HE.out))
  generalize hW : W'.alloc (.cells y.A 32) = W at *
  have HW := Lib.hid hW
  clear hW
  go_enter Tryz.func49, Tryz.ntmps49
  go_upto_region 1 with (fail)
  rw [HW.out]
  go_wp2_with (fail)
  refine CT.out.mono ?_
  rintro e w1 ⟨rfl, he1⟩
  have HF := Lib.hid (HE.out.trans he1)
  clear CT HE he1 he CR
  by_cases hr : 0 ≤ r
  ·have HD : Hid (decide (0 ≤ r) = true) := decide_eq_true hr
   go_wp2
   exact bodyPost_ret (v := .bool true) (by simp [results, Tryz.results49, go_sem]) rfl ⟨by rw [HD.out], HF.out⟩
  ·have HD : Hid (decide (0 ≤ r) = false) := decide_eq_false hr
   have hr2 : r < 0 := by omega
   go_wp2
   exact bodyPost_ret (v := .bool false) (by simp [results, Tryz.results49, go_sem, hr2]) rfl ⟨by rw [HD.out], HF.out⟩
 have HE := Lib.hid ((Ext.refl w).alloc (.cells y.A 32))
 obtain ⟨x0, x1, x2, x3, x4, x5, x6⟩ := new_m7 w y
 have CT := Lib.hid (CF.out _ HE.out)
 generalize hW : w.alloc (.cells y.A 32) = W at *
 have HW := Lib.hid hW
 clear hW CR CF
 go_enter Tryz.func12, Tryz.ntmps12
 go_upto_region 1 with (fail)
 rw [HW.out]
 go_wp2_with (fail)
 refine CT.out.mono ?_
 rintro e w1 ⟨rfl, he1⟩
 have HF := Lib.hid (HE.out.trans he1)
 go_wp2
 go_ret
 exact ⟨rfl, HF.out⟩
def kdOf (k : Int) : Int := if k < 0 then 0 else if 4 < k then 0 else k
set_option maxRecDepth 100000 in
set_option maxHeartbeats 4000000 in
theorem pr_kind (y : ME) (w : World) : Calls Tryz.prog 67 #[.agg y.A] w fun e w' => e = .returned (.int .i64 (kdOf y.kd)) ∧ Ext w w' := by
 have HE := Lib.hid ((Ext.refl w).alloc (.cells y.A 32))
 obtain ⟨x0, x1, x2, x3, x4, x5, x6⟩ := new_m7 w y
 generalize hW : w.alloc (.cells y.A 32) = W at *
 have HW := Lib.hid hW
 clear hW
 by_cases h1 : y.kd < 0
 ·have HK : Hid (kdOf y.kd = 0) := by show _ = _; unfold kdOf; rw [if_pos h1]
  go_enter Tryz.func67, Tryz.ntmps67
  go_upto_region 1 with (fail)
  rw [HW.out]
  go_wp2
  exact bodyPost_ret (v := .int .i64 0) (by simp [results, Tryz.results67, go_sem]) rfl ⟨by rw [HK.out], HE.out⟩
 by_cases h2 : 4 < y.kd
 ·have HK : Hid (kdOf y.kd = 0) := by show _ = _; unfold kdOf; rw [if_neg h1, if_pos h2]
  go_enter Tryz.func67, Tryz.ntmps67
  go_upto_region 1 with (fail)
  rw [HW.out]
  go_wp2
  exact bodyPost_ret (v := .int .i64 0) (by simp [results, Tryz.results67, go_sem]) rfl ⟨by rw [HK.out], HE.out⟩
 have HK : Hid (kdOf y.kd = y.kd) := by show _ = _; unfold kdOf; rw [if_neg h1, if_neg h2]
 go_enter Tryz.func67, Tryz.ntmps67
 go_upto_region 1 with (fail)
 rw [HW.out]
 go_wp2
 exact bodyPost_ret (v := .int .i64 y.kd) (by simp [results, Tryz.results67, go_sem]) rfl ⟨by rw [HK.out], HE.out⟩
end Go.Proofs.YtodiphjjdheoaaaGreat
