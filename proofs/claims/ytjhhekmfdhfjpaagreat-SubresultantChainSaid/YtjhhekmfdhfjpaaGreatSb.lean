/- subresultant.Chain where both degrees are at least 1. subresultant.Chain where it refuses or the list is empty; Psc. subresultant.GcdDegree. Chain, Psc and GcdDegree of polynomials of degree 2 at most. cylinderlaw25.fit, by the general walk of descend. SubresultantChain: the walk. -/
import Derived.Test.YtjhhekmfdhfjpaaGreatSa
set_option linter.unusedVariables false
set_option linter.unusedSimpArgs false

namespace Go.Proofs.YtjhhekmfdhfjpaaGreat
open Go.RowKit

def NgOk (a c : List Tm) : Prop := ∀ (M : Nat → Prop) (W : World) (x : PE), Mb M W → CRx M W 4 x a → Calls Tryz.prog 38 #[.agg (peA x)] W (RetX M W 4 c)
structure ChN (M : Nat → Prop) (w : World) (x y : PE) (J m n N : Nat) (F : Nat → List Tm) : Prop where
 ck : ∀ wk, Ext w wk → Calls Tryz.prog 36 #[.agg (peA x), .agg (peA y), .int .i64 (J : Int)] wk fun e w' => e = .returned (.int .i64 0) ∧ Ext wk w'
 dx : ∀ wk, Ext w wk → Calls Tryz.prog 16 #[.agg (peA x), .int .i64 (J : Int)] wk fun e w' => e = .returned (.int .i64 (m : Int)) ∧ Ext wk w'
 dy : ∀ wk, Ext w wk → Calls Tryz.prog 16 #[.agg (peA y), .int .i64 (J : Int)] wk fun e w' => e = .returned (.int .i64 (n : Int)) ∧ Ext wk w'
 ds : n ≤ m → ∀ wk, Ext w wk → Calls Tryz.prog 37 #[.agg (peA x), .agg (peA y), .int .i64 (J : Int), .int .i64 (m : Int), .int .i64 (n : Int)] wk (RetDs M wk N F)
 dt : m < n → ∀ wk, Ext w wk → Calls Tryz.prog 37 #[.agg (peA y), .agg (peA x), .int .i64 (J : Int), .int .i64 (n : Int), .int .i64 (m : Int)] wk (RetDs M wk N F)
def RetCh (M : Nat → Prop) (w : World) (N : Nat) (F : Nat → List Tm) (e : Ending) (w' : World) : Prop := ∃ gl : Nat, e = .returned (.tuple #[.slice (some ⟨gl, 0, none⟩) N N, .int .i64 0]) ∧ w.heap.size ≤ gl ∧ Kids (fun b => M b ∨ b = gl) w' 4 gl N F ∧ Ext w w'
def SgC (m n N : Nat) (F F' : Nat → List Tm) : Prop := ∀ j, j < N → (m < n ∧ ((m - j) * (n - j)) % 2 = 1 ∧ NgOk (F j) (F' j)) ∨ (¬ (m < n ∧ ((m - j) * (n - j)) % 2 = 1) ∧ Sim (F j) (F' j))
def stepF (k : Nat) (F F' : Nat → List Tm) : Nat → List Tm := fun i => if i < k then F' i else F i
theorem stepF_put (k : Nat) (F F' : Nat → List Tm) (i : Nat) : Sim (if i = k then F' k else stepF k F F' i) (stepF (k + 1) F F' i) := by
 unfold stepF
 by_cases h : i = k
 ·subst h; rw [if_pos rfl, if_pos (by omega)]; exact Sim.refl _
 ·rw [if_neg h]
  by_cases h2 : i < k
  ·rw [if_pos h2, if_pos (by omega)]; exact Sim.refl _
  ·rw [if_neg h2, if_neg (by omega)]; exact Sim.refl _
theorem wrap_ab {a b : Nat} (ha : a ≤ 100) (hb : b ≤ 100) : IntKind.i64.wrap ((a : Int) * (b : Int)) = ((a * b : Nat) : Int) := by
 have h : a * b ≤ 10000 := Nat.mul_le_mul ha hb
 rw [← Int.natCast_mul, IntWalk.i64_in _ (by omega)]
theorem tmod_odd {p : Nat} (h : p % 2 = 1) : ((p : Nat) : Int).tmod 2 = 1 := by
 rw [Int.tmod_eq_emod_of_nonneg (Int.natCast_nonneg _)]; omega
theorem tmod_even {p : Nat} (h : p % 2 = 0) : ((p : Nat) : Int).tmod 2 = 0 := by
 rw [Int.tmod_eq_emod_of_nonneg (Int.natCast_nonneg _)]; omega
set_option maxRecDepth 100000 in
set_option maxHeartbeats 32000000 in
theorem sr_ChainN (M : Nat → Prop) (x y : PE) (J m n N : Nat) (F F' : Nat → List Tm) (w : World) (hM : Mb M w) (hm : 1 ≤ m) (hn : 1 ≤ n) (hm2 : m ≤ 100) (hn2 : n ≤ 100) (hN : N = min m n) (H : ChN M w x y J m n N F) (S : SgC m n N F F') :
  Calls Tryz.prog 11 #[.agg (peA x), .agg (peA y), .int .i64 (J : Int)] w (RetCh M w N F') := by
 have hE := ((Ext.refl w).alloc (.cells (peA x) 32)).alloc (.cells (peA y) 32)
 have hBx := new_px2S w x y
 generalize hW : (w.alloc (.cells (peA x) 32)).alloc (.cells (peA y) 32) = W at *
 have HW := Lib.hid hW
 have HE := Lib.hid hE
 have HBX : Hid (SBr w.heap.size x y W) := hBx
 have HM := Lib.hid hM
 have HH := Lib.hid H
 have HSG := Lib.hid S
 have HMM : Hid (1 ≤ m ∧ 1 ≤ n ∧ m ≤ 100 ∧ n ≤ 100 ∧ N ≤ m ∧ N ≤ n) := ⟨hm, hn, hm2, hn2, by omega, by omega⟩
 clear hE hBx hW hM H S hm hn hm2 hn2 hN
 go_enter Tryz.func11, Tryz.ntmps11
 go_upto_region 1 with (fail)
 rw [HW.out]
 obtain ⟨g0, hg0⟩ : ∃ g0, g0 = w.heap.size := ⟨_, rfl⟩
 rw [← hg0] at HBX ⊢
 clear hg0 HW
 obtain ⟨⟨x0, x1, x2, x3⟩, y0, y1, y2, y3⟩ := HBX.out
 go_wp2_with (fail)
 refine (HH.out.ck W HE.out).mono ?_
 rintro e w1 ⟨rfl, e1⟩
 have HB1 := Lib.hid (HBX.out.ext e1)
 have HE1 := Lib.hid (HE.out.trans e1)
 clear x0 x1 x2 x3 y0 y1 y2 y3 HBX HE e1
 go_upto_region 4 with (fail)
 have HPd : Hid (SBr g0 x y w1.drew) := HB1.out.ext (Ext.refl _).drew
 have HD0 : Hid (Ext w w1.drew) := HE1.out.trans (Ext.refl _).drew
 refine wp_region_u (SBr g0 x y) 8 (by kernel_rfl) HPd.out (fun hHeld => ?_)
 generalize w1.drew = wd at *
 (refine tkB [0, 1, 3, 4] ?_; (iterate 4 (refine tk1 (oi := ?_) (v := ?_) (by kernel_rfl) (by first | exact hSn | exact hHeld) ?_ ?_ ?_ ?_ ?_; rotate_left 2; (simp only [xgA, xgB, xgC]; rfl); rfl; (intro wS hSw; obtain ⟨⟨A0, A1, A2, A3⟩, B0, B1, B2, B3⟩ := hSw; go_simp; try with_reducible rfl); (exact fun _ _ _ h => h); (try simp only [Act.put, xgD, xgE, xgF]))); refine tkE ?_)
 ((refine wpAnyU_one 2 (o := ?_) (by kernel_rfl) ?_ ?_; rotate_left 1; (simp only [xgA, xgB, xgC]; rfl); intro K hK); go_simp; (refine (HH.out.dx wd HD0.out).mono ?_); rintro e_ w5 ⟨rfl, e2⟩; go_wp2_with (fail); (try clear hSn); (have hSn := hHeld.ext e2); (refine hK.out _ _ (fun _ => hSn) ?_); clear hK K; (try simp only [Act.put, xgD, xgE, xgF]))
 ((refine wpAnyU_one 5 (o := ?_) (by kernel_rfl) ?_ ?_; rotate_left 1; (simp only [xgA, xgB, xgC]; rfl); intro K hK); go_simp; (refine (HH.out.dy w5 (HD0.out.trans e2)).mono ?_); rintro e_ w6 ⟨rfl, e5⟩; go_wp2_with (fail); (try clear hSn); (have hSn := hHeld.ext (e2.trans e5)); (refine hK.out _ _ (fun _ => hSn) ?_); clear hK K; (try simp only [Act.put, xgD, xgE, xgF]))
 (refine tkB [6, 7] ?_; (iterate 2 (refine tk1 (oi := ?_) (v := ?_) (by kernel_rfl) (by first | exact hSn | exact hHeld) ?_ ?_ ?_ ?_ ?_; rotate_left 2; (simp only [xgA, xgB, xgC]; rfl); rfl; (intro wS hSw; obtain ⟨⟨A0, A1, A2, A3⟩, B0, B1, B2, B3⟩ := hSw; go_simp; try with_reducible rfl); (exact fun _ _ _ h => h); (try simp only [Act.put, xgD, xgE, xgF]))); refine tkE ?_)
 refine wpAnyU_done (by kernel_rfl) ?_ _
 have HE6 := Lib.hid (HD0.out.trans (e2.trans e5))
 have HB6 := Lib.hid (hHeld.ext (e2.trans e5))
 clear hHeld hSn e2 e5 HPd HD0 HB1 HE1
 obtain ⟨mn, hmn⟩ : ∃ mn : Int, mn = min (m : Int) (n : Int) := ⟨_, rfl⟩
 have hmn0 : ¬ min (m : Int) (n : Int) = 0 := by have := HMM.out; omega
 have hmnb : (min (m : Int) (n : Int) == 0) = false := beq_eq_false_iff_ne.2 hmn0
 clear hmn
 go_upto_if 32 with (fail)
 clear hmn0 hmnb
 go_cut [11] (fun s11 wx => ∃ gl : Nat, s11 = .slice (some ⟨gl, 0, none⟩) N N ∧ w.heap.size ≤ gl ∧ Kids (fun b => M b ∨ b = gl) wx 4 gl N F ∧ Ext w wx)
 case first =>
  by_cases hnm : n ≤ m
  ·have hge : (m : Int) ≥ (n : Int) := by omega
   have CD := Lib.hid (HH.out.ds hnm w6 HE6.out)
   obtain ⟨⟨x0, x1, x2, x3⟩, y0, y1, y2, y3⟩ := HB6.out
   clear hnm HH HSG
   go_wp2_with (fail)
   refine CD.out.mono ?_
   rintro e w7 ⟨gl, rfl, hgl, hk, e7⟩
   have HF : Hid (w.heap.size ≤ gl ∧ Kids (fun b => M b ∨ b = gl) w7 4 gl N F ∧ Ext w w7) := ⟨Nat.le_trans HE6.out.size hgl, hk, HE6.out.trans e7⟩
   clear hgl hk e7 x0 x1 x2 x3 y0 y1 y2 y3 CD
   go_wp2_with (fail)
   go_meet
   exact ⟨gl, rfl, HF.out⟩
  ·have hge : ¬ (m : Int) ≥ (n : Int) := by omega
   have CD := Lib.hid (HH.out.dt (by omega) w6 HE6.out)
   obtain ⟨⟨x0, x1, x2, x3⟩, y0, y1, y2, y3⟩ := HB6.out
   clear hnm HH HSG
   go_wp2_with (fail)
   refine CD.out.mono ?_
   rintro e w7 ⟨gl, rfl, hgl, hk, e7⟩
   have HF : Hid (w.heap.size ≤ gl ∧ Kids (fun b => M b ∨ b = gl) w7 4 gl N F ∧ Ext w w7) := ⟨Nat.le_trans HE6.out.size hgl, hk, HE6.out.trans e7⟩
   clear hgl hk e7 x0 x1 x2 x3 y0 y1 y2 y3 CD
   go_wp2_with (fail)
   go_meet
   exact ⟨gl, rfl, HF.out⟩
 case rest =>
  obtain ⟨gl, rfl, hgl, hk, e7⟩ := hcut
  have hglt := hk.lt
  have HGL : Hid (w.heap.size ≤ gl) := hgl
  have HM7 : Hid (Mb (fun b => M b ∨ b = gl) wc) := mb_ins (HM.out.ext e7) hglt
  have HK7 : Hid (Kids (fun b => M b ∨ b = gl) wc 4 gl N (stepF 0 F F')) := hk.congr fun i _ => by unfold stepF; rw [if_neg (Nat.not_lt_zero _)]; exact Sim.refl _
  have HE7 := Lib.hid e7
  have HMG : Hid ((fun b => M b ∨ b = gl) gl) := .inr rfl
  have HMQ : Hid (∀ b, M b ∨ b = gl → (fun b => M b ∨ b = gl) b) := fun b h => h
  have hN0 : (0 : Int) ≤ (N : Int) := Int.natCast_nonneg _
  have hN1 : (N : Int) ≤ 100 := by have := HMM.out; omega
  clear hgl hk e7 HE6 HH HM HB6 hglt
  generalize (fun b => M b ∨ b = gl) = M' at *
  go_wp2
  go_loopw [47] (fun iv wr => ∃ k : Nat, k ≤ N ∧ iv = .int .i64 (k : Int) ∧ Hid (Kids M' wr 4 gl N (stepF k F F')) ∧ Hid (Mb M' wr) ∧ Hid (Ext w wr)) (fun iv _ => N - (intOf iv).toNat)
  case atStart => exact ⟨0, by omega, rfl, HK7, HM7, HE7⟩
  case round =>
   clear HK7 HM7 HE7
   obtain ⟨k, hk1, rfl, HK, HMB, HE⟩ := hrel
   have hk0 : (0 : Int) ≤ (k : Int) := Int.natCast_nonneg _
   by_cases hkN : k < N
   ·have hkI : (k : Int) < (N : Int) := by omega
    obtain ⟨z, ⟨z0, z1, z2, z3⟩, hz⟩ := HK.out.cel k hkN
    have hz2 : CRx M' wr 4 z (F k) := by
     have h : stepF k F F' k = F k := if_neg (Nat.lt_irrefl _)
     rw [h] at hz; exact hz
    have HKN : Hid (k < N) := hkN
    rcases HSG.out k hkN with ⟨hlt, hodd, hng⟩ | ⟨hno, hsim⟩
    ·have CN := Lib.hid (hng M' wr z HMB.out hz2)
     have hmnI : (m : Int) < (n : Int) := by omega
     have hm3 := HMM.out
     obtain ⟨a, ha⟩ : ∃ a, a = m - k := ⟨_, rfl⟩
     obtain ⟨b, hb⟩ : ∃ b, b = n - k := ⟨_, rfl⟩
     rw [← ha, ← hb] at hodd
     have hw1 : IntKind.i64.wrap ((m : Int) - (k : Int)) = (a : Int) := by rw [IntWalk.i64_in _ (by omega)]; omega
     have hw2 : IntKind.i64.wrap ((n : Int) - (k : Int)) = (b : Int) := by rw [IntWalk.i64_in _ (by omega)]; omega
     have hw3 : IntKind.i64.wrap ((a : Int) * (b : Int)) = ((a * b : Nat) : Int) := wrap_ab (by omega) (by omega)
     have hw4 : ((a * b : Nat) : Int).tmod 2 = 1 := tmod_odd hodd
     obtain ⟨ab, hab⟩ : ∃ ab, ab = a * b := ⟨_, rfl⟩
     rw [← hab] at hw3 hw4
     clear ha hb hodd hab hm3 hng hz hz2 hlt hkN hk1 HMM HSG
     go_wp2_with (fail)
     refine CN.out.mono ?_
     rintro e w8 ⟨u, rfl, hu, e8⟩
     have HK8 := Lib.hid (HK.out.ext e8)
     obtain ⟨⟨_, q0⟩, ⟨_, q1⟩, ⟨_, q2⟩, ⟨_, q3⟩, hfz, _⟩ := HK8.out.at k HKN.out
     have f0 := hfz (k * 4)
     have f1 := hfz (k * 4 + 1)
     have f2 := hfz (k * 4 + 2)
     have f3 := hfz (k * 4 + 3)
     have hT9 := HK8.out.set HMG.out k HKN.out hu
     have hE9 := (HE.out.trans e8).set4 (g := gl) HGL.out (k * 4) (.int .i64 u.lv) (.bool u.b) (.slice u.a u.n u.p) (.slice u.ka u.kn u.kp)
     have hM9 := (HMB.out.ext e8).size (Kp.set4 (M := M') HMG.out (k * 4) (.int .i64 u.lv) (.bool u.b) (.slice u.a u.n u.p) (.slice u.ka u.kn u.kp)).1
     obtain ⟨W9, hW9⟩ : ∃ W9, W9 = set4 w8 gl (k * 4) (.int .i64 u.lv) (.bool u.b) (.slice u.a u.n u.p) (.slice u.ka u.kn u.kp) := ⟨_, rfl⟩
     rw [← hW9] at hT9 hE9 hM9
     unfold set4 at hW9
     have HW9 := Lib.hid hW9
     have HF : Hid (Kids M' W9 4 gl N (stepF (k + 1) F F') ∧ Mb M' W9 ∧ Ext w W9) := ⟨hT9.congr fun i hi => stepF_put k F F' i, hM9, hE9⟩
     clear hT9 hE9 hM9 hW9 hfz hu e8 HK8 HK HMB HE CN z0 z1 z2 z3
     go_wp2
     rw [← HW9.out]
     clear HW9 q0 q1 q2 q3 f0 f1 f2 f3
     go_roundw
     case rel => exact ⟨k + 1, HKN.out, by go_num, HF.out.1, HF.out.2.1, HF.out.2.2⟩
     case measure => have := HKN.out; simp [intOf]; omega
    ·have CN : Hid (Calls Tryz.prog 39 #[.agg (peA z)] wr (RetX M' wr 4 (F' k))) := (rp_Normal M' z (F k) wr HMB.out hz2.pi).mono fun _ _ h => h.sim hsim
     by_cases hlt : m < n
     ·have hodd : (m - k) * (n - k) % 2 = 0 := by
       have : ¬ (m - k) * (n - k) % 2 = 1 := fun h => hno ⟨hlt, h⟩
       omega
      have hmnI : (m : Int) < (n : Int) := by omega
      have hm3 := HMM.out
      obtain ⟨a, ha⟩ : ∃ a, a = m - k := ⟨_, rfl⟩
      obtain ⟨b, hb⟩ : ∃ b, b = n - k := ⟨_, rfl⟩
      rw [← ha, ← hb] at hodd
      have hw1 : IntKind.i64.wrap ((m : Int) - (k : Int)) = (a : Int) := by rw [IntWalk.i64_in _ (by omega)]; omega
      have hw2 : IntKind.i64.wrap ((n : Int) - (k : Int)) = (b : Int) := by rw [IntWalk.i64_in _ (by omega)]; omega
      have hw3 : IntKind.i64.wrap ((a : Int) * (b : Int)) = ((a * b : Nat) : Int) := wrap_ab (by omega) (by omega)
      have hw4 : ((a * b : Nat) : Int).tmod 2 = 0 := tmod_even hodd
      obtain ⟨ab, hab⟩ : ∃ ab, ab = a * b := ⟨_, rfl⟩
      rw [← hab] at hw3 hw4
      clear ha hb hodd hab hm3 hno hsim hz hz2 hlt hkN hk1 HMM HSG
      go_wp2_with (fail)
      refine CN.out.mono ?_
      rintro e w8 ⟨u, rfl, hu, e8⟩
      have HK8 := Lib.hid (HK.out.ext e8)
      obtain ⟨⟨_, q0⟩, ⟨_, q1⟩, ⟨_, q2⟩, ⟨_, q3⟩, hfz, _⟩ := HK8.out.at k HKN.out
      have f0 := hfz (k * 4)
      have f1 := hfz (k * 4 + 1)
      have f2 := hfz (k * 4 + 2)
      have f3 := hfz (k * 4 + 3)
      have hT9 := HK8.out.set HMG.out k HKN.out hu
      have hE9 := (HE.out.trans e8).set4 (g := gl) HGL.out (k * 4) (.int .i64 u.lv) (.bool u.b) (.slice u.a u.n u.p) (.slice u.ka u.kn u.kp)
      have hM9 := (HMB.out.ext e8).size (Kp.set4 (M := M') HMG.out (k * 4) (.int .i64 u.lv) (.bool u.b) (.slice u.a u.n u.p) (.slice u.ka u.kn u.kp)).1
      obtain ⟨W9, hW9⟩ : ∃ W9, W9 = set4 w8 gl (k * 4) (.int .i64 u.lv) (.bool u.b) (.slice u.a u.n u.p) (.slice u.ka u.kn u.kp) := ⟨_, rfl⟩
      rw [← hW9] at hT9 hE9 hM9
      unfold set4 at hW9
      have HW9 := Lib.hid hW9
      have HF : Hid (Kids M' W9 4 gl N (stepF (k + 1) F F') ∧ Mb M' W9 ∧ Ext w W9) := ⟨hT9.congr fun i hi => stepF_put k F F' i, hM9, hE9⟩
      clear hT9 hE9 hM9 hW9 hfz hu e8 HK8 HK HMB HE CN z0 z1 z2 z3
      go_wp2
      rw [← HW9.out]
      clear HW9 q0 q1 q2 q3 f0 f1 f2 f3
      go_roundw
      case rel => exact ⟨k + 1, HKN.out, by go_num, HF.out.1, HF.out.2.1, HF.out.2.2⟩
      case measure => have := HKN.out; simp [intOf]; omega
     ·have hmnI : ¬ (m : Int) < (n : Int) := by omega
      clear hno hsim hz hz2 hlt hkN hk1 HMM HSG
      go_wp2_with (fail)
      refine CN.out.mono ?_
      rintro e w8 ⟨u, rfl, hu, e8⟩
      have HK8 := Lib.hid (HK.out.ext e8)
      obtain ⟨⟨_, q0⟩, ⟨_, q1⟩, ⟨_, q2⟩, ⟨_, q3⟩, hfz, _⟩ := HK8.out.at k HKN.out
      have f0 := hfz (k * 4)
      have f1 := hfz (k * 4 + 1)
      have f2 := hfz (k * 4 + 2)
      have f3 := hfz (k * 4 + 3)
      have hT9 := HK8.out.set HMG.out k HKN.out hu
      have hE9 := (HE.out.trans e8).set4 (g := gl) HGL.out (k * 4) (.int .i64 u.lv) (.bool u.b) (.slice u.a u.n u.p) (.slice u.ka u.kn u.kp)
      have hM9 := (HMB.out.ext e8).size (Kp.set4 (M := M') HMG.out (k * 4) (.int .i64 u.lv) (.bool u.b) (.slice u.a u.n u.p) (.slice u.ka u.kn u.kp)).1
      obtain ⟨W9, hW9⟩ : ∃ W9, W9 = set4 w8 gl (k * 4) (.int .i64 u.lv) (.bool u.b) (.slice u.a u.n u.p) (.slice u.ka u.kn u.kp) := ⟨_, rfl⟩
      rw [← hW9] at hT9 hE9 hM9
      unfold set4 at hW9
      have HW9 := Lib.hid hW9
      have HF : Hid (Kids M' W9 4 gl N (stepF (k + 1) F F') ∧ Mb M' W9 ∧ Ext w W9) := ⟨hT9.congr fun i hi => stepF_put k F F' i, hM9, hE9⟩
      clear hT9 hE9 hM9 hW9 hfz hu e8 HK8 HK HMB HE CN z0 z1 z2 z3
      go_wp2
      rw [← HW9.out]
      clear HW9 q0 q1 q2 q3 f0 f1 f2 f3
      go_roundw
      case rel => exact ⟨k + 1, HKN.out, by go_num, HF.out.1, HF.out.2.1, HF.out.2.2⟩
      case measure => have := HKN.out; simp [intOf]; omega
   ·obtain rfl : k = N := by omega
    have hge' : ¬ (k : Int) < (k : Int) := by omega
    have HF : Hid (RetCh M w k F' (.returned (.tuple #[.slice (some ⟨gl, 0, none⟩) k k, .int .i64 0])) wr) := ⟨gl, rfl, HGL.out, (HK.out.more fun b hb => .inl (HMQ.out b hb)).congr fun i hi => by unfold stepF; rw [if_pos hi]; exact Sim.refl _, HE.out⟩
    clear HK HMB HE HMG HMQ HGL HMM HSG hk1 hkN
    go_wp2
    exact bodyPost_ret (v := .tuple #[.slice (some ⟨gl, 0, none⟩) k k, .int .i64 0]) (by simp [results, Tryz.results11, go_sem]) rfl HF.out


def LiV (M : Nat → Prop) (w w' : World) (v : Value) (N : Nat) (F : Nat → List Tm) : Prop := (N = 0 ∧ v = .slice none 0 0) ∨ ∃ gl : Nat, v = .slice (some ⟨gl, 0, none⟩) N N ∧ w.heap.size ≤ gl ∧ Kids (fun b => M b ∨ b = gl) w' 4 gl N F
def RetLi (M : Nat → Prop) (w : World) (N : Nat) (F : Nat → List Tm) (er : Int) (e : Ending) (w' : World) : Prop := ∃ v, e = .returned (.tuple #[v, .int .i64 er]) ∧ LiV M w w' v N F ∧ Ext w w'
theorem RetCh.li {M : Nat → Prop} {w w' : World} {N : Nat} {F : Nat → List Tm} {e : Ending} (h : RetCh M w N F e w') : RetLi M w N F 0 e w' := by
 obtain ⟨gl, rfl, h1, h2, h3⟩ := h
 exact ⟨_, rfl, .inr ⟨gl, rfl, h1, h2⟩, h3⟩
set_option maxRecDepth 100000 in
set_option maxHeartbeats 16000000 in
theorem sr_ChainE (M : Nat → Prop) (x y : PE) (L er : Int) (F : Nat → List Tm) (w : World) (her : er ≠ 0)
  (H : ∀ wk, Ext w wk → Calls Tryz.prog 36 #[.agg (peA x), .agg (peA y), .int .i64 L] wk fun e w' => e = .returned (.int .i64 er) ∧ Ext wk w') :
  Calls Tryz.prog 11 #[.agg (peA x), .agg (peA y), .int .i64 L] w (RetLi M w 0 F er) := by
 have hE := ((Ext.refl w).alloc (.cells (peA x) 32)).alloc (.cells (peA y) 32)
 have hBx := new_px2S w x y
 generalize hW : (w.alloc (.cells (peA x) 32)).alloc (.cells (peA y) 32) = W at *
 have HW := Lib.hid hW
 have HE := Lib.hid hE
 have HBX : Hid (SBr w.heap.size x y W) := hBx
 have HH := Lib.hid H
 clear hE hBx hW H
 go_enter Tryz.func11, Tryz.ntmps11
 go_upto_region 1 with (fail)
 rw [HW.out]
 obtain ⟨g0, hg0⟩ : ∃ g0, g0 = w.heap.size := ⟨_, rfl⟩
 rw [← hg0] at HBX ⊢
 clear hg0 HW
 obtain ⟨⟨x0, x1, x2, x3⟩, y0, y1, y2, y3⟩ := HBX.out
 have hern : (er != 0) = true := by simp [her]
 go_wp2_with (fail)
 refine (HH.out W HE.out).mono ?_
 rintro e w1 ⟨rfl, e1⟩
 have HF : Hid (RetLi M w 0 F er (.returned (.tuple #[.slice none 0 0, .int .i64 er])) w1) := ⟨_, rfl, .inl ⟨rfl, rfl⟩, HE.out.trans e1⟩
 clear x0 x1 x2 x3 y0 y1 y2 y3 HBX HE e1 HH
 go_wp2
 exact bodyPost_ret (v := .tuple #[.slice none 0 0, .int .i64 er]) (by simp [results, Tryz.results11, go_sem]) rfl HF.out
set_option maxRecDepth 100000 in
set_option maxHeartbeats 16000000 in
theorem sr_Chain0 (M : Nat → Prop) (x y : PE) (J m n : Nat) (F : Nat → List Tm) (w : World) (hmn : m = 0 ∨ n = 0)
  (hck : ∀ wk, Ext w wk → Calls Tryz.prog 36 #[.agg (peA x), .agg (peA y), .int .i64 (J : Int)] wk fun e w' => e = .returned (.int .i64 0) ∧ Ext wk w')
  (hdx : ∀ wk, Ext w wk → Calls Tryz.prog 16 #[.agg (peA x), .int .i64 (J : Int)] wk fun e w' => e = .returned (.int .i64 (m : Int)) ∧ Ext wk w')
  (hdy : ∀ wk, Ext w wk → Calls Tryz.prog 16 #[.agg (peA y), .int .i64 (J : Int)] wk fun e w' => e = .returned (.int .i64 (n : Int)) ∧ Ext wk w') :
  Calls Tryz.prog 11 #[.agg (peA x), .agg (peA y), .int .i64 (J : Int)] w (RetLi M w 0 F 0) := by
 have hE := ((Ext.refl w).alloc (.cells (peA x) 32)).alloc (.cells (peA y) 32)
 have hBx := new_px2S w x y
 generalize hW : (w.alloc (.cells (peA x) 32)).alloc (.cells (peA y) 32) = W at *
 have HW := Lib.hid hW
 have HE := Lib.hid hE
 have HBX : Hid (SBr w.heap.size x y W) := hBx
 have HCK := Lib.hid hck
 have HDX := Lib.hid hdx
 have HDY := Lib.hid hdy
 have hmn0 : min (m : Int) (n : Int) = 0 := by omega
 clear hE hBx hW hck hdx hdy hmn
 go_enter Tryz.func11, Tryz.ntmps11
 go_upto_region 1 with (fail)
 rw [HW.out]
 obtain ⟨g0, hg0⟩ : ∃ g0, g0 = w.heap.size := ⟨_, rfl⟩
 rw [← hg0] at HBX ⊢
 clear hg0 HW
 obtain ⟨⟨x0, x1, x2, x3⟩, y0, y1, y2, y3⟩ := HBX.out
 go_wp2_with (fail)
 refine (HCK.out W HE.out).mono ?_
 rintro e w1 ⟨rfl, e1⟩
 have HB1 := Lib.hid (HBX.out.ext e1)
 have HE1 := Lib.hid (HE.out.trans e1)
 clear x0 x1 x2 x3 y0 y1 y2 y3 HBX HE e1
 go_upto_region 4 with (fail)
 have HPd : Hid (SBr g0 x y w1.drew) := HB1.out.ext (Ext.refl _).drew
 have HD0 : Hid (Ext w w1.drew) := HE1.out.trans (Ext.refl _).drew
 refine wp_region_u (SBr g0 x y) 8 (by kernel_rfl) HPd.out (fun hHeld => ?_)
 generalize w1.drew = wd at *
 (refine tkB [0, 1, 3, 4] ?_; (iterate 4 (refine tk1 (oi := ?_) (v := ?_) (by kernel_rfl) (by first | exact hSn | exact hHeld) ?_ ?_ ?_ ?_ ?_; rotate_left 2; (simp only [xgA, xgB, xgC]; rfl); rfl; (intro wS hSw; obtain ⟨⟨A0, A1, A2, A3⟩, B0, B1, B2, B3⟩ := hSw; go_simp; try with_reducible rfl); (exact fun _ _ _ h => h); (try simp only [Act.put, xgD, xgE, xgF]))); refine tkE ?_)
 ((refine wpAnyU_one 2 (o := ?_) (by kernel_rfl) ?_ ?_; rotate_left 1; (simp only [xgA, xgB, xgC]; rfl); intro K hK); go_simp; (refine (HDX.out wd HD0.out).mono ?_); rintro e_ w5 ⟨rfl, e2⟩; go_wp2_with (fail); (try clear hSn); (have hSn := hHeld.ext e2); (refine hK.out _ _ (fun _ => hSn) ?_); clear hK K; (try simp only [Act.put, xgD, xgE, xgF]))
 ((refine wpAnyU_one 5 (o := ?_) (by kernel_rfl) ?_ ?_; rotate_left 1; (simp only [xgA, xgB, xgC]; rfl); intro K hK); go_simp; (refine (HDY.out w5 (HD0.out.trans e2)).mono ?_); rintro e_ w6 ⟨rfl, e5⟩; go_wp2_with (fail); (try clear hSn); (have hSn := hHeld.ext (e2.trans e5)); (refine hK.out _ _ (fun _ => hSn) ?_); clear hK K; (try simp only [Act.put, xgD, xgE, xgF]))
 (refine tkB [6, 7] ?_; (iterate 2 (refine tk1 (oi := ?_) (v := ?_) (by kernel_rfl) (by first | exact hSn | exact hHeld) ?_ ?_ ?_ ?_ ?_; rotate_left 2; (simp only [xgA, xgB, xgC]; rfl); rfl; (intro wS hSw; obtain ⟨⟨A0, A1, A2, A3⟩, B0, B1, B2, B3⟩ := hSw; go_simp; try with_reducible rfl); (exact fun _ _ _ h => h); (try simp only [Act.put, xgD, xgE, xgF]))); refine tkE ?_)
 refine wpAnyU_done (by kernel_rfl) ?_ _
 have HF : Hid (RetLi M w 0 F 0 (.returned (.tuple #[.slice none 0 0, .int .i64 0])) w6) := ⟨_, rfl, .inl ⟨rfl, rfl⟩, HD0.out.trans (e2.trans e5)⟩
 clear hHeld hSn e2 e5 HPd HD0 HB1 HE1 HCK HDX HDY
 go_wp2
 exact bodyPost_ret (v := .tuple #[.slice none 0 0, .int .i64 0]) (by simp [results, Tryz.results11, go_sem]) rfl HF.out
set_option maxRecDepth 100000 in
set_option maxHeartbeats 16000000 in
theorem sr_Psc (M : Nat → Prop) (x y : PE) (L er : Int) (N : Nat) (F G : Nat → List Tm) (w : World) (hM : Mb M w) (hN : N ≤ 100)
  (HC : ∀ wk, Ext w wk → Calls Tryz.prog 11 #[.agg (peA x), .agg (peA y), .int .i64 L] wk (RetLi M wk N F er))
  (HG : ∀ j, j < N → ∀ (Mk : Nat → Prop) (wk : World) (z : PE), Mb Mk wk → CRx Mk wk 4 z (F j) → Calls Tryz.prog 23 #[.agg (peA z), .int .i64 L, .int .i64 (j : Int)] wk (RetX Mk wk 4 (G j))) :
  Calls Tryz.prog 19 #[.agg (peA x), .agg (peA y), .int .i64 L] w (RetLi M w N G er) := by
 have hE := ((Ext.refl w).alloc (.cells (peA x) 32)).alloc (.cells (peA y) 32)
 have hBx := new_px2S w x y
 generalize hW : (w.alloc (.cells (peA x) 32)).alloc (.cells (peA y) 32) = W at *
 have HW := Lib.hid hW
 have HE := Lib.hid hE
 have HBX : Hid (SBr w.heap.size x y W) := hBx
 have HM := Lib.hid hM
 have HNN := Lib.hid hN
 have HH := Lib.hid HC
 have HGG := Lib.hid HG
 clear hE hBx hW hM HC HG hN
 go_enter Tryz.func19, Tryz.ntmps19
 go_upto_region 1 with (fail)
 rw [HW.out]
 obtain ⟨g0, hg0⟩ : ∃ g0, g0 = w.heap.size := ⟨_, rfl⟩
 rw [← hg0] at HBX ⊢
 clear hg0 HW
 obtain ⟨⟨x0, x1, x2, x3⟩, y0, y1, y2, y3⟩ := HBX.out
 go_wp2_with (fail)
 refine (HH.out W HE.out).mono ?_
 rintro e w7 ⟨v, rfl, hv, e7⟩
 clear x0 x1 x2 x3 y0 y1 y2 y3 HBX HH
 rcases hv with ⟨rfl, rfl⟩ | ⟨gl, rfl, hgl, hk⟩
 ·have HF : Hid (RetLi M w 0 G er (.returned (.tuple #[.slice none 0 0, .int .i64 er])) w7) := ⟨_, rfl, .inl ⟨rfl, rfl⟩, HE.out.trans e7⟩
  clear e7 HE HM HGG
  go_wp2
  go_loopw [20] (fun iv wr => iv = .int .i64 0 ∧ wr = w7) (fun _ _ => 0)
  case atStart => exact ⟨rfl, rfl⟩
  case round =>
   obtain ⟨rfl, rfl⟩ := hrel
   go_wp2
   exact bodyPost_ret (v := .tuple #[.slice none 0 0, .int .i64 er]) (by simp [results, Tryz.results19, go_sem]) rfl HF.out
 ·have hglt := hk.lt
  have HGL : Hid (w.heap.size ≤ gl) := Nat.le_trans HE.out.size hgl
  have HM7 : Hid (Mb (fun b => M b ∨ b = gl) w7) := mb_ins (HM.out.ext (HE.out.trans e7)) hglt
  have HK7 : Hid (Kids (fun b => M b ∨ b = gl) w7 4 gl N (stepF 0 F G)) := hk.congr fun i _ => by unfold stepF; rw [if_neg (Nat.not_lt_zero _)]; exact Sim.refl _
  have HE7 := Lib.hid (HE.out.trans e7)
  have HMG : Hid ((fun b => M b ∨ b = gl) gl) := .inr rfl
  have HMQ : Hid (∀ b, M b ∨ b = gl → (fun b => M b ∨ b = gl) b) := fun b h => h
  have hN0 : (0 : Int) ≤ (N : Int) := Int.natCast_nonneg _
  have hN1 : (N : Int) ≤ 100 := by have := HNN.out; omega
  clear hgl hk e7 HE HM hglt
  generalize (fun b => M b ∨ b = gl) = M' at *
  go_wp2
  go_loopw [20] (fun iv wr => ∃ k : Nat, k ≤ N ∧ iv = .int .i64 (k : Int) ∧ Hid (Kids M' wr 4 gl N (stepF k F G)) ∧ Hid (Mb M' wr) ∧ Hid (Ext w wr)) (fun iv _ => N - (intOf iv).toNat)
  case atStart => exact ⟨0, by omega, rfl, HK7, HM7, HE7⟩
  case round =>
   clear HK7 HM7 HE7
   obtain ⟨k, hk1, rfl, HK, HMB, HE⟩ := hrel
   have hk0 : (0 : Int) ≤ (k : Int) := Int.natCast_nonneg _
   by_cases hkN : k < N
   ·have hkI : (k : Int) < (N : Int) := by omega
    obtain ⟨z, ⟨z0, z1, z2, z3⟩, hz⟩ := HK.out.cel k hkN
    have hz2 : CRx M' wr 4 z (F k) := by
     have h : stepF k F G k = F k := if_neg (Nat.lt_irrefl _)
     rw [h] at hz; exact hz
    have HKN : Hid (k < N) := hkN
    have CN := Lib.hid (HGG.out k hkN M' wr z HMB.out hz2)
    clear hz hz2 hkN hk1 HGG
    go_wp2_with (fail)
    refine CN.out.mono ?_
    rintro e w8 ⟨u, rfl, hu, e8⟩
    have HK8 := Lib.hid (HK.out.ext e8)
    obtain ⟨⟨_, q0⟩, ⟨_, q1⟩, ⟨_, q2⟩, ⟨_, q3⟩, hfz, _⟩ := HK8.out.at k HKN.out
    have f0 := hfz (k * 4)
    have f1 := hfz (k * 4 + 1)
    have f2 := hfz (k * 4 + 2)
    have f3 := hfz (k * 4 + 3)
    have hT9 := HK8.out.set HMG.out k HKN.out hu
    have hE9 := (HE.out.trans e8).set4 (g := gl) HGL.out (k * 4) (.int .i64 u.lv) (.bool u.b) (.slice u.a u.n u.p) (.slice u.ka u.kn u.kp)
    have hM9 := (HMB.out.ext e8).size (Kp.set4 (M := M') HMG.out (k * 4) (.int .i64 u.lv) (.bool u.b) (.slice u.a u.n u.p) (.slice u.ka u.kn u.kp)).1
    obtain ⟨W9, hW9⟩ : ∃ W9, W9 = set4 w8 gl (k * 4) (.int .i64 u.lv) (.bool u.b) (.slice u.a u.n u.p) (.slice u.ka u.kn u.kp) := ⟨_, rfl⟩
    rw [← hW9] at hT9 hE9 hM9
    unfold set4 at hW9
    have HW9 := Lib.hid hW9
    have HF : Hid (Kids M' W9 4 gl N (stepF (k + 1) F G) ∧ Mb M' W9 ∧ Ext w W9) := ⟨hT9.congr fun i hi => stepF_put k F G i, hM9, hE9⟩
    clear hT9 hE9 hM9 hW9 hfz hu e8 HK8 HK HMB HE CN z0 z1 z2 z3
    go_wp2
    rw [← HW9.out]
    clear HW9 q0 q1 q2 q3 f0 f1 f2 f3
    go_roundw
    case rel => exact ⟨k + 1, HKN.out, by go_num, HF.out.1, HF.out.2.1, HF.out.2.2⟩
    case measure => have := HKN.out; simp [intOf]; omega
   ·obtain rfl : k = N := by omega
    have hge' : ¬ (k : Int) < (k : Int) := by omega
    have HF : Hid (RetLi M w k G er (.returned (.tuple #[.slice (some ⟨gl, 0, none⟩) k k, .int .i64 er])) wr) := ⟨_, rfl, .inr ⟨gl, rfl, HGL.out, (HK.out.more fun b hb => .inl (HMQ.out b hb)).congr fun i hi => by unfold stepF; rw [if_pos hi]; exact Sim.refl _⟩, HE.out⟩
    clear HK HMB HE HMG HMQ HGL HGG hk1 hkN HNN
    go_wp2
    exact bodyPost_ret (v := .tuple #[.slice (some ⟨gl, 0, none⟩) k k, .int .i64 er]) (by simp [results, Tryz.results19, go_sem]) rfl HF.out


def LzK (N : Nat) (G : Nat → List Tm) (k : Nat) : Prop := k ≤ N ∧ (∀ j, j < k → Sim (G j) []) ∧ (k < N → ¬ Sim (G k) [])
theorem LzK.uniq {N : Nat} {G : Nat → List Tm} {k l : Nat} (h : LzK N G k) (h' : LzK N G l) : k = l := by
 rcases Nat.lt_trichotomy k l with hl | hl | hl
 ·exact absurd (h'.2.1 k hl) (h.2.2 (by have := h'.1; omega))
 ·exact hl
 ·exact absurd (h.2.1 l hl) (h'.2.2 (by have := h.1; omega))
def RetGd (w : World) (N : Nat) (G : Nat → List Tm) (er : Int) (e : Ending) (w' : World) : Prop := ∃ k : Nat, e = .returned (.tuple #[.int .i64 (k : Int), .int .i64 er]) ∧ (er ≠ 0 → k = 0) ∧ (er = 0 → LzK N G k) ∧ Ext w w'
set_option maxRecDepth 100000 in
set_option maxHeartbeats 32000000 in
theorem sr_Gcd (M : Nat → Prop) (x y : PE) (L er : Int) (N m n : Nat) (G : Nat → List Tm) (w : World) (hM : Mb M w) (hN : N ≤ 100) (hmn : er = 0 → N = min m n)
  (HP : ∀ wk, Ext w wk → Calls Tryz.prog 19 #[.agg (peA x), .agg (peA y), .int .i64 L] wk (RetLi M wk N G er))
  (HX : er = 0 → ∀ wk, Ext w wk → Calls Tryz.prog 16 #[.agg (peA x), .int .i64 L] wk fun e w' => e = .returned (.int .i64 (m : Int)) ∧ Ext wk w')
  (HY : er = 0 → ∀ wk, Ext w wk → Calls Tryz.prog 16 #[.agg (peA y), .int .i64 L] wk fun e w' => e = .returned (.int .i64 (n : Int)) ∧ Ext wk w') :
  Calls Tryz.prog 20 #[.agg (peA x), .agg (peA y), .int .i64 L] w (RetGd w N G er) := by
 have hE := ((Ext.refl w).alloc (.cells (peA x) 32)).alloc (.cells (peA y) 32)
 have hBx := new_px2S w x y
 generalize hW : (w.alloc (.cells (peA x) 32)).alloc (.cells (peA y) 32) = W at *
 have HW := Lib.hid hW
 have HE := Lib.hid hE
 have HBX : Hid (SBr w.heap.size x y W) := hBx
 have HM := Lib.hid hM
 have HNN := Lib.hid hN
 have HH := Lib.hid HP
 have HDX := Lib.hid HX
 have HDY := Lib.hid HY
 have HMN := Lib.hid hmn
 clear hE hBx hW hM HP HX HY hN hmn
 go_enter Tryz.func20, Tryz.ntmps20
 go_upto_region 1 with (fail)
 rw [HW.out]
 obtain ⟨g0, hg0⟩ : ∃ g0, g0 = w.heap.size := ⟨_, rfl⟩
 rw [← hg0] at HBX ⊢
 clear hg0 HW
 obtain ⟨⟨x0, x1, x2, x3⟩, y0, y1, y2, y3⟩ := HBX.out
 go_wp2_with (fail)
 refine (HH.out W HE.out).mono ?_
 rintro e w7 ⟨v, rfl, hv, e7⟩
 clear x0 x1 x2 x3 y0 y1 y2 y3
 have HE7 := Lib.hid (HE.out.trans e7)
 have HB7 := Lib.hid (HBX.out.ext e7)
 by_cases her : er = 0
 rotate_left
 ·have hern : (er != 0) = true := by simp [her]
  have hn0 : ∃ u, v = .slice u N N := by
   rcases hv with ⟨rfl, rfl⟩ | ⟨gl, rfl, _⟩
   ·exact ⟨_, rfl⟩
   ·exact ⟨_, rfl⟩
  obtain ⟨u, rfl⟩ := hn0
  have HF : Hid (RetGd w N G er (.returned (.tuple #[.int .i64 0, .int .i64 er])) w7) := ⟨0, rfl, fun _ => rfl, fun h => absurd h her, HE7.out⟩
  clear hv e7 HE HM HBX HH HDX HDY HMN HE7 HB7 HNN her
  go_wp2
  exact bodyPost_ret (v := .tuple #[.int .i64 0, .int .i64 er]) (by simp [results, Tryz.results20, go_sem]) rfl HF.out
 ·subst her
  have HNM := Lib.hid (HMN.out rfl)
  have hDX := Lib.hid (HDX.out rfl)
  have hDY := Lib.hid (HDY.out rfl)
  have hN0 : (0 : Int) ≤ (N : Int) := Int.natCast_nonneg _
  have hN1 : (N : Int) ≤ 100 := by have := HNN.out; omega
  obtain ⟨a, rfl, HA⟩ : ∃ a, v = .slice a N N ∧ Hid (0 < N → ∃ gl : Nat, a = some ⟨gl, 0, none⟩ ∧ Mb (fun b => M b ∨ b = gl) w7 ∧ Kids (fun b => M b ∨ b = gl) w7 4 gl N G) := by
   rcases hv with ⟨rfl, rfl⟩ | ⟨gl, rfl, hgl, hk⟩
   ·exact ⟨_, rfl, fun h => absurd h (Nat.lt_irrefl _)⟩
   ·exact ⟨_, rfl, fun _ => ⟨gl, rfl, mb_ins (HM.out.ext (HE.out.trans e7)) hk.lt, hk⟩⟩
  clear hv e7 HE HM HBX HH HDX HDY HMN
  go_wp2
  go_loopw [24] (fun iv wr => ∃ k : Nat, k ≤ N ∧ iv = .int .i64 (k : Int) ∧ Hid (∀ j, j < k → Sim (G j) []) ∧ Hid (Ext w7 wr)) (fun iv _ => N - (intOf iv).toNat)
  case atStart => exact ⟨0, by omega, rfl, fun j hj => absurd hj (Nat.not_lt_zero _), Ext.refl _⟩
  case round =>
   obtain ⟨k, hk1, rfl, HZ, HE⟩ := hrel
   have hk0 : (0 : Int) ≤ (k : Int) := Int.natCast_nonneg _
   by_cases hkN : k < N
   ·have hkI : (k : Int) < (N : Int) := by omega
    obtain ⟨gl, rfl, hmb, hkd⟩ := HA.out (by omega)
    obtain ⟨z, ⟨z0, z1, z2, z3⟩, hz⟩ := (hkd.ext HE.out).cel k hkN
    obtain ⟨W8, hW8⟩ : ∃ W8, W8 = wr.alloc (.cells #[.int .i64 z.lv, .bool z.b, .slice z.a z.n z.p, .slice z.ka z.kn z.kp] 32) := ⟨_, rfl⟩
    have hEA : Ext wr W8 := by rw [hW8]; exact (Ext.refl wr).alloc _
    have hB8 : Blk W8 wr.heap.size 32 4 (arr (peA z)) := by rw [hW8]; exact Blk.of_arr wr (peA z) 32 4 rfl
    have CZ := Lib.hid (rp_IsZero _ z (G k) W8 (hmb.ext (HE.out.trans hEA)) (hz.ext hEA).pi)
    have HW8 := Lib.hid hW8
    have HEA := Lib.hid hEA
    obtain ⟨g11, hg11⟩ : ∃ g11, g11 = wr.heap.size := ⟨_, rfl⟩
    rw [← hg11] at hB8
    have HG11 := Lib.hid hg11
    have HB8 := Lib.hid hB8
    have HKN : Hid (k < N) := hkN
    clear hW8 hEA hB8 hg11 hz hmb hkd hkN hk1
    go_upto_region 7 with (fail)
    rw [← HW8.out, ← HG11.out]
    clear HW8 HG11 z0 z1 z2 z3
    obtain ⟨b0, b1, b2, b3⟩ := HB8.out.p4
    go_wp2_with (fail)
    refine CZ.out.mono ?_
    rintro e w9 ⟨bz, rfl, hb, e9⟩
    have HE9 := Lib.hid ((HE.out.trans HEA.out).trans e9)
    clear b0 b1 b2 b3 HB8 CZ e9 HEA HE
    cases bz with
    | true =>
     have HZ9 : Hid (∀ j, j < k + 1 → Sim (G j) []) := fun j hj => by
      by_cases h : j < k
      ·exact HZ.out j h
      ·obtain rfl : j = k := by omega
       exact hb.1 rfl
     clear hb HZ
     go_wp2
     go_roundw
     case rel => exact ⟨k + 1, HKN.out, by go_num, HZ9.out, HE9.out⟩
     case measure => have := HKN.out; simp [intOf]; omega
    | false =>
     have HF : Hid (RetGd w N G 0 (.returned (.tuple #[.int .i64 (k : Int), .int .i64 0])) w9) := ⟨k, rfl, fun h => absurd rfl h, fun _ => ⟨Nat.le_of_lt HKN.out, HZ.out, fun _ h => absurd (hb.2 h) (by decide)⟩, HE7.out.trans HE9.out⟩
     clear hb HZ HE9 HE7 HA HB7 HNM hDX hDY HNN HKN
     go_wp2
     exact bodyPost_ret (v := .tuple #[.int .i64 (k : Int), .int .i64 0]) (by simp [results, Tryz.results20, go_sem]) rfl HF.out
   ·obtain rfl : k = N := by omega
    have hge' : ¬ (k : Int) < (k : Int) := by omega
    have HPd : Hid (SBr g0 x y wr.drew) := HB7.out.ext (HE.out.trans (Ext.refl _).drew)
    have HD0 : Hid (Ext w wr.drew) := HE7.out.trans (HE.out.trans (Ext.refl _).drew)
    clear hk1 hkN HE HE7 HA HB7 HNN
    go_upto_region 10 with (fail)
    refine wp_region_u (SBr g0 x y) 9 (by kernel_rfl) HPd.out (fun hHeld => ?_)
    generalize wr.drew = wd at *
    (refine tkB [0, 1, 3, 4] ?_; (iterate 4 (refine tk1 (oi := ?_) (v := ?_) (by kernel_rfl) (by first | exact hSn | exact hHeld) ?_ ?_ ?_ ?_ ?_; rotate_left 2; (simp only [xgA, xgB, xgC]; rfl); rfl; (intro wS hSw; obtain ⟨⟨A0, A1, A2, A3⟩, B0, B1, B2, B3⟩ := hSw; go_simp; try with_reducible rfl); (exact fun _ _ _ h => h); (try simp only [Act.put, xgD, xgE, xgF]))); refine tkE ?_)
    ((refine wpAnyU_one 2 (o := ?_) (by kernel_rfl) ?_ ?_; rotate_left 1; (simp only [xgA, xgB, xgC]; rfl); intro K hK); go_simp; (refine (hDX.out wd HD0.out).mono ?_); rintro e_ w5 ⟨rfl, e2⟩; go_wp2_with (fail); (try clear hSn); (have hSn := hHeld.ext e2); (refine hK.out _ _ (fun _ => hSn) ?_); clear hK K; (try simp only [Act.put, xgD, xgE, xgF]))
    ((refine wpAnyU_one 5 (o := ?_) (by kernel_rfl) ?_ ?_; rotate_left 1; (simp only [xgA, xgB, xgC]; rfl); intro K hK); go_simp; (refine (hDY.out w5 (HD0.out.trans e2)).mono ?_); rintro e_ w6 ⟨rfl, e5⟩; go_wp2_with (fail); (try clear hSn); (have hSn := hHeld.ext (e2.trans e5)); (refine hK.out _ _ (fun _ => hSn) ?_); clear hK K; (try simp only [Act.put, xgD, xgE, xgF]))
    (refine tkB [6, 7, 8] ?_; (iterate 3 (refine tk1 (oi := ?_) (v := ?_) (by kernel_rfl) (by first | exact hSn | exact hHeld) ?_ ?_ ?_ ?_ ?_; rotate_left 2; (simp only [xgA, xgB, xgC]; rfl); rfl; (intro wS hSw; obtain ⟨⟨A0, A1, A2, A3⟩, B0, B1, B2, B3⟩ := hSw; go_simp; try with_reducible rfl); (exact fun _ _ _ h => h); (try simp only [Act.put, xgD, xgE, xgF]))); refine tkE ?_)
    refine wpAnyU_done (by kernel_rfl) ?_ _
    have hmin : min (m : Int) (n : Int) = (k : Int) := by have := HNM.out; omega
    have HF : Hid (RetGd w k G 0 (.returned (.tuple #[.int .i64 (k : Int), .int .i64 0])) w6) := ⟨k, rfl, fun h => absurd rfl h, fun _ => ⟨Nat.le_refl _, HZ.out, fun h => absurd h (Nat.lt_irrefl _)⟩, HD0.out.trans (e2.trans e5)⟩
    clear hHeld hSn e2 e5 HPd HD0 HZ hDX hDY HNM
    go_wp2
    exact bodyPost_ret (v := .tuple #[.int .i64 (k : Int), .int .i64 0]) (by simp [results, Tryz.results20, go_sem, hmin]) rfl HF.out


structure Two (J m n : Nat) (f g : List Tm) : Prop where
 h1 : 1 ≤ J
 h4 : J ≤ 4
 sf : Sz 3 10 f
 sg : Sz 3 10 g
 zf : ¬ Sim f []
 zg : ¬ Sim g []
 df : DgR J f m
 dg : DgR J g n
 m2 : m ≤ 2
 n2 : n ≤ 2
theorem check_ok {J m n : Nat} {f g : List Tm} (H : Two J m n f g) (M : Nat → Prop) (x y : PE) (w : World) (hM : Mb M w) (hx : CRx M w 4 x f) (hy : CRx M w 4 y g) : Calls Tryz.prog 36 #[.agg (peA x), .agg (peA y), .int .i64 (J : Int)] w fun e w' => e = .returned (.int .i64 0) ∧ Ext w w' := by
 refine (sr_check M f g x y (J : Int) w hM hx.pi hy.pi).mono ?_
 rintro e w' ⟨er, rfl, hc, he⟩
 have h1 := H.h1
 have h4 := H.h4
 rcases hc with ⟨h, _⟩ | ⟨_, h, _⟩ | ⟨_, _, _, rfl⟩
 ·exact absurd ⟨by omega, by omega⟩ h
 ·exact absurd h fun hh => hh.elim H.zf H.zg
 ·exact ⟨rfl, he⟩
theorem degf_ok {J m n : Nat} {f g : List Tm} (H : Two J m n f g) (M : Nat → Prop) (x : PE) (w : World) (hM : Mb M w) (hx : CRx M w 4 x f) : Calls Tryz.prog 16 #[.agg (peA x), .int .i64 (J : Int)] w fun e w' => e = .returned (.int .i64 (m : Int)) ∧ Ext w w' := mv_DegreeV M x f J (m : Int) w H.h1 H.h4 H.sf.n (.inr ⟨H.zf, m, H.df, rfl⟩) hM hx.pi
theorem degg_ok {J m n : Nat} {f g : List Tm} (H : Two J m n f g) (M : Nat → Prop) (y : PE) (w : World) (hM : Mb M w) (hy : CRx M w 4 y g) : Calls Tryz.prog 16 #[.agg (peA y), .int .i64 (J : Int)] w fun e w' => e = .returned (.int .i64 (n : Int)) ∧ Ext w w' := mv_DegreeV M y g J (n : Int) w H.h1 H.h4 H.sg.n (.inr ⟨H.zg, n, H.dg, rfl⟩) hM hy.pi
theorem chain_ok {J m n : Nat} {f g : List Tm} (H : Two J m n f g) (M : Nat → Prop) (x y : PE) (w : World) (hM : Mb M w) (hx : CRx M w 4 x f) (hy : CRx M w 4 y g) : Calls Tryz.prog 11 #[.agg (peA x), .agg (peA y), .int .i64 (J : Int)] w (RetLi M w (min m n) (sbC J m n f g) 0) := by
 have hm2 := H.m2
 have hn2 := H.n2
 by_cases h0 : m = 0 ∨ n = 0
 ·rw [show min m n = 0 by omega]
  exact sr_Chain0 M x y J m n _ w h0 (fun wk he => check_ok H M x y wk (hM.ext he) (hx.ext he) (hy.ext he)) (fun wk he => degf_ok H M x wk (hM.ext he) (hx.ext he)) fun wk he => degg_ok H M y wk (hM.ext he) (hy.ext he)
 ·refine (sr_ChainN M x y J m n (min m n) (sbC J m n f g) (sbC J m n f g) w hM (by omega) (by omega) (by omega) (by omega) rfl ⟨fun wk he => check_ok H M x y wk (hM.ext he) (hx.ext he) (hy.ext he), fun wk he => degf_ok H M x wk (hM.ext he) (hx.ext he), fun wk he => degg_ok H M y wk (hM.ext he) (hy.ext he), fun hnm wk he => ?_, fun hmn wk he => ?_⟩ fun j hj => ?_).mono fun e w' h => h.li
  ·rw [show min m n = n by omega, show sbC J m n f g = sbS J m n f g from funext fun j => if_neg (by omega)]
   exact sr_descS H.h1 H.h4 (by omega) hnm hm2 H.sf H.sg H.df H.dg M x y wk (hM.ext he) (hx.ext he) (hy.ext he)
  ·rw [show min m n = m by omega, show sbC J m n f g = sbS J n m g f from funext fun j => if_pos hmn]
   exact sr_descS H.h1 H.h4 (by omega) (by omega) hn2 H.sg H.sf H.dg H.df M y x wk (hM.ext he) (hy.ext he) (hx.ext he)
  ·refine .inr ⟨fun ⟨k1, k2⟩ => ?_, Sim.refl _⟩
   obtain rfl : m = 1 := by omega
   obtain rfl : n = 2 := by omega
   obtain rfl : j = 0 := by omega
   exact absurd k2 (by decide)
theorem sz_sbC {J m n : Nat} {f g : List Tm} (H : Two J m n f g) (j : Nat) : Sz 12 43 (sbC J m n f g j) := by
 unfold sbC
 split
 ·exact sz_sbS H.h1 H.h4 H.sg H.sf j
 ·exact sz_sbS H.h1 H.h4 H.sf H.sg j
theorem dg_sbC {J m n : Nat} {f g : List Tm} (H : Two J m n f g) (j : Nat) (hm : j < m) (hn : j < n) (i : Nat) (hi : j < i) : Sim (ck J (i : Int) (sbC J m n f g j)) [] := by
 have hm2 := H.m2
 have hn2 := H.n2
 unfold sbC
 split
 ·exact dg_sbS H.h1 H.h4 (by omega) (by omega) hn2 H.sg H.sf j hm i hi
 ·exact dg_sbS H.h1 H.h4 (by omega) (by omega) hm2 H.sf H.sg j hn i hi
theorem coef_ok {B A J : Nat} {l : List Tm} (h1 : 1 ≤ J) (h4 : J ≤ 4) (h : Sz B A l) (hB : B ≤ 30) (hA : A ≤ 95) (i : Nat) (M : Nat → Prop) (w : World) (z : PE) (hM : Mb M w) (hz : CRx M w 4 z l) : Calls Tryz.prog 23 #[.agg (peA z), .int .i64 (J : Int), .int .i64 (i : Int)] w (RetX M w 4 (ck J (i : Int) l)) :=
 mv_CoefV M z l J i B w h1 h4 h.n hM hz.pi h.d (Nat.le_trans (Nat.pow_le_pow_left (show B + 1 ≤ 31 by omega) 4) (by decide)) (by omega) (Nat.le_trans h.a (Nat.le_trans hA (by decide)))
def pcC (J m n : Nat) (f g : List Tm) (j : Nat) : List Tm := ck J (j : Int) (sbC J m n f g j)
theorem psc_ok {J m n : Nat} {f g : List Tm} (H : Two J m n f g) (M : Nat → Prop) (x y : PE) (w : World) (hM : Mb M w) (hx : CRx M w 4 x f) (hy : CRx M w 4 y g) : Calls Tryz.prog 19 #[.agg (peA x), .agg (peA y), .int .i64 (J : Int)] w (RetLi M w (min m n) (pcC J m n f g) 0) :=
 sr_Psc M x y (J : Int) 0 (min m n) (sbC J m n f g) (pcC J m n f g) w hM (by have := H.m2; omega) (fun wk he => chain_ok H M x y wk (hM.ext he) (hx.ext he) (hy.ext he)) fun j _ Mk wk z hMk hz => coef_ok H.h1 H.h4 (sz_sbC H j) (by omega) (by omega) j Mk wk z hMk hz
theorem gcd_ok {J m n : Nat} {f g : List Tm} (H : Two J m n f g) (M : Nat → Prop) (x y : PE) (w : World) (hM : Mb M w) (hx : CRx M w 4 x f) (hy : CRx M w 4 y g) : Calls Tryz.prog 20 #[.agg (peA x), .agg (peA y), .int .i64 (J : Int)] w (RetGd w (min m n) (pcC J m n f g) 0) :=
 sr_Gcd M x y (J : Int) 0 (min m n) m n (pcC J m n f g) w hM (by have := H.m2; omega) (fun _ => rfl) (fun wk he => psc_ok H M x y wk (hM.ext he) (hx.ext he) (hy.ext he)) (fun _ wk he => degf_ok H M x wk (hM.ext he) (hx.ext he)) fun _ wk he => degg_ok H M y wk (hM.ext he) (hy.ext he)
theorem chain_no (M : Nat → Prop) (x y : PE) (L er : Int) (w : World) (hM : Mb M w) (her : er ≠ 0) (F G : Nat → List Tm)
  (H : ∀ wk, Ext w wk → Calls Tryz.prog 36 #[.agg (peA x), .agg (peA y), .int .i64 L] wk fun e w' => e = .returned (.int .i64 er) ∧ Ext wk w') :
  (∀ wk, Ext w wk → Calls Tryz.prog 11 #[.agg (peA x), .agg (peA y), .int .i64 L] wk (RetLi M wk 0 F er)) ∧ (∀ wk, Ext w wk → Calls Tryz.prog 19 #[.agg (peA x), .agg (peA y), .int .i64 L] wk (RetLi M wk 0 G er)) ∧ ∀ wk, Ext w wk → Calls Tryz.prog 20 #[.agg (peA x), .agg (peA y), .int .i64 L] wk (RetGd wk 0 G er) := by
 have c : ∀ wk, Ext w wk → Calls Tryz.prog 11 #[.agg (peA x), .agg (peA y), .int .i64 L] wk (RetLi M wk 0 F er) := fun wk he => sr_ChainE M x y L er F wk her fun wl hl => H wl (he.trans hl)
 have p : ∀ wk, Ext w wk → Calls Tryz.prog 19 #[.agg (peA x), .agg (peA y), .int .i64 L] wk (RetLi M wk 0 G er) := fun wk he => sr_Psc M x y L er 0 F G wk (hM.ext he) (by omega) (fun wl hl => c wl (he.trans hl)) fun j hj => absurd hj (Nat.not_lt_zero _)
 exact ⟨c, p, fun wk he => sr_Gcd M x y L er 0 0 0 G wk (hM.ext he) (by omega) (fun h => absurd h her) (fun wl hl => p wl (he.trans hl)) (fun h => absurd h her) fun h => absurd h her⟩


theorem q_two : Two 1 2 1 qF qG := ⟨by decide, by decide, ⟨qF_nn, qF_deg.mono (by omega), Nat.le_trans qF_dl (by decide)⟩, ⟨qG_nn, qG_deg.mono (by omega), Nat.le_trans qG_dl (by decide)⟩, qF_ne, qG_ne, qF_dg, qG_dg, by decide, by decide⟩
theorem q_pcg : Sim (pcC 1 2 1 qF qG 0) qY := sim_of_norm (ck_nn (by decide) (by decide) (nn_mT (by decide) (by decide) qF_nn qG_nn)) (nn_of_all (by decide)) (by decide)
theorem q_pscG : QPsc := fun M w x y hM hx hy => (psc_ok q_two M x y w hM hx hy).mono fun e w' h => by
 obtain ⟨v, rfl, hv, he⟩ := h
 rcases hv with ⟨h0, _⟩ | ⟨gl, rfl, h1, h2⟩
 ·exact absurd h0 (by decide)
 ·exact ⟨gl, rfl, h1, h2.congr fun i hi => by
   obtain rfl : i = 0 := by
    have : min 2 1 = 1 := rfl
    omega
   exact q_pcg, he⟩
theorem law_fitG (w : World) : Calls Tryz.prog 8 #[] w fun e w' => e = .returned (.bool true) ∧ Ext w w' := law_fitH q_pscG w


def SK4 (ga gb o g0 : Nat) (za zb x y : PE) (w : World) : Prop := (KCell w ga o za ∧ ga < w.heap.size) ∧ (KCell w gb o zb ∧ gb < w.heap.size) ∧ SBr g0 x y w
theorem SK4.ext {ga gb o g0 : Nat} {za zb x y : PE} {w w' : World} (h : SK4 ga gb o g0 za zb x y w) (he : Ext w w') : SK4 ga gb o g0 za zb x y w' := ⟨⟨h.1.1.ext h.1.2 he, Nat.lt_of_lt_of_le h.1.2 he.size⟩, ⟨h.2.1.1.ext h.2.1.2 he, Nat.lt_of_lt_of_le h.2.1.2 he.size⟩, h.2.2.ext he⟩
theorem dgv_le {J j : Nat} (h1 : 1 ≤ J) (h4 : J ≤ 4) {l : List Tm} (nl : NN l) (h : ∀ i : Nat, j < i → Sim (ck J (i : Int) l) []) : ∃ d : Int, DgV J l d ∧ d ≤ (j : Int) := by
 by_cases hz : Sim l []
 ·exact ⟨-1, .inl ⟨hz, rfl⟩, by omega⟩
 ·obtain ⟨a, ha⟩ := dgr_ex (k := J) nl
  refine ⟨(a : Int), .inr ⟨hz, a, ha, rfl⟩, ?_⟩
  refine Classical.byContradiction fun hc => ?_
  exact ha.ckn h1 h4 (by omega) (h a (by omega))
theorem minor_ok25 {J m n j i c : Nat} {f g : List Tm} (H : Two J m n f g) (hjm : j < m) (hjn : j < n) (hij : i ≤ j) (hc : c + 1 + j + j = m + n) (x y : PE) (w : World) (hx : CRx M0 w 4 x f) (hy : CRx M0 w 4 y g) :
  Calls Tryz.prog 25 #[.agg (peA x), .agg (peA y), .int .i64 (J : Int), .int .i64 (j : Int), .int .i64 (i : Int)] w (RetMx M0 w (n - j + (m - j)) (c + 1) (mnM J m n j c (i : Int) f g)) :=
 rf_Minor M0 w x y J m n j c i f g (mb0 _) (by have := H.m2; omega) (by have := H.n2; omega) hjm hjn hij hc (fun wk he => degf_ok H M0 x wk (mb0 _) (hx.ext he)) (fun wk he => degg_ok H M0 y wk (mb0 _) (hy.ext he))
  (rows_of M0 w x J 3 f H.h1 H.h4 H.sf.n hx.pi H.sf.d (by decide) (by decide) (Nat.le_trans H.sf.a (by decide))) (rows_of M0 w y J 3 g H.h1 H.h4 H.sg.n hy.pi H.sg.d (by decide) (by decide) (Nat.le_trans H.sg.a (by decide)))
theorem ent_mn {J m n j c S : Nat} {i : Int} {f g : List Tm} (h1 : 1 ≤ J) (h4 : J ≤ 4) (s1 : SmD 2 f) (s2 : SmD 2 g) : EntP (zx (fun _ => S) (mnM J m n j c i f g)) := by
 have k : ∀ (l : List Tm) (e : Int), SmD 2 l → NN (ck J e l) ∧ Deg 3 (ck J e l) ∧ dlen (nrm (ck J e l)) ≤ 5 := fun l e h => ⟨ck_nn h1 h4 h.nn, (ck_deg h1 h4 h.deg).mono (by omega), Nat.le_trans (dlen_mono (ck_nrm J e l)) h.dl⟩
 have e : ∀ a b, NN (zx (fun _ => S) (mnM J m n j c i f g) a b) ∧ Deg 3 (zx (fun _ => S) (mnM J m n j c i f g) a b) ∧ dlen (nrm (zx (fun _ => S) (mnM J m n j c i f g) a b)) ≤ 5 := fun a b => by
  unfold zx mnM
  split
  ·split
   ·exact k f _ s1
   ·exact k g _ s2
  ·exact ⟨NN.nil, fun m hm => absurd rfl hm, Nat.zero_le _⟩
 exact ⟨fun a b => (e a b).1, fun a b => (e a b).2.1, fun a b => (e a b).2.2⟩
theorem det_ok25 {J m n j i c : Nat} {f g : List Tm} (H : Two J m n f g) (s1 : SmD 2 f) (s2 : SmD 2 g) (hjm : j < m) (hjn : j < n) (hij : i ≤ j) (hc : c + 1 + j + j = m + n) (w : World) (v : Value) (base : Nat) (hv : Mat M0 w base v (n - j + (m - j)) (c + 1) (mnM J m n j c (i : Int) f g)) :
  Calls Tryz.prog 24 #[v] w (RetX M0 w 4 (ck J (i : Int) (sbC J m n f g j))) := by
 have hm2 := H.m2
 have hn2 := H.n2
 exact (rf_det (n - j + (m - j)) (by omega) M0 w v (fun _ => c + 1) _ (mb0 _) (hv.mrow (fun b hb => absurd hb id) (Nat.le_trans (show c + 1 ≤ 4 by omega) (by decide))) (ent_mn H.h1 H.h4 s1 s2)).mono fun e w' h => h.sim (sbC_det H.h1 H.h4 H.sf H.sg hm2 hn2 (fun k hk => H.df.ckz H.h1 H.h4 hk) (fun k hk => H.dg.ckz H.h1 H.h4 hk) hjm hjn hij hc).symm
set_option maxRecDepth 100000 in
set_option maxHeartbeats 32000000 in
theorem law_chain (a1 a2 : Option Addr) (n1 p1 n2 p2 : Nat) (X1 X2 : Nat → TE) (L : Int) (w : World) (h1 : PRaw w a1 n1 p1 X1) (h2 : PRaw w a2 n2 p2 X2) :
  Calls Tryz.prog 5 #[.slice a1 n1 p1, .slice a2 n2 p2, .int .i64 L] w fun e w' => e = .returned (.bool true) ∧ Ext w w' := by
 have HR1 := Lib.hid h1
 have HR2 := Lib.hid h2
 clear h1 h2
 go_enter Tryz.func5, Tryz.ntmps5
 go_wp2_with (fail)
 refine (law_fitG _).mono ?_
 rintro e w1 ⟨rfl, he1⟩
 have HE1 := Lib.hid (he1)
 have CF1 := Lib.hid (law_few24 a1 n1 p1 X1 4 2 w1 (HR1.out.1.ext HE1.out) HR1.out.2.1)
 have CF2 := Lib.hid (law_few24 a2 n2 p2 X2 4 2 w1 (HR2.out.1.ext HE1.out) HR2.out.2.1)
 rw [show ((4 : Nat) : Int) = 4 from rfl, show ((2 : Nat) : Int) = 2 from rfl] at CF1 CF2
 clear he1
 go_wp2_with (fail)
 refine CF1.out.mono ?_
 rintro e w2 ⟨b, rfl, hb1, rfl⟩
 cases b with
 | false =>
  clear hb1 CF1 CF2
  go_wp2
  go_ret
  exact ⟨rfl, HE1.out⟩
 | true =>
 have HF1 := Lib.hid (hb1.1 rfl)
 clear hb1 CF1
 go_wp2_with (fail)
 refine CF2.out.mono ?_
 rintro e w2 ⟨b, rfl, hb2, rfl⟩
 cases b with
 | false =>
  clear hb2 CF2
  go_wp2
  go_ret
  exact ⟨rfl, HE1.out⟩
 | true =>
 have HF2 := Lib.hid (hb2.1 rfl)
 clear hb2 CF2
 obtain ⟨l1, hl1, HS1, hd1, hx1⟩ := HR1.out.smD (B := 2) HF1.out (by omega) (by omega)
 obtain ⟨l2, hl2, HS2, hd2, hx2⟩ := HR2.out.smD (B := 2) HF2.out (by omega) (by omega)
 have hlD1 := hl1.ext HE1.out
 have hlD2 := hl2.ext HE1.out
 have HS1 := Lib.hid HS1
 have HS2 := Lib.hid HS2
 have CO1 : Hid (Calls Tryz.prog 10 #[.slice a1 n1 p1] w1 (RetX M0 w1 4 (norm l1))) := rp_Of M0 _ l1 w1 (mb0 _) hlD1 hd1 hx1
 have CO2 : Hid (∀ W, Ext w1 W → Calls Tryz.prog 10 #[.slice a2 n2 p2] W (RetX M0 W 4 (norm l2))) := fun W h => rp_Of M0 _ l2 W (mb0 _) (hlD2.ext h) hd2 hx2
 clear hl1 hd1 hx1 hl2 hd2 hx2 HF1 HF2 HR1 HR2 hlD1 hlD2
 generalize norm l1 = f at *
 generalize norm l2 = g at *
 go_wp2_with (fail)
 refine CO1.out.mono ?_
 rintro e w2 ⟨x, rfl, hx, e2⟩
 have HX2 := Lib.hid hx
 have HE2 := Lib.hid e2
 clear hx e2 CO1
 go_wp2_with (fail)
 refine (CO2.out w2 HE2.out).mono ?_
 rintro e w3 ⟨y, rfl, hy, e3⟩
 have HX3 := Lib.hid (HX2.out.ext e3)
 have HY3 := Lib.hid hy
 have HE3 := Lib.hid (HE1.out.trans (HE2.out.trans e3))
 clear HX2 hy e3 CO2 HE2 HE1
 go_upto_region 6 with (fail)
 obtain ⟨W, hW⟩ : ∃ W, W = (w3.alloc (.cells #[.int .i64 x.lv, .bool x.b, .slice x.a x.n x.p, .slice x.ka x.kn x.kp] 32)).alloc (.cells #[.int .i64 y.lv, .bool y.b, .slice y.a y.n y.p, .slice y.ka y.kn y.kp] 32) := ⟨_, rfl⟩
 have hEW : Ext w3 W := by rw [hW]; exact ((Ext.refl w3).alloc _).alloc _
 obtain ⟨g0, hg0⟩ : ∃ g0, g0 = w3.heap.size := ⟨_, rfl⟩
 have HSB : Hid (SBr g0 x y W) := by rw [hW, hg0]; exact new_px2S w3 x y
 have HX := Lib.hid (HX3.out.ext hEW)
 have HY := Lib.hid (HY3.out.ext hEW)
 have HE := Lib.hid (HE3.out.trans hEW)
 rw [← hW, ← hg0]
 clear hW hg0 hEW HX3 HY3 HE3
 have CK : Hid (∀ wk, Ext W wk → Calls Tryz.prog 36 #[.agg (peA x), .agg (peA y), .int .i64 L] wk (RetCk f g L wk)) := fun wk he => sr_check M0 f g x y L wk (mb0 _) (HX.out.ext he).pi (HY.out.ext he).pi
 by_cases hin : ¬ (1 ≤ L ∧ L ≤ 4)
 ·have HNO := Lib.hid (chain_no M0 x y L 4 W (mb0 _) (by decide) (fun _ => []) (fun _ => []) fun wk he => (CK.out wk he).mono fun e w' h => by
   obtain ⟨er, rfl, hc, he'⟩ := h
   rcases hc with ⟨_, rfl⟩ | ⟨h, _⟩ | ⟨h, _⟩
   ·exact ⟨rfl, he'⟩
   ·exact absurd h hin
   ·exact absurd h hin)
  have CI : Hid (∀ wk, Calls Tryz.prog 21 #[.int .i64 L] wk fun e w' => e = .returned (.bool false) ∧ w' = wk) := fun wk => law_inner L false ⟨fun h => absurd h (by decide), fun h => absurd h hin⟩ wk
  clear hin CK
  obtain ⟨⟨x0, x1, x2, x3⟩, y0, y1, y2, y3⟩ := HSB.out
  go_wp2_with (fail)
  refine (HNO.out.1 W (Ext.refl _)).mono ?_
  rintro e w6 ⟨v6, rfl, hv6, e6⟩
  obtain ⟨u6, rfl⟩ : ∃ u6, v6 = .slice u6 0 0 := by
   rcases hv6 with ⟨_, rfl⟩ | ⟨gl, rfl, _⟩ <;> exact ⟨_, rfl⟩
  have HE6 := Lib.hid e6
  clear x0 x1 x2 x3 y0 y1 y2 y3 hv6 e6
  obtain ⟨⟨x0, x1, x2, x3⟩, y0, y1, y2, y3⟩ := HSB.out.ext HE6.out
  go_wp2_with (fail)
  refine (HNO.out.2.1 w6 HE6.out).mono ?_
  rintro e w7 ⟨v7, rfl, hv7, e7⟩
  obtain ⟨u7, rfl⟩ : ∃ u7, v7 = .slice u7 0 0 := by
   rcases hv7 with ⟨_, rfl⟩ | ⟨gl, rfl, _⟩ <;> exact ⟨_, rfl⟩
  have HE7 := Lib.hid (HE6.out.trans e7)
  clear x0 x1 x2 x3 y0 y1 y2 y3 hv7 e7 HE6
  obtain ⟨⟨x0, x1, x2, x3⟩, y0, y1, y2, y3⟩ := HSB.out.ext HE7.out
  go_wp2_with (fail)
  refine (HNO.out.2.2 w7 HE7.out).mono ?_
  rintro e w8 ⟨k8, rfl, hk8, _, e8⟩
  obtain rfl : k8 = 0 := hk8 (by decide)
  have HE8 := Lib.hid (HE7.out.trans e8)
  clear x0 x1 x2 x3 y0 y1 y2 y3 hk8 e8 HE7 HNO
  go_wp2_with (fail)
  refine (CI.out w8).mono ?_
  rintro e w9 ⟨rfl, rfl⟩
  go_wp2
  go_ret
  exact ⟨rfl, HE.out.trans HE8.out⟩
 have hin : 1 ≤ L ∧ L ≤ 4 := Classical.not_not.1 hin
 have CI : Hid (∀ wk, Calls Tryz.prog 21 #[.int .i64 L] wk fun e w' => e = .returned (.bool true) ∧ w' = wk) := fun wk => law_inner L true ⟨fun _ => hin, fun _ => rfl⟩ wk
 have CZ1 : Hid (∀ wk, Ext W wk → Calls Tryz.prog 15 #[.agg (peA x)] wk fun e w' => ∃ b : Bool, e = .returned (.bool b) ∧ (b = true ↔ Sim f []) ∧ Ext wk w') := fun wk he => rp_IsZero M0 x f wk (mb0 _) (HX.out.ext he).pi
 have CZ2 : Hid (∀ wk, Ext W wk → Calls Tryz.prog 15 #[.agg (peA y)] wk fun e w' => ∃ b : Bool, e = .returned (.bool b) ∧ (b = true ↔ Sim g []) ∧ Ext wk w') := fun wk he => rp_IsZero M0 y g wk (mb0 _) (HY.out.ext he).pi
 by_cases hz : Sim f [] ∨ Sim g []
 ·have HNO := Lib.hid (chain_no M0 x y L 2 W (mb0 _) (by decide) (fun _ => []) (fun _ => []) fun wk he => (CK.out wk he).mono fun e w' h => by
   obtain ⟨er, rfl, hc, he'⟩ := h
   rcases hc with ⟨h, _⟩ | ⟨_, _, rfl⟩ | ⟨_, h1, h2, _⟩
   ·exact absurd hin h
   ·exact ⟨rfl, he'⟩
   ·exact absurd hz fun hh => hh.elim h1 h2)
  have HZ := Lib.hid hz
  clear hin hz CK
  obtain ⟨⟨x0, x1, x2, x3⟩, y0, y1, y2, y3⟩ := HSB.out
  go_wp2_with (fail)
  refine (HNO.out.1 W (Ext.refl _)).mono ?_
  rintro e w6 ⟨v6, rfl, hv6, e6⟩
  obtain ⟨u6, rfl⟩ : ∃ u6, v6 = .slice u6 0 0 := by
   rcases hv6 with ⟨_, rfl⟩ | ⟨gl, rfl, _⟩ <;> exact ⟨_, rfl⟩
  have HE6 := Lib.hid e6
  clear x0 x1 x2 x3 y0 y1 y2 y3 hv6 e6
  obtain ⟨⟨x0, x1, x2, x3⟩, y0, y1, y2, y3⟩ := HSB.out.ext HE6.out
  go_wp2_with (fail)
  refine (HNO.out.2.1 w6 HE6.out).mono ?_
  rintro e w7 ⟨v7, rfl, hv7, e7⟩
  obtain ⟨u7, rfl⟩ : ∃ u7, v7 = .slice u7 0 0 := by
   rcases hv7 with ⟨_, rfl⟩ | ⟨gl, rfl, _⟩ <;> exact ⟨_, rfl⟩
  have HE7 := Lib.hid (HE6.out.trans e7)
  clear x0 x1 x2 x3 y0 y1 y2 y3 hv7 e7 HE6
  obtain ⟨⟨x0, x1, x2, x3⟩, y0, y1, y2, y3⟩ := HSB.out.ext HE7.out
  go_wp2_with (fail)
  refine (HNO.out.2.2 w7 HE7.out).mono ?_
  rintro e w8 ⟨k8, rfl, hk8, _, e8⟩
  obtain rfl : k8 = 0 := hk8 (by decide)
  have HE8 := Lib.hid (HE7.out.trans e8)
  clear x0 x1 x2 x3 y0 y1 y2 y3 hk8 e8 HE7 HNO
  go_wp2_with (fail)
  refine (CI.out w8).mono ?_
  rintro e w9 ⟨rfl, rfl⟩
  obtain ⟨⟨x0, x1, x2, x3⟩, y0, y1, y2, y3⟩ := HSB.out.ext HE8.out
  go_wp2_with (fail)
  refine (CZ1.out _ HE8.out).mono ?_
  rintro e w10 ⟨b, rfl, hb, he10⟩
  have HE10 := Lib.hid (HE8.out.trans he10)
  clear x0 x1 x2 x3 y0 y1 y2 y3 HE8 he10
  cases b with
  | true =>
   clear hb
   go_wp2
   go_ret
   exact ⟨rfl, HE.out.trans HE10.out⟩
  | false =>
   have hg : Sim g [] := HZ.out.elim (fun h => absurd (hb.2 h) (by decide)) id
   have HG := Lib.hid hg
   clear hb hg
   obtain ⟨⟨x0, x1, x2, x3⟩, y0, y1, y2, y3⟩ := HSB.out.ext HE10.out
   go_wp2_with (fail)
   refine (CZ2.out _ HE10.out).mono ?_
   rintro e w11 ⟨b, rfl, hb, he11⟩
   obtain rfl : b = true := hb.2 HG.out
   have HF := Lib.hid (HE.out.trans (HE10.out.trans he11))
   clear hb x0 x1 x2 x3 y0 y1 y2 y3 he11 HE10
   go_wp2
   go_ret
   exact ⟨rfl, HF.out⟩
 have hzf : ¬ Sim f [] := fun h => hz (.inl h)
 have hzg : ¬ Sim g [] := fun h => hz (.inr h)
 obtain ⟨J, rfl⟩ : ∃ J : Nat, L = (J : Int) := ⟨L.toNat, by omega⟩
 have hJ1 : 1 ≤ J := by omega
 have hJ4 : J ≤ 4 := by omega
 obtain ⟨m, hdm⟩ := dgr_ex (k := J) HS1.out.nn
 obtain ⟨n, hdn⟩ := dgr_ex (k := J) HS2.out.nn
 have hm2 : m ≤ 2 := dg_le hdm HS1.out.deg
 have hn2 : n ≤ 2 := dg_le hdn HS2.out.deg
 have HT : Hid (Two J m n f g) := ⟨hJ1, hJ4, ⟨HS1.out.nn, HS1.out.deg.mono (by omega), Nat.le_trans HS1.out.dl (by omega)⟩, ⟨HS2.out.nn, HS2.out.deg.mono (by omega), Nat.le_trans HS2.out.dl (by omega)⟩, hzf, hzg, hdm, hdn, hm2, hn2⟩
 have HN2 : Hid (m ≤ 2 ∧ n ≤ 2) := ⟨hm2, hn2⟩
 have CZA : Hid (∀ wk, Ext W wk → Calls Tryz.prog 15 #[.agg (peA x)] wk fun e w' => e = .returned (.bool false) ∧ Ext wk w') := fun wk he => (CZ1.out wk he).mono fun e w' ⟨b, h1, h2, h3⟩ => by
  cases b with
  | true => exact absurd (h2.1 rfl) hzf
  | false => exact ⟨h1, h3⟩
 have CZB : Hid (∀ wk, Ext W wk → Calls Tryz.prog 15 #[.agg (peA y)] wk fun e w' => e = .returned (.bool false) ∧ Ext wk w') := fun wk he => (CZ2.out wk he).mono fun e w' ⟨b, h1, h2, h3⟩ => by
  cases b with
  | true => exact absurd (h2.1 rfl) hzg
  | false => exact ⟨h1, h3⟩
 obtain ⟨N, hN⟩ : ∃ N, N = min m n := ⟨_, rfl⟩
 obtain ⟨F, hF⟩ : ∃ F, F = sbC J m n f g := ⟨_, rfl⟩
 obtain ⟨G, hG⟩ : ∃ G, G = pcC J m n f g := ⟨_, rfl⟩
 have C6 : Hid (∀ wk, Ext W wk → Calls Tryz.prog 11 #[.agg (peA x), .agg (peA y), .int .i64 (J : Int)] wk (RetLi M0 wk N F 0)) := fun wk he => by rw [hN, hF]; exact chain_ok HT.out M0 x y wk (mb0 _) (HX.out.ext he) (HY.out.ext he)
 have C7 : Hid (∀ wk, Ext W wk → Calls Tryz.prog 19 #[.agg (peA x), .agg (peA y), .int .i64 (J : Int)] wk (RetLi M0 wk N G 0)) := fun wk he => by rw [hN, hG]; exact psc_ok HT.out M0 x y wk (mb0 _) (HX.out.ext he) (HY.out.ext he)
 have C8 : Hid (∀ wk, Ext W wk → Calls Tryz.prog 20 #[.agg (peA x), .agg (peA y), .int .i64 (J : Int)] wk (RetGd wk N G 0)) := fun wk he => by rw [hN, hG]; exact gcd_ok HT.out M0 x y wk (mb0 _) (HX.out.ext he) (HY.out.ext he)
 have CDg : Hid (∀ wk, Ext W wk → Calls Tryz.prog 12 #[.agg (peA x), .agg (peA y), .int .i64 (J : Int)] wk fun e w' => e = .returned (.agg #[.int .i64 (m : Int), .int .i64 (n : Int)]) ∧ Ext wk w') := fun wk he => law_degrees wk x y (J : Int) (m : Int) (n : Int) (fun wl hl => degf_ok HT.out M0 x wl (mb0 _) (HX.out.ext (he.trans hl))) fun wl hl => degg_ok HT.out M0 y wl (mb0 _) (HY.out.ext (he.trans hl))
 have HNF : Hid (N = min m n ∧ F = sbC J m n f g ∧ G = pcC J m n f g) := ⟨hN, hF, hG⟩
 have hmin : min (m : Int) (n : Int) = (N : Int) := by omega
 have hN0 : (0 : Int) ≤ (N : Int) := Int.natCast_nonneg _
 have hN2 : (N : Int) ≤ 2 := by omega
 have HMIN := Lib.hid hmin
 clear hz hzf hzg hJ1 hJ4 hdm hdn hm2 hn2 hN hF hG CK CZ1 CZ2 hin hmin
 obtain ⟨⟨x0, x1, x2, x3⟩, y0, y1, y2, y3⟩ := HSB.out
 go_wp2_with (fail)
 refine (C6.out W (Ext.refl _)).mono ?_
 rintro e w6 ⟨v6, rfl, hv6, e6⟩
 obtain ⟨u6, rfl, HA6⟩ : ∃ u, v6 = .slice u N N ∧ Hid (0 < N → ∃ gl : Nat, u = some ⟨gl, 0, none⟩ ∧ Kids (fun b => M0 b ∨ b = gl) w6 4 gl N F) := by
  rcases hv6 with ⟨h0, rfl⟩ | ⟨gl, rfl, hgl, hk⟩
  ·exact ⟨none, by rw [h0], fun h => by omega⟩
  ·exact ⟨_, rfl, fun _ => ⟨gl, rfl, hk⟩⟩
 have HE6 := Lib.hid e6
 clear x0 x1 x2 x3 y0 y1 y2 y3 hv6 e6 C6
 obtain ⟨⟨x0, x1, x2, x3⟩, y0, y1, y2, y3⟩ := HSB.out.ext HE6.out
 go_wp2_with (fail)
 refine (C7.out w6 HE6.out).mono ?_
 rintro e w7 ⟨v7, rfl, hv7, e7⟩
 obtain ⟨u7, rfl, HA7⟩ : ∃ u, v7 = .slice u N N ∧ Hid (0 < N → ∃ gl : Nat, u = some ⟨gl, 0, none⟩ ∧ Kids (fun b => M0 b ∨ b = gl) w7 4 gl N G) := by
  rcases hv7 with ⟨h0, rfl⟩ | ⟨gl, rfl, hgl, hk⟩
  ·exact ⟨none, by rw [h0], fun h => by omega⟩
  ·exact ⟨_, rfl, fun _ => ⟨gl, rfl, hk⟩⟩
 have HE7 := Lib.hid (HE6.out.trans e7)
 have HE67 := Lib.hid e7
 clear x0 x1 x2 x3 y0 y1 y2 y3 hv7 e7 HE6 C7
 obtain ⟨⟨x0, x1, x2, x3⟩, y0, y1, y2, y3⟩ := HSB.out.ext HE7.out
 go_wp2_with (fail)
 refine (C8.out w7 HE7.out).mono ?_
 rintro e w8 ⟨k8, rfl, _, hk8, e8⟩
 have HLZ := Lib.hid (hk8 rfl)
 have HE8 := Lib.hid (HE7.out.trans e8)
 have HE68 := Lib.hid (HE67.out.trans e8)
 have HE78 := Lib.hid e8
 clear x0 x1 x2 x3 y0 y1 y2 y3 hk8 e8 HE7 HE67 C8
 go_wp2_with (fail)
 refine (CI.out w8).mono ?_
 rintro e w9 ⟨rfl, rfl⟩
 obtain ⟨⟨x0, x1, x2, x3⟩, y0, y1, y2, y3⟩ := HSB.out.ext HE8.out
 go_wp2_with (fail)
 refine (CZA.out _ HE8.out).mono ?_
 rintro e w10 ⟨rfl, he10⟩
 have HE10 := Lib.hid (HE8.out.trans he10)
 have HE810 := Lib.hid he10
 clear x0 x1 x2 x3 y0 y1 y2 y3 he10 CZA CI
 obtain ⟨⟨x0, x1, x2, x3⟩, y0, y1, y2, y3⟩ := HSB.out.ext HE10.out
 go_wp2_with (fail)
 refine (CZB.out _ HE10.out).mono ?_
 rintro e w11 ⟨rfl, he11⟩
 have HE11 := Lib.hid (HE10.out.trans he11)
 have HE811 := Lib.hid (HE810.out.trans he11)
 clear x0 x1 x2 x3 y0 y1 y2 y3 he11 CZB HE10 HE810
 obtain ⟨⟨x0, x1, x2, x3⟩, y0, y1, y2, y3⟩ := HSB.out.ext HE11.out
 go_wp2_with (fail)
 refine (CDg.out _ HE11.out).mono ?_
 rintro e w12 ⟨rfl, he12⟩
 have HE12 := Lib.hid (HE11.out.trans he12)
 have HE812 := Lib.hid (HE811.out.trans he12)
 clear x0 x1 x2 x3 y0 y1 y2 y3 he12 CDg HE11 HE811
 go_upto_region 16 with (fail)
 have hB15 := Blk.of_arr w12 #[.int .i64 (m : Int), .int .i64 (n : Int)] 37 2 rfl
 obtain ⟨W15, hW15⟩ : ∃ W15, W15 = w12.alloc (.cells #[.int .i64 (m : Int), .int .i64 (n : Int)] 37) := ⟨_, rfl⟩
 have hE15 : Ext w12 W15 := by rw [hW15]; exact (Ext.refl _).alloc _
 rw [← hW15] at hB15 ⊢
 obtain ⟨g15, hg15⟩ : ∃ g15, g15 = w12.heap.size := ⟨_, rfl⟩
 rw [← hg15] at hB15 ⊢
 have q0 := hB15.cell (i := 0) (by omega)
 have q1 := hB15.cell (i := 1) (by omega)
 change W15.cell? ⟨g15, 0, none⟩ = some (.int .i64 (m : Int)) at q0
 change W15.cell? ⟨g15, 1, none⟩ = some (.int .i64 (n : Int)) at q1
 have HE15 := Lib.hid (HE12.out.trans hE15)
 have HE8F := Lib.hid (HE812.out.trans hE15)
 clear hB15 hW15 hg15 hE15 HE12 HE812 HE8
 have hmin := HMIN.out
 have hw19 : IntKind.i64.wrap ((N : Int) - 1) = (N : Int) - 1 := IntWalk.i64_in _ (by omega)
 have HA6F : Hid (∀ i, i < N → ∃ gl : Nat, u6 = some ⟨gl, 0, none⟩ ∧ Kids (fun b => M0 b ∨ b = gl) W15 4 gl N F) := fun i hi => by
  obtain ⟨gl, h1, h2⟩ := HA6.out (by omega)
  exact ⟨gl, h1, h2.ext (HE68.out.trans HE8F.out)⟩
 have HA7F : Hid (∀ i, i < N → ∃ gl : Nat, u7 = some ⟨gl, 0, none⟩ ∧ Kids (fun b => M0 b ∨ b = gl) W15 4 gl N G) := fun i hi => by
  obtain ⟨gl, h1, h2⟩ := HA7.out (by omega)
  exact ⟨gl, h1, h2.ext (HE78.out.trans HE8F.out)⟩
 clear HA6 HA7 HE68 HE78 HE8F
 go_wp2
 clear q0 q1 hmin hw19
 have HLN : Hid (N ≤ 2) := by show N ≤ 2; omega
 go_loopw [16, 17] (fun lv jv wr => ∃ (q l : Nat) (z : Int), q ≤ N ∧ l ≤ N ∧ q ≤ l ∧ lv = .int .i64 (l : Int) ∧ jv = .int .i64 z ∧ z = (q : Int) - 1 ∧ Hid (∀ i, q ≤ i → i < l → Sim (G i) []) ∧ Hid (l < N → ¬ Sim (G l) []) ∧ Hid (Ext W15 wr)) (fun _ jv _ => (intOf jv + 1).toNat)
 case atStart => exact ⟨N, N, _, Nat.le_refl _, Nat.le_refl _, Nat.le_refl _, rfl, rfl, rfl, fun i h1 h2 => by omega, fun h => absurd h (Nat.lt_irrefl _), Ext.refl _⟩
 case round =>
  obtain ⟨q, l, z, hq, hl, hql, rfl, rfl, hzq, HZ, HNZ, HER⟩ := hrel
  by_cases hq0 : q = 0
  ·subst hq0
   obtain rfl : z = -1 := by omega
   have hkl : k8 = l := HLZ.out.uniq ⟨hl, fun j hj => HZ.out j (Nat.zero_le _) hj, HNZ.out⟩
   subst hkl
   have HF := Lib.hid (HE.out.trans (HE15.out.trans HER.out))
   clear HZ HNZ HER hzq hq hl hql
   go_wp2
   go_ret
   exact ⟨by simp, HF.out⟩
  ·obtain ⟨j, rfl⟩ : ∃ j, q = j + 1 := ⟨q - 1, by omega⟩
   obtain rfl : z = (j : Int) := by omega
   have hj0 : (0 : Int) ≤ (j : Int) := Int.natCast_nonneg _
   have hjN : (j : Int) < (N : Int) := by omega
   have HJ : Hid (j < N ∧ j + 1 ≤ l ∧ l ≤ N) := ⟨by omega, hql, hl⟩
   clear hq hl hql hzq hq0
   obtain ⟨ga, rfl, hka⟩ := HA6F.out j HJ.out.1
   obtain ⟨gb, rfl, hkb⟩ := HA7F.out j HJ.out.1
   obtain ⟨za, hza, hxa⟩ := hka.cel j HJ.out.1
   obtain ⟨zb, hzb, hxb⟩ := hkb.cel j HJ.out.1
   have HSR : Hid (SK4 ga gb (j * 4) g0 za zb x y wr) := SK4.ext ⟨⟨hza, hka.lt⟩, ⟨hzb, hkb.lt⟩, HSB.out.ext HE15.out⟩ HER.out
   have HXA : Hid (CRx M0 wr 4 za (F j)) := (hxa.more fun b hb => .inl (.inl hb)).ext HER.out
   have HXB : Hid (CRx M0 wr 4 zb (G j)) := (hxb.more fun b hb => .inl (.inl hb)).ext HER.out
   have HFJ : Hid (Sz 12 43 (F j) ∧ G j = ck J (j : Int) (F j)) := by rw [HNF.out.2.1, HNF.out.2.2]; exact ⟨sz_sbC HT.out j, rfl⟩
   have hjm : j < m ∧ j < n := by have h1 := HNF.out.1; have h2 := HJ.out.1; omega
   obtain ⟨d, hd, hdj⟩ : ∃ d : Int, DgV J (F j) d ∧ d ≤ (j : Int) := by
    rw [HNF.out.2.1]
    exact dgv_le HT.out.h1 HT.out.h4 (sz_sbC HT.out j).n fun i hi => dg_sbC HT.out j hjm.1 hjm.2 i hi
   have hdn : ¬ d > (j : Int) := by omega
   have hj12 : Hid (1 ≤ J ∧ J ≤ 4) := ⟨HT.out.h1, HT.out.h4⟩
   have HJM : Hid (j < m ∧ j < n) := hjm
   clear hka hkb hza hzb hxa hxb hjm hdj
   have HPd : Hid (SK4 ga gb (j * 4) g0 za zb x y wr.drew) := SK4.ext HSR.out (Ext.refl _).drew
   have HDR : Hid (Ext wr wr.drew) := (Ext.refl _).drew
   have CDJ : Hid (∀ wk, Ext wr wk → Calls Tryz.prog 16 #[.agg (peA za), .int .i64 (J : Int)] wk fun e w' => e = .returned (.int .i64 d) ∧ Ext wk w') := fun wk he => mv_DegreeV M0 za (F j) J d wk hj12.out.1 hj12.out.2 HFJ.out.1.n hd (mb0 _) (HXA.out.ext he).pi
   have CCa : Hid (∀ wk, Ext wr wk → Calls Tryz.prog 22 #[.agg (peA za), .int .i64 5] wk fun e w' => e = .returned (.bool true) ∧ Ext wk w') := fun wk he => (rf_canonical 4 M0 _ za 5 wk (HXA.out.ext he) (by have := HXA.out.lev; omega)).mono fun e w' h => h
   have CCo : Hid (∀ (i : Nat) wk, Ext wr wk → Calls Tryz.prog 23 #[.agg (peA za), .int .i64 (J : Int), .int .i64 (i : Int)] wk (RetX M0 wk 4 (ck J (i : Int) (F j)))) := fun i wk he => coef_ok hj12.out.1 hj12.out.2 HFJ.out.1 (by omega) (by omega) i M0 wk za (mb0 _) (HXA.out.ext he)
   clear hd
   go_upto_region 22 with (fail)
   refine wp_region_u (SK4 ga gb (j * 4) g0 za zb x y) 31 (by kernel_rfl) HPd.out (fun hHeld => ?_)
   generalize wr.drew = wd at *
   (refine tkB [0, 1, 2, 3, 4, 6] ?_; (iterate 6 (refine tk1 (oi := ?_) (v := ?_) (by kernel_rfl) (by first | exact hSn | exact hHeld) ?_ ?_ ?_ ?_ ?_; rotate_left 2; (simp only [xgA, xgB, xgC]; rfl); rfl; (intro wS hSw; obtain ⟨⟨⟨A0, A1, A2, A3⟩, A4⟩, ⟨⟨B0, B1, B2, B3⟩, B4⟩, ⟨C0, C1, C2, C3⟩, D0, D1, D2, D3⟩ := hSw; go_simp; try with_reducible rfl); (exact fun _ _ _ h => h); (try simp only [Act.put, xgD, xgE, xgF]))); refine tkE ?_)
   ((refine wpAnyU_one 5 (o := ?_) (by kernel_rfl) ?_ ?_; rotate_left 1; (simp only [xgA, xgB, xgC]; rfl); intro K hK); go_simp; (refine (CDJ.out wd HDR.out).mono ?_); rintro e_ v1 ⟨rfl, e1⟩; go_wp2_with (fail); (try clear hSn); (have hSn := hHeld.ext e1); (refine hK.out _ _ (fun _ => hSn) ?_); clear hK K; (try simp only [Act.put, xgD, xgE, xgF]))
   (refine tkB [7] ?_; (iterate 1 (refine tk1 (oi := ?_) (v := ?_) (by kernel_rfl) (by first | exact hSn | exact hHeld) ?_ ?_ ?_ ?_ ?_; rotate_left 2; (simp only [xgA, xgB, xgC]; rfl); rfl; (intro wS hSw; obtain ⟨⟨⟨A0, A1, A2, A3⟩, A4⟩, ⟨⟨B0, B1, B2, B3⟩, B4⟩, ⟨C0, C1, C2, C3⟩, D0, D1, D2, D3⟩ := hSw; go_simp; try with_reducible rfl); (exact fun _ _ _ h => h); (try simp only [Act.put, xgD, xgE, xgF]))); refine tkE ?_)
   have hdb : decide ((j : Int) < d) = false := decide_eq_false (by omega)
   rw [hdb]
   (refine tkB [8, 9, 10, 11, 12] ?_; (iterate 5 (refine tk1 (oi := ?_) (v := ?_) (by kernel_rfl) (by first | exact hSn | exact hHeld) ?_ ?_ ?_ ?_ ?_; rotate_left 2; (simp only [xgA, xgB, xgC]; rfl); rfl; (intro wS hSw; obtain ⟨⟨⟨A0, A1, A2, A3⟩, A4⟩, ⟨⟨B0, B1, B2, B3⟩, B4⟩, ⟨C0, C1, C2, C3⟩, D0, D1, D2, D3⟩ := hSw; go_simp; try with_reducible rfl); (exact fun _ _ _ h => h); (try simp only [Act.put, xgD, xgE, xgF]))); refine tkE ?_)
   clear hdb
   ((refine wpAnyU_one 13 (o := ?_) (by kernel_rfl) ?_ ?_; rotate_left 1; (simp only [xgA, xgB, xgC]; rfl); intro K hK); go_simp; (refine (CCa.out v1 (HDR.out.trans e1)).mono ?_); rintro e_ v2 ⟨rfl, e2⟩; go_wp2_with (fail); (try clear hSn); (have hSn := hHeld.ext (e1.trans e2)); (refine hK.out _ _ (fun _ => hSn) ?_); clear hK K; (try simp only [Act.put, xgD, xgE, xgF]))
   (refine tkB [14, 15, 16, 17, 18, 19, 20, 21, 22, 23, 24, 25, 26] ?_; (iterate 13 (refine tk1 (oi := ?_) (v := ?_) (by kernel_rfl) (by first | exact hSn | exact hHeld) ?_ ?_ ?_ ?_ ?_; rotate_left 2; (simp only [xgA, xgB, xgC]; rfl); rfl; (intro wS hSw; obtain ⟨⟨⟨A0, A1, A2, A3⟩, A4⟩, ⟨⟨B0, B1, B2, B3⟩, B4⟩, ⟨C0, C1, C2, C3⟩, D0, D1, D2, D3⟩ := hSw; go_simp; try with_reducible rfl); (exact fun _ _ _ h => h); (try simp only [Act.put, xgD, xgE, xgF]))); refine tkE ?_)
   ((refine wpAnyU_one 27 (o := ?_) (by kernel_rfl) ?_ ?_; rotate_left 1; (simp only [xgA, xgB, xgC]; rfl); intro K hK); go_simp; (refine (CCo.out j v2 (HDR.out.trans (e1.trans e2))).mono ?_); rintro e_ v3 ⟨u, rfl, hu, e3⟩; go_wp2_with (fail); (try clear hSn); (have hSn := hHeld.ext ((e1.trans e2).trans e3)); (refine hK.out _ _ (fun _ => hSn) ?_); clear hK K; (try simp only [Act.put, xgD, xgE, xgF]))
   have CSm := Lib.hid (same_b zb u (G j) (ck J (j : Int) (F j)) v3 true (HXB.out.ext (HDR.out.trans ((e1.trans e2).trans e3))).pi hu.pi (by rw [HFJ.out.2]; simp [Sim.refl]))
   ((refine wpAnyU_one 28 (o := ?_) (by kernel_rfl) ?_ ?_; rotate_left 1; (simp only [xgA, xgB, xgC]; rfl); intro K hK); go_simp; (refine (CSm.out).mono ?_); rintro e_ v4 ⟨rfl, e4⟩; go_wp2_with (fail); (try clear hSn); (have hSn := hHeld.ext (((e1.trans e2).trans e3).trans e4)); (refine hK.out _ _ (fun _ => hSn) ?_); clear hK K; (try simp only [Act.put, xgD, xgE, xgF]))
   (refine tkB [29, 30] ?_; (iterate 2 (refine tk1 (oi := ?_) (v := ?_) (by kernel_rfl) (by first | exact hSn | exact hHeld) ?_ ?_ ?_ ?_ ?_; rotate_left 2; (simp only [xgA, xgB, xgC]; rfl); rfl; (intro wS hSw; obtain ⟨⟨⟨A0, A1, A2, A3⟩, A4⟩, ⟨⟨B0, B1, B2, B3⟩, B4⟩, ⟨C0, C1, C2, C3⟩, D0, D1, D2, D3⟩ := hSw; go_simp; try with_reducible rfl); (exact fun _ _ _ h => h); (try simp only [Act.put, xgD, xgE, xgF]))); refine tkE ?_)
   refine wpAnyU_done (by kernel_rfl) ?_ _
   have HEV := Lib.hid (HDR.out.trans (((e1.trans e2).trans e3).trans e4))
   clear hHeld hSn e1 e2 e3 e4 hu CSm HPd HDR CDJ CCa hdn
   have HRJ : Hid (G j = ck J (j : Int) (F j)) := HFJ.out.2
   have CZJ : Hid (∀ wk, Ext wr wk → Calls Tryz.prog 15 #[.agg (peA zb)] wk fun e w' => ∃ b : Bool, e = .returned (.bool b) ∧ (b = true ↔ Sim (G j) []) ∧ Ext wk w') := fun wk he => rp_IsZero M0 zb (G j) wk (mb0 _) (HXB.out.ext he).pi
   obtain ⟨c, hc⟩ : ∃ c, c + 1 + j + j = m + n := ⟨m + n - 1 - j - j, by have := HJM.out; omega⟩
   have HEO : Hid (Ext W wr) := HE15.out.trans HER.out
   have CMn : Hid (∀ i, i ≤ j → ∀ wk, Ext wr wk → Calls Tryz.prog 25 #[.agg (peA x), .agg (peA y), .int .i64 (J : Int), .int .i64 (j : Int), .int .i64 (i : Int)] wk (RetMx M0 wk (n - j + (m - j)) (c + 1) (mnM J m n j c (i : Int) f g))) := fun i hi wk he => minor_ok25 HT.out HJM.out.1 HJM.out.2 hi hc x y wk (HX.out.ext (HEO.out.trans he)) (HY.out.ext (HEO.out.trans he))
   have CDt : Hid (∀ i, i ≤ j → ∀ wk v base, Mat M0 wk base v (n - j + (m - j)) (c + 1) (mnM J m n j c (i : Int) f g) → Calls Tryz.prog 24 #[v] wk (RetX M0 wk 4 (ck J (i : Int) (F j)))) := fun i hi wk v base hv => by rw [HNF.out.2.1]; exact det_ok25 HT.out HS1.out HS2.out HJM.out.1 HJM.out.2 hi hc wk v base hv
   clear hc HFJ HXA HXB hj12 HRJ
   obtain ⟨wo, rfl⟩ : ∃ wo, wo = wr := ⟨_, rfl⟩
   go_wp2
   go_loopw [18] (fun iv wi => ∃ i : Nat, i ≤ j + 1 ∧ iv = .int .i64 (i : Int) ∧ Hid (Ext wo wi)) (fun iv _ => j + 1 - (intOf iv).toNat)
   case atStart => exact ⟨0, Nat.zero_le _, rfl, HEV.out⟩
   case round =>
    clear HEV
    obtain ⟨i, hi, rfl, HEI⟩ := hrel
    have hi0 : (0 : Int) ≤ (i : Int) := Int.natCast_nonneg _
    by_cases hij : i ≤ j
    ·have hijI : (i : Int) ≤ (j : Int) := by omega
     have HIJ : Hid (i ≤ j) := hij
     have HPi : Hid (SK4 ga gb (j * 4) g0 za zb x y wr.drew) := SK4.ext HSR.out (HEI.out.trans (Ext.refl _).drew)
     have HDI : Hid (Ext wo wr.drew) := HEI.out.trans (Ext.refl _).drew
     clear hi hij HEI
     go_upto_region 27 with (fail)
     refine wp_region_u (SK4 ga gb (j * 4) g0 za zb x y) 16 (by kernel_rfl) HPi.out (fun hHeld => ?_)
     generalize wr.drew = wd at *
     (refine tkB [0, 1, 2, 3, 4, 5, 7, 8, 9, 10, 11] ?_; (iterate 11 (refine tk1 (oi := ?_) (v := ?_) (by kernel_rfl) (by first | exact hSn | exact hHeld) ?_ ?_ ?_ ?_ ?_; rotate_left 2; (simp only [xgA, xgB, xgC]; rfl); rfl; (intro wS hSw; obtain ⟨⟨⟨A0, A1, A2, A3⟩, A4⟩, ⟨⟨B0, B1, B2, B3⟩, B4⟩, ⟨C0, C1, C2, C3⟩, D0, D1, D2, D3⟩ := hSw; go_simp; try with_reducible rfl); (exact fun _ _ _ h => h); (try simp only [Act.put, xgD, xgE, xgF]))); refine tkE ?_)
     ((refine wpAnyU_one 6 (o := ?_) (by kernel_rfl) ?_ ?_; rotate_left 1; (simp only [xgA, xgB, xgC]; rfl); intro K hK); go_simp; (refine (CCo.out i wd HDI.out).mono ?_); rintro e_ v1 ⟨u, rfl, hu, e1⟩; go_wp2_with (fail); (try clear hSn); (have hSn := hHeld.ext e1); (refine hK.out _ _ (fun _ => hSn) ?_); clear hK K; (try simp only [Act.put, xgD, xgE, xgF]))
     ((refine wpAnyU_one 12 (o := ?_) (by kernel_rfl) ?_ ?_; rotate_left 1; (simp only [xgA, xgB, xgC]; rfl); intro K hK); go_simp; (refine (CMn.out i HIJ.out v1 (HDI.out.trans e1)).mono ?_); rintro e_ v2 ⟨ma, mc, mb, rfl, _, hmt, e2⟩; go_wp2_with (fail); (try clear hSn); (have hSn := hHeld.ext (e1.trans e2)); (refine hK.out _ _ (fun _ => hSn) ?_); clear hK K; (try simp only [Act.put, xgD, xgE, xgF]))
     ((refine wpAnyU_one 13 (o := ?_) (by kernel_rfl) ?_ ?_; rotate_left 1; (simp only [xgA, xgB, xgC]; rfl); intro K hK); go_simp; (refine (CDt.out i HIJ.out v2 _ mb hmt).mono ?_); rintro e_ v3 ⟨v, rfl, hv, e3⟩; go_wp2_with (fail); (try clear hSn); (have hSn := hHeld.ext ((e1.trans e2).trans e3)); (refine hK.out _ _ (fun _ => hSn) ?_); clear hK K; (try simp only [Act.put, xgD, xgE, xgF]))
     have CSi := Lib.hid (same_b u v (ck J (i : Int) (F j)) (ck J (i : Int) (F j)) v3 true (hu.ext (e2.trans e3)).pi hv.pi (by simp [Sim.refl]))
     clear hmt
     ((refine wpAnyU_one 14 (o := ?_) (by kernel_rfl) ?_ ?_; rotate_left 1; (simp only [xgA, xgB, xgC]; rfl); intro K hK); go_simp; (refine (CSi.out).mono ?_); rintro e_ v4 ⟨rfl, e4⟩; go_wp2_with (fail); (try clear hSn); (have hSn := hHeld.ext (((e1.trans e2).trans e3).trans e4)); (refine hK.out _ _ (fun _ => hSn) ?_); clear hK K; (try simp only [Act.put, xgD, xgE, xgF]))
     (refine tkB [15] ?_; (iterate 1 (refine tk1 (oi := ?_) (v := ?_) (by kernel_rfl) (by first | exact hSn | exact hHeld) ?_ ?_ ?_ ?_ ?_; rotate_left 2; (simp only [xgA, xgB, xgC]; rfl); rfl; (intro wS hSw; obtain ⟨⟨⟨A0, A1, A2, A3⟩, A4⟩, ⟨⟨B0, B1, B2, B3⟩, B4⟩, ⟨C0, C1, C2, C3⟩, D0, D1, D2, D3⟩ := hSw; go_simp; try with_reducible rfl); (exact fun _ _ _ h => h); (try simp only [Act.put, xgD, xgE, xgF]))); refine tkE ?_)
     refine wpAnyU_done (by kernel_rfl) ?_ _
     have HF := Lib.hid (HDI.out.trans (((e1.trans e2).trans e3).trans e4))
     clear hHeld hSn e1 e2 e3 e4 hu hv CSi HPi HDI
     go_wp2
     go_roundw
     case rel => exact ⟨i + 1, by have := HIJ.out; omega, by go_num, HF.out⟩
     case measure => have := HIJ.out; simp [intOf]; omega
    ·have hijI : ¬ (i : Int) ≤ (j : Int) := by omega
     obtain ⟨⟨⟨A0, A1, A2, A3⟩, A4⟩, ⟨⟨B0, B1, B2, B3⟩, B4⟩, ⟨C0, C1, C2, C3⟩, D0, D1, D2, D3⟩ := SK4.ext HSR.out HEI.out
     clear A0 A1 A2 A3 A4 B4 C0 C1 C2 C3 D0 D1 D2 D3 CMn CDt CCo hi hij
     have hwj : IntKind.i64.wrap ((j : Int) - 1) = (j : Int) - 1 := IntWalk.i64_in _ (by omega)
     go_wp2_with (fail)
     refine (CZJ.out wr HEI.out).mono ?_
     rintro e w9 ⟨bz, rfl, hb, e9⟩
     have HE9 := Lib.hid (HER.out.trans (HEI.out.trans e9))
     clear B0 B1 B2 B3 e9 HEI HER CZJ HSR
     cases bz with
     | true =>
      have HG0 := Lib.hid (hb.1 rfl)
      clear hb
      go_wp2
      go_roundw
      case rel => exact ⟨j, l, _, by have := HJ.out; omega, HJ.out.2.2, by have := HJ.out; omega, rfl, rfl, rfl, fun i h1 h2 => by
       by_cases e : i = j
       ·rw [e]; exact HG0.out
       ·exact HZ.out i (by omega) h2, HNZ.out, HE9.out⟩
      case measure => simp [intOf]
     | false =>
      have HG0 : Hid (¬ Sim (G j) []) := fun h => absurd (hb.2 h) (by decide)
      clear hb
      go_wp2
      go_roundw
      case rel => exact ⟨j, j, _, by have := HJ.out; omega, by have := HJ.out; omega, Nat.le_refl _, rfl, rfl, rfl, fun i h1 h2 => by omega, fun _ => HG0.out, HE9.out⟩
      case measure => simp [intOf]
end Go.Proofs.YtjhhekmfdhfjpaaGreat
