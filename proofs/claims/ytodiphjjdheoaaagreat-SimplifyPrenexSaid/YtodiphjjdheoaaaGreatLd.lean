/- cylinderref38.Equal of simple matrices. -/
import Derived.Test.YtodiphjjdheoaaaGreatIb
import Derived.Test.YtodiphjjdheoaaaGreatHd
set_option linter.unusedVariables false
set_option linter.unusedSimpArgs false

namespace Go.Proofs.YtodiphjjdheoaaaGreat
open Go.RowKit

def SEq (g g' : Nat) (v v' : Value) (b o b' o' : Nat) (z z' : MX) (w : World) : Prop := w.cell? ⟨g, 6, none⟩ = some v ∧ w.cell? ⟨g', 6, none⟩ = some v' ∧ MxC w b o z ∧ MxC w b' o' z'
theorem SEq.ext {g g' : Nat} {v v' : Value} {b o b' o' : Nat} {z z' : MX} {w w' : World} (h : SEq g g' v v' b o b' o' z z' w) (he : Ext w w') : SEq g g' v v' b o b' o' z z' w' := by
 have hb := World.block_lt_of_cell? _ _ h.1
 have hb' := World.block_lt_of_cell? _ _ h.2.1
 exact ⟨by rw [he.cell hb]; exact h.1, by rw [he.cell hb']; exact h.2.1, h.2.2.1.ext he, h.2.2.2.ext he⟩
def EqM (f : Nat) : Prop := ∀ (ya yb : MX) (ta tb : TM) (w : World), TMc true f M0 w ya ta → TMc true f M0 w yb tb → Calls Tryz.prog 26 #[.agg ya.A, .agg yb.A] w fun e w' => e = .returned (.bool (eqT ta tb)) ∧ Ext w w'
set_option maxRecDepth 100000 in
set_option maxHeartbeats 16000000 in
theorem eqM_walk (f : Nat) (ih : EqM f) : EqM (f + 1) := by
 intro ya yb ta tb w ha hb
 obtain ⟨⟨a1, a2, a3, a4⟩, a5⟩ := ha
 obtain ⟨⟨b1, b2, b3, b4⟩, b5⟩ := hb
 have a4 : CRx M0 w 4 ya.x ta.l ∧ NodeOk ta := a4
 have b4 : CRx M0 w 4 yb.x tb.l ∧ NodeOk tb := b4
 obtain ⟨ka1, ka2, ka3, kk, hk⟩ := a5
 obtain ⟨kb1, kb2, kb3, kk', hk'⟩ := b5
 have CP : Hid (∀ W, Ext w W → Calls Tryz.prog 20 #[.agg (peA ya.x), .agg (peA yb.x)] W fun e w' => e = .returned (.bool (simB ta.l tb.l)) ∧ Ext W w') := fun W he => rf_samePolyB 4 M0 ta.l tb.l ya.x yb.x W (a4.1.ext he) (b4.1.ext he)
 have hbl : simB ta.l tb.l = true ↔ ta.l = tb.l := (simB_iff a4.1.nn b4.1.nn).trans ⟨fun h => by have := h.norm; rwa [a4.2.1, b4.2.1] at this, fun h => by rw [h]; exact Sim.refl _⟩
 obtain ⟨F, hF⟩ : ∃ F : Nat → Bool, ∀ i, eqT (kat ta.ks i) (kat tb.ks i) = F i := ⟨_, fun _ => rfl⟩
 have HK : Hid (∀ i, i < ya.n → i < yb.n → ∃ b off b' off' z z', ya.a = some ⟨b, off, none⟩ ∧ yb.a = some ⟨b', off', none⟩ ∧ MxC w b (off + i * 7) z ∧ MxC w b' (off' + i * 7) z' ∧
   (∀ W, Ext w W → Calls Tryz.prog 26 #[.agg z.A, .agg z'.A] W fun e w' => e = .returned (.bool (F i)) ∧ Ext W w')) := fun i hi hj => by
  obtain ⟨⟨b, off, e1, _, c1⟩, t1⟩ := hk i hi
  obtain ⟨⟨b', off', e2, _, c2⟩, t2⟩ := hk' i hj
  exact ⟨b, off, b', off', _, _, e1, e2, c1, c2, fun W hW => by rw [← hF]; exact ih _ _ _ _ W (t1.ext hW) (t2.ext hW)⟩
 have HFA : Hid (¬ (ya.kd = yb.kd ∧ ya.rl = yb.rl ∧ ya.n = yb.n ∧ simB ta.l tb.l = true ∧ ∀ i, i < ya.n → F i = true) → eqT ta tb = false) := fun hq => eqT_false fun e => hq ⟨by rw [a1, b1, e], by rw [a2, b2, e], by rw [ka1, kb1, e], hbl.2 (by rw [e]), fun i _ => by rw [← hF, e]; exact eqT_true.2 rfl⟩
 have HTR : Hid (ya.kd = yb.kd → ya.rl = yb.rl → ya.n = yb.n → simB ta.l tb.l = true → (∀ i, i < ya.n → F i = true) → eqT ta tb = true) := fun h1 h2 h3 h4 h5 => by
  have e : ta.ks = tb.ks := kat_ext (by rw [← ka1, ← kb1, h3]) fun i hi => eqT_true.1 (by rw [hF]; exact h5 i (by rw [ka1]; exact hi))
  rw [eqT_true, ta.eta, tb.eta, ← a1, ← a2, ← b1, ← b2, h1, h2, hbl.1 h4, e]
 have hX := ((Ext.refl w).alloc (.cells ya.A 32)).alloc (.cells yb.A 32)
 have hB : SMM w.heap.size (w.heap.size + 1) ya yb ((w.alloc (.cells ya.A 32)).alloc (.cells yb.A 32)) := new_mx2 w ya yb
 generalize eqT ta tb = ans at *
 generalize simB ta.l tb.l = bl at *
 clear a1 a2 a3 a4 b1 b2 b3 b4 ka1 kb1 hk hk' hbl hF ih
 unfold maxLen at ka3 kb3
 generalize hW : (w.alloc (.cells ya.A 32)).alloc (.cells yb.A 32) = W at *
 have HW := Lib.hid hW
 have HX := Lib.hid hX
 have HB := Lib.hid hB
 clear hW hX hB
 obtain ⟨⟨x0, x1, x2, x3, x4, x5, x6⟩, y0, y1, y2, y3, y4, y5, y6⟩ := HB.out
 by_cases hkd : ya.kd = yb.kd
 rotate_left
 ·have h1 : (ya.kd != yb.kd) = true := by simpa using hkd
  have HF : Hid (ans = false) := HFA.out fun hq => hkd hq.1
  clear hkd CP HK HFA HTR
  go_enter Tryz.func26, Tryz.ntmps26
  go_upto_region 1 with (fail)
  rw [HW.out]
  generalize w.heap.size = g at *
  go_wp2
  go_ret
  exact ⟨by rw [HF.out]; rfl, HX.out⟩
 have h1 : (ya.kd != yb.kd) = false := by simpa using hkd
 by_cases hrl : ya.rl = yb.rl
 rotate_left
 ·have h2 : (ya.rl != yb.rl) = true := by simpa using hrl
  have HF : Hid (ans = false) := HFA.out fun hq => hrl hq.2.1
  clear hkd hrl CP HK HFA HTR
  go_enter Tryz.func26, Tryz.ntmps26
  go_upto_region 1 with (fail)
  rw [HW.out]
  generalize w.heap.size = g at *
  go_wp2
  go_ret
  exact ⟨by rw [HF.out]; rfl, HX.out⟩
 have h2 : (ya.rl != yb.rl) = false := by simpa using hrl
 by_cases hnn : ya.n = yb.n
 rotate_left
 ·have h3 : ((ya.n : Int) != (yb.n : Int)) = true := by simp; omega
  have HF : Hid (ans = false) := HFA.out fun hq => hnn hq.2.2.1
  clear hkd hrl hnn CP HK HFA HTR
  go_enter Tryz.func26, Tryz.ntmps26
  go_upto_region 1 with (fail)
  rw [HW.out]
  generalize w.heap.size = g at *
  go_wp2
  go_ret
  exact ⟨by rw [HF.out]; rfl, HX.out⟩
 have h3 : ((ya.n : Int) != (yb.n : Int)) = false := by simp; omega
 have HAL : Hid (bl = true → (∀ i, i < ya.n → F i = true) → ans = true) := HTR.out hkd hrl hnn
 have HNB : Hid (bl = false → ans = false) := fun hf => HFA.out fun hq => by rw [hq.2.2.2.1] at hf; cases hf
 have HNO : Hid (∀ i, i < ya.n → F i = false → ans = false) := fun i hi hf => HFA.out fun hq => by rw [hq.2.2.2.2 i hi] at hf; cases hf
 have HK2 : Hid (∀ i, i < ya.n → ∃ b off b' off' z z', ya.a = some ⟨b, off, none⟩ ∧ yb.a = some ⟨b', off', none⟩ ∧ MxC w b (off + i * 7) z ∧ MxC w b' (off' + i * 7) z' ∧
   (∀ W, Ext w W → Calls Tryz.prog 26 #[.agg z.A, .agg z'.A] W fun e w' => e = .returned (.bool (F i)) ∧ Ext W w')) := fun i hi => HK.out i hi (by omega)
 have HNN := Lib.hid hnn
 clear hkd hrl hnn HK HFA HTR
 go_enter Tryz.func26, Tryz.ntmps26
 go_upto_region 1 with (fail)
 rw [HW.out]
 generalize w.heap.size = g at *
 clear HW
 go_wp2_with (fail)
 refine (CP.out _ HX.out).mono ?_
 rintro e w2 ⟨rfl, he2⟩
 have HX2 := Lib.hid (HX.out.trans he2)
 have HB2 := Lib.hid (HB.out.ext he2)
 clear he2 CP HB HX x0 x1 x2 x3 x4 x5 x6 y0 y1 y2 y3 y4 y5 y6
 obtain ⟨⟨x0, x1, x2, x3, x4, x5, x6⟩, y0, y1, y2, y3, y4, y5, y6⟩ := HB2.out
 cases bl
 ·have HF := Lib.hid (HNB.out rfl)
  clear HNB HAL HNO HK2
  go_wp2
  go_ret
  exact ⟨by rw [HF.out]; rfl, HX2.out⟩
 have HAL2 := Lib.hid (HAL.out rfl)
 obtain ⟨yn, hyn⟩ : ∃ g, g = ya.n := ⟨_, rfl⟩
 obtain ⟨yan, hyan⟩ : ∃ g, g = ya.a := ⟨_, rfl⟩
 obtain ⟨yban, hyban⟩ : ∃ g, g = yb.a := ⟨_, rfl⟩
 rw [← HNN.out] at y6 kb2
 rw [← hyn, ← hyban] at y6
 rw [← hyn, ← hyan] at x6
 rw [← hyn] at HNO HAL2 ka2 kb2
 rw [← hyn, ← hyan, ← hyban] at HK2
 have HX6 := Lib.hid x6
 have HY6 := Lib.hid y6
 have hn1 : yn ≤ 9223372036854775807 := by omega
 clear HAL HNB hyn hyan hyban HNN x0 x1 x2 x3 x4 x5 y0 y1 y2 y3 y4 y5 y6 h1 h2 h3 HB2
 go_wp2
 clear x6
 go_loopw [38] (fun iv wr => ∃ (j : Nat), j ≤ yn ∧ iv = .int .i64 (j : Int) ∧ Hid (∀ i, i < j → F i = true) ∧ Hid (Ext w2 wr)) (fun iv _ => yn - (intOf iv).toNat)
 case atStart => exact ⟨0, Nat.zero_le _, rfl, fun i hi => absurd hi (Nat.not_lt_zero _), Ext.refl _⟩
 case round =>
  obtain ⟨j, hj, rfl, HQ, HR⟩ := hrel
  by_cases hlt : j < yn
  ·obtain ⟨b, off, b', off', z, z', rfl, rfl, c1, c2, hC⟩ := HK2.out j hlt
   have hXd := HR.out.trans (Ext.refl wr).drew
   have hXw := HX2.out.trans hXd
   have hS : SEq g (g + 1) (.slice (some ⟨b, off, none⟩) yn ya.p) (.slice (some ⟨b', off', none⟩) yn yb.p) b (off + j * 7) b' (off' + j * 7) z z' wr.drew := ⟨by rw [hXd.cell (World.block_lt_of_cell? _ _ HX6.out)]; exact HX6.out, by rw [hXd.cell (World.block_lt_of_cell? _ _ HY6.out)]; exact HY6.out, c1.ext hXw, c2.ext hXw⟩
   have CT := Lib.hid (hC wr.drew hXw)
   have HXD := Lib.hid hXd
   have HXW := Lib.hid hXw
   have HLT := Lib.hid hlt
   have hltI : (j : Int) < (yn : Int) := by omega
   clear c1 c2 hC hXd hXw hlt HR
   go_upto_region 6 with (fail)
   refine wp_region_u (SEq g (g + 1) (.slice (some ⟨b, off, none⟩) yn ya.p) (.slice (some ⟨b', off', none⟩) yn yb.p) b (off + j * 7) b' (off' + j * 7) z z') 12 (by kernel_rfl) hS (fun hHeld => ?_)
   generalize wr.drew = wd at *
   (refine tkB [0, 1, 2, 3, 4, 5, 6, 7, 8, 9] ?_; (iterate 10 (refine tk1 (oi := ?_) (v := ?_) (by kernel_rfl) (by first | exact hSn | exact hHeld) ?_ ?_ ?_ ?_ ?_; rotate_left 2; (simp only [xgA, xgB, xgC]; rfl); rfl; (intro wS hSw; obtain ⟨A6, B6, ⟨C0, C1, C2, C3, C4, C5, C6⟩, D0, D1, D2, D3, D4, D5, D6⟩ := hSw; go_simp; try with_reducible rfl); (exact fun _ _ _ h => h); (try simp only [Act.put, xgD, xgE, xgF]))); refine tkE ?_)
   ((refine wpAnyU_one 10 (o := ?_) (by kernel_rfl) ?_ ?_; rotate_left 1; (simp only [xgA, xgB, xgC]; rfl); intro K hK); go_simp; (refine (CT.out).mono ?_); rintro e_ u6 ⟨rfl, d6⟩; go_wp2_with (fail); (try clear hSn); (have hSn := hHeld.ext d6); (refine hK.out _ _ (fun _ => hSn) ?_); clear hK K; (try simp only [Act.put, xgD, xgE, xgF]))
   (refine tkB [11] ?_; (iterate 1 (refine tk1 (oi := ?_) (v := ?_) (by kernel_rfl) (by first | exact hSn | exact hHeld) ?_ ?_ ?_ ?_ ?_; rotate_left 2; (simp only [xgA, xgB, xgC]; rfl); rfl; (intro wS hSw; obtain ⟨A6, B6, ⟨C0, C1, C2, C3, C4, C5, C6⟩, D0, D1, D2, D3, D4, D5, D6⟩ := hSw; go_simp; try with_reducible rfl); (exact fun _ _ _ h => h); (try simp only [Act.put, xgD, xgE, xgF]))); refine tkE ?_)
   refine wpAnyU_done (by kernel_rfl) ?_ _
   have HX7 := Lib.hid (HXD.out.trans d6)
   have HX8 := Lib.hid (HXW.out.trans d6)
   clear d6 hSn hHeld hS CT HXD HXW
   cases hs : F j
   ·have HF := Lib.hid (HNO.out j HLT.out hs)
    clear hs HQ
    go_wp2
    go_ret
    exact ⟨by rw [HF.out]; rfl, HX8.out⟩
   ·have HQ2 : Hid (∀ i, i < j + 1 → F i = true) := fun i hi => by
     by_cases hij : i = j
     ·rw [hij]; exact hs
     ·exact HQ.out i (by omega)
    clear hs HQ
    go_wp2
    go_roundw
    case rel => exact ⟨j + 1, HLT.out, by go_num, HQ2.out, HX7.out⟩
    case measure => have := HLT.out; simp [intOf]; omega
  ·obtain rfl : j = yn := by omega
   have hge : ¬ (j : Int) < (j : Int) := by omega
   have HF := Lib.hid (HAL2.out HQ.out)
   have HG := Lib.hid (HX2.out.trans HR.out)
   clear HQ
   go_wp2
   go_ret
   exact ⟨by rw [HF.out]; rfl, HG.out⟩
theorem rf_equalM : ∀ f, EqM f
 | 0 => fun _ _ _ _ _ h => h.elim
 | f + 1 => eqM_walk f (rf_equalM f)
end Go.Proofs.YtodiphjjdheoaaaGreat
