/- cylinderref38.FewForm, EqualForms. cylinderref38.EqualForms at equal forms. SimplifyPrenex: the walk. -/
import Derived.Test.YtodiphjjdheoaaaGreatPa
import Derived.Test.YtodiphjjdheoaaaGreatLd
set_option linter.unusedVariables false
set_option linter.unusedSimpArgs false

namespace Go.Proofs.YtodiphjjdheoaaaGreat
open Go.RowKit

set_option maxRecDepth 100000 in
theorem rf_few60 (m : MT 12) (w : World) (hP : PMs w 12 m) : Calls Tryz.prog 49 #[.agg (MT.me 12 m).A, .int .i64 60] w fun e w' => e = .returned (.bool (decide (0 ≤ roomM 12 m 60))) ∧ Ext w w' := by
 have CR : Hid (∀ W', Ext w W' → Calls Tryz.prog 102 #[.agg (MT.me 12 m).A, .int .i64 60, .int .i64 12] W' fun e w' => e = .returned (.int .i64 (roomM 12 m 60)) ∧ Ext W' w') := fun W' he => rf_roomM 12 (by omega) m 60 W' (PMs.ext he hP) (by omega) (by omega)
 clear hP
 generalize roomM 12 m 60 = r at *
 generalize MT.me 12 m = y at *
 have HE := Lib.hid ((Ext.refl w).alloc (.cells y.A 32))
 obtain ⟨x0, x1, x2, x3, x4, x5, x6⟩ := new_m7 w y
 have CT := Lib.hid (CR.out _ HE.out)
 generalize hW : w.alloc (.cells y.A 32) = W at *
 have HW := Lib.hid hW
 clear hW
 go_enter Tryz.func49, Tryz.ntmps49
 go_upto_region 1 with (fail)
 rw [HW.out]
 go_wp2_with (fail)
 refine CT.out.mono ?_
 rintro e w1 ⟨rfl, he1⟩
 have HF := Lib.hid (HE.out.trans he1)
 clear CT HE he1 CR
 by_cases hr : 0 ≤ r
 ·have HD : Hid (decide (0 ≤ r) = true) := decide_eq_true hr
  go_wp2
  exact bodyPost_ret (v := .bool true) (by simp [results, Tryz.results49, go_sem]) rfl ⟨by rw [HD.out], HF.out⟩
 ·have HD : Hid (decide (0 ≤ r) = false) := decide_eq_false hr
  have hr2 : r < 0 := by omega
  go_wp2
  exact bodyPost_ret (v := .bool false) (by simp [results, Tryz.results49, go_sem, hr2]) rfl ⟨by rw [HD.out], HF.out⟩
def RetFw (P : Prop) (w : World) (e : Ending) (w' : World) : Prop := ∃ b, e = .returned (.bool b) ∧ (b = true → P) ∧ Ext w w'
theorem RetFw.no {P : Prop} {w w' : World} (he : Ext w w') : RetFw P w (.returned (.bool false)) w' := ⟨false, rfl, fun h => (by cases h), he⟩
set_option maxRecDepth 100000 in
set_option maxHeartbeats 8000000 in
theorem rf_FewForm (q : PF) (m : MT 12) (S : Nat → ByteArray) (w : World) (hP : PMs w 12 m) (hS : VRow M0 w q.na q.nn q.np fun i => .string (S i)) : Calls Tryz.prog 21 #[.agg (q.A (MT.me 12 m).X), .int .i64 60] w (RetFw (q.nn ≤ 8 ∧ q.an ≤ 8 ∧ 0 ≤ roomM 12 m 60) w) := by
 have CF : Hid (∀ W', Ext w W' → Calls Tryz.prog 49 #[.agg (MT.me 12 m).X.A, .int .i64 60] W' fun e w' => e = .returned (.bool (decide (0 ≤ roomM 12 m 60))) ∧ Ext W' w') := fun W' he => rf_few60 m W' (PMs.ext he hP)
 clear hP
 generalize (MT.me 12 m).X = y at *
 generalize roomM 12 m 60 = r at *
 have hX := (Ext.refl w).alloc (.cells (q.A y) 48)
 have HP := Lib.hid (new_pf w q y)
 have HS := Lib.hid (hS.ext hX)
 have hnp := hS.1
 have hmx := hS.2.1
 unfold maxLen at hmx
 generalize hW : w.alloc (.cells (q.A y) 48) = W at *
 have HW := Lib.hid hW
 have HX := Lib.hid hX
 clear hX hW hS
 obtain ⟨fr, aa, an, ap, na, nn, np⟩ := q
 simp only at hnp hmx
 obtain ⟨p0, p1, p2, pm⟩ := HP.out
 simp only at p0 p1 p2
 have HS2 : Hid (∀ i, i < nn → ∃ b off, na = some ⟨b, off, none⟩ ∧ W.cell? ⟨b, off + i, none⟩ = some (.string (S i))) := fun i hi => by
  obtain ⟨b, off, e, _, hc⟩ := HS.out.2.2 i hi
  exact ⟨b, off, e, hc⟩
 have HM : Hid (MxC W w.heap.size 3 y) := pm
 have HP1 := Lib.hid p1
 have HP2 := Lib.hid p2
 clear HS HP pm
 show Calls Tryz.prog 21 #[.agg (PF.A ⟨fr, aa, an, ap, na, nn, np⟩ y), .int .i64 60] w (RetFw (nn ≤ 8 ∧ an ≤ 8 ∧ 0 ≤ r) w)
 go_enter Tryz.func21, Tryz.ntmps21
 go_upto_region 1 with (fail)
 rw [HW.out]
 generalize w.heap.size = g at *
 clear HW
 go_wp2
 clear p0 p1 p2
 go_loopw [9] (fun iv wr => ∃ (j : Nat), j ≤ nn ∧ iv = .int .i64 (j : Int) ∧ Hid (j ≤ 8) ∧ wr = W) (fun iv _ => nn - (intOf iv).toNat)
 case atStart => exact ⟨0, Nat.zero_le _, rfl, Nat.zero_le _, rfl⟩
 case round =>
  obtain ⟨j, hj, rfl, HJ8, rfl⟩ := hrel
  by_cases hlt : j < nn
  ·have hltI : (j : Int) < (nn : Int) := by omega
   have p2 := HP2.out
   by_cases h8 : (8 : Int) ≤ (j : Int)
   ·go_wp2
    go_ret
    exact RetFw.no HX.out
   obtain ⟨b, off, rfl, hc⟩ := HS2.out j hlt
   by_cases h40 : (40 : Int) < ((S j).size : Int)
   ·go_wp2
    go_ret
    exact RetFw.no HX.out
   ·have HJ9 : Hid (j + 1 ≤ 8) := by show j + 1 ≤ 8; omega
    have HLT := Lib.hid hlt
    go_wp2
    go_roundw
    case rel => exact ⟨j + 1, HLT.out, by go_num, HJ9.out, by first | rfl | trivial⟩
    case measure => have := HLT.out; simp [intOf]; omega
  ·obtain rfl : j = nn := by omega
   have hge : ¬ (j : Int) < (j : Int) := by omega
   have p1 := HP1.out
   obtain ⟨x0, x1, x2, x3, x4, x5, x6⟩ := HM.out
   by_cases h8 : (an : Int) ≤ 8
   ·have H8 : Hid (an ≤ 8) := by show an ≤ 8; omega
    go_wp2_with (fail)
    refine (CF.out _ HX.out).mono ?_
    rintro e w2 ⟨rfl, he2⟩
    have HF : Hid (RetFw (j ≤ 8 ∧ an ≤ 8 ∧ 0 ≤ r) w (.returned (.bool (decide (0 ≤ r)))) w2) := ⟨_, rfl, fun h => ⟨HJ8.out, H8.out, of_decide_eq_true h⟩, HX.out.trans he2⟩
    generalize decide (0 ≤ r) = br at *
    clear he2
    go_wp2
    go_ret
    exact HF.out
   ·go_wp2
    go_ret
    exact RetFw.no HX.out
end Go.Proofs.YtodiphjjdheoaaaGreat

namespace Go.Proofs.YtodiphjjdheoaaaGreat
open Go.RowKit

def SVr (g g' o : Nat) (v v' : Value) (b c b' c' : Nat) (u : Value) (w : World) : Prop := w.cell? ⟨g, o, none⟩ = some v ∧ w.cell? ⟨g', o, none⟩ = some v' ∧ w.cell? ⟨b, c, none⟩ = some u ∧ w.cell? ⟨b', c', none⟩ = some u
theorem SVr.ext {g g' o : Nat} {v v' : Value} {b c b' c' : Nat} {u : Value} {w w' : World} (h : SVr g g' o v v' b c b' c' u w) (he : Ext w w') : SVr g g' o v v' b c b' c' u w' := by
 obtain ⟨h1, h2, h3, h4⟩ := h
 exact ⟨by rw [he.cell (World.block_lt_of_cell? _ _ h1)]; exact h1, by rw [he.cell (World.block_lt_of_cell? _ _ h2)]; exact h2, by rw [he.cell (World.block_lt_of_cell? _ _ h3)]; exact h3, by rw [he.cell (World.block_lt_of_cell? _ _ h4)]; exact h4⟩
set_option maxRecDepth 100000 in
set_option maxHeartbeats 16000000 in
theorem rf_EqualForms (q q' : PF) (u u' : MX) (s : TM) (B : Nat → Bool) (S : Nat → ByteArray) (w : World) (h1 : q'.fr = q.fr) (h2 : q'.an = q.an) (h3 : q'.nn = q.nn) (hB : VRow M0 w q.aa q.an q.ap fun i => .bool (B i)) (hB' : VRow M0 w q'.aa q'.an q'.ap fun i => .bool (B i))
  (hS : VRow M0 w q.na q.nn q.np fun i => .string (S i)) (hS' : VRow M0 w q'.na q'.nn q'.np fun i => .string (S i)) (hu : TMc true 12 M0 w u s) (hu' : TMc true 12 M0 w u' s) :
  Calls Tryz.prog 23 #[.agg (q.A u), .agg (q'.A u')] w fun e w' => e = .returned (.bool true) ∧ Ext w w' := by
 have hX := ((Ext.refl w).alloc (.cells (q.A u) 48)).alloc (.cells (q'.A u') 48)
 have hP := (new_pf w q u).ext ((Ext.refl _).alloc (.cells (q'.A u') 48))
 have hP' := new_pf (w.alloc (.cells (q.A u) 48)) q' u'
 simp only [World.size_alloc] at hP'
 have CE : Hid (∀ W', Ext w W' → Calls Tryz.prog 26 #[.agg u.A, .agg u'.A] W' fun e w' => e = .returned (.bool true) ∧ Ext W' w') := fun W' he => by
  refine (rf_equalM 12 u u' s s W' (hu.ext he) (hu'.ext he)).mono ?_
  rintro e w' ⟨rfl, h⟩
  exact ⟨by rw [eqT_true.2 rfl], h⟩
 obtain ⟨fr, aa, an, ap, na, nn, np⟩ := q
 obtain ⟨fr', aa', an', ap', na', nn', np'⟩ := q'
 simp only at h1 h2 h3
 subst h1 h2 h3
 have HBR : Hid (∀ i, i < an' → ∃ b off b' off', aa = some ⟨b, off, none⟩ ∧ aa' = some ⟨b', off', none⟩ ∧ w.cell? ⟨b, off + i, none⟩ = some (.bool (B i)) ∧ w.cell? ⟨b', off' + i, none⟩ = some (.bool (B i))) := fun i hi => by
  obtain ⟨b, off, e, _, hc⟩ := hB.2.2 i hi
  obtain ⟨b', off', e', _, hc'⟩ := hB'.2.2 i hi
  exact ⟨b, off, b', off', e, e', hc, hc'⟩
 have HSR : Hid (∀ i, i < nn' → ∃ b off b' off', na = some ⟨b, off, none⟩ ∧ na' = some ⟨b', off', none⟩ ∧ w.cell? ⟨b, off + i, none⟩ = some (.string (S i)) ∧ w.cell? ⟨b', off' + i, none⟩ = some (.string (S i))) := fun i hi => by
  obtain ⟨b, off, e, _, hc⟩ := hS.2.2 i hi
  obtain ⟨b', off', e', _, hc'⟩ := hS'.2.2 i hi
  exact ⟨b, off, b', off', e, e', hc, hc'⟩
 have ma : an' ≤ 9223372036854775807 := by have g1 := hB.1; have g2 := hB.2.1; unfold maxLen at g2; simp only at g1 g2; omega
 have mn : nn' ≤ 9223372036854775807 := by have g1 := hS.1; have g2 := hS.2.1; unfold maxLen at g2; simp only at g1 g2; omega
 have pa : an' ≤ ap := hB.1
 have pa' : an' ≤ ap' := hB'.1
 have pn : nn' ≤ np := hS.1
 have pn' : nn' ≤ np' := hS'.1
 clear hB hB' hS hS' hu hu'
 generalize hW : (w.alloc (.cells (PF.A ⟨fr', aa, an', ap, na, nn', np⟩ u) 48)).alloc (.cells (PF.A ⟨fr', aa', an', ap', na', nn', np'⟩ u') 48) = W at *
 have HW := Lib.hid hW
 have HX := Lib.hid hX
 obtain ⟨x0, x1, x2, xm⟩ := hP
 obtain ⟨y0, y1, y2, ym⟩ := hP'
 simp only at x0 x1 x2 y0 y1 y2
 have HX1 := Lib.hid x1
 have HX2 := Lib.hid x2
 have HY1 := Lib.hid y1
 have HY2 := Lib.hid y2
 obtain ⟨a0, a1, a2, a3, a4, a5, a6⟩ := xm
 obtain ⟨b0, b1, b2, b3, b4, b5, b6⟩ := ym
 have hf : (fr' != fr') = false := by simp
 have ha : ((an' : Int) != (an' : Int)) = false := by simp
 have hn : ((nn' : Int) != (nn' : Int)) = false := by simp
 clear hX hW
 go_enter Tryz.func23, Tryz.ntmps23
 go_upto_region 1 with (fail)
 rw [HW.out]
 generalize w.heap.size = g at *
 clear HW
 go_wp2_with (fail)
 refine (CE.out _ HX.out).mono ?_
 rintro e w2 ⟨rfl, he2⟩
 have HX3 := Lib.hid (HX.out.trans he2)
 have HE2 := Lib.hid he2
 clear he2 CE x0 x2 y0 y1 y2 a0 a1 a2 a3 a4 a5 a6 b0 b1 b2 b3 b4 b5 b6
 have x1 : w2.cell? ⟨g, 1, none⟩ = some (.slice aa an' ap) := by rw [HE2.out.cell (World.block_lt_of_cell? _ _ HX1.out)]; exact HX1.out
 go_wp2
 clear x1
 go_loopw [41] (fun iv wr => ∃ (j : Nat), j ≤ an' ∧ iv = .int .i64 (j : Int) ∧ Hid (Ext w2 wr)) (fun iv _ => an' - (intOf iv).toNat)
 case atStart => exact ⟨0, Nat.zero_le _, rfl, Ext.refl _⟩
 case round =>
  obtain ⟨j, hj, rfl, HR⟩ := hrel
  by_cases hlt : j < an'
  ·obtain ⟨b, off, b', off', rfl, rfl, hc, hc'⟩ := HBR.out j hlt
   have hXd := HE2.out.trans (HR.out.trans (Ext.refl wr).drew)
   have hXw := HX.out.trans hXd
   have hS : SVr g (g + 1) 1 (.slice (some ⟨b, off, none⟩) an' ap) (.slice (some ⟨b', off', none⟩) an' ap') b (off + j) b' (off' + j) (.bool (B j)) wr.drew := ⟨by rw [hXd.cell (World.block_lt_of_cell? _ _ HX1.out)]; exact HX1.out, by rw [hXd.cell (World.block_lt_of_cell? _ _ HY1.out)]; exact HY1.out, by rw [hXw.cell (World.block_lt_of_cell? _ _ hc)]; exact hc, by rw [hXw.cell (World.block_lt_of_cell? _ _ hc')]; exact hc'⟩
   have HXD := Lib.hid (HR.out.trans (Ext.refl wr).drew)
   have HLT := Lib.hid hlt
   have hltI : (j : Int) < (an' : Int) := by omega
   have kw2 : IntKind.i64.wrap (j : Int) = j := IntWalk.i64_in _ (by omega)
   clear hc hc' hXd hXw hlt HR
   generalize B j = bj at *
   have hbb : (bj != bj) = false := by simp
   go_upto_region 6 with (fail)
   refine wp_region_u (SVr g (g + 1) 1 (.slice (some ⟨b, off, none⟩) an' ap) (.slice (some ⟨b', off', none⟩) an' ap') b (off + j) b' (off' + j) (.bool bj)) 11 (by kernel_rfl) hS (fun hHeld => ?_)
   generalize wr.drew = wd at *
   (refine tkB [0, 1, 2, 3, 4, 5, 6, 7, 8, 9, 10] ?_; (iterate 11 (refine tk1 (oi := ?_) (v := ?_) (by kernel_rfl) (by first | exact hSn | exact hHeld) ?_ ?_ ?_ ?_ ?_; rotate_left 2; (simp only [xgA, xgB, xgC]; rfl); rfl; (intro wS hSw; obtain ⟨S1, S2, S3, S4⟩ := hSw; go_simp; try with_reducible rfl); (exact fun _ _ _ h => h); (try simp only [Act.put, xgD, xgE, xgF]))); refine tkE ?_)
   refine wpAnyU_done (by kernel_rfl) ?_ _
   clear hHeld hS
   go_wp2
   go_roundw
   case rel => exact ⟨j + 1, HLT.out, by go_num, HXD.out⟩
   case measure => have := HLT.out; simp [intOf]; omega
  ·obtain rfl : j = an' := by omega
   have hge : ¬ (j : Int) < (j : Int) := by omega
   have HE3 := Lib.hid (HE2.out.trans HR.out)
   have x2 : wr.cell? ⟨g, 2, none⟩ = some (.slice na nn' np) := by rw [HE3.out.cell (World.block_lt_of_cell? _ _ HX2.out)]; exact HX2.out
   go_wp2
   clear x2
   go_loopw [59] (fun iv wr2 => ∃ (k : Nat), k ≤ nn' ∧ iv = .int .i64 (k : Int) ∧ Hid (Ext wr wr2)) (fun iv _ => nn' - (intOf iv).toNat)
   case atStart => exact ⟨0, Nat.zero_le _, rfl, Ext.refl _⟩
   case round =>
    obtain ⟨k, hk, rfl, HR2⟩ := hrel
    by_cases hlt : k < nn'
    ·obtain ⟨b, off, b', off', rfl, rfl, hc, hc'⟩ := HSR.out k hlt
     have hXd := HE3.out.trans (HR2.out.trans (Ext.refl _).drew)
     have hXw := HX.out.trans hXd
     have hS := (⟨by rw [hXd.cell (World.block_lt_of_cell? _ _ HX2.out)]; exact HX2.out, by rw [hXd.cell (World.block_lt_of_cell? _ _ HY2.out)]; exact HY2.out, by rw [hXw.cell (World.block_lt_of_cell? _ _ hc)]; exact hc, by rw [hXw.cell (World.block_lt_of_cell? _ _ hc')]; exact hc'⟩ : SVr g (g + 1) 2 (.slice (some ⟨b, off, none⟩) nn' np) (.slice (some ⟨b', off', none⟩) nn' np') b (off + k) b' (off' + k) (.string (S k)) _)
     have HXD := Lib.hid (HR2.out.trans (Ext.refl _).drew)
     have HLT := Lib.hid hlt
     have hltI : (k : Int) < (nn' : Int) := by omega
     have kw2 : IntKind.i64.wrap (k : Int) = k := IntWalk.i64_in _ (by omega)
     clear hc hc' hXd hXw hlt HR2
     generalize S k = sk at *
     have hbb : (sk.toList == sk.toList) = true := by simp
     go_upto_region 12 with (fail)
     refine wp_region_u (SVr g (g + 1) 2 (.slice (some ⟨b, off, none⟩) nn' np) (.slice (some ⟨b', off', none⟩) nn' np') b (off + k) b' (off' + k) (.string sk)) 11 (by kernel_rfl) hS (fun hHeld => ?_)
     (refine tkB [0, 1, 2, 3, 4, 5, 6, 7, 8, 9, 10] ?_; (iterate 11 (refine tk1 (oi := ?_) (v := ?_) (by kernel_rfl) (by first | exact hSn | exact hHeld) ?_ ?_ ?_ ?_ ?_; rotate_left 2; (simp only [xgA, xgB, xgC]; rfl); rfl; (intro wS hSw; obtain ⟨S1, S2, S3, S4⟩ := hSw; go_simp; try with_reducible rfl); (exact fun _ _ _ h => h); (try simp only [Act.put, xgD, xgE, xgF]))); refine tkE ?_)
     refine wpAnyU_done (by kernel_rfl) ?_ _
     clear hHeld hS
     go_wp2
     go_roundw
     case rel => exact ⟨k + 1, HLT.out, by go_num, HXD.out⟩
     case measure => have := HLT.out; simp [intOf]; omega
    ·obtain rfl : k = nn' := by omega
     have hge2 : ¬ (k : Int) < (k : Int) := by omega
     have HF := Lib.hid (HX.out.trans (HE3.out.trans HR2.out))
     go_wp2
     go_ret
     exact ⟨rfl, HF.out⟩
end Go.Proofs.YtodiphjjdheoaaaGreat

namespace Go.Proofs.YtodiphjjdheoaaaGreat
open Go.RowKit

theorem Blk.matrix {W : World} {g : Nat} {t : TypeId} {q : PF} {y : MX} (h : Blk W g t 10 (arr (q.A y))) : PxC W g q y := ⟨h.cell (i := 0) (by omega), h.cell (i := 1) (by omega), h.cell (i := 2) (by omega), h.cell (i := 3) (by omega), h.cell (i := 4) (by omega), h.cell (i := 5) (by omega), h.cell (i := 6) (by omega), h.cell (i := 7) (by omega), h.cell (i := 8) (by omega), h.cell (i := 9) (by omega)⟩
theorem setM {w W : World} {g : Nat} {t : TypeId} {q : PF} {y : MX} (u : MX) (h : Blk W g t 10 (arr (q.A y))) (hw : w.heap.size ≤ g) (he : Ext w W) : ∃ WA, WA = ((((((W.setCell ⟨g, 3, none⟩ (.int .i64 u.kd)).setCell ⟨g, 4, none⟩ (.int .i64 u.rl)).setCell ⟨g, 5, none⟩ (.int .i64 u.x.lv)).setCell ⟨g, 6, none⟩ (.bool u.x.b)).setCell ⟨g, 7, none⟩ (.slice u.x.a u.x.n u.x.p)).setCell ⟨g, 8, none⟩ (.slice u.x.ka u.x.kn u.x.kp)).setCell ⟨g, 9, none⟩ (.slice u.a u.n u.p) ∧
  (W.frozen? ⟨g, 3, none⟩ = false ∧ W.frozen? ⟨g, 4, none⟩ = false ∧ W.frozen? ⟨g, 5, none⟩ = false ∧ W.frozen? ⟨g, 6, none⟩ = false ∧ W.frozen? ⟨g, 7, none⟩ = false ∧ W.frozen? ⟨g, 8, none⟩ = false ∧ W.frozen? ⟨g, 9, none⟩ = false) ∧ PxC WA g q u ∧ Kp (fun b => b = g) W WA ∧ Ext w WA := by
 have h2 := ((((((h.set 3 (.int .i64 u.kd)).set 4 (.int .i64 u.rl)).set 5 (.int .i64 u.x.lv)).set 6 (.bool u.x.b)).set 7 (.slice u.x.a u.x.n u.x.p)).set 8 (.slice u.x.ka u.x.kn u.x.kp)).set 9 (.slice u.a u.n u.p)
 have hg : (fun b => b = g) g := rfl
 refine ⟨_, rfl, ⟨h.frozen 3, h.frozen 4, h.frozen 5, h.frozen 6, h.frozen 7, h.frozen 8, h.frozen 9⟩, ⟨?_, ?_, ?_, ?_, ?_, ?_, ?_, ?_, ?_, ?_⟩, ((((((Kp.set _ _ hg _).trans (Kp.set _ _ hg _)).trans (Kp.set _ _ hg _)).trans (Kp.set _ _ hg _)).trans (Kp.set _ _ hg _)).trans (Kp.set _ _ hg _)).trans (Kp.set _ _ hg _), ((((((he.set hw _).set hw _).set hw _).set hw _).set hw _).set hw _).set hw _⟩
 ·rw [h2.cell (i := 0) (by omega)]; rfl
 ·rw [h2.cell (i := 1) (by omega)]; rfl
 ·rw [h2.cell (i := 2) (by omega)]; rfl
 ·rw [h2.cell (i := 3) (by omega)]; rfl
 ·rw [h2.cell (i := 4) (by omega)]; rfl
 ·rw [h2.cell (i := 5) (by omega)]; rfl
 ·rw [h2.cell (i := 6) (by omega)]; rfl
 ·rw [h2.cell (i := 7) (by omega)]; rfl
 ·rw [h2.cell (i := 8) (by omega)]; rfl
 ·rw [h2.cell (i := 9) (by omega)]; rfl
set_option maxRecDepth 100000 in
set_option maxHeartbeats 32000000 in
theorem law_prenex (q : PF) (m : MT 12) (B : Nat → Bool) (S : Nat → ByteArray) (w : World) (hP : PMs w 12 m) (hB : VRow M0 w q.aa q.an q.ap fun i => .bool (B i)) (hS : VRow M0 w q.na q.nn q.np fun i => .string (S i)) :
  Calls Tryz.prog 5 #[.agg (q.A (MT.me 12 m).X)] w fun e w' => e = .returned (.bool true) ∧ Ext w w' := by
 have CFW : Hid (∀ W', Ext w W' → Calls Tryz.prog 21 #[.agg (q.A (MT.me 12 m).X), .int .i64 60] W' (RetFw (q.nn ≤ 8 ∧ q.an ≤ 8 ∧ 0 ≤ roomM 12 m 60) W')) := fun W' he => rf_FewForm q m S W' (PMs.ext he hP) (hS.ext he)
 have HT : Hid (0 ≤ roomM 12 m 60 → ∃ t : TM, TMc false 12 M0 w (MT.me 12 m).X t ∧ t.sz ≤ 1000) := fun h => by
  have hok := okM 12 m 60 (by omega) (by omega) h
  have hsz := tmM_sz w 12 m 60 (by omega) h
  exact ⟨_, tmM_c w 12 m hP hok, by omega⟩
 clear hP
 generalize roomM 12 m 60 = r at *
 generalize (MT.me 12 m).X = y at *
 have hX := (Ext.refl w).alloc (.cells (q.A y) 48)
 have HX := Lib.hid hX
 have HBK := Lib.hid (Blk.of_arr w (q.A y) 48 10 rfl)
 have HB := Lib.hid hB
 have HS := Lib.hid hS
 generalize hW1 : w.alloc (.cells (q.A y) 48) = W1 at *
 have HW1 := Lib.hid hW1
 obtain ⟨g, hg⟩ : ∃ g, g = w.heap.size := ⟨_, rfl⟩
 have HG := Lib.hid hg
 rw [← hg] at HBK
 clear hW1 hB hS hX
 go_enter Tryz.func5, Tryz.ntmps5
 go_upto_region 1 with (fail)
 rw [HW1.out, ← hg]
 clear hg HW1
 go_wp2_with (fail)
 refine (law_awake39 _).mono ?_
 rintro e w2 ⟨rfl, he2⟩
 have HX2 := Lib.hid (HX.out.trans he2)
 have HBK2 := Lib.hid (HBK.out.ext he2)
 obtain ⟨p0, p1, p2, x0, x1, x2, x3, x4, x5, x6⟩ := HBK2.out.matrix
 clear he2 HX HBK
 go_wp2_with (fail)
 refine (CFW.out w2 HX2.out).mono ?_
 rintro e w3 ⟨b, rfl, hb, he3⟩
 have HX3 := Lib.hid (HX2.out.trans he3)
 have HBK3 := Lib.hid (HBK2.out.ext he3)
 have HBB := Lib.hid hb
 clear he3 HX2 HBK2 CFW hb p0 p1 p2 x0 x1 x2 x3 x4 x5 x6
 cases b
 ·clear HBB HT HBK3 HB HS HG
  go_wp2_with (fail)
  refine (law_awake39 _).mono ?_
  rintro e w4 ⟨rfl, he4⟩
  have HF := Lib.hid (HX3.out.trans he4)
  go_wp2
  go_ret
  exact ⟨rfl, HF.out⟩
 obtain ⟨hn8, ha8, hr⟩ := HBB.out rfl
 obtain ⟨t, ht, hsz⟩ := HT.out hr
 have hmg : ∀ g', g' = g → M0 g' ∨ w.heap.size ≤ g' := fun g' h => .inr (by rw [h, HG.out]; exact Nat.le_refl _)
 have HTC := Lib.hid (ht.more (M' := fun b => b = g) hmg)
 have hMb : ∀ W', Ext w3 W' → Mb (fun b => b = g) W' := fun W' he g' h => by rw [h]; exact (HBK3.out.ext he).lt
 have HMB := Lib.hid hMb
 have CPX := Lib.hid (si_Prenex (fun b => b = g) q y t B S w3 (hMb _ (Ext.refl _)) (HTC.out.ext HX3.out) hsz (HB.out.ext HX3.out) (HS.out.ext HX3.out) (by omega) (by omega))
 have HSZ := Lib.hid hsz
 clear HBB HT ht hsz hmg hMb hn8 ha8 hr
 obtain ⟨p0, p1, p2, x0, x1, x2, x3, x4, x5, x6⟩ := HBK3.out.matrix
 go_wp2_with (fail)
 refine CPX.out.mono ?_
 rintro e w4 ⟨q', u', rfl, e1, e2, e3, hv1, hv2, hu', he4⟩
 have hA := (Ext.refl w4).alloc (.cells (q'.A u') 48)
 have hE5 := he4.trans hA
 have HP5 := Lib.hid (new_pf w4 q' u')
 have HV1 := Lib.hid (hv1.ext hA)
 have HV2 := Lib.hid (hv2.ext hA)
 have HU5 := Lib.hid (hu'.ext hA)
 have HE := Lib.hid (And.intro e1 (And.intro e2 e3))
 generalize hW5 : w4.alloc (.cells (q'.A u') 48) = W5 at *
 have HW5 := Lib.hid hW5
 have HX5 := Lib.hid (HX3.out.trans hE5)
 have HBK5 := Lib.hid (HBK3.out.ext hE5)
 have HM5 := Lib.hid (HMB.out W5 hE5)
 have HMB5 : Hid (∀ W', Ext W5 W' → Mb (fun b => b = g) W') := fun W' he => HMB.out W' (hE5.trans he)
 have HNE : Hid (w4.heap.size ≠ g) := fun h => by have := (HBK3.out.ext he4).lt; omega
 clear hW5 hE5 hA hv1 hv2 hu' he4 e1 e2 e3 HX3 HBK3 HMB CPX p0 p1 p2 x0 x1 x2 x3 x4 x5 x6
 go_upto_region 4 with (fail)
 rw [HW5.out]
 generalize w4.heap.size = gq at *
 clear HW5
 obtain ⟨p0, p1, p2, x0, x1, x2, x3, x4, x5, x6⟩ := HBK5.out.matrix
 go_wp2_with (fail)
 refine (si_Of 12 (fun b => b = g) y t W5 HM5.out (HTC.out.ext HX5.out) HSZ.out).mono ?_
 rintro e w6 ⟨u, rfl, hu, he6⟩
 have hB6 := HBK5.out.ext he6
 obtain ⟨WA, hWA, ⟨f3, f4, f5, f6, f7, f8, f9⟩, hpx, hkp, hxa⟩ := setM (w := w) u hB6 (by rw [HG.out]; exact Nat.le_refl _) (HX5.out.trans he6)
 have HWA := Lib.hid hWA
 have hq : ∀ g', M0 g' → g' = g ∨ WA.heap.size ≤ g' := fun g' h => h.elim
 have HPX := Lib.hid hpx
 have HPQ : Hid (PxC WA gq q' u') := by
  have h1 := HP5.out.ext he6
  have e : ∀ j, WA.cell? ⟨gq, j, none⟩ = w6.cell? ⟨gq, j, none⟩ := fun j => by simp only [World.cell?, hkp.2 gq h1.lt HNE.out]
  exact ⟨by rw [e]; exact h1.1, by rw [e]; exact h1.2.1, by rw [e]; exact h1.2.2.1, h1.2.2.2.heap (hkp.2 gq h1.lt HNE.out)⟩
 have CEF : Hid (Calls Tryz.prog 23 #[.agg (q.A u), .agg (q'.A u')] WA fun e w' => e = .returned (.bool true) ∧ Ext WA w') := rf_EqualForms q q' u u' (ofT t) B S WA HE.out.1 HE.out.2.1 HE.out.2.2 (HB.out.ext hxa) (((HV1.out.ext he6).kp hkp).more hq) (HS.out.ext hxa) (((HV2.out.ext he6).kp hkp).more hq) ((hu.kp hkp).more hq) (((HU5.out.ext he6).kp hkp).more hq)
 have HXA := Lib.hid hxa
 obtain ⟨p0, p1, p2, x0, x1, x2, x3, x4, x5, x6⟩ := hB6.matrix
 clear hWA hpx hkp hxa hq hB6 hu he6 HP5 HV1 HV2 HU5 HX5 HBK5 HTC HM5 HB HS HE
 go_upto_region 5 with (fail)
 rw [← HWA.out]
 clear HWA p0 p1 p2 x0 x1 x2 x3 x4 x5 x6 f3 f4 f5 f6 f7 f8 f9
 obtain ⟨p0, p1, p2, x0, x1, x2, x3, x4, x5, x6⟩ := HPX.out
 obtain ⟨r0, r1, r2, y0, y1, y2, y3, y4, y5, y6⟩ := HPQ.out
 go_wp2_with (fail)
 refine CEF.out.mono ?_
 rintro e w7 ⟨rfl, he7⟩
 have HF := Lib.hid (HXA.out.trans he7)
 go_wp2
 go_ret
 exact ⟨rfl, HF.out⟩
end Go.Proofs.YtodiphjjdheoaaaGreat
