/- SimplifyFolds: the walk. -/
import Derived.Test.YtfbdckffjjladaaGreatIc
import Derived.Test.YtfbdckffjjladaaGreatId
import Derived.Test.YtfbdckffjjladaaGreatNj
set_option linter.unusedVariables false
set_option linter.unusedSimpArgs false

namespace Go.Proofs.YtfbdckffjjladaaGreat
open Go.RowKit

set_option maxRecDepth 100000 in
theorem rf_compl (r : Int) (h1 : 1 ≤ r) (h6 : r ≤ 6) (w : World) : Calls Tryz.prog 27 #[.int .i64 r] w fun e w' => e = .returned (.int .i64 (compl r)) ∧ Ext w w' := by
 have HE := Lib.hid (Ext.refl w)
 rcases (show r = 1 ∨ r = 2 ∨ r = 3 ∨ r = 4 ∨ r = 5 ∨ r = 6 by omega) with rfl | rfl | rfl | rfl | rfl | rfl
 all_goals
  clear h1 h6
  go_enter Tryz.func27, Tryz.ntmps27
  go_wp2
  go_ret
  exact ⟨rfl, HE.out⟩
theorem CRx.rawP {M : Nat → Prop} {w : World} {x : PE} {l : List Tm} (h : CRx M w 4 x l) (hl : SmF l) : RawP M w x l := by
 obtain ⟨t, h1, h2, h3, h4⟩ := h.tb1 (B := 66) (by omega) (Nat.le_trans hl.2.2 (by decide)) hl.2.1 (by decide)
 exact ⟨5, t, h1, h2, Nat.le_trans (dlen_mono h4) hl.2.2, hl.2.1.sim h3.symm, h3⟩
theorem tmB_raw (f : Nat) (M : Nat → Prop) (w : World) (b : Bool) : TMc false (f + 1) M w (MX.b b) (tmB b) := by
 refine ⟨⟨rfl, rfl, smF_nil, ?_⟩, KM.nil0⟩
 exact (show RawP M w PE.z [] from CRx.rawP (CR.zero _ _ _) smF_nil)
theorem at_raw (f : Nat) (M : Nat → Prop) (w : World) (r : Int) (x : PE) (l : List Tm) (h : RawP M w x l) (hl : SmF l) : TMc false (f + 1) M w ⟨2, r, x, none, 0, 0⟩ (.nd 2 r l []) := ⟨⟨rfl, rfl, hl, h⟩, KM.nil0⟩
theorem nrm_smulT (c : Int) (l : List Tm) : nrm (smul c l) = c.natAbs * nrm l := by
 induction l with
 | nil => simp [smul, nrm]
 | cons t l ih =>
  have e : smul c (t :: l) = (c * t.1, t.2) :: smul c l := rfl
  rw [e]
  unfold nrm
  rw [ih, Int.natAbs_mul, Nat.mul_add]
theorem smF_three {l : List Tm} (h : SmF l) (hn : 3 * nrm l ≤ 4294967296 ^ 5 - 1) : SmF (smul 3 l) := by
 refine ⟨fun m hm => by rw [coefAt_smul, h.1 m hm]; rfl, fun m hm k => h.2.1 m (fun e => hm (by rw [coefAt_smul, e]; rfl)) k, ?_⟩
 rw [dlen_le_iff, nrm_smulT]
 have : (1 : Nat) ≤ 4294967296 ^ 5 := by decide
 show 3 * nrm l < _
 omega
abbrev row2 (y z : MX) : Array Value := #[.int .i64 y.kd, .int .i64 y.rl, .int .i64 y.x.lv, .bool y.x.b, .slice y.x.a y.x.n y.x.p, .slice y.x.ka y.x.kn y.x.kp, .slice y.a y.n y.p, .int .i64 z.kd, .int .i64 z.rl, .int .i64 z.x.lv, .bool z.x.b, .slice z.x.a z.x.n z.x.p, .slice z.x.ka z.x.kn z.x.kp, .slice z.a z.n z.p]
abbrev row3 (y z u : MX) : Array Value := #[.int .i64 y.kd, .int .i64 y.rl, .int .i64 y.x.lv, .bool y.x.b, .slice y.x.a y.x.n y.x.p, .slice y.x.ka y.x.kn y.x.kp, .slice y.a y.n y.p, .int .i64 z.kd, .int .i64 z.rl, .int .i64 z.x.lv, .bool z.x.b, .slice z.x.a z.x.n z.x.p, .slice z.x.ka z.x.kn z.x.kp, .slice z.a z.n z.p,
 .int .i64 u.kd, .int .i64 u.rl, .int .i64 u.x.lv, .bool u.x.b, .slice u.x.a u.x.n u.x.p, .slice u.x.ka u.x.kn u.x.kp, .slice u.a u.n u.p]
theorem KM.two {f : Nat} {w : World} {y z : MX} {s t : TM} (h : TMc false f M0 w y s) (k : TMc false f M0 w z t) : KM (TMc false f M0) M0 (w.alloc (.cells (row2 y z) 32)) (Option.some ⟨w.heap.size, 0, Option.none⟩) 2 2 [s, t] := by
 have hB := Blk.of_arr w (row2 y z) 32 14 rfl
 have hE := (Ext.refl w).alloc (.cells (row2 y z) 32)
 refine ⟨rfl, Nat.le_refl _, by decide, fun i => if i = 0 then y else z, fun i hi => ?_⟩
 rcases (show i = 0 ∨ i = 1 by omega) with rfl | rfl
 ·exact ⟨⟨w.heap.size, 0, rfl, fun h => h, hB.cell (i := 0) (by omega), hB.cell (i := 1) (by omega), hB.cell (i := 2) (by omega), hB.cell (i := 3) (by omega), hB.cell (i := 4) (by omega), hB.cell (i := 5) (by omega), hB.cell (i := 6) (by omega)⟩, h.ext hE⟩
 ·exact ⟨⟨w.heap.size, 0, rfl, fun h => h, hB.cell (i := 7) (by omega), hB.cell (i := 8) (by omega), hB.cell (i := 9) (by omega), hB.cell (i := 10) (by omega), hB.cell (i := 11) (by omega), hB.cell (i := 12) (by omega), hB.cell (i := 13) (by omega)⟩, k.ext hE⟩
theorem KM.three {f : Nat} {w : World} {y z u : MX} {s t v : TM} (h : TMc false f M0 w y s) (k : TMc false f M0 w z t) (l : TMc false f M0 w u v) : KM (TMc false f M0) M0 (w.alloc (.cells (row3 y z u) 32)) (Option.some ⟨w.heap.size, 0, Option.none⟩) 3 3 [s, t, v] := by
 have hB := Blk.of_arr w (row3 y z u) 32 21 rfl
 have hE := (Ext.refl w).alloc (.cells (row3 y z u) 32)
 refine ⟨rfl, Nat.le_refl _, by decide, fun i => if i = 0 then y else if i = 1 then z else u, fun i hi => ?_⟩
 rcases (show i = 0 ∨ i = 1 ∨ i = 2 by omega) with rfl | rfl | rfl
 ·exact ⟨⟨w.heap.size, 0, rfl, fun h => h, hB.cell (i := 0) (by omega), hB.cell (i := 1) (by omega), hB.cell (i := 2) (by omega), hB.cell (i := 3) (by omega), hB.cell (i := 4) (by omega), hB.cell (i := 5) (by omega), hB.cell (i := 6) (by omega)⟩, h.ext hE⟩
 ·exact ⟨⟨w.heap.size, 0, rfl, fun h => h, hB.cell (i := 7) (by omega), hB.cell (i := 8) (by omega), hB.cell (i := 9) (by omega), hB.cell (i := 10) (by omega), hB.cell (i := 11) (by omega), hB.cell (i := 12) (by omega), hB.cell (i := 13) (by omega)⟩, k.ext hE⟩
 ·exact ⟨⟨w.heap.size, 0, rfl, fun h => h, hB.cell (i := 14) (by omega), hB.cell (i := 15) (by omega), hB.cell (i := 16) (by omega), hB.cell (i := 17) (by omega), hB.cell (i := 18) (by omega), hB.cell (i := 19) (by omega), hB.cell (i := 20) (by omega)⟩, l.ext hE⟩
theorem join_raw {f : Nat} {w : World} {a : Option Addr} {n p : Nat} {ks : List TM} (q : Int) (h : KM (TMc false f M0) M0 w a n p ks) : TMc false (f + 1) M0 w ⟨q, 0, PE.z, a, n, p⟩ (.nd q 0 [] ks) := by
 refine ⟨⟨rfl, rfl, smF_nil, ?_⟩, h⟩
 exact (show RawP M0 w PE.z [] from CRx.rawP (CR.zero _ _ _) smF_nil)
def FoldCut (wd : World) (r : Int) (l : List Tm) (s10 : Value) (wx : World) : Prop := ∃ (gb : Nat) (v : PE), s10 = .pointer (some ⟨gb, 0, none⟩) ∧ MxC wx gb 0 ⟨2, r, v, none, 0, 0⟩ ∧ CRx M0 wx 4 v l ∧ Ext wd wx
def SMP (g g' : Nat) (y : MX) (x : PE) (w : World) : Prop := MxC w g 0 y ∧ P4 w g' x
theorem SMP.ext {g g' : Nat} {y : MX} {x : PE} {w w' : World} (h : SMP g g' y x w) (he : Ext w w') : SMP g g' y x w' := ⟨h.1.ext he, h.2.ext he⟩
theorem two_sz (q : Int) (l : List Tm) : (TM.nd 2 q l []).sz = 1 := by rw [sz_ks]; show 1 + szL [] = 1; rw [szL_nil]
def FB5 (g gn ga gb : Nat) (y yn yt ya yb : MX) (w : World) : Prop := MxC w g 0 y ∧ MxC w gn 0 yn ∧ MxC w (gn + 1) 0 yt ∧ MxC w ga 0 ya ∧ MxC w gb 0 yb
theorem FB5.ext {g gn ga gb : Nat} {y yn yt ya yb : MX} {w w' : World} (h : FB5 g gn ga gb y yn yt ya yb w) (he : Ext w w') : FB5 g gn ga gb y yn yt ya yb w' := ⟨h.1.ext he, h.2.1.ext he, h.2.2.1.ext he, h.2.2.2.1.ext he, h.2.2.2.2.ext he⟩
def FT5 (y yn yt ya yb : MX) (t tn tt ta tb : TM) (w : World) : Prop := TMc false 12 M0 w y t ∧ TMc false 12 M0 w yn tn ∧ TMc false 12 M0 w yt tt ∧ TMc false 12 M0 w ya ta ∧ TMc false 12 M0 w yb tb
theorem FT5.ext {y yn yt ya yb : MX} {t tn tt ta tb : TM} {w w' : World} (h : FT5 y yn yt ya yb t tn tt ta tb w) (he : Ext w w') : FT5 y yn yt ya yb t tn tt ta tb w' := ⟨h.1.ext he, h.2.1.ext he, h.2.2.1.ext he, h.2.2.2.1.ext he, h.2.2.2.2.ext he⟩
set_option maxRecDepth 100000 in
set_option maxHeartbeats 32000000 in
theorem law_folds (m : MT 12) (s : ST 6) (z : Int) (w : World) (hP : PMs w 12 m) (hs : PTs w 6 s) (hz : 0 ≤ z ∧ z ≤ 255) : Calls Tryz.prog 5 #[.agg (MT.me 12 m).A, .agg (peA (ST.pe 6 s)), .int .u8 z] w fun e w' => e = .returned (.bool true) ∧ Ext w w' := by
 have CSM : Hid (∀ W', Ext w W' → Calls Tryz.prog 16 #[.agg (MT.me 12 m).A] W' fun e w' => e = .returned (.bool (decide (0 ≤ roomM 12 m 80))) ∧ Ext W' w') := fun W' he => law_small39 m W' (PMs.ext he hP)
 have CFP : Hid (∀ W', Ext w W' → Calls Tryz.prog 26 #[.agg (peA (ST.pe 6 s)), .int .i64 40, .int .i64 4] W' fun e w' => e = .returned (.bool (decide (0 ≤ roomB 4 6 s 40))) ∧ Ext W' w') := fun W' he => rf_fewPoly 4 (by omega) s 40 W' (hs.ext he) (by omega) (by omega)
 have HM : Hid (0 ≤ roomM 12 m 80 → TMc false 12 M0 w (MT.me 12 m).X (tmM w 12 m) ∧ (tmM w 12 m).sz ≤ 80) := fun h => by
  have hok := okM 12 m 80 (by omega) (by omega) h
  have hsz := tmM_sz w 12 m 80 (by omega) h
  exact ⟨tmM_c w 12 m hP hok, by omega⟩
 have HSP : Hid (0 ≤ roomB 4 6 s 40 → ∃ l : List Tm, RawP M0 w (ST.pe 6 s) l ∧ SmF l ∧ 3 * nrm l ≤ 4294967296 ^ 5 - 1) := fun h => by
  obtain ⟨t, h1, h2⟩ := PTs.tree w 4 (by omega) 6 s 40 hs (by omega) h
  have hb := roomB_bd 4 6 s 40 (by omega)
  obtain ⟨h3, h4, h5⟩ := room_dl h2 (by omega)
  refine ⟨terms 6 t, ⟨6, t, h1, h3, h4, deg_of_mem h5, Sim.refl _⟩, ⟨nn_of_all (terms_nn 6 t), deg_of_mem h5, h4⟩, ?_⟩
  obtain ⟨_, h6, _⟩ := h2
  have e4 : (4294967296 : Nat) ^ 4 = 340282366920938463463374607431768211456 := by decide
  have e5 : (4294967296 : Nat) ^ 5 = 1461501637330902918203684832716283019655932542976 := by decide
  rw [e4] at h6
  rw [e5]
  omega
 have hyx : (MT.me 12 m).A = ((MT.me 12 m).X).A := rfl
 rw [hyx] at CSM ⊢
 clear hP hs hyx
 generalize roomM 12 m 80 = r at *
 generalize roomB 4 6 s 40 = r' at *
 generalize (MT.me 12 m).X = y at *
 generalize ST.pe 6 s = x at *
 generalize tmM w 12 m = t at *
 have HX := Lib.hid (((Ext.refl w).alloc (.cells y.A 32)).alloc (.cells (peA x) 29))
 have HB : Hid (SMP w.heap.size (w.heap.size + 1) y x ((w.alloc (.cells y.A 32)).alloc (.cells (peA x) 29))) := by
  have h2 := (Blk.of_arr (w.alloc (.cells y.A 32)) (peA x) 29 4 rfl).p4
  simp only [World.size_alloc] at h2
  exact ⟨(new_mx w y).ext ((Ext.refl _).alloc _), h2⟩
 generalize hW1 : (w.alloc (.cells y.A 32)).alloc (.cells (peA x) 29) = W1 at *
 have HW1 := Lib.hid hW1
 clear hW1
 go_enter Tryz.func5, Tryz.ntmps5
 go_upto_region 1 with (fail)
 rw [HW1.out]
 generalize w.heap.size = g at *
 go_wp2_with (fail)
 refine (law_awake39 _).mono ?_
 rintro e w2 ⟨rfl, he2⟩
 have HX2 := Lib.hid (HX.out.trans he2)
 have HB2 := Lib.hid (HB.out.ext he2)
 obtain ⟨⟨x0, x1, x2, x3, x4, x5, x6⟩, y0, y1, y2, y3⟩ := HB2.out
 have CS := Lib.hid (CSM.out w2 HX2.out)
 clear he2 HX HB
 go_wp2_with (fail)
 refine CS.out.mono ?_
 rintro e w3 ⟨rfl, he3⟩
 have HX3 := Lib.hid (HX2.out.trans he3)
 have HB3 := Lib.hid (HB2.out.ext he3)
 clear he3 HX2 HB2 CS x0 x1 x2 x3 x4 x5 x6 y0 y1 y2 y3
 by_cases hr : 0 ≤ r
 rotate_left 1
 ·have hD : decide (0 ≤ r) = false := decide_eq_false hr
  rw [hD]
  clear HM HSP CSM CFP HB3 hr hD
  go_wp2_with (fail)
  refine (law_awake39 _).mono ?_
  rintro e w4 ⟨rfl, he4⟩
  have HF := Lib.hid (HX3.out.trans he4)
  go_wp2
  go_ret
  exact ⟨rfl, HF.out⟩
 have hD : decide (0 ≤ r) = true := decide_eq_true hr
 rw [hD]
 have HT := Lib.hid (HM.out hr)
 have CF := Lib.hid (CFP.out w3 HX3.out)
 clear HM CSM CFP hr hD
 obtain ⟨⟨x0, x1, x2, x3, x4, x5, x6⟩, y0, y1, y2, y3⟩ := HB3.out
 go_wp2_with (fail)
 refine CF.out.mono ?_
 rintro e w4 ⟨rfl, he4⟩
 have HX4 := Lib.hid (HX3.out.trans he4)
 have HB4 := Lib.hid (HB3.out.ext he4)
 clear he4 HX3 HB3 CF x0 x1 x2 x3 x4 x5 x6 y0 y1 y2 y3
 by_cases hr : 0 ≤ r'
 rotate_left 1
 ·have hD : decide (0 ≤ r') = false := decide_eq_false hr
  rw [hD]
  clear HSP HB4 hr hD HT
  go_wp2_with (fail)
  refine (law_awake39 _).mono ?_
  rintro e w5 ⟨rfl, he5⟩
  have HF := Lib.hid (HX4.out.trans he5)
  go_wp2
  go_ret
  exact ⟨rfl, HF.out⟩
 have hD : decide (0 ≤ r') = true := decide_eq_true hr
 rw [hD]
 obtain ⟨l, hl1, hl2, hl3⟩ := HSP.out hr
 have HL1 := Lib.hid hl1
 have HL2 := Lib.hid hl2
 have HL3 := Lib.hid hl3
 clear HSP hr hD hl1 hl2 hl3
 obtain ⟨⟨x0, x1, x2, x3, x4, x5, x6⟩, y0, y1, y2, y3⟩ := HB4.out
 go_upto_region 4 with (fail)
 have HN : Hid (MxC ((w4.alloc (.cells #[.int .i64 0, .int .i64 0, .int .i64 0, .bool false, .slice none 0 0, .slice none 0 0, .slice none 0 0] 32)).alloc (.cells #[.int .i64 1, .int .i64 0, .int .i64 0, .bool false, .slice none 0 0, .slice none 0 0, .slice none 0 0] 32)) w4.heap.size 0 (MX.b false) ∧ MxC ((w4.alloc (.cells #[.int .i64 0, .int .i64 0, .int .i64 0, .bool false, .slice none 0 0, .slice none 0 0, .slice none 0 0] 32)).alloc (.cells #[.int .i64 1, .int .i64 0, .int .i64 0, .bool false, .slice none 0 0, .slice none 0 0, .slice none 0 0] 32)) (w4.heap.size + 1) 0 (MX.b true)) := new_mx2 w4 (MX.b false) (MX.b true)
 have HX6 := Lib.hid (HX4.out.trans (((Ext.refl w4).alloc (.cells #[.int .i64 0, .int .i64 0, .int .i64 0, .bool false, .slice none 0 0, .slice none 0 0, .slice none 0 0] 32)).alloc (.cells #[.int .i64 1, .int .i64 0, .int .i64 0, .bool false, .slice none 0 0, .slice none 0 0, .slice none 0 0] 32)))
 have HB6 := Lib.hid (HB4.out.ext (((Ext.refl w4).alloc (.cells #[.int .i64 0, .int .i64 0, .int .i64 0, .bool false, .slice none 0 0, .slice none 0 0, .slice none 0 0] 32)).alloc (.cells #[.int .i64 1, .int .i64 0, .int .i64 0, .bool false, .slice none 0 0, .slice none 0 0, .slice none 0 0] 32)))
 generalize (w4.alloc (.cells #[.int .i64 0, .int .i64 0, .int .i64 0, .bool false, .slice none 0 0, .slice none 0 0, .slice none 0 0] 32)).alloc (.cells #[.int .i64 1, .int .i64 0, .int .i64 0, .bool false, .slice none 0 0, .slice none 0 0, .slice none 0 0] 32) = W6 at *
 generalize w4.heap.size = gn at *
 clear x0 x1 x2 x3 x4 x5 x6 y0 y1 y2 y3 HX4 HB4
 obtain ⟨⟨x0, x1, x2, x3, x4, x5, x6⟩, y0, y1, y2, y3⟩ := HB6.out
 go_upto_region 5 with (fail)
 have HQ : Hid (1 ≤ 1 + z % 6 ∧ 1 + z % 6 ≤ 6) := ⟨by omega, by omega⟩
 generalize 1 + z % 6 = q at *
 have hA8 := new_mx W6 ⟨2, q, x, none, 0, 0⟩
 have hX68 := (Ext.refl W6).alloc (.cells #[.int .i64 2, .int .i64 q, .int .i64 x.lv, .bool x.b, .slice x.a x.n x.p, .slice x.ka x.kn x.kp, .slice none 0 0] 32)
 have hA8 : MxC (W6.alloc (.cells #[.int .i64 2, .int .i64 q, .int .i64 x.lv, .bool x.b, .slice x.a x.n x.p, .slice x.ka x.kn x.kp, .slice none 0 0] 32)) W6.heap.size 0 ⟨2, q, x, none, 0, 0⟩ := hA8
 generalize W6.alloc (.cells #[.int .i64 2, .int .i64 q, .int .i64 x.lv, .bool x.b, .slice x.a x.n x.p, .slice x.ka x.kn x.kp, .slice none 0 0] 32) = W8 at *
 have HX8 := Lib.hid ((HX6.out.trans hX68).trans (Ext.refl W8).drew)
 have HB8 := Lib.hid ((HB6.out.ext hX68).ext (Ext.refl W8).drew)
 have HN8 : Hid (MxC W8.drew gn 0 (MX.b false) ∧ MxC W8.drew (gn + 1) 0 (MX.b true)) := ⟨(HN.out.1.ext hX68).ext (Ext.refl W8).drew, (HN.out.2.ext hX68).ext (Ext.refl W8).drew⟩
 have HA8 := Lib.hid (hA8.ext (Ext.refl W8).drew)
 clear x0 x1 x2 x3 x4 x5 x6 y0 y1 y2 y3 HX6 HB6 HN hA8 hX68
 generalize W6.heap.size = ga at *
 obtain ⟨ya, hya⟩ : ∃ v : MX, v = ⟨2, q, x, none, 0, 0⟩ := ⟨_, rfl⟩
 rw [← hya] at HA8
 have HYA := Lib.hid hya
 have hyr : ya.rl = q := by rw [hya]
 have C2 : Hid (∀ W', Calls Tryz.prog 27 #[.int .i64 ya.rl] W' fun e w' => e = .returned (.int .i64 (compl q)) ∧ Ext W' w') := fun W' => by
  rw [hyr]; exact rf_compl q HQ.out.1 HQ.out.2 W'
 have C4 : Hid (∀ M W', Mb M W' → Calls Tryz.prog 29 #[.int .i64 3] W' fun e w' => ∃ b a n p, e = .returned (.agg #[.bool b, .slice a n p]) ∧ IntC M w' (.bool b) (.slice a n p) 3 ∧ Ext W' w') := fun M W' hM => by
  refine (int_of 3 W' hM (by omega) (by omega)).mono ?_
  rintro e w' ⟨e0, e1, rfl, hI, he⟩
  obtain ⟨b, a, n, p, rfl, rfl⟩ := hI.form
  exact ⟨b, a, n, p, rfl, hI, he⟩
 have hws : w.heap.size ≤ W8.drew.heap.size := HX8.out.size
 have C5 : Hid (∀ M W', Mb M W' → (∀ g, M g → W8.drew.heap.size ≤ g) → Ext W8.drew W' → ∀ b a n p, IntC M W' (.bool b) (.slice a n p) 3 → Calls Tryz.prog 28 #[.agg (peA x), .agg #[.bool b, .slice a n p]] W' fun e w' => ∃ v : PE, e = .returned (.agg (peA v)) ∧ CRx M w' 4 v (smul 3 l) ∧ Ext W' w') := fun M W' hM hfr he b a n p hI => by
  obtain ⟨d, tt, h1, h2, h3, h4, h5⟩ := HL1.out
  have hpi : PI M0 w x l := ⟨d, tt, h1, .inr h2, h5⟩
  have h6 : PI M W' x (terms d tt) := ((PI.more (M' := M) (⟨d, tt, h1, .inr h2, Sim.refl _⟩ : PI M0 w x (terms d tt)) fun g hg => .inr (Nat.le_trans hws (hfr g hg))).ext (HX8.out.trans he))
  refine (rp_Scale M x (terms d tt) 66 b a n p 3 W' hM h6 hI.toV (Nat.le_trans (Nat.add_le_add_right h3 _) (by decide)) h4 (by decide)).mono ?_
  rintro e w' ⟨v, rfl, hv, he'⟩
  refine ⟨v, rfl, hv.sim ((sc_simF _ 3).trans fun m => ?_), he'⟩
  rw [coefAt_smul, coefAt_smul, h5 m]
 clear hya hyr hws
 go_cut [10] (FoldCut W8.drew (compl q) (smul 3 l))
 case first =>
  have hS : SMP ga (g + 1) ya x W8.drew := ⟨HA8.out, HB8.out.2⟩
  refine wp_region_u (SMP ga (g + 1) ya x) 8 (by kernel_rfl) hS (fun hHeld => ?_)
  clear HX8 HB8 HN8 HL1 HL2 HL3 HYA HT HQ
  generalize W8.drew = wd at *
  generalize smul 3 l = lc at *
  generalize compl q = qc at *
  (refine tkB [0, 1, 3] ?_; (iterate 3 (refine tk1 (oi := ?_) (v := ?_) (by kernel_rfl) (by first | exact hSn | exact hHeld) ?_ ?_ ?_ ?_ ?_; rotate_left 2; (simp only [xgA, xgB, xgC]; rfl); rfl; (intro wS hSw; obtain ⟨⟨A0, A1, A2, A3, A4, A5, A6⟩, B0, B1, B2, B3⟩ := hSw; go_simp; try with_reducible rfl); (exact fun _ _ _ h => h); (try simp only [Act.put, xgD, xgE, xgF]))); refine tkE ?_)
  (refine wpAnyU_two 2 7 (oi := ?_) (oj := ?_) (by kernel_rfl) ?_ ?_ ?_ ?_; rotate_left 2; (simp only [xgA, xgB, xgC]; rfl); (simp only [xgA, xgB, xgC]; rfl); all_goals intro K hK)
  ·go_simp
   refine (C2.out wd).mono ?_
   rintro e v1 ⟨rfl, d1⟩
   go_wp2_with (fail)
   have e1 : Ext wd v1 := ((Ext.refl wd)).trans d1
   try clear hSn
   have hSn := hHeld.ext e1
   refine hK.out _ _ (fun _ => hSn) ?_
   clear hK K
   (try simp only [Act.put, xgD, xgE, xgF])
   (refine wpAnyU_two 4 7 (oi := ?_) (oj := ?_) (by kernel_rfl) ?_ ?_ ?_ ?_; rotate_left 2; (simp only [xgA, xgB, xgC]; rfl); (simp only [xgA, xgB, xgC]; rfl); all_goals intro K hK)
   ·go_simp
    refine (C4.out M0 v1 (mb0 _)).mono ?_
    rintro e v2 ⟨ib, ia, ik, ip, rfl, hI, d2⟩
    go_wp2_with (fail)
    have e2 : Ext wd v2 := (e1).trans d2
    try clear hSn
    have hSn := hHeld.ext e2
    refine hK.out _ _ (fun _ => hSn) ?_
    clear hK K
    (try simp only [Act.put, xgD, xgE, xgF])
    (refine wpAnyU_two 5 7 (oi := ?_) (oj := ?_) (by kernel_rfl) ?_ ?_ ?_ ?_; rotate_left 2; (simp only [xgA, xgB, xgC]; rfl); (simp only [xgA, xgB, xgC]; rfl); all_goals intro K hK)
    ·go_simp
     refine (C5.out M0 v2 (mb0 _) (fun g hg => hg.elim) (e2) ib ia ik ip (hI)).mono ?_
     rintro e v3 ⟨v, rfl, hv, d3⟩
     go_wp2_with (fail)
     have e3 : Ext wd v3 := (e2).trans d3
     try clear hSn
     have hSn := hHeld.ext e3
     refine hK.out _ _ (fun _ => hSn) ?_
     clear hK K
     (try simp only [Act.put, xgD, xgE, xgF])
     (refine tkB [6] ?_; (iterate 1 (refine tk1 (oi := ?_) (v := ?_) (by kernel_rfl) (by first | exact hSn | exact hHeld) ?_ ?_ ?_ ?_ ?_; rotate_left 2; (simp only [xgA, xgB, xgC]; rfl); rfl; (intro wS hSw; obtain ⟨⟨A0, A1, A2, A3, A4, A5, A6⟩, B0, B1, B2, B3⟩ := hSw; go_simp; try with_reducible rfl); (exact fun _ _ _ h => h); (try simp only [Act.put, xgD, xgE, xgF]))); refine tkE ?_)
     (refine wpAnyU_one 7 (o := ?_) (by kernel_rfl) ?_ ?_; rotate_left 1; (simp only [xgA, xgB, xgC]; rfl); intro K hK)
     go_simp
     have hSn2 := hSn.ext ((Ext.refl v3).alloc (.cells mzA 32))
     have hSn3 := hSn.ext ((Ext.refl v3).alloc (.cells (MX.A ⟨2, qc, v, none, 0, 0⟩) 32))
     clear hSn
     refine hK.out _ _ (fun _ => hSn2) ?_
     clear hK K
     (try simp only [Act.put, xgD, xgE, xgF])
     (refine wpAnyU_one 8 (o := ?_) (by kernel_rfl) ?_ ?_; rotate_left 1; (simp only [xgA, xgB, xgC]; rfl); intro K hK)
     go_simp
     refine hK.out _ _ (fun h => absurd rfl h) ?_
     clear hK K
     refine wpAnyU_done (by kernel_rfl) ?_ _
     go_wp2_with (fail)
     go_meet
     exact ⟨v3.heap.size, v, rfl, new_mx v3 ⟨2, qc, v, none, 0, 0⟩, hv.ext ((Ext.refl v3).alloc _), (e3).alloc _⟩
    ·go_simp
     have ea3 : Ext v2 (v2.alloc (.cells mzA 32)) := (Ext.refl _).alloc _
     have hb3 := Blk.of_arr v2 mzA 32 7 rfl
     have hl3 : v2.heap.size < (v2.alloc (.cells mzA 32)).heap.size := by simp
     have e3 : Ext wd (v2.alloc (.cells mzA 32)) := (e2).trans ea3
     try clear hSn
     have hSn := hHeld.ext e3
     refine hK.out _ _ (fun _ => hSn) ?_
     clear hK K
     (try simp only [Act.put, xgD, xgE, xgF])
     (refine wpAnyU_one 5 (o := ?_) (by kernel_rfl) ?_ ?_; rotate_left 1; (simp only [xgA, xgB, xgC]; rfl); intro K hK)
     go_simp
     refine (C5.out (fun g => g = v2.heap.size) (v2.alloc (.cells mzA 32)) (fun g (hg : g = v2.heap.size) => by rw [hg]; exact hl3) (fun g (hg : g = v2.heap.size) => by rw [hg]; exact (e2).size) (e3) ib ia ik ip ((hI.more (M' := fun g => g = v2.heap.size) (fun g (hg : g = v2.heap.size) => .inr (Nat.le_of_eq hg.symm))).ext ea3)).mono ?_
     rintro e v4 ⟨v, rfl, hv, d4⟩
     go_wp2_with (fail)
     have e4 : Ext wd v4 := (e3).trans d4
     try clear hSn
     have hSn := hHeld.ext e4
     refine hK.out _ _ (fun _ => hSn) ?_
     clear hK K
     (try simp only [Act.put, xgD, xgE, xgF])
     (refine tkB [6] ?_; (iterate 1 (refine tk1 (oi := ?_) (v := ?_) (by kernel_rfl) (by first | exact hSn | exact hHeld) ?_ ?_ ?_ ?_ ?_; rotate_left 2; (simp only [xgA, xgB, xgC]; rfl); rfl; (intro wS hSw; obtain ⟨⟨A0, A1, A2, A3, A4, A5, A6⟩, B0, B1, B2, B3⟩ := hSw; go_simp; try with_reducible rfl); (exact fun _ _ _ h => h); (try simp only [Act.put, xgD, xgE, xgF]))); refine tkE ?_)
     obtain ⟨WF, hWF, ⟨q0, q1, q2, q3, q4, q5, q6⟩, ⟨f0, f1, f2, f3, f4, f5, f6⟩, hrr, hkp, hext⟩ := fin7 (M' := (fun g => g = v2.heap.size)) (w := wd) (.int .i64 2) (.int .i64 qc) (.int .i64 v.lv) (.bool v.b) (.slice v.a v.n v.p) (.slice v.ka v.kn v.kp) (.slice none 0 0) ((hb3).ext d4) rfl (e2).size (e4)
     simp only [arr] at q0 q1 q2 q3 q4 q5 q6
     have HWF := Lib.hid hWF
     have HFC : Hid (FoldCut wd qc lc (.pointer (some ⟨v2.heap.size, 0, none⟩)) WF) := ⟨v2.heap.size, v, rfl, hrr, (hv.kp hkp).more (fun g hg => .inl hg.elim), hext⟩
     clear hkp hrr hWF
     (refine wpAnyU_one 8 (o := ?_) (by kernel_rfl) ?_ ?_; rotate_left 1; (simp only [xgA, xgB, xgC]; rfl); intro K hK)
     clear hSn
     go_simp
     refine hK.out _ _ (fun h => absurd rfl h) ?_
     clear hK K
     refine wpAnyU_done (by kernel_rfl) ?_ _
     go_wp2_with (fail)
     rw [← HWF.out]
     go_meet
     exact HFC.out
   ·go_simp
    have ea2 : Ext v1 (v1.alloc (.cells mzA 32)) := (Ext.refl _).alloc _
    have hb2 := Blk.of_arr v1 mzA 32 7 rfl
    have hl2 : v1.heap.size < (v1.alloc (.cells mzA 32)).heap.size := by simp
    have e2 : Ext wd (v1.alloc (.cells mzA 32)) := (e1).trans ea2
    try clear hSn
    have hSn := hHeld.ext e2
    refine hK.out _ _ (fun _ => hSn) ?_
    clear hK K
    (try simp only [Act.put, xgD, xgE, xgF])
    (refine wpAnyU_one 4 (o := ?_) (by kernel_rfl) ?_ ?_; rotate_left 1; (simp only [xgA, xgB, xgC]; rfl); intro K hK)
    go_simp
    refine (C4.out (fun g => g = v1.heap.size) (v1.alloc (.cells mzA 32)) (fun g (hg : g = v1.heap.size) => by rw [hg]; exact hl2)).mono ?_
    rintro e v3 ⟨ib, ia, ik, ip, rfl, hI, d3⟩
    go_wp2_with (fail)
    have e3 : Ext wd v3 := (e2).trans d3
    try clear hSn
    have hSn := hHeld.ext e3
    refine hK.out _ _ (fun _ => hSn) ?_
    clear hK K
    (try simp only [Act.put, xgD, xgE, xgF])
    (refine wpAnyU_one 5 (o := ?_) (by kernel_rfl) ?_ ?_; rotate_left 1; (simp only [xgA, xgB, xgC]; rfl); intro K hK)
    go_simp
    refine (C5.out (fun g => g = v1.heap.size) v3 (fun g (hg : g = v1.heap.size) => by rw [hg]; exact Nat.lt_of_lt_of_le (hl2) d3.size) (fun g (hg : g = v1.heap.size) => by rw [hg]; exact (e1).size) (e3) ib ia ik ip (hI)).mono ?_
    rintro e v4 ⟨v, rfl, hv, d4⟩
    go_wp2_with (fail)
    have e4 : Ext wd v4 := (e3).trans d4
    try clear hSn
    have hSn := hHeld.ext e4
    refine hK.out _ _ (fun _ => hSn) ?_
    clear hK K
    (try simp only [Act.put, xgD, xgE, xgF])
    (refine tkB [6] ?_; (iterate 1 (refine tk1 (oi := ?_) (v := ?_) (by kernel_rfl) (by first | exact hSn | exact hHeld) ?_ ?_ ?_ ?_ ?_; rotate_left 2; (simp only [xgA, xgB, xgC]; rfl); rfl; (intro wS hSw; obtain ⟨⟨A0, A1, A2, A3, A4, A5, A6⟩, B0, B1, B2, B3⟩ := hSw; go_simp; try with_reducible rfl); (exact fun _ _ _ h => h); (try simp only [Act.put, xgD, xgE, xgF]))); refine tkE ?_)
    obtain ⟨WF, hWF, ⟨q0, q1, q2, q3, q4, q5, q6⟩, ⟨f0, f1, f2, f3, f4, f5, f6⟩, hrr, hkp, hext⟩ := fin7 (M' := (fun g => g = v1.heap.size)) (w := wd) (.int .i64 2) (.int .i64 qc) (.int .i64 v.lv) (.bool v.b) (.slice v.a v.n v.p) (.slice v.ka v.kn v.kp) (.slice none 0 0) (((hb2).ext d3).ext d4) rfl (e1).size (e4)
    simp only [arr] at q0 q1 q2 q3 q4 q5 q6
    have HWF := Lib.hid hWF
    have HFC : Hid (FoldCut wd qc lc (.pointer (some ⟨v1.heap.size, 0, none⟩)) WF) := ⟨v1.heap.size, v, rfl, hrr, (hv.kp hkp).more (fun g hg => .inl hg.elim), hext⟩
    clear hkp hrr hWF
    (refine wpAnyU_one 8 (o := ?_) (by kernel_rfl) ?_ ?_; rotate_left 1; (simp only [xgA, xgB, xgC]; rfl); intro K hK)
    clear hSn
    go_simp
    refine hK.out _ _ (fun h => absurd rfl h) ?_
    clear hK K
    refine wpAnyU_done (by kernel_rfl) ?_ _
    go_wp2_with (fail)
    rw [← HWF.out]
    go_meet
    exact HFC.out
  ·go_simp
   have ea1 : Ext wd (wd.alloc (.cells mzA 32)) := (Ext.refl _).alloc _
   have hb1 := Blk.of_arr wd mzA 32 7 rfl
   have hl1 : wd.heap.size < (wd.alloc (.cells mzA 32)).heap.size := by simp
   have e1 : Ext wd (wd.alloc (.cells mzA 32)) := ((Ext.refl wd)).trans ea1
   try clear hSn
   have hSn := hHeld.ext e1
   refine hK.out _ _ (fun _ => hSn) ?_
   clear hK K
   (try simp only [Act.put, xgD, xgE, xgF])
   (refine wpAnyU_one 2 (o := ?_) (by kernel_rfl) ?_ ?_; rotate_left 1; (simp only [xgA, xgB, xgC]; rfl); intro K hK)
   go_simp
   refine (C2.out (wd.alloc (.cells mzA 32))).mono ?_
   rintro e v2 ⟨rfl, d2⟩
   go_wp2_with (fail)
   have e2 : Ext wd v2 := (e1).trans d2
   try clear hSn
   have hSn := hHeld.ext e2
   refine hK.out _ _ (fun _ => hSn) ?_
   clear hK K
   (try simp only [Act.put, xgD, xgE, xgF])
   (refine wpAnyU_one 4 (o := ?_) (by kernel_rfl) ?_ ?_; rotate_left 1; (simp only [xgA, xgB, xgC]; rfl); intro K hK)
   go_simp
   refine (C4.out (fun g => g = wd.heap.size) v2 (fun g (hg : g = wd.heap.size) => by rw [hg]; exact Nat.lt_of_lt_of_le (hl1) d2.size)).mono ?_
   rintro e v3 ⟨ib, ia, ik, ip, rfl, hI, d3⟩
   go_wp2_with (fail)
   have e3 : Ext wd v3 := (e2).trans d3
   try clear hSn
   have hSn := hHeld.ext e3
   refine hK.out _ _ (fun _ => hSn) ?_
   clear hK K
   (try simp only [Act.put, xgD, xgE, xgF])
   (refine wpAnyU_one 5 (o := ?_) (by kernel_rfl) ?_ ?_; rotate_left 1; (simp only [xgA, xgB, xgC]; rfl); intro K hK)
   go_simp
   refine (C5.out (fun g => g = wd.heap.size) v3 (fun g (hg : g = wd.heap.size) => by rw [hg]; exact Nat.lt_of_lt_of_le (Nat.lt_of_lt_of_le (hl1) d2.size) d3.size) (fun g (hg : g = wd.heap.size) => by rw [hg]; exact ((Ext.refl wd)).size) (e3) ib ia ik ip (hI)).mono ?_
   rintro e v4 ⟨v, rfl, hv, d4⟩
   go_wp2_with (fail)
   have e4 : Ext wd v4 := (e3).trans d4
   try clear hSn
   have hSn := hHeld.ext e4
   refine hK.out _ _ (fun _ => hSn) ?_
   clear hK K
   (try simp only [Act.put, xgD, xgE, xgF])
   (refine tkB [6] ?_; (iterate 1 (refine tk1 (oi := ?_) (v := ?_) (by kernel_rfl) (by first | exact hSn | exact hHeld) ?_ ?_ ?_ ?_ ?_; rotate_left 2; (simp only [xgA, xgB, xgC]; rfl); rfl; (intro wS hSw; obtain ⟨⟨A0, A1, A2, A3, A4, A5, A6⟩, B0, B1, B2, B3⟩ := hSw; go_simp; try with_reducible rfl); (exact fun _ _ _ h => h); (try simp only [Act.put, xgD, xgE, xgF]))); refine tkE ?_)
   obtain ⟨WF, hWF, ⟨q0, q1, q2, q3, q4, q5, q6⟩, ⟨f0, f1, f2, f3, f4, f5, f6⟩, hrr, hkp, hext⟩ := fin7 (M' := (fun g => g = wd.heap.size)) (w := wd) (.int .i64 2) (.int .i64 qc) (.int .i64 v.lv) (.bool v.b) (.slice v.a v.n v.p) (.slice v.ka v.kn v.kp) (.slice none 0 0) ((((hb1).ext d2).ext d3).ext d4) rfl ((Ext.refl wd)).size (e4)
   simp only [arr] at q0 q1 q2 q3 q4 q5 q6
   have HWF := Lib.hid hWF
   have HFC : Hid (FoldCut wd qc lc (.pointer (some ⟨wd.heap.size, 0, none⟩)) WF) := ⟨wd.heap.size, v, rfl, hrr, (hv.kp hkp).more (fun g hg => .inl hg.elim), hext⟩
   clear hkp hrr hWF
   (refine wpAnyU_one 8 (o := ?_) (by kernel_rfl) ?_ ?_; rotate_left 1; (simp only [xgA, xgB, xgC]; rfl); intro K hK)
   clear hSn
   go_simp
   refine hK.out _ _ (fun h => absurd rfl h) ?_
   clear hK K
   refine wpAnyU_done (by kernel_rfl) ?_ _
   go_wp2_with (fail)
   rw [← HWF.out]
   go_meet
   exact HFC.out
 case rest =>
  obtain ⟨gb, v, rfl, hb, hv, hXc⟩ := hcut
  obtain ⟨yb, hyb⟩ : ∃ u : MX, u = ⟨2, compl q, v, none, 0, 0⟩ := ⟨_, rfl⟩
  obtain ⟨yn, hyn⟩ : ∃ u : MX, u = MX.b false := ⟨_, rfl⟩
  obtain ⟨yt, hyt⟩ : ∃ u : MX, u = MX.b true := ⟨_, rfl⟩
  have HX9 := Lib.hid (HX8.out.trans hXc)
  have HBX : Hid (FB5 g gn ga gb y yn yt ya yb wc) := ⟨HB8.out.1.ext hXc, by rw [hyn]; exact HN8.out.1.ext hXc, by rw [hyt]; exact HN8.out.2.ext hXc, HA8.out.ext hXc, by rw [hyb]; exact hb⟩
  have HTX : Hid (FT5 y yn yt ya yb t (tmB false) (tmB true) (.nd 2 q l []) (.nd 2 (compl q) (smul 3 l) []) wc) := ⟨HT.out.1.ext HX9.out, by rw [hyn]; exact tmB_raw 11 M0 wc false, by rw [hyt]; exact tmB_raw 11 M0 wc true, by rw [HYA.out]; exact at_raw 11 M0 wc q x l (HL1.out.kp (Kp.of_ext HX9.out)) HL2.out, by
   have h3 := smF_three HL2.out HL3.out
   rw [hyb]; exact at_raw 11 M0 wc (compl q) v (smul 3 l) (hv.rawP h3) h3⟩
  have HSZ : Hid (t.sz ≤ 80) := HT.out.2
  clear hyb hyn hyt hb hv hXc HX8 HB8 HN8 HA8 HYA HL1 HL2 HL3 HT C2 C4 C5 HQ
  have HX0 := HX9
  have HB0 := HBX
  have HT0 := HTX
  clear HX9 HBX HTX
  obtain ⟨W0, hW0⟩ : ∃ W0, W0 = wc := ⟨_, rfl⟩
  rw [← hW0] at HX0 HB0 HT0 ⊢
  clear hW0
  obtain ⟨⟨a0, a1, a2, a3, a4, a5, a6⟩, ⟨b0, b1, b2, b3, b4, b5, b6⟩, ⟨c0, c1, c2, c3, c4, c5, c6⟩, ⟨d0, d1, d2, d3, d4, d5, d6⟩, e0, e1, e2, e3, e4, e5, e6⟩ := HB0.out
  have hk := KM.two HT0.out.1 HT0.out.2.1
  have hE := (Ext.refl W0).alloc (.cells (row2 y yn) 32)
  have CO := Lib.hid (si_Of 13 M0 ⟨3, 0, PE.z, some ⟨W0.heap.size, 0, none⟩, 2, 2⟩ (.nd 3 0 [] [t, tmB false]) (W0.alloc (.cells (row2 y yn) 32)) (mb0 _) (join_raw 3 hk) (by
   rw [sz_ks]; show 1 + szL _ ≤ 1000
   simp only [TM.ks, szL_cons, szL_nil, tmB_sz, two_sz]; have := HSZ.out; omega))
  generalize hWA : W0.alloc (.cells (row2 y yn) 32) = WA at *
  have HWA := Lib.hid hWA
  have HXA := Lib.hid (HX0.out.trans hE)
  have HBA := Lib.hid (HB0.out.ext hE)
  have HTA := Lib.hid (HT0.out.ext hE)
  clear hWA hE hk HX0 HB0 HT0
  go_wp2_with (fail)
  rw [HWA.out]
  refine CO.out.mono ?_
  rintro e w1 ⟨r1, rfl, hr1, dd⟩
  have HK1 : Hid (r1.kd = 0) := hr1.kd.trans (by
   have := fold_o false 0 [] [t] [] (tmB false) (by rw [ofT_b]; rfl)
   show (ofT (.nd 3 0 [] [t, tmB false])).kd = 0
   rw [show ofT (.nd 3 0 [] [t, tmB false]) = tmB false from this]; rfl)
  have hE := dd.trans ((Ext.refl w1).alloc (.cells r1.A 32))
  have HX0 := Lib.hid (HXA.out.trans hE)
  have HB0 := Lib.hid (HBA.out.ext hE)
  have HT0 := Lib.hid (HTA.out.ext hE)
  have hG1 := new_mx w1 r1
  generalize hWB : w1.alloc (.cells r1.A 32) = WB1 at *
  have HWB := Lib.hid hWB
  have HG1 := Lib.hid hG1
  clear hWB hE dd hr1 hG1 CO HWA HXA HBA HTA a0 a1 a2 a3 a4 a5 a6 b0 b1 b2 b3 b4 b5 b6 c0 c1 c2 c3 c4 c5 c6 d0 d1 d2 d3 d4 d5 d6 e0 e1 e2 e3 e4 e5 e6
  go_upto_region 7 with (fail)
  rw [HWB.out]
  generalize w1.heap.size = gr1 at *
  clear HWB
  obtain ⟨⟨a0, a1, a2, a3, a4, a5, a6⟩, ⟨b0, b1, b2, b3, b4, b5, b6⟩, ⟨c0, c1, c2, c3, c4, c5, c6⟩, ⟨d0, d1, d2, d3, d4, d5, d6⟩, e0, e1, e2, e3, e4, e5, e6⟩ := HB0.out
  have hk := KM.two HT0.out.2.2.1 HT0.out.1
  have hE := (Ext.refl WB1).alloc (.cells (row2 yt y) 32)
  have CO := Lib.hid (si_Of 13 M0 ⟨4, 0, PE.z, some ⟨WB1.heap.size, 0, none⟩, 2, 2⟩ (.nd 4 0 [] [tmB true, t]) (WB1.alloc (.cells (row2 yt y) 32)) (mb0 _) (join_raw 4 hk) (by
   rw [sz_ks]; show 1 + szL _ ≤ 1000
   simp only [TM.ks, szL_cons, szL_nil, tmB_sz, two_sz]; have := HSZ.out; omega))
  generalize hWA : WB1.alloc (.cells (row2 yt y) 32) = WA at *
  have HWA := Lib.hid hWA
  have HXA := Lib.hid (HX0.out.trans hE)
  have HBA := Lib.hid (HB0.out.ext hE)
  have HTA := Lib.hid (HT0.out.ext hE)
  have HGA1 := Lib.hid (HG1.out.ext hE)
  clear HG1
  clear hWA hE hk HX0 HB0 HT0
  go_wp2_with (fail)
  rw [HWA.out]
  refine CO.out.mono ?_
  rintro e w2 ⟨r2, rfl, hr2, dd⟩
  have HK2 : Hid (r2.kd = 1) := hr2.kd.trans (by
   have := fold_o true 0 [] [] [t] (tmB true) (by rw [ofT_b]; rfl)
   show (ofT (.nd 4 0 [] [tmB true, t])).kd = 1
   rw [show ofT (.nd 4 0 [] [tmB true, t]) = tmB true from this]; rfl)
  have hE := dd.trans ((Ext.refl w2).alloc (.cells r2.A 32))
  have HX0 := Lib.hid (HXA.out.trans hE)
  have HB0 := Lib.hid (HBA.out.ext hE)
  have HT0 := Lib.hid (HTA.out.ext hE)
  have hG2 := new_mx w2 r2
  have HG1 := Lib.hid (HGA1.out.ext hE)
  clear HGA1
  generalize hWB : w2.alloc (.cells r2.A 32) = WB2 at *
  have HWB := Lib.hid hWB
  have HG2 := Lib.hid hG2
  clear hWB hE dd hr2 hG2 CO HWA HXA HBA HTA a0 a1 a2 a3 a4 a5 a6 b0 b1 b2 b3 b4 b5 b6 c0 c1 c2 c3 c4 c5 c6 d0 d1 d2 d3 d4 d5 d6 e0 e1 e2 e3 e4 e5 e6
  go_upto_region 8 with (fail)
  rw [HWB.out]
  generalize w2.heap.size = gr2 at *
  clear HWB
  obtain ⟨⟨a0, a1, a2, a3, a4, a5, a6⟩, ⟨b0, b1, b2, b3, b4, b5, b6⟩, ⟨c0, c1, c2, c3, c4, c5, c6⟩, ⟨d0, d1, d2, d3, d4, d5, d6⟩, e0, e1, e2, e3, e4, e5, e6⟩ := HB0.out
  have hk := KM.three HT0.out.2.2.2.1 HT0.out.1 HT0.out.2.2.2.2
  have hE := (Ext.refl WB2).alloc (.cells (row3 ya y yb) 32)
  have CO := Lib.hid (si_Of 13 M0 ⟨3, 0, PE.z, some ⟨WB2.heap.size, 0, none⟩, 3, 3⟩ (.nd 3 0 [] [.nd 2 q l [], t, .nd 2 (compl q) (smul 3 l) []]) (WB2.alloc (.cells (row3 ya y yb) 32)) (mb0 _) (join_raw 3 hk) (by
   rw [sz_ks]; show 1 + szL _ ≤ 1000
   simp only [TM.ks, szL_cons, szL_nil, tmB_sz, two_sz]; have := HSZ.out; omega))
  generalize hWA : WB2.alloc (.cells (row3 ya y yb) 32) = WA at *
  have HWA := Lib.hid hWA
  have HXA := Lib.hid (HX0.out.trans hE)
  have HBA := Lib.hid (HB0.out.ext hE)
  have HTA := Lib.hid (HT0.out.ext hE)
  have HGA1 := Lib.hid (HG1.out.ext hE)
  clear HG1
  have HGA2 := Lib.hid (HG2.out.ext hE)
  clear HG2
  clear hWA hE hk HX0 HB0 HT0
  go_wp2_with (fail)
  rw [HWA.out]
  refine CO.out.mono ?_
  rintro e w3 ⟨r3, rfl, hr3, dd⟩
  have HK3 : Hid (r3.kd = 0) := hr3.kd.trans (fold3 l (smul 3 l) q t (Sim.refl _) 0 [])
  have hE := dd.trans ((Ext.refl w3).alloc (.cells r3.A 32))
  have HX0 := Lib.hid (HXA.out.trans hE)
  have HB0 := Lib.hid (HBA.out.ext hE)
  have HT0 := Lib.hid (HTA.out.ext hE)
  have hG3 := new_mx w3 r3
  have HG1 := Lib.hid (HGA1.out.ext hE)
  clear HGA1
  have HG2 := Lib.hid (HGA2.out.ext hE)
  clear HGA2
  generalize hWB : w3.alloc (.cells r3.A 32) = WB3 at *
  have HWB := Lib.hid hWB
  have HG3 := Lib.hid hG3
  clear hWB hE dd hr3 hG3 CO HWA HXA HBA HTA a0 a1 a2 a3 a4 a5 a6 b0 b1 b2 b3 b4 b5 b6 c0 c1 c2 c3 c4 c5 c6 d0 d1 d2 d3 d4 d5 d6 e0 e1 e2 e3 e4 e5 e6
  go_upto_region 9 with (fail)
  rw [HWB.out]
  generalize w3.heap.size = gr3 at *
  clear HWB
  obtain ⟨⟨a0, a1, a2, a3, a4, a5, a6⟩, ⟨b0, b1, b2, b3, b4, b5, b6⟩, ⟨c0, c1, c2, c3, c4, c5, c6⟩, ⟨d0, d1, d2, d3, d4, d5, d6⟩, e0, e1, e2, e3, e4, e5, e6⟩ := HB0.out
  have hk2 := KM.two HT0.out.1 HT0.out.2.2.2.2
  have hE2 := (Ext.refl WB3).alloc (.cells (row2 y yb) 32)
  have hj := join_raw 4 hk2
  have hta := (HT0.out.2.2.2.1.ext hE2).up
  have hk3 := KM.two hta hj
  simp only [World.size_alloc] at hk3
  have hE3 := hE2.alloc (.cells (row2 ya ⟨4, 0, PE.z, some ⟨WB3.heap.size, 0, none⟩, 2, 2⟩) 32)
  have CO := Lib.hid (si_Of 14 M0 ⟨4, 0, PE.z, some ⟨WB3.heap.size + 1, 0, none⟩, 2, 2⟩ (.nd 4 0 [] [.nd 2 q l [], .nd 4 0 [] [t, .nd 2 (compl q) (smul 3 l) []]]) ((WB3.alloc (.cells (row2 y yb) 32)).alloc (.cells (row2 ya ⟨4, 0, PE.z, some ⟨WB3.heap.size, 0, none⟩, 2, 2⟩) 32)) (mb0 _) (join_raw 4 hk3) (by
   rw [sz_ks]; show 1 + szL _ ≤ 1000
   simp only [TM.ks, szL_cons, szL_nil, two_sz]
   rw [sz_ks (.nd 4 0 [] _)]
   simp only [TM.ks, szL_cons, szL_nil, two_sz]; have := HSZ.out; omega))
  have HXA := Lib.hid (HX0.out.trans hE3)
  have HE3 := Lib.hid hE3
  clear hE3 hE2 hk2 hk3 hj hta HX0 HB0 HT0
  go_wp2_with (fail)
  refine CO.out.mono ?_
  rintro e w4' ⟨r4, rfl, hr4, dd⟩
  have HK4 : Hid (r4.kd = 1) := hr4.kd.trans (fold4 l (smul 3 l) q t (Sim.refl _) 0 0 [] [])
  have hE := dd.trans ((Ext.refl w4').alloc (.cells r4.A 32))
  have HX0 := Lib.hid (HXA.out.trans hE)
  have hG4 := new_mx w4' r4
  have HGB1 := Lib.hid ((HG1.out.ext HE3.out).ext hE)
  have HGB2 := Lib.hid ((HG2.out.ext HE3.out).ext hE)
  have HGB3 := Lib.hid ((HG3.out.ext HE3.out).ext hE)
  generalize hWB : w4'.alloc (.cells r4.A 32) = WB4 at *
  have HWB := Lib.hid hWB
  have HG4 := Lib.hid hG4
  clear hWB hE dd hr4 hG4 CO HXA HG1 HG2 HG3 HE3 a0 a1 a2 a3 a4 a5 a6 b0 b1 b2 b3 b4 b5 b6 c0 c1 c2 c3 c4 c5 c6 d0 d1 d2 d3 d4 d5 d6 e0 e1 e2 e3 e4 e5 e6
  go_upto_region 10 with (fail)
  rw [HWB.out]
  generalize w4'.heap.size = gr4 at *
  have k1 : (r1.kd == 0) = true := beq_iff_eq.2 HK1.out
  have k2 : (r2.kd == 1) = true := beq_iff_eq.2 HK2.out
  have k3 : (r3.kd == 0) = true := beq_iff_eq.2 HK3.out
  have k4 : (r4.kd == 1) = true := beq_iff_eq.2 HK4.out
  have q1 := HGB1.out.1
  have q2 := HGB2.out.1
  have q3 := HGB3.out.1
  have q4 := HG4.out.1
  go_wp2
  go_ret
  exact ⟨rfl, HX0.out⟩
end Go.Proofs.YtfbdckffjjladaaGreat
