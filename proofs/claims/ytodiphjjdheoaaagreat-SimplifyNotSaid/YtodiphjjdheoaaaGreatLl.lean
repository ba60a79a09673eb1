/- prenex.Not of simple matrices. -/
import Derived.Test.YtodiphjjdheoaaaGreatLe
import Derived.Test.YtodiphjjdheoaaaGreatIc
set_option linter.unusedVariables false
set_option linter.unusedSimpArgs false

namespace Go.Proofs.YtodiphjjdheoaaaGreat
open Go.RowKit

set_option maxRecDepth 100000 in
theorem pr_compl (r : Int) (h1 : 1 ≤ r) (h6 : r ≤ 6) (w : World) : Calls Tryz.prog 68 #[.int .i64 r] w fun e w' => e = .returned (.int .i64 (compl r)) ∧ Ext w w' := by
 have HE := Lib.hid (Ext.refl w)
 rcases (show r = 1 ∨ r = 2 ∨ r = 3 ∨ r = 4 ∨ r = 5 ∨ r = 6 by omega) with rfl | rfl | rfl | rfl | rfl | rfl
 all_goals
  clear h1 h6
  go_enter Tryz.func68, Tryz.ntmps68
  go_wp2
  go_ret
  exact ⟨rfl, HE.out⟩
theorem notT_cases (t : TM) : (t.kd = 1 → notT t = tmB false) ∧ (t.kd = 2 → notT t = .nd 2 (compl t.rl) t.l []) ∧ (t.kd = 3 → notT t = .nd 4 0 [] (notL t.ks)) ∧ (t.kd = 4 → notT t = .nd 3 0 [] (notL t.ks)) ∧ (t.kd = 0 → notT t = tmB true) := by
 cases t with
 | nd k r l ks =>
  refine ⟨fun h => ?_, fun h => ?_, fun h => ?_, fun h => ?_, fun h => ?_⟩
  ·change k = 1 at h; subst h; unfold notT; rfl
  ·change k = 2 at h; subst h; unfold notT; rfl
  ·change k = 3 at h; subst h; conv => lhs; unfold notT
   rfl
  ·change k = 4 at h; subst h; conv => lhs; unfold notT
   rfl
  ·change k = 0 at h; subst h; unfold notT; rfl
theorem notL_take (ks : List TM) (j : Nat) (h : j < ks.length) : notL (ks.take (j + 1)) = notL (ks.take j) ++ [notT (kat ks j)] := by
 rw [notL_map, notL_map, take_kat ks j h, List.map_append]; rfl
theorem notL_len (ks : List TM) : (notL ks).length = ks.length := by rw [notL_map, List.length_map]
theorem ORow.setN {f : Nat} {M : Nat → Prop} {base : Nat} {w : World} {v : Value} {ks : List TM} (h : ORow f M base w v ks) {g : Nat} (hg : M g) (hb : g < base) (o : Nat) (u : Value) : ORow f M base (w.setCell ⟨g, o, none⟩ u) v ks := by
 obtain ⟨xx, h1, h2⟩ := h
 have hkp : Kp (MR M v) w (w.setCell ⟨g, o, none⟩ u) := Kp.set _ _ (p := ⟨g, o, none⟩) (.inl hg) _
 refine ⟨xx, h1.of_heap fun q hq => ?_, fun j hj => (h2 j hj).kp hkp⟩
 have := (h1.lt q hq).1
 exact Below.heap_setCell w ⟨g, o, none⟩ u q (by show q ≠ g; omega)
theorem Blk.fun_extN {w : World} {g : Nat} {t : TypeId} {n : Nat} {f f' : Nat → Value} (h : Blk w g t n f) (he : ∀ i, i < n → f i = f' i) : Blk w g t n f' := by
 obtain ⟨cur, h1, h2, h3⟩ := h
 exact ⟨cur, h1, h2, fun i hi => by rw [h3 i hi, he i hi]⟩
def SNk (g4 : Nat) (v2 : Value) (gk : Nat) (z : MX) (w : World) : Prop := w.cell? ⟨g4, 6, none⟩ = some v2 ∧ MxC w gk 0 z
theorem SNk.ext {g4 : Nat} {v2 : Value} {gk : Nat} {z : MX} {w w' : World} (h : SNk g4 v2 gk z w) (he : Ext w w') : SNk g4 v2 gk z w' := by
 have h1 := World.block_lt_of_cell? _ _ h.1
 exact ⟨by rw [he.cell h1]; exact h.1, h.2.ext he⟩
theorem SNk.kp {Q : Nat → Prop} {g4 : Nat} {v2 : Value} {gk : Nat} {z : MX} {w w' : World} (h : SNk g4 v2 gk z w) (he : Kp Q w w') (q2 : ¬ Q g4) (q3 : ¬ Q gk) : SNk g4 v2 gk z w' := by
 have h1 := World.block_lt_of_cell? _ _ h.1
 refine ⟨?_, h.2.heap (he.2 gk h.2.lt q3)⟩
 have := he.2 g4 h1 q2
 have e : ∀ j, w'.cell? ⟨g4, j, none⟩ = w.cell? ⟨g4, j, none⟩ := fun j => by simp only [World.cell?, this]
 rw [e]; exact h.1
structure NtI (f : Nat) (M M2 : Nat → Prop) (w : World) (gz g1 : Nat) (y : MX) (t : TM) (kk : Nat → MX) (W0 : World) : Prop where
 ret : ∀ (w1 : World) (s : TM) (y' : MX), TMc true (f + 1) M2 w1 y' s → Ext W0 w1 → ∃ (WA : World), WA = ((((((w1.setCell ⟨g1, 0, none⟩ (.int .i64 y'.kd)).setCell ⟨g1, 1, none⟩ (.int .i64 y'.rl)).setCell ⟨g1, 2, none⟩ (.int .i64 y'.x.lv)).setCell ⟨g1, 3, none⟩ (.bool y'.x.b)).setCell ⟨g1, 4, none⟩ (.slice y'.x.a y'.x.n y'.x.p)).setCell ⟨g1, 5, none⟩ (.slice y'.x.ka y'.x.kn y'.x.kp)).setCell ⟨g1, 6, none⟩ (.slice y'.a y'.n y'.p) ∧
  (w1.cell? ⟨g1, 0, none⟩ = some (.int .i64 0) ∧ w1.cell? ⟨g1, 1, none⟩ = some (.int .i64 0) ∧ w1.cell? ⟨g1, 2, none⟩ = some (.int .i64 0) ∧ w1.cell? ⟨g1, 3, none⟩ = some (.bool false) ∧ w1.cell? ⟨g1, 4, none⟩ = some (.slice none 0 0) ∧ w1.cell? ⟨g1, 5, none⟩ = some (.slice none 0 0) ∧ w1.cell? ⟨g1, 6, none⟩ = some (.slice none 0 0)) ∧ (w1.frozen? ⟨g1, 0, none⟩ = false ∧ w1.frozen? ⟨g1, 1, none⟩ = false ∧ w1.frozen? ⟨g1, 2, none⟩ = false ∧ w1.frozen? ⟨g1, 3, none⟩ = false ∧ w1.frozen? ⟨g1, 4, none⟩ = false ∧ w1.frozen? ⟨g1, 5, none⟩ = false ∧ w1.frozen? ⟨g1, 6, none⟩ = false) ∧ (WA.cell? ⟨g1, 0, none⟩ = some (.int .i64 y'.kd) ∧ WA.cell? ⟨g1, 1, none⟩ = some (.int .i64 y'.rl) ∧ WA.cell? ⟨g1, 2, none⟩ = some (.int .i64 y'.x.lv) ∧ WA.cell? ⟨g1, 3, none⟩ = some (.bool y'.x.b) ∧ WA.cell? ⟨g1, 4, none⟩ = some (.slice y'.x.a y'.x.n y'.x.p) ∧ WA.cell? ⟨g1, 5, none⟩ = some (.slice y'.x.ka y'.x.kn y'.x.kp) ∧ WA.cell? ⟨g1, 6, none⟩ = some (.slice y'.a y'.n y'.p)) ∧ Hid (RetT (f + 1) M w s (.returned (.agg y'.A)) WA)
 of : ∀ j, j < t.ks.length → ∀ (Q : Nat → Prop) (w1 : World), Mb Q w1 → (∀ g, Q g → M2 g ∨ W0.heap.size ≤ g) → Ext W0 w1 → Calls Tryz.prog 27 #[.agg (kk j).A] w1 (RetT f Q w1 (notT (kat t.ks j)))
 kc : ∀ j, j < t.ks.length → ∃ b off, y.a = some ⟨b, off, none⟩ ∧ MxC W0 b (off + j * 7) (kk j)
 crn : ∀ w1, Ext W0 w1 → Calls Tryz.prog 56 #[.agg (peA y.x)] w1 (RetX M2 w1 4 t.l)
 at2 : t.kd = 2 → ∀ (w1 : World) (u : PE), CRx M2 w1 4 u t.l → TMc true (f + 1) M2 w1 ⟨2, compl y.rl, u, none, 0, 0⟩ (.nd 2 (compl t.rl) t.l [])
 x : MxC W0 gz 0 y
 mb : Mb M2 W0
theorem NtI.ext {f : Nat} {M M2 : Nat → Prop} {w : World} {gz g1 : Nat} {y : MX} {t : TM} {kk : Nat → MX} {W0 W1 : World} (h : NtI f M M2 w gz g1 y t kk W0) (he : Ext W0 W1) : NtI f M M2 w gz g1 y t kk W1 where
 ret w1 s y' h1 h2 := h.ret w1 s y' h1 (he.trans h2)
 of j hj Q w1 h1 h2 h3 := h.of j hj Q w1 h1 (fun g hg => (h2 g hg).imp id fun q => Nat.le_trans he.size q) (he.trans h3)
 kc j hj := by
  obtain ⟨b, off, e, hc⟩ := h.kc j hj
  exact ⟨b, off, e, hc.ext he⟩
 crn w1 h1 := h.crn w1 (he.trans h1)
 at2 := h.at2
 x := h.x.ext he
 mb := h.mb.ext he
def NtCtr (f : Nat) : Prop := ∀ (M : Nat → Prop) (y : MX) (t : TM) (w : World), Mb M w → TMc true f M w y t → t.sz ≤ 1000 → Calls Tryz.prog 27 #[.agg y.A] w (RetT f M w (notT t))
set_option maxRecDepth 100000 in
set_option maxHeartbeats 32000000 in
theorem not_walk (f : Nat) (ih : NtCtr f) : NtCtr (f + 1) := by
 obtain ⟨j0, ji, jz0, jz1, jz2⟩ := info_parts Tryz.info32
 intro M y t w hM hP hsz
 obtain ⟨hE, hX, hB, hM2⟩ := box77 hM y.A rfl
 have hP2 := (hP.more (M' := Mx M w.heap.size (w.heap.size + 2)) (Mx.more (Nat.le_refl _))).ext hE
 have hyk : y.kd = t.kd := hP2.kd
 obtain ⟨⟨a1, a2, a3, a4⟩, hk1, hk2, hk3, kk, hkk⟩ := hP2
 have a4 : CRx (Mx M w.heap.size (w.heap.size + 2)) _ 4 y.x t.l ∧ NodeOk t := a4
 have hx : MxC ((w.alloc (.cells y.A 32)).alloc (.cells mzA 32)) w.heap.size 0 y := (new_mx w y).ext ((Ext.refl _).alloc _)
 have hM3 : ∀ g, M g → Mx M w.heap.size (w.heap.size + 2) g := fun g hg => .inl hg
 have hgM : Mx M w.heap.size (w.heap.size + 2) (w.heap.size + 1) := Mx.at ⟨by omega, by omega⟩
 have hkd := a4.2.kd
 have hrl : t.kd = 2 → 1 ≤ y.rl ∧ y.rl ≤ 6 := fun h => by
  rw [a2]
  obtain ⟨_, h1 | h1 | h1⟩ := a4.2
  ·omega
  ·exact h1.2.1
  ·omega
 have CK : Hid (∀ W', Calls Tryz.prog 67 #[.agg y.A] W' fun e w' => e = .returned (.int .i64 t.kd) ∧ Ext W' w') := fun W' => by
  have := pr_kindX y W'
  rwa [a1, hkd.1] at this
 have hkd := hkd.2
 generalize hW0 : (w.alloc (.cells y.A 32)).alloc (.cells mzA 32) = W0 at *
 generalize Mx M w.heap.size (w.heap.size + 2) = M2 at *
 have hI : NtI f M M2 w w.heap.size (w.heap.size + 1) y t kk W0 := by
  refine ⟨fun w1 s y' hy' he1 => ?_, fun j hj Q w1 hq hv he => ?_, fun j hj => ?_, fun w1 he => ?_, fun h2 w1 u hu => ?_, hx, hM2⟩
  ·obtain ⟨WA, h1, h2, h3, h4, h5⟩ := retM (M := M) (w := w) (hB.ext he1) hgM (by omega) (hE.trans he1) hy' hM3
   exact ⟨WA, h1, h2, h3, h4, h5⟩
  ·obtain ⟨_, h⟩ := hkk j (by rw [hk1]; exact hj)
   refine ih Q (kk j) (kat t.ks j) w1 hq ((h.more hv).ext he) ?_
   have h1 := szL_take t.ks (j + 1)
   rw [take_kat t.ks j hj, szL_append, szL_cons] at h1
   have := sz_ks t
   omega
  ·obtain ⟨⟨b, off, e, _, h⟩, _⟩ := hkk j (by rw [hk1]; exact hj)
   exact ⟨b, off, e, h⟩
  ·exact rp_Normal M2 y.x t.l w1 (hM2.ext he) (a4.1.ext he).pi
  ·rw [a2]
   have hr := hrl h2
   rw [a2] at hr
   refine ⟨⟨rfl, rfl, a3, ?_⟩, KM.nil0⟩
   exact (show CRx M2 w1 4 u t.l ∧ NodeOk (.nd 2 (compl t.rl) t.l []) from ⟨hu, a4.2.1, .inr (.inl ⟨rfl, ⟨(compl_range hr.1 hr.2).1, (compl_range hr.1 hr.2).2.1⟩, rfl⟩)⟩)
 obtain ⟨n1, n2, n3, n4, n5⟩ := notT_cases t
 have HI0 := Lib.hid hI
 have HYD : Hid (y.kd = t.kd) := hyk
 have HRL := Lib.hid hrl
 have N1 := Lib.hid n1
 have N2 := Lib.hid n2
 have N3 := Lib.hid n3
 have N4 := Lib.hid n4
 have N5 := Lib.hid n5
 have HW0 := Lib.hid hW0
 have HN := Lib.hid hk1
 unfold maxLen at hk3
 have hn1 : y.n ≤ 1000 := by rw [hk1]; exact Nat.le_trans (len_szL _) (by have := sz_ks t; omega)
 clear hE hX hB hM2 hP hx hW0 hM hM3 hgM hkk hk1 hsz ih hyk a1 a2 a3 a4 n1 n2 n3 n4 n5 hI hrl
 obtain ⟨gz, hgz⟩ : ∃ g, g = w.heap.size := ⟨_, rfl⟩
 rw [← hgz] at HI0
 obtain ⟨x0, x1, x2, x3, x4, x5, x6⟩ := HI0.out.x
 go_enter Tryz.func27, Tryz.ntmps27
 go_upto_region 1 with (fail)
 rw [HW0.out, ← hgz]
 clear HW0 hgz
 go_wp2_with (fail)
 refine (CK.out _).mono ?_
 rintro e W1 ⟨rfl, he1⟩
 have HI := Lib.hid (HI0.out.ext he1)
 clear HI0 he1 x0 x1 x2 x3 x4 x5 x6 CK
 obtain ⟨yn, hyn⟩ : ∃ g, g = y.n := ⟨_, rfl⟩
 obtain ⟨ya, hya⟩ : ∃ g, g = y.a := ⟨_, rfl⟩
 obtain ⟨x0, x1, x2, x3, x4, x5, x6⟩ := HI.out.x
 rw [← hyn] at HN hk2 hn1
 have HKC : Hid (∀ j, j < t.ks.length → ∃ b off, ya = some ⟨b, off, none⟩ ∧ MxC W1 b (off + j * 7) (kk j)) := by
  show ∀ j, _
  rw [hya]; exact HI.out.kc
 rw [← hyn, ← hya] at x6
 clear hyn hya
 have HX6 : Hid (W1.cell? ⟨gz, 6, none⟩ = some (.slice ya yn y.p)) := x6
 have HGZ : Hid (gz < W1.heap.size) := HI.out.x.lt
 rcases hkd with hk | hk | hk | hk | hk
 ·have h1 : (t.kd == 1) = false := by rw [hk]; decide
  have h2 : (t.kd == 2) = false := by rw [hk]; decide
  have h3 : (t.kd == 3) = false := by rw [hk]; decide
  have h4 : (t.kd == 4) = false := by rw [hk]; decide
  obtain ⟨WA, hWA, ⟨c0, c1, c2, c3, c4, c5, c6⟩, ⟨f0, f1, f2, f3, f4, f5, f6⟩, ⟨r0, r1, r2, r3, r4, r5, r6⟩, HF⟩ := HI.out.ret W1 (tmB true) ⟨1, 0, ⟨0, false, none, 0, 0, none, 0, 0⟩, none, 0, 0⟩ (tmB_c f M2 W1 true) (Ext.refl _)
  try dsimp only at hWA r0 r1 r2 r3 r4 r5 r6
  have HWA := Lib.hid hWA
  have HF := Lib.hid (show RetT (f + 1) M w (notT t) _ WA from by rw [N5.out hk]; exact HF.out)
  clear hWA hk x6
  go_wp2
  rw [← HWA.out]
  clear HWA c0 c1 c2 c3 c4 c5 c6 f0 f1 f2 f3 f4 f5 f6
  exact bodyPost_ret (v := .agg (MX.A ⟨1, 0, ⟨0, false, none, 0, 0, none, 0, 0⟩, none, 0, 0⟩)) (by simp [results, Tryz.results27, go_sem, r0, r1, r2, r3, r4, r5, r6]) rfl HF.out
 ·have h1 : (t.kd == 1) = true := by rw [hk]; decide
  have h2 : (t.kd == 2) = false := by rw [hk]; decide
  have h3 : (t.kd == 3) = false := by rw [hk]; decide
  have h4 : (t.kd == 4) = false := by rw [hk]; decide
  obtain ⟨WA, hWA, ⟨c0, c1, c2, c3, c4, c5, c6⟩, ⟨f0, f1, f2, f3, f4, f5, f6⟩, ⟨r0, r1, r2, r3, r4, r5, r6⟩, HF⟩ := HI.out.ret W1 (tmB false) ⟨0, 0, ⟨0, false, none, 0, 0, none, 0, 0⟩, none, 0, 0⟩ (tmB_c f M2 W1 false) (Ext.refl _)
  try dsimp only at hWA r0 r1 r2 r3 r4 r5 r6
  have HWA := Lib.hid hWA
  have HF := Lib.hid (show RetT (f + 1) M w (notT t) _ WA from by rw [N1.out hk]; exact HF.out)
  clear hWA hk x6
  go_wp2
  rw [← HWA.out]
  clear HWA c0 c1 c2 c3 c4 c5 c6 f0 f1 f2 f3 f4 f5 f6
  exact bodyPost_ret (v := .agg (MX.A ⟨0, 0, ⟨0, false, none, 0, 0, none, 0, 0⟩, none, 0, 0⟩)) (by simp [results, Tryz.results27, go_sem, r0, r1, r2, r3, r4, r5, r6]) rfl HF.out
 ·have h1 : (t.kd == 1) = false := by rw [hk]; decide
  have h2 : (t.kd == 2) = true := by rw [hk]; decide
  have h3 : (t.kd == 3) = false := by rw [hk]; decide
  have h4 : (t.kd == 4) = false := by rw [hk]; decide
  have hr := HRL.out hk
  have HR := Lib.hid hr
  have hcr := compl_range hr.1 hr.2
  clear x6 hr
  go_upto_region 5 with (fail)
  have hS : MxC W1.drew gz 0 y := HI.out.x.ext (Ext.refl W1).drew
  have HXD := Lib.hid (Ext.refl W1).drew
  clear x0 x1 x2 x3 x4 x5
  refine wp_region_u (fun w => MxC w gz 0 y) 8 (by kernel_rfl) hS (fun hHeld => ?_)
  clear hS
  generalize W1.drew = wd at *
  (refine tkB [0, 1, 4, 5] ?_; (iterate 4 (refine tk1 (oi := ?_) (v := ?_) (by kernel_rfl) (by first | exact hSn | exact hHeld) ?_ ?_ ?_ ?_ ?_; rotate_left 2; (simp only [xgA, xgB, xgC]; rfl); rfl; (intro wS hSw; obtain ⟨A0, A1, A2, A3, A4, A5, A6⟩ := hSw; go_simp; try with_reducible rfl); (exact fun _ _ _ h => h); (try simp only [Act.put, xgD, xgE, xgF]))); refine tkE ?_)
  ((refine wpAnyU_one 2 (o := ?_) (by kernel_rfl) ?_ ?_; rotate_left 1; (simp only [xgA, xgB, xgC]; rfl); intro K hK); go_simp; (refine (pr_rel y.rl HR.out.1 HR.out.2 _).mono ?_); rintro e_ v1 ⟨rfl, d1⟩; go_wp2_with (fail); (try clear hSn); (have hSn := hHeld.ext d1); (refine hK.out _ _ (fun _ => hSn) ?_); clear hK K; (try simp only [Act.put, xgD, xgE, xgF]))
  ((refine wpAnyU_one 3 (o := ?_) (by kernel_rfl) ?_ ?_; rotate_left 1; (simp only [xgA, xgB, xgC]; rfl); intro K hK); go_simp; (refine (pr_compl y.rl HR.out.1 HR.out.2 _).mono ?_); rintro e_ v2 ⟨rfl, d2⟩; go_wp2_with (fail); (try clear hSn); (have hSn := hHeld.ext (d1.trans d2)); (refine hK.out _ _ (fun _ => hSn) ?_); clear hK K; (try simp only [Act.put, xgD, xgE, xgF]))
  ((refine wpAnyU_one 6 (o := ?_) (by kernel_rfl) ?_ ?_; rotate_left 1; (simp only [xgA, xgB, xgC]; rfl); intro K hK); go_simp; (refine (HI.out.crn _ (HXD.out.trans (d1.trans d2))).mono ?_); rintro e_ v3 ⟨u, rfl, hu, d3⟩; go_wp2_with (fail); (try clear hSn); (have hSn := hHeld.ext ((d1.trans d2).trans d3)); (refine hK.out _ _ (fun _ => hSn) ?_); clear hK K; (try simp only [Act.put, xgD, xgE, xgF]))
  (refine tkB [7] ?_; (iterate 1 (refine tk1 (oi := ?_) (v := ?_) (by kernel_rfl) (by first | exact hSn | exact hHeld) ?_ ?_ ?_ ?_ ?_; rotate_left 2; (simp only [xgA, xgB, xgC]; rfl); rfl; (intro wS hSw; obtain ⟨A0, A1, A2, A3, A4, A5, A6⟩ := hSw; go_simp; try with_reducible rfl); (exact fun _ _ _ h => h); (try simp only [Act.put, xgD, xgE, xgF]))); refine tkE ?_)
  have hd3 := HXD.out.trans ((d1.trans d2).trans d3)
  have hat := HI.out.at2 hk v3 u hu
  obtain ⟨WA, hWA, ⟨c0, c1, c2, c3, c4, c5, c6⟩, ⟨f0, f1, f2, f3, f4, f5, f6⟩, ⟨r0, r1, r2, r3, r4, r5, r6⟩, HF⟩ := HI.out.ret v3 (.nd 2 (compl t.rl) t.l []) ⟨2, compl y.rl, u, none, 0, 0⟩ hat hd3
  try dsimp only at hWA r0 r1 r2 r3 r4 r5 r6
  have HWA := Lib.hid hWA
  have HF := Lib.hid (show RetT (f + 1) M w (notT t) _ WA from by rw [N2.out hk]; exact HF.out)
  clear hWA hk hat hu hd3 d1 d2 d3 hHeld hSn hcr
  ((refine wpAnyU_one 8 (o := ?_) (by kernel_rfl) ?_ ?_; rotate_left 1; (simp only [xgA, xgB, xgC]; rfl); intro K hK); go_simp; (refine hK.out _ _ (fun h => absurd rfl h) ?_); clear hK K; refine wpAnyU_done (by kernel_rfl) ?_ _)
  rw [← HWA.out]
  clear HWA c0 c1 c2 c3 c4 c5 c6 f0 f1 f2 f3 f4 f5 f6
  go_wp2
  exact bodyPost_ret (v := .agg (MX.A ⟨2, compl y.rl, u, none, 0, 0⟩)) (by simp [results, Tryz.results27, go_sem, r0, r1, r2, r3, r4, r5, r6]) rfl HF.out
 ·have h1 : (t.kd == 1) = false := by rw [hk]; decide
  have h2 : (t.kd == 2) = false := by rw [hk]; decide
  have h3 : (t.kd == 3) = true := by rw [hk]; decide
  have h4 : (t.kd == 4) = false := by rw [hk]; decide
  have XK : Hid (W1.cell? ⟨gz, 0, none⟩ = some (.int .i64 3)) := by
   show _ = _
   rw [x0, HYD.out, hk]
  have HQK := Lib.hid (N3.out hk)
  rw [hk]
  clear hk x0 x1 x2 x3 x4 x5 h1 h2 h3 h4
  have x0 := XK.out
  go_upto_region 9 with (fail)
  have hE4 := (Ext.refl W1).alloc (.cells #[.int .i64 4, .int .i64 0, .int .i64 0, .bool false, .slice none 0 0, .slice none 0 0, .slice none 0 0] 32)
  have hB4 := Blk.of_arr W1 #[.int .i64 4, .int .i64 0, .int .i64 0, .bool false, .slice none 0 0, .slice none 0 0, .slice none 0 0] 32 7 rfl
  have hs4 : (W1.alloc (.cells #[.int .i64 4, .int .i64 0, .int .i64 0, .bool false, .slice none 0 0, .slice none 0 0, .slice none 0 0] 32)).heap.size = W1.heap.size + 1 := by simp
  generalize W1.alloc (.cells #[.int .i64 4, .int .i64 0, .int .i64 0, .bool false, .slice none 0 0, .slice none 0 0, .slice none 0 0] 32) = W4 at *
  have HE4 := Lib.hid hE4
  have HB4 := Lib.hid hB4
  have HS4 := Lib.hid hs4
  obtain ⟨g4, hg4⟩ : ∃ g, g = W1.heap.size := ⟨_, rfl⟩
  rw [← hg4] at HB4 HS4 HGZ ⊢
  have HG4 := Lib.hid hg4
  obtain ⟨M3, hM3⟩ : ∃ Q : Nat → Prop, Q = fun g => M2 g ∨ g = g4 := ⟨_, rfl⟩
  have HM3 : Hid (∀ g, M3 g ↔ M2 g ∨ g = g4) := fun g => by rw [hM3]
  have HM2L : Hid (∀ g, M2 g → g < g4) := fun g hg => by rw [HG4.out]; exact HI.out.mb g hg
  clear hE4 hB4 hs4 hg4 hM3 x6 x0
  have x6 : W4.cell? ⟨gz, 6, none⟩ = some (.slice ya yn y.p) := by rw [HE4.out.cell (by rw [← HG4.out]; exact HGZ.out)]; exact HX6.out
  go_wp2
  clear x6
  go_loopw [31] (fun iv wr => ∃ (j : Nat) (v : Value), j ≤ yn ∧ iv = .int .i64 (j : Int) ∧ Hid (Blk wr g4 32 7 (arr #[.int .i64 4, .int .i64 0, .int .i64 0, .bool false, .slice none 0 0, .slice none 0 0, v])) ∧ Hid (ORow f M3 W4.heap.size wr v (notL (t.ks.take j))) ∧ Hid (Ext W1 wr)) (fun iv _ => yn - (intOf iv).toNat)
  case atStart => exact ⟨0, .slice none 0 0, Nat.zero_le _, rfl, HB4.out, ORow.nil _ _ _ _, HE4.out⟩
  case round =>
   obtain ⟨j, v, hj, rfl, HBK, HOR, HXR⟩ := hrel
   obtain ⟨va, vn, vp, rfl, hvn⟩ := HOR.out.form3
   have HVN := Lib.hid hvn
   clear hvn
   by_cases hlt : j < yn
   ·have HJ : Hid (j < t.ks.length) := by show j < t.ks.length; rw [← HN.out]; exact hlt
    obtain ⟨b, off, rfl, hc⟩ := HKC.out j HJ.out
    obtain ⟨e0, e1, e2, e3, e4, e5, e6⟩ := hc.ext HXR.out
    have hEA5 := (Ext.refl wr).alloc (.cells (kk j).A 32)
    have hY5 := new_mx wr (kk j)
    have hXd := (HXR.out.trans hEA5).trans (Ext.refl (wr.alloc (.cells (kk j).A 32))).drew
    have hDD := hEA5.trans (Ext.refl (wr.alloc (.cells (kk j).A 32))).drew
    have HGKW : Hid (∀ q, (Value.slice va vn vp).ownBlock = some q → q < wr.heap.size) := fun q hq => (HOR.out.lt q hq).2
    have HOFJ := Lib.hid (HI.out.of j HJ.out)
    generalize kk j = zk at *
    have hb6 : (wr.alloc (.cells zk.A 32)).drew.cell? ⟨g4, 6, none⟩ = some (.slice va vn vp) := (HBK.out.ext hDD).cell (i := 6) (by omega)
    have hS : SNk g4 (.slice va vn vp) wr.heap.size zk (wr.alloc (.cells zk.A 32)).drew := ⟨hb6, hY5.ext (Ext.refl _).drew⟩
    have HOD := Lib.hid (HOR.out.ext hDD)
    have HBD := Lib.hid (HBK.out.ext hDD)
    generalize hW5 : wr.alloc (.cells zk.A 32) = W5 at *
    have HW5 := Lib.hid hW5
    clear hW5
    have hMM : Mb (MR M3 (.slice va vn vp)) W5.drew := fun g hg => by
     rcases hg with hg | hg
     ·rcases (HM3.out g).1 hg with h | h
      ·exact Nat.lt_of_lt_of_le (HI.out.mb g h) hXd.size
      ·rw [h]; exact HBD.out.lt
     ·exact (HOD.out.lt g hg).2
    have hMfr : ∀ g, MR M3 (.slice va vn vp) g → M2 g ∨ W1.heap.size ≤ g := fun g hg => by
     rcases hg with hg | hg
     ·rcases (HM3.out g).1 hg with h | h
      ·exact .inl h
      ·exact .inr (by rw [h, HG4.out]; exact Nat.le_refl _)
     ·have := (HOD.out.lt g hg).1
      have h4 := HS4.out
      have h5 := HG4.out
      exact .inr (by omega)
    have CN := Lib.hid (HOFJ.out (MR M3 (.slice va vn vp)) W5.drew hMM hMfr hXd)
    have HXD := Lib.hid hXd
    have HLT := Lib.hid hlt
    have hltI : (j : Int) < (yn : Int) := by omega
    have HVL : Hid (vn ≤ 1000) := by
     show vn ≤ 1000
     rw [HVN.out, notL_len, List.length_take]; omega
    clear hc hXd hlt hMM hMfr HBK HOR HXR hb6 hEA5 hY5 hDD HOFJ
    go_upto_region 12 with (fail)
    rw [HW5.out]
    clear HW5 e0 e1 e2 e3 e4 e5 e6
    generalize wr.heap.size = gk at *
    refine wp_region_u (SNk g4 (.slice va vn vp) gk zk) 7 (by kernel_rfl) hS (fun hHeld => ?_)
    clear hS
    generalize W5.drew = wd at *
    (refine tkB [0, 1, 2] ?_; (iterate 3 (refine tk1 (oi := ?_) (v := ?_) (by kernel_rfl) (by first | exact hSn | exact hHeld) ?_ ?_ ?_ ?_ ?_; rotate_left 2; (simp only [xgA, xgB, xgC]; rfl); rfl; (intro wS hSw; obtain ⟨S2, B0, B1, B2, B3, B4, B5, B6⟩ := hSw; go_simp; try with_reducible rfl); (exact fun _ _ _ h => h); (try simp only [Act.put, xgD, xgE, xgF]))); refine tkE ?_)
    ((refine wpAnyU_one 3 (o := ?_) (by kernel_rfl) ?_ ?_; rotate_left 1; (simp only [xgA, xgB, xgC]; rfl); intro K hK); go_simp; (refine (CN.out).mono ?_); rintro e_ u7 ⟨u, rfl, hu, d7⟩; go_wp2_with (fail); (try clear hSn); (have hSn := hHeld.ext d7); (refine hK.out _ _ (fun _ => hSn) ?_); clear hK K; (try simp only [Act.put, xgD, xgE, xgF]))
    (refine wpAnyU_one 4 (o := ?_) (by kernel_rfl) ?_ ?_; rotate_left 1; (simp only [xgA, xgB, xgC]; rfl); intro K hK)
    go_simp
    have hEA : Ext wd (u7.alloc (.cells u.A 32)) := d7.alloc _
    have hS2 := hHeld.ext hEA
    refine hK.out _ _ (fun _ => hS2) ?_
    clear hK K
    (try simp only [Act.put, xgD, xgE, xgF])
    (refine wpAnyU_one 5 (o := ?_) (by kernel_rfl) ?_ ?_; rotate_left 1; (simp only [xgA, xgB, xgC]; rfl); intro K hK)
    have hvn := HVN.out
    subst hvn
    obtain ⟨xx, hO, hXX⟩ := HOD.out.ext hEA
    have hszA : W4.heap.size ≤ (u7.alloc (.cells u.A 32)).heap.size := by
     have h1 := (HXD.out.trans hEA).size
     have h2 := (HBD.out.ext hEA).lt
     have h4 := HS4.out
     omega
    have hvl := HVL.out
    refine step_append_fn _ (by rfl) (.tmp 36) (.tmp 39) _ (by rfl) W4.heap.size 32 j0 _ 7 104 Tryz.underlying30 ji jz0 jz1 jz2 rfl (by omega) (.slice va (notL (t.ks.take j)).length vp) (notL (t.ks.take j)).length (pm xx) (by rfl) hO u7.heap.size 32 1 (arr u.A) (by rfl) (Blk.of_arr u7 u.A 32 7 rfl) (mx_one u) (by unfold maxLen; omega) (by omega) hszA ?_
    intro gg cap2 v3 hO6 hg6 hat hlt6
    have hown : ∀ q, (Value.slice va (notL (t.ks.take j)).length vp).ownBlock = some q → W4.heap.size ≤ q := fun q hq => (HOD.out.lt q hq).1
    have hown2 := HGKW.out
    have h4 := HS4.out
    have h5 := HG4.out
    have HKG := Lib.hid (Kp.grown (M := fun q => (Value.slice va (notL (t.ks.take j)).length vp).ownBlock = some q) hg6 fun k hk => hk)
    have hS9 : SNk g4 (.slice va (notL (t.ks.take j)).length vp) gk zk v3 := hS2.kp HKG.out (fun h => by have := hown _ h; omega) (fun h => by have := hown2 _ h; omega)
    have HB9 : Hid (Blk v3 g4 32 7 (arr #[.int .i64 4, .int .i64 0, .int .i64 0, .bool false, .slice none 0 0, .slice none 0 0, .slice va (notL (t.ks.take j)).length vp])) := (HBD.out.ext hEA).of_heap (HKG.out.2 g4 (HBD.out.ext hEA).lt fun h => by have := hown _ h; omega)
    have HX9 : Hid (Ext W1 v3) := (HXD.out.trans hEA).grown hg6 fun q hq => by have := hown q hq; omega
    have HO9 : Hid (ORow f M3 W4.heap.size v3 (.slice (some ⟨gg, 0, none⟩) ((notL (t.ks.take j)).length + 1) cap2) (notL (t.ks.take (j + 1)))) := by
     show ORow _ _ _ _ _ _
     rw [notL_take t.ks j HJ.out]
     exact ORow.push hXX (hu.ext ((Ext.refl u7).alloc _)) hO6 hg6 hat
    have hz9 := HB9.out.frozen 6
    have hb9 := hS9.1
    clear hO6 hg6 hat hO hXX hu hszA hS2 hEA d7 hown hown2 h4 h5 HKG HBD HOD CN HXD
    refine hK.out _ _ (fun _ => hS9) ?_
    clear hK K
    (try simp only [Act.put, xgD, xgE, xgF])
    have hSn := hS9
    (refine tkB [6] ?_; (iterate 1 (refine tk1 (oi := ?_) (v := ?_) (by kernel_rfl) (by first | exact hSn | exact hHeld) ?_ ?_ ?_ ?_ ?_; rotate_left 2; (simp only [xgA, xgB, xgC]; rfl); rfl; (intro wS hSw; obtain ⟨S2, B0, B1, B2, B3, B4, B5, B6⟩ := hSw; go_simp; try with_reducible rfl); (exact fun _ _ _ h => h); (try simp only [Act.put, xgD, xgE, xgF]))); refine tkE ?_)
    clear hSn
    ((refine wpAnyU_one 7 (o := ?_) (by kernel_rfl) ?_ ?_; rotate_left 1; (simp only [xgA, xgB, xgC]; rfl); intro K hK); go_simp; (refine hK.out _ _ (fun h => absurd rfl h) ?_); clear hK K; refine wpAnyU_done (by kernel_rfl) ?_ _)
    have HB10 : Hid (Blk (v3.setCell ⟨g4, 6, none⟩ (.slice (some ⟨gg, 0, none⟩) ((notL (t.ks.take j)).length + 1) cap2)) g4 32 7 (arr #[.int .i64 4, .int .i64 0, .int .i64 0, .bool false, .slice none 0 0, .slice none 0 0, .slice (some ⟨gg, 0, none⟩) ((notL (t.ks.take j)).length + 1) cap2])) := (HB9.out.set 6 _).fun_extN fun i hi => by
     match i, hi with
     | 0, _ => rfl
     | 1, _ => rfl
     | 2, _ => rfl
     | 3, _ => rfl
     | 4, _ => rfl
     | 5, _ => rfl
     | 6, _ => rfl
    have HO10 := Lib.hid (HO9.out.setN (g := g4) ((HM3.out g4).2 (.inr rfl)) (by have := HS4.out; omega) 6 (.slice (some ⟨gg, 0, none⟩) ((notL (t.ks.take j)).length + 1) cap2))
    have HX10 := Lib.hid (HX9.out.set (p := ⟨g4, 6, none⟩) (by rw [HG4.out]; exact Nat.le_refl _) (.slice (some ⟨gg, 0, none⟩) ((notL (t.ks.take j)).length + 1) cap2))
    clear HB9 HO9 HX9 hS9 hz9 hb9 hHeld
    generalize v3.setCell ⟨g4, 6, none⟩ (.slice (some ⟨gg, 0, none⟩) ((notL (t.ks.take j)).length + 1) cap2) = v4 at *
    generalize (Value.slice (some ⟨gg, 0, none⟩) ((notL (t.ks.take j)).length + 1) cap2) = sv at *
    go_wp2
    go_roundw
    case rel => exact ⟨j + 1, sv, HLT.out, by go_num, HB10.out, HO10.out, HX10.out⟩
    case measure => have := HLT.out; simp [intOf]; omega
   ·obtain rfl : j = yn := by omega
    have hge : ¬ (j : Int) < (j : Int) := by omega
    have hkm : KM (TMc true f M3) M3 wr va vn vp (notL (t.ks.take j)) := HOR.out.km fun g hg hm => by
     have h4 := HS4.out
     rcases (HM3.out g).1 hm with h | h
     ·have := HM2L.out g h; omega
     ·omega
    have hkm2 := hkm.more (M' := M2) fun b hb => .inl ((HM3.out b).2 (.inl hb))
    have hta : notL (t.ks.take j) = notL t.ks := by rw [HN.out, List.take_length]
    rw [hta] at hkm2
    have ht1 : TMc true (f + 1) M2 wr ⟨4, 0, ⟨0, false, none, 0, 0, none, 0, 0⟩, va, vn, vp⟩ (.nd 4 0 [] (notL t.ks)) := ⟨⟨rfl, rfl, smF_nil, (show CRx M2 wr 4 PE.z [] ∧ NodeOk (.nd 4 0 [] (notL t.ks)) from ⟨CR.zero _ _ _, rfl, .inr (.inr ⟨.inr rfl, rfl, rfl⟩)⟩)⟩, hkm2⟩
    have d0 := HBK.out.cell (i := 0) (by omega)
    have d1 := HBK.out.cell (i := 1) (by omega)
    have d2 := HBK.out.cell (i := 2) (by omega)
    have d3 := HBK.out.cell (i := 3) (by omega)
    have d4 := HBK.out.cell (i := 4) (by omega)
    have d5 := HBK.out.cell (i := 5) (by omega)
    have d6 := HBK.out.cell (i := 6) (by omega)
    simp only [arr] at d0 d1 d2 d3 d4 d5 d6
    clear hkm hkm2 hta
    obtain ⟨WA, hWA, ⟨c0, c1, c2, c3, c4, c5, c6⟩, ⟨f0, f1, f2, f3, f4, f5, f6⟩, ⟨r0, r1, r2, r3, r4, r5, r6⟩, HF⟩ := HI.out.ret wr (.nd 4 0 [] (notL t.ks)) ⟨4, 0, ⟨0, false, none, 0, 0, none, 0, 0⟩, va, vn, vp⟩ ht1 HXR.out
    try dsimp only at hWA r0 r1 r2 r3 r4 r5 r6
    have HWA := Lib.hid hWA
    have HF := Lib.hid (show RetT (f + 1) M w (notT t) _ WA from by rw [HQK.out]; exact HF.out)
    clear hWA ht1
    go_wp2
    rw [← HWA.out]
    clear HWA c0 c1 c2 c3 c4 c5 c6 f0 f1 f2 f3 f4 f5 f6
    exact bodyPost_ret (v := .agg (MX.A ⟨4, 0, ⟨0, false, none, 0, 0, none, 0, 0⟩, va, vn, vp⟩)) (by simp [results, Tryz.results27, go_sem, r0, r1, r2, r3, r4, r5, r6]) rfl HF.out
 ·have h1 : (t.kd == 1) = false := by rw [hk]; decide
  have h2 : (t.kd == 2) = false := by rw [hk]; decide
  have h3 : (t.kd == 3) = false := by rw [hk]; decide
  have h4 : (t.kd == 4) = true := by rw [hk]; decide
  have XK : Hid (W1.cell? ⟨gz, 0, none⟩ = some (.int .i64 4)) := by
   show _ = _
   rw [x0, HYD.out, hk]
  have HQK := Lib.hid (N4.out hk)
  rw [hk]
  clear hk x0 x1 x2 x3 x4 x5 h1 h2 h3 h4
  have x0 := XK.out
  go_upto_region 9 with (fail)
  have hE4 := (Ext.refl W1).alloc (.cells #[.int .i64 3, .int .i64 0, .int .i64 0, .bool false, .slice none 0 0, .slice none 0 0, .slice none 0 0] 32)
  have hB4 := Blk.of_arr W1 #[.int .i64 3, .int .i64 0, .int .i64 0, .bool false, .slice none 0 0, .slice none 0 0, .slice none 0 0] 32 7 rfl
  have hs4 : (W1.alloc (.cells #[.int .i64 3, .int .i64 0, .int .i64 0, .bool false, .slice none 0 0, .slice none 0 0, .slice none 0 0] 32)).heap.size = W1.heap.size + 1 := by simp
  generalize W1.alloc (.cells #[.int .i64 3, .int .i64 0, .int .i64 0, .bool false, .slice none 0 0, .slice none 0 0, .slice none 0 0] 32) = W4 at *
  have HE4 := Lib.hid hE4
  have HB4 := Lib.hid hB4
  have HS4 := Lib.hid hs4
  obtain ⟨g4, hg4⟩ : ∃ g, g = W1.heap.size := ⟨_, rfl⟩
  rw [← hg4] at HB4 HS4 HGZ ⊢
  have HG4 := Lib.hid hg4
  obtain ⟨M3, hM3⟩ : ∃ Q : Nat → Prop, Q = fun g => M2 g ∨ g = g4 := ⟨_, rfl⟩
  have HM3 : Hid (∀ g, M3 g ↔ M2 g ∨ g = g4) := fun g => by rw [hM3]
  have HM2L : Hid (∀ g, M2 g → g < g4) := fun g hg => by rw [HG4.out]; exact HI.out.mb g hg
  clear hE4 hB4 hs4 hg4 hM3 x6 x0
  have x6 : W4.cell? ⟨gz, 6, none⟩ = some (.slice ya yn y.p) := by rw [HE4.out.cell (by rw [← HG4.out]; exact HGZ.out)]; exact HX6.out
  go_wp2
  clear x6
  go_loopw [31] (fun iv wr => ∃ (j : Nat) (v : Value), j ≤ yn ∧ iv = .int .i64 (j : Int) ∧ Hid (Blk wr g4 32 7 (arr #[.int .i64 3, .int .i64 0, .int .i64 0, .bool false, .slice none 0 0, .slice none 0 0, v])) ∧ Hid (ORow f M3 W4.heap.size wr v (notL (t.ks.take j))) ∧ Hid (Ext W1 wr)) (fun iv _ => yn - (intOf iv).toNat)
  case atStart => exact ⟨0, .slice none 0 0, Nat.zero_le _, rfl, HB4.out, ORow.nil _ _ _ _, HE4.out⟩
  case round =>
   obtain ⟨j, v, hj, rfl, HBK, HOR, HXR⟩ := hrel
   obtain ⟨va, vn, vp, rfl, hvn⟩ := HOR.out.form3
   have HVN := Lib.hid hvn
   clear hvn
   by_cases hlt : j < yn
   ·have HJ : Hid (j < t.ks.length) := by show j < t.ks.length; rw [← HN.out]; exact hlt
    obtain ⟨b, off, rfl, hc⟩ := HKC.out j HJ.out
    obtain ⟨e0, e1, e2, e3, e4, e5, e6⟩ := hc.ext HXR.out
    have hEA5 := (Ext.refl wr).alloc (.cells (kk j).A 32)
    have hY5 := new_mx wr (kk j)
    have hXd := (HXR.out.trans hEA5).trans (Ext.refl (wr.alloc (.cells (kk j).A 32))).drew
    have hDD := hEA5.trans (Ext.refl (wr.alloc (.cells (kk j).A 32))).drew
    have HGKW : Hid (∀ q, (Value.slice va vn vp).ownBlock = some q → q < wr.heap.size) := fun q hq => (HOR.out.lt q hq).2
    have HOFJ := Lib.hid (HI.out.of j HJ.out)
    generalize kk j = zk at *
    have hb6 : (wr.alloc (.cells zk.A 32)).drew.cell? ⟨g4, 6, none⟩ = some (.slice va vn vp) := (HBK.out.ext hDD).cell (i := 6) (by omega)
    have hS : SNk g4 (.slice va vn vp) wr.heap.size zk (wr.alloc (.cells zk.A 32)).drew := ⟨hb6, hY5.ext (Ext.refl _).drew⟩
    have HOD := Lib.hid (HOR.out.ext hDD)
    have HBD := Lib.hid (HBK.out.ext hDD)
    generalize hW5 : wr.alloc (.cells zk.A 32) = W5 at *
    have HW5 := Lib.hid hW5
    clear hW5
    have hMM : Mb (MR M3 (.slice va vn vp)) W5.drew := fun g hg => by
     rcases hg with hg | hg
     ·rcases (HM3.out g).1 hg with h | h
      ·exact Nat.lt_of_lt_of_le (HI.out.mb g h) hXd.size
      ·rw [h]; exact HBD.out.lt
     ·exact (HOD.out.lt g hg).2
    have hMfr : ∀ g, MR M3 (.slice va vn vp) g → M2 g ∨ W1.heap.size ≤ g := fun g hg => by
     rcases hg with hg | hg
     ·rcases (HM3.out g).1 hg with h | h
      ·exact .inl h
      ·exact .inr (by rw [h, HG4.out]; exact Nat.le_refl _)
     ·have := (HOD.out.lt g hg).1
      have h4 := HS4.out
      have h5 := HG4.out
      exact .inr (by omega)
    have CN := Lib.hid (HOFJ.out (MR M3 (.slice va vn vp)) W5.drew hMM hMfr hXd)
    have HXD := Lib.hid hXd
    have HLT := Lib.hid hlt
    have hltI : (j : Int) < (yn : Int) := by omega
    have HVL : Hid (vn ≤ 1000) := by
     show vn ≤ 1000
     rw [HVN.out, notL_len, List.length_take]; omega
    clear hc hXd hlt hMM hMfr HBK HOR HXR hb6 hEA5 hY5 hDD HOFJ
    go_upto_region 12 with (fail)
    rw [HW5.out]
    clear HW5 e0 e1 e2 e3 e4 e5 e6
    generalize wr.heap.size = gk at *
    refine wp_region_u (SNk g4 (.slice va vn vp) gk zk) 7 (by kernel_rfl) hS (fun hHeld => ?_)
    clear hS
    generalize W5.drew = wd at *
    (refine tkB [0, 1, 2] ?_; (iterate 3 (refine tk1 (oi := ?_) (v := ?_) (by kernel_rfl) (by first | exact hSn | exact hHeld) ?_ ?_ ?_ ?_ ?_; rotate_left 2; (simp only [xgA, xgB, xgC]; rfl); rfl; (intro wS hSw; obtain ⟨S2, B0, B1, B2, B3, B4, B5, B6⟩ := hSw; go_simp; try with_reducible rfl); (exact fun _ _ _ h => h); (try simp only [Act.put, xgD, xgE, xgF]))); refine tkE ?_)
    ((refine wpAnyU_one 3 (o := ?_) (by kernel_rfl) ?_ ?_; rotate_left 1; (simp only [xgA, xgB, xgC]; rfl); intro K hK); go_simp; (refine (CN.out).mono ?_); rintro e_ u7 ⟨u, rfl, hu, d7⟩; go_wp2_with (fail); (try clear hSn); (have hSn := hHeld.ext d7); (refine hK.out _ _ (fun _ => hSn) ?_); clear hK K; (try simp only [Act.put, xgD, xgE, xgF]))
    (refine wpAnyU_one 4 (o := ?_) (by kernel_rfl) ?_ ?_; rotate_left 1; (simp only [xgA, xgB, xgC]; rfl); intro K hK)
    go_simp
    have hEA : Ext wd (u7.alloc (.cells u.A 32)) := d7.alloc _
    have hS2 := hHeld.ext hEA
    refine hK.out _ _ (fun _ => hS2) ?_
    clear hK K
    (try simp only [Act.put, xgD, xgE, xgF])
    (refine wpAnyU_one 5 (o := ?_) (by kernel_rfl) ?_ ?_; rotate_left 1; (simp only [xgA, xgB, xgC]; rfl); intro K hK)
    have hvn := HVN.out
    subst hvn
    obtain ⟨xx, hO, hXX⟩ := HOD.out.ext hEA
    have hszA : W4.heap.size ≤ (u7.alloc (.cells u.A 32)).heap.size := by
     have h1 := (HXD.out.trans hEA).size
     have h2 := (HBD.out.ext hEA).lt
     have h4 := HS4.out
     omega
    have hvl := HVL.out
    refine step_append_fn _ (by rfl) (.tmp 36) (.tmp 39) _ (by rfl) W4.heap.size 32 j0 _ 7 104 Tryz.underlying30 ji jz0 jz1 jz2 rfl (by omega) (.slice va (notL (t.ks.take j)).length vp) (notL (t.ks.take j)).length (pm xx) (by rfl) hO u7.heap.size 32 1 (arr u.A) (by rfl) (Blk.of_arr u7 u.A 32 7 rfl) (mx_one u) (by unfold maxLen; omega) (by omega) hszA ?_
    intro gg cap2 v3 hO6 hg6 hat hlt6
    have hown : ∀ q, (Value.slice va (notL (t.ks.take j)).length vp).ownBlock = some q → W4.heap.size ≤ q := fun q hq => (HOD.out.lt q hq).1
    have hown2 := HGKW.out
    have h4 := HS4.out
    have h5 := HG4.out
    have HKG := Lib.hid (Kp.grown (M := fun q => (Value.slice va (notL (t.ks.take j)).length vp).ownBlock = some q) hg6 fun k hk => hk)
    have hS9 : SNk g4 (.slice va (notL (t.ks.take j)).length vp) gk zk v3 := hS2.kp HKG.out (fun h => by have := hown _ h; omega) (fun h => by have := hown2 _ h; omega)
    have HB9 : Hid (Blk v3 g4 32 7 (arr #[.int .i64 3, .int .i64 0, .int .i64 0, .bool false, .slice none 0 0, .slice none 0 0, .slice va (notL (t.ks.take j)).length vp])) := (HBD.out.ext hEA).of_heap (HKG.out.2 g4 (HBD.out.ext hEA).lt fun h => by have := hown _ h; omega)
    have HX9 : Hid (Ext W1 v3) := (HXD.out.trans hEA).grown hg6 fun q hq => by have := hown q hq; omega
    have HO9 : Hid (ORow f M3 W4.heap.size v3 (.slice (some ⟨gg, 0, none⟩) ((notL (t.ks.take j)).length + 1) cap2) (notL (t.ks.take (j + 1)))) := by
     show ORow _ _ _ _ _ _
     rw [notL_take t.ks j HJ.out]
     exact ORow.push hXX (hu.ext ((Ext.refl u7).alloc _)) hO6 hg6 hat
    have hz9 := HB9.out.frozen 6
    have hb9 := hS9.1
    clear hO6 hg6 hat hO hXX hu hszA hS2 hEA d7 hown hown2 h4 h5 HKG HBD HOD CN HXD
    refine hK.out _ _ (fun _ => hS9) ?_
    clear hK K
    (try simp only [Act.put, xgD, xgE, xgF])
    have hSn := hS9
    (refine tkB [6] ?_; (iterate 1 (refine tk1 (oi := ?_) (v := ?_) (by kernel_rfl) (by first | exact hSn | exact hHeld) ?_ ?_ ?_ ?_ ?_; rotate_left 2; (simp only [xgA, xgB, xgC]; rfl); rfl; (intro wS hSw; obtain ⟨S2, B0, B1, B2, B3, B4, B5, B6⟩ := hSw; go_simp; try with_reducible rfl); (exact fun _ _ _ h => h); (try simp only [Act.put, xgD, xgE, xgF]))); refine tkE ?_)
    clear hSn
    ((refine wpAnyU_one 7 (o := ?_) (by kernel_rfl) ?_ ?_; rotate_left 1; (simp only [xgA, xgB, xgC]; rfl); intro K hK); go_simp; (refine hK.out _ _ (fun h => absurd rfl h) ?_); clear hK K; refine wpAnyU_done (by kernel_rfl) ?_ _)
    have HB10 : Hid (Blk (v3.setCell ⟨g4, 6, none⟩ (.slice (some ⟨gg, 0, none⟩) ((notL (t.ks.take j)).length + 1) cap2)) g4 32 7 (arr #[.int .i64 3, .int .i64 0, .int .i64 0, .bool false, .slice none 0 0, .slice none 0 0, .slice (some ⟨gg, 0, none⟩) ((notL (t.ks.take j)).length + 1) cap2])) := (HB9.out.set 6 _).fun_extN fun i hi => by
     match i, hi with
     | 0, _ => rfl
     | 1, _ => rfl
     | 2, _ => rfl
     | 3, _ => rfl
     | 4, _ => rfl
     | 5, _ => rfl
     | 6, _ => rfl
    have HO10 := Lib.hid (HO9.out.setN (g := g4) ((HM3.out g4).2 (.inr rfl)) (by have := HS4.out; omega) 6 (.slice (some ⟨gg, 0, none⟩) ((notL (t.ks.take j)).length + 1) cap2))
    have HX10 := Lib.hid (HX9.out.set (p := ⟨g4, 6, none⟩) (by rw [HG4.out]; exact Nat.le_refl _) (.slice (some ⟨gg, 0, none⟩) ((notL (t.ks.take j)).length + 1) cap2))
    clear HB9 HO9 HX9 hS9 hz9 hb9 hHeld
    generalize v3.setCell ⟨g4, 6, none⟩ (.slice (some ⟨gg, 0, none⟩) ((notL (t.ks.take j)).length + 1) cap2) = v4 at *
    generalize (Value.slice (some ⟨gg, 0, none⟩) ((notL (t.ks.take j)).length + 1) cap2) = sv at *
    go_wp2
    go_roundw
    case rel => exact ⟨j + 1, sv, HLT.out, by go_num, HB10.out, HO10.out, HX10.out⟩
    case measure => have := HLT.out; simp [intOf]; omega
   ·obtain rfl : j = yn := by omega
    have hge : ¬ (j : Int) < (j : Int) := by omega
    have hkm : KM (TMc true f M3) M3 wr va vn vp (notL (t.ks.take j)) := HOR.out.km fun g hg hm => by
     have h4 := HS4.out
     rcases (HM3.out g).1 hm with h | h
     ·have := HM2L.out g h; omega
     ·omega
    have hkm2 := hkm.more (M' := M2) fun b hb => .inl ((HM3.out b).2 (.inl hb))
    have hta : notL (t.ks.take j) = notL t.ks := by rw [HN.out, List.take_length]
    rw [hta] at hkm2
    have ht1 : TMc true (f + 1) M2 wr ⟨3, 0, ⟨0, false, none, 0, 0, none, 0, 0⟩, va, vn, vp⟩ (.nd 3 0 [] (notL t.ks)) := ⟨⟨rfl, rfl, smF_nil, (show CRx M2 wr 4 PE.z [] ∧ NodeOk (.nd 3 0 [] (notL t.ks)) from ⟨CR.zero _ _ _, rfl, .inr (.inr ⟨.inl rfl, rfl, rfl⟩)⟩)⟩, hkm2⟩
    have d0 := HBK.out.cell (i := 0) (by omega)
    have d1 := HBK.out.cell (i := 1) (by omega)
    have d2 := HBK.out.cell (i := 2) (by omega)
    have d3 := HBK.out.cell (i := 3) (by omega)
    have d4 := HBK.out.cell (i := 4) (by omega)
    have d5 := HBK.out.cell (i := 5) (by omega)
    have d6 := HBK.out.cell (i := 6) (by omega)
    simp only [arr] at d0 d1 d2 d3 d4 d5 d6
    clear hkm hkm2 hta
    obtain ⟨WA, hWA, ⟨c0, c1, c2, c3, c4, c5, c6⟩, ⟨f0, f1, f2, f3, f4, f5, f6⟩, ⟨r0, r1, r2, r3, r4, r5, r6⟩, HF⟩ := HI.out.ret wr (.nd 3 0 [] (notL t.ks)) ⟨3, 0, ⟨0, false, none, 0, 0, none, 0, 0⟩, va, vn, vp⟩ ht1 HXR.out
    try dsimp only at hWA r0 r1 r2 r3 r4 r5 r6
    have HWA := Lib.hid hWA
    have HF := Lib.hid (show RetT (f + 1) M w (notT t) _ WA from by rw [HQK.out]; exact HF.out)
    clear hWA ht1
    go_wp2
    rw [← HWA.out]
    clear HWA c0 c1 c2 c3 c4 c5 c6 f0 f1 f2 f3 f4 f5 f6
    exact bodyPost_ret (v := .agg (MX.A ⟨3, 0, ⟨0, false, none, 0, 0, none, 0, 0⟩, va, vn, vp⟩)) (by simp [results, Tryz.results27, go_sem, r0, r1, r2, r3, r4, r5, r6]) rfl HF.out
theorem pr_Not : ∀ f, NtCtr f
 | 0 => fun _ _ _ _ _ h => h.elim
 | f + 1 => not_walk f (pr_Not f)
end Go.Proofs.YtodiphjjdheoaaaGreat
