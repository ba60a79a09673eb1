/- SimplifyPolys: the walk. -/
import Derived.Test.YtfbdckffjjladaaGreatHf
import Derived.Test.YtfbdckffjjladaaGreatNh
set_option linter.unusedVariables false
set_option linter.unusedSimpArgs false

namespace Go.Proofs.YtfbdckffjjladaaGreat
open Go.RowKit

theorem polM_sm (W : World) : ∀ (d : Nat) (m : MT d), PMs W d m → OkM d m → ∀ l ∈ polM W d m, Deg 66 l ∧ dlen (nrm l) ≤ 5
 | 0, _, _, h => by unfold OkM at h; exact h.elim
 | d + 1, m, hP, hok => by
  obtain ⟨y, k⟩ := m
  obtain ⟨hr0, _, hkok⟩ := hok
  change 0 ≤ roomB 4 6 y.s 40 at hr0
  change ∀ i, i < y.n → OkM d (k i) at hkok
  obtain ⟨_, _, hps, _, _, hkid⟩ := hP
  simp only at hps hkid
  have hPM := polM_s W d (y, k)
  change polM W (d + 1) (y, k) = if y.kd = 2 then [tmS W y.s] else if y.kd = 3 ∨ y.kd = 4 then (List.range y.n).flatMap fun i => polM W d (k i) else [] at hPM
  rw [hPM]
  intro l hl
  split at hl
  ·rw [List.mem_singleton] at hl
   obtain ⟨t, _, _, h1, h2, _⟩ := tmS_spec hps hr0
   rw [hl]; exact ⟨h2, h1⟩
  ·split at hl
   ·obtain ⟨i, hi, hl⟩ := List.mem_flatMap.1 hl
    have hi : i < y.n := by simpa using hi
    obtain ⟨b, off, _, _, _, hp⟩ := hkid i hi
    exact polM_sm W d (k i) hp (hkok i hi) l hl
   ·simp at hl
theorem getD_mem {l : List (List Tm)} {i : Nat} (h : i < l.length) : l.getD i [] ∈ l := by
 rw [List.getD_eq_getElem?_getD, List.getElem?_eq_getElem h]
 exact List.getElem_mem h
set_option maxRecDepth 100000 in
set_option maxHeartbeats 4000000 in
theorem si_Polys (y : ME) (L : List (List Tm)) (w : World) (hl : L.length ≤ 80) (hL : ∀ l ∈ L, Deg 66 l ∧ dlen (nrm l) ≤ 5) (hc : ∀ W', Ext w W' → Calls Tryz.prog 19 #[.agg y.A] W' (RetPs L W')) : Calls Tryz.prog 17 #[.agg y.A] w (RetF39 w L.length fun j => L.getD j []) := by
 have hE := (Ext.refl w).alloc (.cells y.A 32)
 have CP := Lib.hid (hc _ hE)
 have HE := Lib.hid hE
 have HL := Lib.hid hL
 obtain ⟨x0, x1, x2, x3, x4, x5, x6⟩ := new_m7 w y
 generalize hW1 : w.alloc (.cells y.A 32) = W1 at *
 have HW1 := Lib.hid hW1
 clear hW1 hE hL hc
 go_enter Tryz.func17, Tryz.ntmps17
 go_upto_region 1 with (fail)
 rw [HW1.out]
 go_wp2_with (fail)
 refine CP.out.mono ?_
 rintro e w2 ⟨a, n, p, rfl, hn, hK, he2⟩
 have CF := Lib.hid (mv_Family (fun _ => True) M0 a n p 66 (fun j => L.getD j []) w2 (mb0 _) hK (fun i hi => (HL.out _ (getD_mem (by omega))).1) (by decide) (by omega) (fun i hi => by have := (HL.out _ (getD_mem (show i < L.length by omega))).2; show _ ≤ (_ : Nat); omega) (fun _ _ => trivial) (fun m hm => sort_on _ m (by omega)))
 have HE2 := Lib.hid (HE.out.trans he2)
 have HN := Lib.hid hn
 clear hn hK he2 CP
 go_wp2_with (fail)
 refine CF.out.mono ?_
 rintro e w3 ⟨b, c, q, F, rfl, hK3, hf, he3⟩
 have HF : Hid (RetF39 w L.length (fun j => L.getD j []) (.returned (.slice b c q)) w3) := ⟨b, c, q, F, rfl, hK3, by rw [← HN.out]; exact hf, HE2.out.trans he3⟩
 clear hK3 hf he3 CF HE2 HN HL hl
 go_wp2
 exact bodyPost_ret (v := .slice b c q) (by simp [results, Tryz.results17, go_sem]) rfl HF.out
def SMC (g : Nat) (y : ME) (w : World) : Prop := MCell w g 0 y
theorem SMC.ext {g : Nat} {y : ME} {w w' : World} (h : SMC g y w) (he : Ext w w') : SMC g y w' := MCell.ext h (World.block_lt_of_cell? _ _ h.1) he
def SKK (b o : Nat) (x : PE) (b' o' : Nat) (y : PE) (w : World) : Prop := KCell w b o x ∧ KCell w b' o' y
theorem SKK.ext {b o b' o' : Nat} {x y : PE} {w w' : World} (h : SKK b o x b' o' y w) (he : Ext w w') : SKK b o x b' o' y w' := ⟨KCell.ext h.1 (World.block_lt_of_cell? _ _ h.1.1) he, KCell.ext h.2 (World.block_lt_of_cell? _ _ h.2.1) he⟩
structure PolI (y : ME) (w : World) (c : Nat) (gx : Nat → List Tm) : Prop where
 few : c ≤ 80
 si : ∀ W', Ext w W' → Calls Tryz.prog 17 #[.agg y.A] W' (RetF39 W' c gx)
 pr : ∀ W', Ext w W' → Calls Tryz.prog 19 #[.agg y.A] W' fun e w' => ∃ a p, e = .returned (.slice a c p) ∧ KRow M0 w' 4 (.slice a c p) c gx ∧ Ext W' w'
 fm : ∀ a p W', KRow M0 W' 4 (.slice a c p) c gx → Calls Tryz.prog 18 #[.slice a c p] W' (RetF39 W' c gx)
 at_ : ∀ W', Ext w W' → Calls Tryz.prog 20 #[.agg y.A] W' fun e w' => e = .returned (.int .i64 ((c : Nat) : Int)) ∧ Ext W' w'
theorem polI (m : MT 12) (w : World) (hP : PMs w 12 m) (h : 0 ≤ roomM 12 m 80) : ∃ c gx, PolI (MT.me 12 m) w c gx := by
 have hok := okM 12 m 80 (by omega) (by omega) h
 have hlen := polM_len w 12 m 80 (by omega) h
 have hsm := polM_sm w 12 m hP hok
 have h80 : (polM w 12 m).length ≤ 80 := by omega
 refine ⟨(polM w 12 m).length, fun j => (polM w 12 m).getD j [], h80, fun W' he => ?_, fun W' he => ?_, fun a p W' hK => ?_, fun W' he => ?_⟩
 ·exact si_Polys (MT.me 12 m) (polM w 12 m) W' h80 hsm fun W2 he2 => pr_Polys 12 m w W2 hP hok (he.trans he2) (by omega)
 ·refine (pr_Polys 12 m w W' hP hok he (by omega)).mono ?_
  rintro e w2 ⟨a, n, p, rfl, hn, hK, he2⟩
  subst hn
  exact ⟨a, p, rfl, hK, he2⟩
 ·exact rf_fam39 a _ p (fun j => (polM w 12 m).getD j []) W' hK (fun j hj => hsm _ (getD_mem hj)) (by omega)
 ·exact si_Atoms 12 m w W' hP hok he (by omega)
set_option maxRecDepth 100000 in
set_option maxHeartbeats 16000000 in
theorem law_polys (m : MT 12) (w : World) (hP : PMs w 12 m) : Calls Tryz.prog 3 #[.agg (MT.me 12 m).A] w fun e w' => e = .returned (.bool true) ∧ Ext w w' := by
 have CSM : Hid (∀ W', Ext w W' → Calls Tryz.prog 16 #[.agg (MT.me 12 m).A] W' fun e w' => e = .returned (.bool (decide (0 ≤ roomM 12 m 80))) ∧ Ext W' w') := fun W' he => law_small39 m W' (PMs.ext he hP)
 have HALL : Hid (0 ≤ roomM 12 m 80 → ∃ c gx, PolI (MT.me 12 m) w c gx) := polI m w hP
 clear hP
 generalize roomM 12 m 80 = r at *
 generalize MT.me 12 m = y at *
 have HE := Lib.hid ((Ext.refl w).alloc (.cells y.A 32))
 have HB : Hid (SMC w.heap.size y (w.alloc (.cells y.A 32))) := new_m7 w y
 generalize hW1 : w.alloc (.cells y.A 32) = W1 at *
 have HW1 := Lib.hid hW1
 clear hW1
 go_enter Tryz.func3, Tryz.ntmps3
 go_upto_region 1 with (fail)
 rw [HW1.out]
 generalize w.heap.size = gb at *
 go_wp2_with (fail)
 refine (law_awake39 _).mono ?_
 rintro e w2 ⟨rfl, he2⟩
 have HE2 := Lib.hid (HE.out.trans he2)
 have HB2 := Lib.hid (HB.out.ext he2)
 obtain ⟨x0, x1, x2, x3, x4, x5, x6⟩ := HB2.out
 have CS := Lib.hid (CSM.out w2 HE2.out)
 clear he2 HE HB
 go_wp2_with (fail)
 refine CS.out.mono ?_
 rintro e w3 ⟨rfl, he3⟩
 have HE3 := Lib.hid (HE2.out.trans he3)
 have HB3 := Lib.hid (HB2.out.ext he3)
 clear he3 HE2 HB2 CS x0 x1 x2 x3 x4 x5 x6
 by_cases hr : 0 ≤ r
 rotate_left 1
 ·have hD : decide (0 ≤ r) = false := decide_eq_false hr
  rw [hD]
  clear HALL CSM HB3 hr hD
  go_wp2_with (fail)
  refine (law_awake39 _).mono ?_
  rintro e w4 ⟨rfl, he4⟩
  have HF := Lib.hid (HE3.out.trans he4)
  go_wp2
  go_ret
  exact ⟨rfl, HF.out⟩
 have hD : decide (0 ≤ r) = true := decide_eq_true hr
 rw [hD]
 obtain ⟨nn, gx, hI⟩ := HALL.out hr
 have HI := Lib.hid hI
 have HN := Lib.hid hI.few
 clear HALL CSM hr hD hI
 have hEd := HE3.out.trans (Ext.refl w3).drew
 have hS : SMC gb y w3.drew := HB3.out.ext (Ext.refl w3).drew
 have HED := Lib.hid hEd
 clear hEd HB3 HE3
 go_upto_region 3 with (fail)
 refine wp_region_u (SMC gb y) 7 (by kernel_rfl) hS (fun hHeld => ?_)
 generalize w3.drew = wd at *
 (refine tkB [0, 2] ?_; (iterate 2 (refine tk1 (oi := ?_) (v := ?_) (by kernel_rfl) (by first | exact hSn | exact hHeld) ?_ ?_ ?_ ?_ ?_; rotate_left 2; (simp only [xgA, xgB, xgC]; rfl); rfl; (intro wS hSw; obtain ⟨S1, S2, S3, S4, S5, S6, S7⟩ := hSw; go_simp; try with_reducible rfl); (exact fun _ _ _ h => h); (try simp only [Act.put, xgD, xgE, xgF]))); refine tkE ?_)
 ((refine wpAnyU_one 1 (o := ?_) (by kernel_rfl) ?_ ?_; rotate_left 1; (simp only [xgA, xgB, xgC]; rfl); intro K hK); go_simp; (refine (HI.out.si _ (HED.out.trans (Ext.refl _))).mono ?_); rintro e_ u1 ⟨a1, c1, p1, F1, rfl, hK1, hf1, d1⟩; go_wp2_with (fail); (try clear hSn); (have hSn := hHeld.ext d1); (refine hK.out _ _ (fun _ => hSn) ?_); clear hK K; (try simp only [Act.put, xgD, xgE, xgF]))
 have HK1 := Lib.hid hK1
 have HF1 := Lib.hid hf1
 clear hK1 hf1
 ((refine wpAnyU_one 3 (o := ?_) (by kernel_rfl) ?_ ?_; rotate_left 1; (simp only [xgA, xgB, xgC]; rfl); intro K hK); go_simp; (refine (HI.out.pr _ (HED.out.trans d1)).mono ?_); rintro e_ u2 ⟨a2, p2, rfl, hK2, d2⟩; go_wp2_with (fail); (try clear hSn); (have hSn := hHeld.ext (d1.trans d2)); (refine hK.out _ _ (fun _ => hSn) ?_); clear hK K; (try simp only [Act.put, xgD, xgE, xgF]))
 ((refine wpAnyU_one 4 (o := ?_) (by kernel_rfl) ?_ ?_; rotate_left 1; (simp only [xgA, xgB, xgC]; rfl); intro K hK); go_simp; (refine (HI.out.fm a2 p2 u2 hK2).mono ?_); rintro e_ u3 ⟨a3, c3, p3, F3, rfl, hK3, hf3, d3⟩; go_wp2_with (fail); (try clear hSn); (have hSn := hHeld.ext ((d1.trans d2).trans d3)); (refine hK.out _ _ (fun _ => hSn) ?_); clear hK K; (try simp only [Act.put, xgD, xgE, xgF]))
 have HFF : Hid (c1 = c3 ∧ ∀ i, i < c1 → F1 i = F3 i) := fam_uniq HF1.out hf3 (fun j hj _ => ⟨j, hj, rfl⟩) (fun j hj _ => ⟨j, hj, rfl⟩)
 have HK1' := Lib.hid (KRow.ext HK1.out (d2.trans d3))
 have HK3 := Lib.hid hK3
 have HE4 := Lib.hid ((((HED.out.trans d1).trans d2).trans d3).trans (Ext.refl u3).drew)
 have hS4 : SMC gb y u3.drew := SMC.ext (SMC.ext hS ((d1.trans d2).trans d3)) (Ext.refl u3).drew
 have HKA := Lib.hid (KRow.ext HK1'.out (Ext.refl u3).drew)
 have HKB := Lib.hid (KRow.ext HK3.out (Ext.refl u3).drew)
 obtain ⟨hcc, hFF⟩ := HFF.out
 subst hcc
 have HF2 := Lib.hid hFF
 (refine tkB [5, 6] ?_; (iterate 2 (refine tk1 (oi := ?_) (v := ?_) (by kernel_rfl) (by first | exact hSn | exact hHeld) ?_ ?_ ?_ ?_ ?_; rotate_left 2; (simp only [xgA, xgB, xgC]; rfl); rfl; (intro wS hSw; obtain ⟨S1, S2, S3, S4, S5, S6, S7⟩ := hSw; go_simp; try with_reducible rfl); (exact fun _ _ _ h => h); (try simp only [Act.put, xgD, xgE, xgF]))); refine tkE ?_)
 refine wpAnyU_done (by kernel_rfl) ?_ _
 clear hK2 hK3 hf3 HK1 HF1 HK1' HK3 hFF HFF d1 d2 d3 hSn hHeld HED hS
 go_upto_region 4 with (fail)
 refine wp_region_u (SMC gb y) 13 (by kernel_rfl) hS4 (fun hHeld => ?_)
 generalize u3.drew = wd4 at *
 (refine tkB [0, 1, 2, 3, 4, 5, 6, 8] ?_; (iterate 8 (refine tk1 (oi := ?_) (v := ?_) (by kernel_rfl) (by first | exact hSn | exact hHeld) ?_ ?_ ?_ ?_ ?_; rotate_left 2; (simp only [xgA, xgB, xgC]; rfl); rfl; (intro wS hSw; obtain ⟨S1, S2, S3, S4, S5, S6, S7⟩ := hSw; go_simp; try with_reducible rfl); (exact fun _ _ _ h => h); (try simp only [Act.put, xgD, xgE, xgF]))); refine tkE ?_)
 ((refine wpAnyU_one 7 (o := ?_) (by kernel_rfl) ?_ ?_; rotate_left 1; (simp only [xgA, xgB, xgC]; rfl); intro K hK); go_simp; (refine (HI.out.at_ _ (HE4.out.trans (Ext.refl _))).mono ?_); rintro e_ u7 ⟨rfl, d7⟩; go_wp2_with (fail); (try clear hSn); (have hSn := hHeld.ext d7); (refine hK.out _ _ (fun _ => hSn) ?_); clear hK K; (try simp only [Act.put, xgD, xgE, xgF]))
 ((refine wpAnyU_one 9 (o := ?_) (by kernel_rfl) ?_ ?_; rotate_left 1; (simp only [xgA, xgB, xgC]; rfl); intro K hK); go_simp; (refine (HI.out.pr _ (HE4.out.trans d7)).mono ?_); rintro e_ u9 ⟨a9, p9, rfl, hK9, d9⟩; go_wp2_with (fail); (try clear hSn); (have hSn := hHeld.ext (d7.trans d9)); (refine hK.out _ _ (fun _ => hSn) ?_); clear hK K; (try simp only [Act.put, xgD, xgE, xgF]))
 (refine tkB [10, 11, 12] ?_; (iterate 3 (refine tk1 (oi := ?_) (v := ?_) (by kernel_rfl) (by first | exact hSn | exact hHeld) ?_ ?_ ?_ ?_ ?_; rotate_left 2; (simp only [xgA, xgB, xgC]; rfl); rfl; (intro wS hSw; obtain ⟨S1, S2, S3, S4, S5, S6, S7⟩ := hSw; go_simp; try with_reducible rfl); (exact fun _ _ _ h => h); (try simp only [Act.put, xgD, xgE, xgF]))); refine tkE ?_)
 refine wpAnyU_done (by kernel_rfl) ?_ _
 have HE9 := Lib.hid (HE4.out.trans (d7.trans d9))
 have HKA9 := Lib.hid (HKA.out.ext (d7.trans d9))
 have HKB9 := Lib.hid (HKB.out.ext (d7.trans d9))
 clear hK9 d7 d9 hSn hHeld HKA HKB HE4 hS4 HI
 obtain ⟨xa, hxa⟩ := KRow.x HKA9.out
 obtain ⟨xb, hxb⟩ := KRow.x HKB9.out
 have HXA := Lib.hid hxa
 have HXB := Lib.hid hxb
 have hc80 : c1 ≤ 1099511627776 := HKA9.out.1
 clear hxa hxb HKA9 HKB9
 go_wp2
 go_loopw [34] (fun iv wr => ∃ (j : Nat), j ≤ c1 ∧ iv = .int .i64 (j : Int) ∧ Hid (Ext u9 wr)) (fun iv _ => c1 - (intOf iv).toNat)
 case atStart => exact ⟨0, Nat.zero_le _, rfl, Ext.refl _⟩
 case round =>
  obtain ⟨j, hj, rfl, HX⟩ := hrel
  by_cases hlt : j < c1
  ·obtain ⟨⟨b, off, rfl, h1, h2, hb, _, hk⟩, hca, _⟩ := HXA.out j hlt
   obtain ⟨⟨b', off', rfl, h1', h2', hb', _, hk'⟩, hcb, _⟩ := HXB.out j hlt
   rw [← HF2.out j hlt] at hcb
   have hXd := HX.out.trans (Ext.refl wr).drew
   have hS : SKK b (off + j * 4) (xa j) b' (off' + j * 4) (xb j) wr.drew := SKK.ext ⟨hk, hk'⟩ hXd
   have CSP := Lib.hid (rf_samePoly 4 M0 (F1 j) (xa j) (xb j) wr.drew (hca.ext hXd) (hcb.ext hXd))
   have HXD := Lib.hid hXd
   have HLT := Lib.hid hlt
   have hltI : (j : Int) < (c1 : Int) := by omega
   unfold maxLen at h2 h2'
   clear hca hcb hk hk' hXd hlt HX
   generalize xa j = ya at *
   generalize xb j = yb at *
   go_upto_region 9 with (fail)
   refine wp_region_u (SKK b (off + j * 4) ya b' (off' + j * 4) yb) 10 (by kernel_rfl) hS (fun hHeld => ?_)
   generalize wr.drew = wd at *
   (refine tkB [0, 1, 2, 3, 4, 5, 6, 7] ?_; (iterate 8 (refine tk1 (oi := ?_) (v := ?_) (by kernel_rfl) (by first | exact hSn | exact hHeld) ?_ ?_ ?_ ?_ ?_; rotate_left 2; (simp only [xgA, xgB, xgC]; rfl); rfl; (intro wS hSw; obtain ⟨⟨A0, A1, A2, A3⟩, B0, B1, B2, B3⟩ := hSw; go_simp; try with_reducible rfl); (exact fun _ _ _ h => h); (try simp only [Act.put, xgD, xgE, xgF]))); refine tkE ?_)
   ((refine wpAnyU_one 8 (o := ?_) (by kernel_rfl) ?_ ?_; rotate_left 1; (simp only [xgA, xgB, xgC]; rfl); intro K hK); go_simp; (refine (CSP.out).mono ?_); rintro e_ u8 ⟨rfl, d8⟩; go_wp2_with (fail); (try clear hSn); (have hSn := hHeld.ext d8); (refine hK.out _ _ (fun _ => hSn) ?_); clear hK K; (try simp only [Act.put, xgD, xgE, xgF]))
   (refine tkB [9] ?_; (iterate 1 (refine tk1 (oi := ?_) (v := ?_) (by kernel_rfl) (by first | exact hSn | exact hHeld) ?_ ?_ ?_ ?_ ?_; rotate_left 2; (simp only [xgA, xgB, xgC]; rfl); rfl; (intro wS hSw; obtain ⟨⟨A0, A1, A2, A3⟩, B0, B1, B2, B3⟩ := hSw; go_simp; try with_reducible rfl); (exact fun _ _ _ h => h); (try simp only [Act.put, xgD, xgE, xgF]))); refine tkE ?_)
   refine wpAnyU_done (by kernel_rfl) ?_ _
   have HX8 := Lib.hid (HXD.out.trans d8)
   clear d8 hSn hHeld hS CSP HXD
   go_wp2
   go_roundw
   case rel => exact ⟨j + 1, HLT.out, by go_num, HX8.out⟩
   case measure => have := HLT.out; simp [intOf]; omega
  ·obtain rfl : j = c1 := by omega
   have hge : ¬ (j : Int) < (j : Int) := by omega
   have HF := Lib.hid (HE9.out.trans HX.out)
   go_wp2
   go_ret
   exact ⟨rfl, HF.out⟩
end Go.Proofs.YtfbdckffjjladaaGreat
