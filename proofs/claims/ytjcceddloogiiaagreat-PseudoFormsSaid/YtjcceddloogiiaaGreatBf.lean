/- pseudo.exact. -/
import Derived.Test.YtjcceddloogiiaaGreatBe
set_option linter.unusedVariables false
set_option linter.unusedSimpArgs false

namespace Go.Proofs.YtjcceddloogiiaaGreat
open Go.RowKit

theorem RetEx.mono {M : Nat → Prop} {w w' : World} {L L' A A' : Nat} {l r : List Tm} {e : Ending} (h : RetEx M w L l r A e w') (hL : L ≤ L') (hA : A ≤ A') : RetEx M w L' l r A' e w' := by
 obtain ⟨v, ok, h1, ⟨h2, h3⟩, h4⟩ := h
 refine ⟨v, ok, h1, ⟨fun ho => ?_, h3⟩, h4⟩
 obtain ⟨q, q1, q2, q3⟩ := h2 ho
 exact ⟨q, q1.up hL, q2, Nat.le_trans q3 hA⟩
set_option maxRecDepth 100000 in
set_option maxHeartbeats 8000000 in
theorem ps_exact_walk (C G L : Nat) (hL4 : L ≤ 4) (ih : ∀ E, E < L → ExCtr C G E) : ExCtr C G L := by
 intro M l r x y B A w hM h hy hz hB hC hA hG hO hS
 have hlx := h.lev
 have hly := hy.lev
 by_cases hsame : 0 < x.lv ∧ y.lv = x.lv
 ·obtain ⟨E, hE⟩ : ∃ E : Nat, x.lv = (E : Int) + 1 := ⟨x.lv.toNat - 1, by omega⟩
  have hq := Nat.mul_le_mul_right (G + 2) (qX_to (C := C) (B := B) (show E + 1 ≤ L by omega))
  exact (ps_exactSame C G E (by omega) (ih E (by omega)) M l r x y B A w hM (CR.relev h (by omega)) hE hy hsame.2 hz hB hC hA hG (hO.to (by omega)) (by omega)).mono fun e w' hp => hp.mono (by omega) (by omega)
 obtain ⟨hE0, hX0, hY0, hB0, hM0⟩ := box2 hM x y
 have CZ := Lib.hid (rp_IsZero _ x l _ hM0 (((h.more (M' := Mx M w.heap.size (w.heap.size + 3)) (Mx.more (Nat.le_refl _))).ext hE0).pi))
 obtain ⟨x0, x1, x2, x3⟩ := hX0
 obtain ⟨y0, y1, y2, y3⟩ := hY0
 have hsz0 : w.heap.size + 3 = ((((w.alloc (.cells (peA x) 33)).alloc (.cells (peA y) 33)).alloc (.cells zA 33))).heap.size := by simp
 generalize hW : ((w.alloc (.cells (peA x) 33)).alloc (.cells (peA y) 33)).alloc (.cells zA 33) = W at *
 have HW := Lib.hid hW
 have HE := Lib.hid hE0
 have HS : Hid (SP2 w.heap.size x y W) := ⟨⟨x0, x1, x2, x3⟩, ⟨y0, y1, y2, y3⟩⟩
 have HB0 := Lib.hid hB0
 have HMM := Lib.hid hM
 have HSM := Lib.hid hsame
 have HH := Lib.hid h
 have HY := Lib.hid hy
 have HZ := Lib.hid hz
 have HBD := Lib.hid hB
 have HCD := Lib.hid hC
 have HAD := Lib.hid hA
 have HGD := Lib.hid hG
 have HO := Lib.hid hO
 have HIH := Lib.hid ih
 generalize hA2 : A + qX C L B * (G + 2) = A2 at *
 have hAA : A ≤ A2 := by omega
 have HA2 := Lib.hid hA2
 clear hE0 hB0 hM0 h hy hz hB hC hA hG hO hW hM hsame ih hA2
 go_enter Tryz.func114, Tryz.ntmps114
 go_upto_region 1 with (fail)
 rw [HW.out]
 go_wp2_with (fail)
 refine CZ.out.mono ?_
 rintro e w1 ⟨bz, rfl, hbz, he1⟩
 have HE1 := Lib.hid (HE.out.trans he1)
 have HSS := Lib.hid (HS.out.ext he1)
 have HB1 := Lib.hid (HB0.out.ext he1)
 have hs1 : w.heap.size + 3 ≤ w1.heap.size := by have := he1.size; omega
 have HBZ := Lib.hid hbz
 clear x0 x1 x2 x3 y0 y1 y2 y3 HE HS HB0 HW he1 hbz CZ
 obtain ⟨⟨x0, x1, x2, x3⟩, ⟨y0, y1, y2, y3⟩⟩ := HSS.out
 have hw2 : w.heap.size + 2 < w1.heap.size := by omega
 have hks : W.heap.size = w.heap.size + 3 := hsz0.symm
 clear hsz0
 cases bz with
 | true =>
  obtain ⟨⟨q0, q1, q2, q3⟩, ⟨f0, f1, f2, f3⟩, ⟨r0, r1, r2, r3⟩, HF⟩ := retX (M := M) (M' := Mx M w.heap.size (w.heap.size + 3)) (w := w) (L := L) (l := []) (y := PE.z) HB1.out (Mx.at (by omega)) (by omega) HE1.out (CR.zero _ _ L) Mx.sub
  have HF2 := Lib.hid (HF.exT (r := r) (l := l) (A := A2) (HBZ.out.1 rfl).symm (show dlen 0 ≤ A2 from Nat.zero_le _))
  simp only [PE.z] at r0 r1 r2 r3
  clear HF HBZ HH HY HZ HBD HCD HAD HGD HO HIH HSM HSS HB1 HE1
  go_wp2
  exact bodyPost_ret (v := .tuple #[.agg (peA PE.z), .bool true]) (by simp [results, Tryz.results114, go_sem, r0, r1, r2, r3, PE.z]) rfl HF2.out
 | false =>
  have HLZ : Hid (¬ Sim l []) := fun hh => by have := HBZ.out.2 hh; cases this
  by_cases hlt : x.lv < y.lv
  ·have HND : Hid (¬ Dv r l) := by
    obtain ⟨D, b2, off2, Gk, hlv2, hD4, _, _, _, _, hn22, _, _, _, _, _, hlow2, hnz2, hsim2, _, _⟩ := HY.out.node (by omega)
    obtain ⟨T, hT1, hT2⟩ := HH.out.lowU
    obtain ⟨n, hn⟩ : ∃ n, y.kn = n + 1 := ⟨y.kn - 1, by omega⟩
    rw [hn] at hlow2 hsim2 hnz2
    rw [Nat.add_sub_cancel] at hnz2
    exact fun hd => dv_low hD4 (by omega) hlow2 hnz2 (NN.sim HY.out.nn hsim2.symm) (fun t ht => hT2 t ht (D + 1) (by omega) hD4) (fun hh => HLZ.out (hT1.symm.trans hh)) (hd.sim hsim2.symm hT1.symm)
   obtain ⟨⟨q0, q1, q2, q3⟩, ⟨f0, f1, f2, f3⟩, ⟨r0, r1, r2, r3⟩, HF⟩ := retX (M := M) (M' := Mx M w.heap.size (w.heap.size + 3)) (w := w) (L := 0) (l := []) (y := PE.z) HB1.out (Mx.at (by omega)) (by omega) HE1.out (CR.zero _ _ 0) Mx.sub
   have HF2 := Lib.hid (HF.exF (L := L) (A := A2) HND.out)
   simp only [PE.z] at r0 r1 r2 r3
   clear HF HND HBZ HH HY HZ HBD HCD HAD HGD HO HIH HSM HSS HB1 HE1
   go_wp2
   exact bodyPost_ret (v := .tuple #[.agg (peA PE.z), .bool false]) (by simp [results, Tryz.results114, go_sem, r0, r1, r2, r3, PE.z]) rfl HF2.out
  ·by_cases h0 : x.lv = 0
   ·have hy0 : y.lv = 0 := by omega
    obtain ⟨zl, hzl1, _, hzl2⟩ := HH.out.val
    obtain ⟨zr, hzr1, _, hzr2⟩ := HY.out.val
    obtain ⟨hzl3, _⟩ := hzl2 h0
    obtain ⟨hzr3, _⟩ := hzr2 hy0
    have hzr : zr ≠ 0 := fun hh => HZ.out (hzr3.symm.trans (fun m => by rw [hh]; simp [coefAt]))
    have hcl : zl = coefAt l Mo.zero := by have := hzl3 Mo.zero; simpa [coefAt] using this
    have hzd : dlen zl.natAbs ≤ A := Nat.le_trans (dlen_mono (by rw [hcl]; exact coefAt_le l Mo.zero)) HAD.out
    have hM1 : Mb (Mx M w.heap.size (w.heap.size + 3)) w1 := Mx.mb HMM.out HE1.out.size (by omega)
    have CE := Lib.hid (dv_exact (M := Mx M w.heap.size (w.heap.size + 3)) x.b x.a x.n x.p zl y.b y.a y.n y.p zr w1 hM1 ((hzl1.more (Mx.more (Nat.le_refl _))).ext HE1.out) ((hzr1.more (Mx.more (Nat.le_refl _))).ext HE1.out) hzr (by omega))
    have HDV : Hid (Dv r l ↔ zl.tmod zr = 0) := ⟨fun hd => (dv_const hzr).1 (hd.sim hzr3.symm hzl3.symm), fun hh => ((dv_const hzr).2 hh).sim hzr3 hzl3⟩
    have HTD : Hid (zl.tmod zr = 0 → Sim (pmul [(zl.tdiv zr, Mo.zero)] r) l) := fun hh => by
     have := Int.tdiv_mul_cancel (Int.dvd_of_tmod_eq_zero hh)
     refine (hzr3.symm.pmul_right _).trans (Sim.trans (fun m => ?_) hzl3)
     simp [pmul, shift, smul, coefAt, Mo.add_zero', this]
    have HQL : Hid (dlen (nrm [(zl.tdiv zr, Mo.zero)]) ≤ A2) := by
     show _ ≤ _
     rw [nrm_one]
     refine Nat.le_trans (Nat.le_trans (dlen_mono ?_) hzd) hAA
     rw [Int.natAbs_tdiv]; exact Nat.div_le_self _ _
    have hM1H := Lib.hid hM1
    rw [h0] at x0
    rw [hy0] at y0
    clear hzl1 hzl2 hzr1 hzr2 hzl3 hzr3 hcl hzd hM1 HH HY HZ HBD HCD HAD HGD HO HIH HSM HBZ HLZ hlt h0 hy0 hlx hly hzr HA2 hAA
    go_wp2_with (fail)
    refine CE.out.mono ?_
    rintro e w2 ⟨cb, ca, cn, cp, er, rfl, hok, hno, he2⟩
    have hcz : ∃ cz, IntC (Mx M w.heap.size (w.heap.size + 3)) w2 (.bool cb) (.slice ca cn cp) cz ∧ ((er = 0 ∧ zl.tmod zr = 0 ∧ cz = zl.tdiv zr) ∨ (er = 3 ∧ zl.tmod zr ≠ 0)) := by
     by_cases hd : zl.tmod zr = 0
     ·exact ⟨_, (hok hd).2, .inl ⟨(hok hd).1, hd, rfl⟩⟩
     ·exact ⟨_, (hno hd).2, .inr ⟨(hno hd).1, hd⟩⟩
    obtain ⟨cz, hc1, hc2⟩ := hcz
    have hEa := (Ext.refl w2).alloc (.cells #[.bool cb, .slice ca cn cp] 31)
    have HEA := Lib.hid (he2.trans hEa)
    have CK := Lib.hid (rp_Const (Mx M w.heap.size (w.heap.size + 3)) cb ca cn cp cz _ (hM1H.out.ext (he2.trans hEa)) (hc1.ext hEa).toV)
    have hs2 := he2.size
    have hw3 : w.heap.size + 2 < w2.heap.size := by omega
    clear hok hno he2 hc1 hEa CE x0 x1 x2 x3 y0 y1 y2 y3 hw2 HSS
    go_upto_region 7 with (fail)
    go_wp2_with (fail)
    refine CK.out.mono ?_
    rintro e w5 ⟨v, rfl, hv, he5⟩
    have hq := retX (M := M) (w := w) ((HB1.out.ext HEA.out).ext he5) (Mx.at (by omega)) (by omega) ((HE1.out.trans HEA.out).trans he5) (hv.up (Nat.zero_le L)) Mx.sub
    have hw4 : w.heap.size + 2 < w5.heap.size := by have := HEA.out.size; have := he5.size; omega
    rcases hc2 with ⟨rfl, hd, rfl⟩ | ⟨rfl, hd⟩
    ·obtain ⟨⟨q0, q1, q2, q3⟩, ⟨f0, f1, f2, f3⟩, ⟨r0, r1, r2, r3⟩, HF⟩ := hq
     have HF2 := Lib.hid (HF.exT (HTD.out hd) HQL.out)
     clear HF hv he5 CK HEA HTD HQL HDV hd HB1 HE1 hw3 hs2
     go_wp2
     exact bodyPost_ret (v := .tuple #[.agg (peA v), .bool true]) (by simp [results, Tryz.results114, go_sem, r0, r1, r2, r3]) rfl HF2.out
    ·obtain ⟨⟨q0, q1, q2, q3⟩, ⟨f0, f1, f2, f3⟩, ⟨r0, r1, r2, r3⟩, HF⟩ := hq
     have HF2 := Lib.hid (HF.exF (L := L) (A := A2) fun hh => hd (HDV.out.1 hh))
     clear HF hv he5 CK HEA HTD HQL HDV hd HB1 HE1 hw3 hs2
     go_wp2
     exact bodyPost_ret (v := .tuple #[.agg (peA v), .bool false]) (by simp [results, Tryz.results114, go_sem, r0, r1, r2, r3]) rfl HF2.out
   ·have h0' : (x.lv == 0) = false := by simpa using h0
    have hgt : y.lv < x.lv := by have := HSM.out; omega
    obtain ⟨E, hE⟩ : ∃ E : Nat, x.lv = (E : Int) + 1 := ⟨x.lv.toNat - 1, by omega⟩
    have hq := Nat.mul_le_mul_right (G + 2) (qX_to (C := C) (B := B) (show E + 1 ≤ L by omega))
    have ha2 := HA2.out
    have CE := Lib.hid (ps_exactCoefs C G E (by omega) (HIH.out E (by omega)) (Mx M w.heap.size (w.heap.size + 3)) l r x y B A w1 (Mx.mb HMM.out HE1.out.size (by omega)) (CR.relev ((HH.out.more (Mx.more (Nat.le_refl _))).ext HE1.out) (by omega)) hE ((HY.out.more (Mx.more (Nat.le_refl _))).ext HE1.out) hgt HZ.out HBD.out HCD.out HAD.out HGD.out (HO.out.to (by omega)) (by omega))
    have hEL : E + 1 ≤ L := by omega
    have hqa : A + qX C (E + 1) B * (G + 2) ≤ A2 := by omega
    clear hE hq ha2 HH HY HZ HBD HCD HAD HGD HO HIH HSM HBZ HLZ HA2
    go_wp2_with (fail)
    refine CE.out.mono ?_
    rintro e w2 ⟨v, ok, rfl, hR, he2⟩
    cases ok with
    | true =>
     obtain ⟨q, hq1, hq2, hq3⟩ := hR.1 rfl
     obtain ⟨⟨q0, q1, q2, q3⟩, ⟨f0, f1, f2, f3⟩, ⟨r0, r1, r2, r3⟩, HF⟩ := retX (M := M) (w := w) (HB1.out.ext he2) (Mx.at (by omega)) (by omega) (HE1.out.trans he2) (hq1.up hEL) Mx.sub
     have HF2 := Lib.hid (HF.exT hq2 (Nat.le_trans hq3 hqa))
     have hw3 : w.heap.size + 2 < w2.heap.size := Nat.lt_of_lt_of_le hw2 he2.size
     clear HF hR he2 CE hq1 hq2 hq3 HSS HB1 HE1 x0 x1 x2 x3 y0 y1 y2 y3 hw2
     go_wp2
     exact bodyPost_ret (v := .tuple #[.agg (peA v), .bool true]) (by simp [results, Tryz.results114, go_sem, r0, r1, r2, r3]) rfl HF2.out
    | false =>
     obtain ⟨⟨q0, q1, q2, q3⟩, ⟨f0, f1, f2, f3⟩, ⟨r0, r1, r2, r3⟩, hkp, hext⟩ := fin4 (M' := Mx M w.heap.size (w.heap.size + 3)) (w := w) (.int .i64 v.lv) (.bool v.b) (.slice v.a v.n v.p) (.slice v.ka v.kn v.kp) (HB1.out.ext he2) (Mx.at (by omega)) (by omega) (HE1.out.trans he2)
     have HF2 : Hid (RetEx M w L l r A2 (.returned (.tuple #[.agg (peA v), .bool false])) (set4 w2 (w.heap.size + 2) 0 (.int .i64 v.lv) (.bool v.b) (.slice v.a v.n v.p) (.slice v.ka v.kn v.kp))) := ⟨v, false, rfl, ⟨fun hh => (by cases hh), fun _ => hR.2 rfl⟩, hext⟩
     simp only [arr] at q0 q1 q2 q3
     simp only [set4, Nat.zero_add] at r0 r1 r2 r3
     have hw3 : w.heap.size + 2 < w2.heap.size := Nat.lt_of_lt_of_le hw2 he2.size
     clear hkp hext hR he2 CE HSS HB1 HE1 x0 x1 x2 x3 y0 y1 y2 y3 hw2
     go_wp2
     exact bodyPost_ret (v := .tuple #[.agg (peA v), .bool false]) (by simp [results, Tryz.results114, go_sem, r0, r1, r2, r3]) rfl HF2.out
theorem ps_exact (C G L : Nat) : L ≤ 4 → ExCtr C G L := by
 induction L using Nat.strongRecOn with
 | _ L ih => exact fun hL => ps_exact_walk C G L hL fun E hE => ih E hE (by omega)
end Go.Proofs.YtjcceddloogiiaaGreat
