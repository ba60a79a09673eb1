/- pseudo.exact. pseudo.refuse of one polynomial. pseudo.Exact. pseudo.Divides. -/
import Derived.Test.YtjhhekmfdhfjpaaGreatBe
set_option linter.unusedVariables false
set_option linter.unusedSimpArgs false

namespace Go.Proofs.YtjhhekmfdhfjpaaGreat
open Go.RowKit

theorem RetEx.mono {M : Nat → Prop} {w w' : World} {L L' A A' : Nat} {l r : List Tm} {e : Ending} (h : RetEx M w L l r A e w') (hL : L ≤ L') (hA : A ≤ A') : RetEx M w L' l r A' e w' := by
 obtain ⟨v, ok, h1, ⟨h2, h3⟩, h4⟩ := h
 refine ⟨v, ok, h1, ⟨fun ho => ?_, h3⟩, h4⟩
 obtain ⟨q, q1, q2, q3⟩ := h2 ho
 exact ⟨q, q1.up hL, q2, Nat.le_trans q3 hA⟩
set_option maxRecDepth 100000 in
set_option maxHeartbeats 8000000 in
theorem ps_exact_walk (C G L : Nat) (hL4 : L ≤ 4) (ih : ∀ E, E < L → ExCtr C G E) : ExCtr C G L := by
 intro M l r x y B A w hM h hy hz hB hC hA hG hO hS
 have hlx := h.lev
 have hly := hy.lev
 by_cases hsame : 0 < x.lv ∧ y.lv = x.lv
 ·obtain ⟨E, hE⟩ : ∃ E : Nat, x.lv = (E : Int) + 1 := ⟨x.lv.toNat - 1, by omega⟩
  have hq := Nat.mul_le_mul_right (G + 2) (qX_to (C := C) (B := B) (show E + 1 ≤ L by omega))
  exact (ps_exactSame C G E (by omega) (ih E (by omega)) M l r x y B A w hM (CR.relev h (by omega)) hE hy hsame.2 hz hB hC hA hG (hO.to (by omega)) (by omega)).mono fun e w' hp => hp.mono (by omega) (by omega)
 obtain ⟨hE0, hX0, hY0, hB0, hM0⟩ := box2 hM x y
 have CZ := Lib.hid (rp_IsZero _ x l _ hM0 (((h.more (M' := Mx M w.heap.size (w.heap.size + 3)) (Mx.more (Nat.le_refl _))).ext hE0).pi))
 obtain ⟨x0, x1, x2, x3⟩ := hX0
 obtain ⟨y0, y1, y2, y3⟩ := hY0
 have hsz0 : w.heap.size + 3 = ((((w.alloc (.cells (peA x) 32)).alloc (.cells (peA y) 32)).alloc (.cells zA 32))).heap.size := by simp
 generalize hW : ((w.alloc (.cells (peA x) 32)).alloc (.cells (peA y) 32)).alloc (.cells zA 32) = W at *
 have HW := Lib.hid hW
 have HE := Lib.hid hE0
 have HS : Hid (SP2 w.heap.size x y W) := ⟨⟨x0, x1, x2, x3⟩, ⟨y0, y1, y2, y3⟩⟩
 have HB0 := Lib.hid hB0
 have HMM := Lib.hid hM
 have HSM := Lib.hid hsame
 have HH := Lib.hid h
 have HY := Lib.hid hy
 have HZ := Lib.hid hz
 have HBD := Lib.hid hB
 have HCD := Lib.hid hC
 have HAD := Lib.hid hA
 have HGD := Lib.hid hG
 have HO := Lib.hid hO
 have HIH := Lib.hid ih
 generalize hA2 : A + qX C L B * (G + 2) = A2 at *
 have hAA : A ≤ A2 := by omega
 have HA2 := Lib.hid hA2
 clear hE0 hB0 hM0 h hy hz hB hC hA hG hO hW hM hsame ih hA2
 go_enter Tryz.func103, Tryz.ntmps103
 go_upto_region 1 with (fail)
 rw [HW.out]
 go_wp2_with (fail)
 refine CZ.out.mono ?_
 rintro e w1 ⟨bz, rfl, hbz, he1⟩
 have HE1 := Lib.hid (HE.out.trans he1)
 have HSS := Lib.hid (HS.out.ext he1)
 have HB1 := Lib.hid (HB0.out.ext he1)
 have hs1 : w.heap.size + 3 ≤ w1.heap.size := by have := he1.size; omega
 have HBZ := Lib.hid hbz
 clear x0 x1 x2 x3 y0 y1 y2 y3 HE HS HB0 HW he1 hbz CZ
 obtain ⟨⟨x0, x1, x2, x3⟩, ⟨y0, y1, y2, y3⟩⟩ := HSS.out
 have hw2 : w.heap.size + 2 < w1.heap.size := by omega
 have hks : W.heap.size = w.heap.size + 3 := hsz0.symm
 clear hsz0
 cases bz with
 | true =>
  obtain ⟨⟨q0, q1, q2, q3⟩, ⟨f0, f1, f2, f3⟩, ⟨r0, r1, r2, r3⟩, HF⟩ := retX (M := M) (M' := Mx M w.heap.size (w.heap.size + 3)) (w := w) (L := L) (l := []) (y := PE.z) HB1.out (Mx.at (by omega)) (by omega) HE1.out (CR.zero _ _ L) Mx.sub
  have HF2 := Lib.hid (HF.exT (r := r) (l := l) (A := A2) (HBZ.out.1 rfl).symm (show dlen 0 ≤ A2 from Nat.zero_le _))
  simp only [PE.z] at r0 r1 r2 r3
  clear HF HBZ HH HY HZ HBD HCD HAD HGD HO HIH HSM HSS HB1 HE1
  go_wp2
  exact bodyPost_ret (v := .tuple #[.agg (peA PE.z), .bool true]) (by simp [results, Tryz.results103, go_sem, r0, r1, r2, r3, PE.z]) rfl HF2.out
 | false =>
  have HLZ : Hid (¬ Sim l []) := fun hh => by have := HBZ.out.2 hh; cases this
  by_cases hlt : x.lv < y.lv
  ·have HND : Hid (¬ Dv r l) := by
    obtain ⟨D, b2, off2, Gk, hlv2, hD4, _, _, _, _, hn22, _, _, _, _, _, hlow2, hnz2, hsim2, _, _⟩ := HY.out.node (by omega)
    obtain ⟨T, hT1, hT2⟩ := HH.out.lowU
    obtain ⟨n, hn⟩ : ∃ n, y.kn = n + 1 := ⟨y.kn - 1, by omega⟩
    rw [hn] at hlow2 hsim2 hnz2
    rw [Nat.add_sub_cancel] at hnz2
    exact fun hd => dv_low hD4 (by omega) hlow2 hnz2 (NN.sim HY.out.nn hsim2.symm) (fun t ht => hT2 t ht (D + 1) (by omega) hD4) (fun hh => HLZ.out (hT1.symm.trans hh)) (hd.sim hsim2.symm hT1.symm)
   obtain ⟨⟨q0, q1, q2, q3⟩, ⟨f0, f1, f2, f3⟩, ⟨r0, r1, r2, r3⟩, HF⟩ := retX (M := M) (M' := Mx M w.heap.size (w.heap.size + 3)) (w := w) (L := 0) (l := []) (y := PE.z) HB1.out (Mx.at (by omega)) (by omega) HE1.out (CR.zero _ _ 0) Mx.sub
   have HF2 := Lib.hid (HF.exF (L := L) (A := A2) HND.out)
   simp only [PE.z] at r0 r1 r2 r3
   clear HF HND HBZ HH HY HZ HBD HCD HAD HGD HO HIH HSM HSS HB1 HE1
   go_wp2
   exact bodyPost_ret (v := .tuple #[.agg (peA PE.z), .bool false]) (by simp [results, Tryz.results103, go_sem, r0, r1, r2, r3, PE.z]) rfl HF2.out
  ·by_cases h0 : x.lv = 0
   ·have hy0 : y.lv = 0 := by omega
    obtain ⟨zl, hzl1, _, hzl2⟩ := HH.out.val
    obtain ⟨zr, hzr1, _, hzr2⟩ := HY.out.val
    obtain ⟨hzl3, _⟩ := hzl2 h0
    obtain ⟨hzr3, _⟩ := hzr2 hy0
    have hzr : zr ≠ 0 := fun hh => HZ.out (hzr3.symm.trans (fun m => by rw [hh]; simp [coefAt]))
    have hcl : zl = coefAt l Mo.zero := by have := hzl3 Mo.zero; simpa [coefAt] using this
    have hzd : dlen zl.natAbs ≤ A := Nat.le_trans (dlen_mono (by rw [hcl]; exact coefAt_le l Mo.zero)) HAD.out
    have hM1 : Mb (Mx M w.heap.size (w.heap.size + 3)) w1 := Mx.mb HMM.out HE1.out.size (by omega)
    have CE := Lib.hid (dv_exact (M := Mx M w.heap.size (w.heap.size + 3)) x.b x.a x.n x.p zl y.b y.a y.n y.p zr w1 hM1 ((hzl1.more (Mx.more (Nat.le_refl _))).ext HE1.out) ((hzr1.more (Mx.more (Nat.le_refl _))).ext HE1.out) hzr (by omega))
    have HDV : Hid (Dv r l ↔ zl.tmod zr = 0) := ⟨fun hd => (dv_const hzr).1 (hd.sim hzr3.symm hzl3.symm), fun hh => ((dv_const hzr).2 hh).sim hzr3 hzl3⟩
    have HTD : Hid (zl.tmod zr = 0 → Sim (pmul [(zl.tdiv zr, Mo.zero)] r) l) := fun hh => by
     have := Int.tdiv_mul_cancel (Int.dvd_of_tmod_eq_zero hh)
     refine (hzr3.symm.pmul_right _).trans (Sim.trans (fun m => ?_) hzl3)
     simp [pmul, shift, smul, coefAt, Mo.add_zero', this]
    have HQL : Hid (dlen (nrm [(zl.tdiv zr, Mo.zero)]) ≤ A2) := by
     show _ ≤ _
     rw [nrm_one]
     refine Nat.le_trans (Nat.le_trans (dlen_mono ?_) hzd) hAA
     rw [Int.natAbs_tdiv]; exact Nat.div_le_self _ _
    have hM1H := Lib.hid hM1
    rw [h0] at x0
    rw [hy0] at y0
    clear hzl1 hzl2 hzr1 hzr2 hzl3 hzr3 hcl hzd hM1 HH HY HZ HBD HCD HAD HGD HO HIH HSM HBZ HLZ hlt h0 hy0 hlx hly hzr HA2 hAA
    go_wp2_with (fail)
    refine CE.out.mono ?_
    rintro e w2 ⟨cb, ca, cn, cp, er, rfl, hok, hno, he2⟩
    have hcz : ∃ cz, IntC (Mx M w.heap.size (w.heap.size + 3)) w2 (.bool cb) (.slice ca cn cp) cz ∧ ((er = 0 ∧ zl.tmod zr = 0 ∧ cz = zl.tdiv zr) ∨ (er = 3 ∧ zl.tmod zr ≠ 0)) := by
     by_cases hd : zl.tmod zr = 0
     ·exact ⟨_, (hok hd).2, .inl ⟨(hok hd).1, hd, rfl⟩⟩
     ·exact ⟨_, (hno hd).2, .inr ⟨(hno hd).1, hd⟩⟩
    obtain ⟨cz, hc1, hc2⟩ := hcz
    have hEa := (Ext.refl w2).alloc (.cells #[.bool cb, .slice ca cn cp] 29)
    have HEA := Lib.hid (he2.trans hEa)
    have CK := Lib.hid (rp_Const (Mx M w.heap.size (w.heap.size + 3)) cb ca cn cp cz _ (hM1H.out.ext (he2.trans hEa)) (hc1.ext hEa).toV)
    have hs2 := he2.size
    have hw3 : w.heap.size + 2 < w2.heap.size := by omega
    clear hok hno he2 hc1 hEa CE x0 x1 x2 x3 y0 y1 y2 y3 hw2 HSS
    go_upto_region 7 with (fail)
    go_wp2_with (fail)
    refine CK.out.mono ?_
    rintro e w5 ⟨v, rfl, hv, he5⟩
    have hq := retX (M := M) (w := w) ((HB1.out.ext HEA.out).ext he5) (Mx.at (by omega)) (by omega) ((HE1.out.trans HEA.out).trans he5) (hv.up (Nat.zero_le L)) Mx.sub
    have hw4 : w.heap.size + 2 < w5.heap.size := by have := HEA.out.size; have := he5.size; omega
    rcases hc2 with ⟨rfl, hd, rfl⟩ | ⟨rfl, hd⟩
    ·obtain ⟨⟨q0, q1, q2, q3⟩, ⟨f0, f1, f2, f3⟩, ⟨r0, r1, r2, r3⟩, HF⟩ := hq
     have HF2 := Lib.hid (HF.exT (HTD.out hd) HQL.out)
     clear HF hv he5 CK HEA HTD HQL HDV hd HB1 HE1 hw3 hs2
     go_wp2
     exact bodyPost_ret (v := .tuple #[.agg (peA v), .bool true]) (by simp [results, Tryz.results103, go_sem, r0, r1, r2, r3]) rfl HF2.out
    ·obtain ⟨⟨q0, q1, q2, q3⟩, ⟨f0, f1, f2, f3⟩, ⟨r0, r1, r2, r3⟩, HF⟩ := hq
     have HF2 := Lib.hid (HF.exF (L := L) (A := A2) fun hh => hd (HDV.out.1 hh))
     clear HF hv he5 CK HEA HTD HQL HDV hd HB1 HE1 hw3 hs2
     go_wp2
     exact bodyPost_ret (v := .tuple #[.agg (peA v), .bool false]) (by simp [results, Tryz.results103, go_sem, r0, r1, r2, r3]) rfl HF2.out
   ·have h0' : (x.lv == 0) = false := by simpa using h0
    have hgt : y.lv < x.lv := by have := HSM.out; omega
    obtain ⟨E, hE⟩ : ∃ E : Nat, x.lv = (E : Int) + 1 := ⟨x.lv.toNat - 1, by omega⟩
    have hq := Nat.mul_le_mul_right (G + 2) (qX_to (C := C) (B := B) (show E + 1 ≤ L by omega))
    have ha2 := HA2.out
    have CE := Lib.hid (ps_exactCoefs C G E (by omega) (HIH.out E (by omega)) (Mx M w.heap.size (w.heap.size + 3)) l r x y B A w1 (Mx.mb HMM.out HE1.out.size (by omega)) (CR.relev ((HH.out.more (Mx.more (Nat.le_refl _))).ext HE1.out) (by omega)) hE ((HY.out.more (Mx.more (Nat.le_refl _))).ext HE1.out) hgt HZ.out HBD.out HCD.out HAD.out HGD.out (HO.out.to (by omega)) (by omega))
    have hEL : E + 1 ≤ L := by omega
    have hqa : A + qX C (E + 1) B * (G + 2) ≤ A2 := by omega
    clear hE hq ha2 HH HY HZ HBD HCD HAD HGD HO HIH HSM HBZ HLZ HA2
    go_wp2_with (fail)
    refine CE.out.mono ?_
    rintro e w2 ⟨v, ok, rfl, hR, he2⟩
    cases ok with
    | true =>
     obtain ⟨q, hq1, hq2, hq3⟩ := hR.1 rfl
     obtain ⟨⟨q0, q1, q2, q3⟩, ⟨f0, f1, f2, f3⟩, ⟨r0, r1, r2, r3⟩, HF⟩ := retX (M := M) (w := w) (HB1.out.ext he2) (Mx.at (by omega)) (by omega) (HE1.out.trans he2) (hq1.up hEL) Mx.sub
     have HF2 := Lib.hid (HF.exT hq2 (Nat.le_trans hq3 hqa))
     have hw3 : w.heap.size + 2 < w2.heap.size := Nat.lt_of_lt_of_le hw2 he2.size
     clear HF hR he2 CE hq1 hq2 hq3 HSS HB1 HE1 x0 x1 x2 x3 y0 y1 y2 y3 hw2
     go_wp2
     exact bodyPost_ret (v := .tuple #[.agg (peA v), .bool true]) (by simp [results, Tryz.results103, go_sem, r0, r1, r2, r3]) rfl HF2.out
    | false =>
     obtain ⟨⟨q0, q1, q2, q3⟩, ⟨f0, f1, f2, f3⟩, ⟨r0, r1, r2, r3⟩, hkp, hext⟩ := fin4 (M' := Mx M w.heap.size (w.heap.size + 3)) (w := w) (.int .i64 v.lv) (.bool v.b) (.slice v.a v.n v.p) (.slice v.ka v.kn v.kp) (HB1.out.ext he2) (Mx.at (by omega)) (by omega) (HE1.out.trans he2)
     have HF2 : Hid (RetEx M w L l r A2 (.returned (.tuple #[.agg (peA v), .bool false])) (set4 w2 (w.heap.size + 2) 0 (.int .i64 v.lv) (.bool v.b) (.slice v.a v.n v.p) (.slice v.ka v.kn v.kp))) := ⟨v, false, rfl, ⟨fun hh => (by cases hh), fun _ => hR.2 rfl⟩, hext⟩
     simp only [arr] at q0 q1 q2 q3
     simp only [set4, Nat.zero_add] at r0 r1 r2 r3
     have hw3 : w.heap.size + 2 < w2.heap.size := Nat.lt_of_lt_of_le hw2 he2.size
     clear hkp hext hR he2 CE HSS HB1 HE1 x0 x1 x2 x3 y0 y1 y2 y3 hw2
     go_wp2
     exact bodyPost_ret (v := .tuple #[.agg (peA v), .bool false]) (by simp [results, Tryz.results103, go_sem, r0, r1, r2, r3]) rfl HF2.out
theorem ps_exact (C G L : Nat) : L ≤ 4 → ExCtr C G L := by
 induction L using Nat.strongRecOn with
 | _ L ih => exact fun hL => ps_exact_walk C G L hL fun E hE => ih E hE (by omega)


def RetRf (w : World) (l : List Tm) (e : Ending) (w' : World) : Prop := ∃ er : Int, e = .returned (.int .i64 er) ∧ ((er = 2 ∧ Sim l []) ∨ (er = 0 ∧ ¬ Sim l [])) ∧ Ext w w'
set_option maxRecDepth 100000 in
set_option maxHeartbeats 8000000 in
theorem ps_refuse (M : Nat → Prop) (x : PE) (l : List Tm) (b off cap : Nat) (w : World) (hM : Mb M w) (hc : KCell w b off x) (hb : b < w.heap.size) (h : PI M w x l) : Calls Tryz.prog 100 #[.slice (some ⟨b, off, none⟩) 1 cap] w (RetRf w l) := by
 have HC := Lib.hid hc
 have HMM := Lib.hid hM
 have HP := Lib.hid h
 clear hc hM h
 go_enter Tryz.func100, Tryz.ntmps100
 go_wp2
 go_loopw [7] (fun i wr => ∃ k : Nat, k ≤ 1 ∧ i = .int .i64 k ∧ Hid (k = 1 → ¬ Sim l []) ∧ Hid (Ext w wr)) (fun i _ => 1 - (intOf i).toNat)
 case atStart => exact ⟨0, Nat.zero_le _, rfl, fun h => absurd h (by decide), Ext.refl w⟩
 case round =>
  obtain ⟨k, hk, rfl, HN, HE⟩ := hrel
  by_cases hk0 : k = 0
  ·subst hk0
   obtain ⟨c0, c1, c2, c3⟩ := HC.out.ext hb HE.out
   have hEa := (Ext.refl wr).alloc (.cells (peA x) 32)
   have CZ := Lib.hid (rp_IsZero M x l _ (HMM.out.ext (HE.out.trans hEa)) (HP.out.ext (HE.out.trans hEa)))
   have HEA := Lib.hid (HE.out.trans hEa)
   have hbw : b < wr.heap.size := Nat.lt_of_lt_of_le hb HE.out.size
   clear hEa HE HN HC HP
   go_wp2_with (fail)
   refine CZ.out.mono ?_
   rintro e w1 ⟨bz, rfl, hbz, he1⟩
   have HBZ := Lib.hid hbz
   have HE1 := Lib.hid (HEA.out.trans he1)
   clear hbz he1 CZ HEA c0 c1 c2 c3
   cases bz with
   | true =>
    have HF : Hid (RetRf w l (.returned (.int .i64 2)) w1) := ⟨2, rfl, .inl ⟨rfl, HBZ.out.1 rfl⟩, HE1.out⟩
    go_wp2
    exact bodyPost_ret (v := .int .i64 2) (by simp [results, Tryz.results100, go_sem]) rfl HF.out
   | false =>
    have HN1 : Hid (1 = 1 → ¬ Sim l []) := fun _ hh => by have := HBZ.out.2 hh; cases this
    go_wp2
    go_roundw
    case rel => exact ⟨1, Nat.le_refl _, by go_num, fun _ => HN1.out trivial, HE1⟩
    case measure => (simp [intOf]; try omega)
  ·obtain rfl : k = 1 := by omega
   have HF : Hid (RetRf w l (.returned (.int .i64 0)) wr) := ⟨0, rfl, .inr ⟨rfl, HN.out rfl⟩, HE.out⟩
   go_wp2
   exact bodyPost_ret (v := .int .i64 0) (by simp [results, Tryz.results100, go_sem]) rfl HF.out


theorem mb_or {M : Nat → Prop} {w : World} (h : Mb M w) (o : Obj) : Mb (fun g => M g ∨ g = w.heap.size) (w.alloc o) := fun g hg => hg.elim (fun h1 => by have := h g h1; simp; omega) (fun h1 => by simp; omega)
def RetQ (M : Nat → Prop) (w : World) (l r : List Tm) (A : Nat) (e : Ending) (w' : World) : Prop := ∃ (v : PE) (er : Int), e = .returned (.tuple #[.agg (peA v), .int .i64 er]) ∧ ((er = 2 ∧ Sim r [] ∧ v = PE.z) ∨ (er = 0 ∧ ¬ Sim r [] ∧ ∃ q, CRx M w' 4 v q ∧ Sim (pmul q r) l ∧ dlen (nrm q) ≤ A) ∨ (er = 3 ∧ v = PE.z ∧ ¬ Sim r [] ∧ ¬ Dv r l)) ∧ Ext w w'
set_option maxRecDepth 100000 in
set_option maxHeartbeats 8000000 in
theorem ps_ExactH (M : Nat → Prop) (l r : List Tm) (x y : PE) (A2 : Nat) (w : World) (hM : Mb M w) (h : PI M w x l) (hy : PI M w y r) (hCE : ∀ (M' : Nat → Prop) (a b : PE) (W' : World), Mb M' W' → CRx M' W' 4 a l → CRx M' W' 4 b r → ¬ Sim r [] → Calls Tryz.prog 103 #[.agg (peA a), .agg (peA b)] W' (RetEx M' W' 4 l r A2)) :
  Calls Tryz.prog 87 #[.agg (peA x), .agg (peA y)] w (RetQ M w l r A2) := by
 obtain ⟨hE0, hX0, hY0, hB0, hM0⟩ := box2 hM x y
 have h3 := (h.more (M' := Mx M w.heap.size (w.heap.size + 3)) (Mx.more (Nat.le_refl _))).ext hE0
 have hy3 := (hy.more (M' := Mx M w.heap.size (w.heap.size + 3)) (Mx.more (Nat.le_refl _))).ext hE0
 obtain ⟨x0, x1, x2, x3⟩ := hX0
 obtain ⟨y0, y1, y2, y3⟩ := hY0
 have hsz0 : w.heap.size + 3 = ((((w.alloc (.cells (peA x) 32)).alloc (.cells (peA y) 32)).alloc (.cells zA 32))).heap.size := by simp
 generalize hW : ((w.alloc (.cells (peA x) 32)).alloc (.cells (peA y) 32)).alloc (.cells zA 32) = W at *
 have HW := Lib.hid hW
 have HE := Lib.hid hE0
 have HS : Hid (SP2 w.heap.size x y W) := ⟨⟨x0, x1, x2, x3⟩, ⟨y0, y1, y2, y3⟩⟩
 have HB0 := Lib.hid hB0
 have HM3 := Lib.hid hM0
 have HX := Lib.hid h3
 have HY := Lib.hid hy3
 have HCE := Lib.hid hCE
 clear hE0 hB0 hM0 h hy hCE hW hM h3 hy3
 go_enter Tryz.func87, Tryz.ntmps87
 go_upto_region 1 with (fail)
 rw [HW.out]
 go_wp2_with (fail)
 have hEb := (Ext.refl W).alloc (.cells (peA y) 32)
 have hBb := Blk.of_arr W (peA y) 32 4 rfl
 refine (ps_refuse (Mx M w.heap.size (w.heap.size + 3)) y r W.heap.size 0 1 _ (HM3.out.ext hEb) hBb.p4 hBb.lt (HY.out.ext hEb)).mono ?_
 rintro e w1 ⟨er, rfl, her, he1⟩
 have HE1 := Lib.hid (HE.out.trans (hEb.trans he1))
 have HSS := Lib.hid (HS.out.ext (hEb.trans he1))
 have HB1 := Lib.hid (HB0.out.ext (hEb.trans he1))
 have HM1 := Lib.hid (HM3.out.ext (hEb.trans he1))
 have HX1 := Lib.hid (HX.out.ext (hEb.trans he1))
 have HY1 := Lib.hid (HY.out.ext (hEb.trans he1))
 have hs1 : w.heap.size + 3 ≤ w1.heap.size := by have := (hEb.trans he1).size; omega
 have hw2 : w.heap.size + 2 < w1.heap.size := by omega
 have hks : W.heap.size = w.heap.size + 3 := hsz0.symm
 clear hsz0 x0 x1 x2 x3 y0 y1 y2 y3 HE HS HB0 HW he1 hEb hBb HX HY HM3
 rcases her with ⟨rfl, hz⟩ | ⟨rfl, hz⟩
 ·obtain ⟨⟨q0, q1, q2, q3⟩, ⟨f0, f1, f2, f3⟩, ⟨r0, r1, r2, r3⟩, HF⟩ := retX (M := M) (M' := Mx M w.heap.size (w.heap.size + 3)) (w := w) (L := 0) (l := []) (y := PE.z) HB1.out (Mx.at (by omega)) (by omega) HE1.out (CR.zero _ _ 0) Mx.sub
  obtain ⟨_, _, _, hext⟩ := HF
  have HF2 : Hid (RetQ M w l r A2 (.returned (.tuple #[.agg (peA PE.z), .int .i64 2])) _) := ⟨PE.z, 2, rfl, .inl ⟨rfl, hz, rfl⟩, hext⟩
  simp only [PE.z] at r0 r1 r2 r3
  clear hext HSS HB1 HE1 HM1 HX1 HY1 HCE
  go_wp2
  exact bodyPost_ret (v := .tuple #[.agg (peA PE.z), .int .i64 2]) (by simp [results, Tryz.results87, go_sem, r0, r1, r2, r3, PE.z]) rfl HF2.out
 ·have HRZ := Lib.hid hz
  clear hz
  go_upto_region 4 with (fail)
  go_cut [7, 8] (ExCut (Mx M w.heap.size (w.heap.size + 3)) w1.drew 4 l r A2)
  case first =>
   have hEd : Ext w1 w1.drew := (Ext.refl w1).drew
   have HS2 : Hid (SP2 w.heap.size x y w1.drew) := HSS.out.ext hEd
   have CN1 : Hid (∀ (M' : Nat → Prop) (W' : World), Mb M' W' → (∀ g, M' g → Mx M w.heap.size (w.heap.size + 3) g ∨ w1.drew.heap.size ≤ g) → Ext w1.drew W' → Calls Tryz.prog 39 #[.agg (peA x)] W' (RetX M' W' 4 l)) := fun M' W' h1 h2 h3 => rp_Normal M' x l W' h1 (((HX1.out.ext hEd).more h2).ext h3)
   have CN2 : Hid (∀ (M' : Nat → Prop) (W' : World), Mb M' W' → (∀ g, M' g → Mx M w.heap.size (w.heap.size + 3) g ∨ w1.drew.heap.size ≤ g) → Ext w1.drew W' → Calls Tryz.prog 39 #[.agg (peA y)] W' (RetX M' W' 4 r)) := fun M' W' h1 h2 h3 => rp_Normal M' y r W' h1 (((HY1.out.ext hEd).more h2).ext h3)
   have hMd : Mb (Mx M w.heap.size (w.heap.size + 3)) w1.drew := HM1.out.ext hEd
   refine wp_region_u (SP2 w.heap.size x y) 10 (by kernel_rfl) HS2.out (fun hHeld => ?_)
   clear HSS HB1 HE1 HM1 HX1 HY1 HS2 hEd
   generalize w1.drew = wd at *
   (refine tkB [0, 2] ?_; (iterate 2 (refine tk1 (oi := ?_) (v := ?_) (by kernel_rfl) (by first | exact hSn | exact hHeld) ?_ ?_ ?_ ?_ ?_; rotate_left 2; (simp only [xgA, xgB, xgC]; rfl); rfl; (intro wS hSw; obtain ⟨⟨S1, S2, S3, S4⟩, S5, S6, S7, S8⟩ := hSw; go_simp; try with_reducible rfl); (exact fun _ _ _ h => h); (try simp only [Act.put, xgD, xgE, xgF]))); refine tkE ?_)
   (refine wpAnyU_two 1 8 (oi := ?_) (oj := ?_) (by kernel_rfl) ?_ ?_ ?_ ?_; rotate_left 2; (simp only [xgA, xgB, xgC]; rfl); (simp only [xgA, xgB, xgC]; rfl); all_goals intro K hK)
   ·go_simp
    refine (CN1.out (Mx M w.heap.size (w.heap.size + 3)) wd (hMd.ext (Ext.refl wd)) (fun g hg => .inl hg) (Ext.refl wd)).mono ?_
    rintro e v1 ⟨a, rfl, ha, d1⟩
    go_wp2_with (fail)
    have e1 : Ext wd v1 := ((Ext.refl wd)).trans d1
    try clear hSn
    have hSn := hHeld.ext e1
    refine hK.out _ _ (fun _ => hSn) ?_
    clear hK K
    (try simp only [Act.put, xgD, xgE, xgF])
    (refine wpAnyU_two 3 8 (oi := ?_) (oj := ?_) (by kernel_rfl) ?_ ?_ ?_ ?_; rotate_left 2; (simp only [xgA, xgB, xgC]; rfl); (simp only [xgA, xgB, xgC]; rfl); all_goals intro K hK)
    ·go_simp
     refine (CN2.out (Mx M w.heap.size (w.heap.size + 3)) v1 (hMd.ext e1) (fun g hg => .inl hg) e1).mono ?_
     rintro e v2 ⟨b, rfl, hb, d2⟩
     go_wp2_with (fail)
     have e2 : Ext wd v2 := (e1).trans d2
     try clear hSn
     have hSn := hHeld.ext e2
     refine hK.out _ _ (fun _ => hSn) ?_
     clear hK K
     (try simp only [Act.put, xgD, xgE, xgF])
     (refine wpAnyU_two 4 8 (oi := ?_) (oj := ?_) (by kernel_rfl) ?_ ?_ ?_ ?_; rotate_left 2; (simp only [xgA, xgB, xgC]; rfl); (simp only [xgA, xgB, xgC]; rfl); all_goals intro K hK)
     ·go_simp
      refine (HCE.out (Mx M w.heap.size (w.heap.size + 3)) a b v2 (hMd.ext e2) ((ha).ext d2) (hb) HRZ.out).mono ?_
      rintro e v3 ⟨v, ok, rfl, hR, d3⟩
      go_wp2_with (fail)
      have e3 : Ext wd v3 := (e2).trans d3
      try clear hSn
      have hSn := hHeld.ext e3
      refine hK.out _ _ (fun _ => hSn) ?_
      clear hK K
      (try simp only [Act.put, xgD, xgE, xgF])
      (refine tkB [5, 6, 7] ?_; (iterate 3 (refine tk1 (oi := ?_) (v := ?_) (by kernel_rfl) (by first | exact hSn | exact hHeld) ?_ ?_ ?_ ?_ ?_; rotate_left 2; (simp only [xgA, xgB, xgC]; rfl); rfl; (intro wS hSw; obtain ⟨⟨S1, S2, S3, S4⟩, S5, S6, S7, S8⟩ := hSw; go_simp; try with_reducible rfl); (exact fun _ _ _ h => h); (try simp only [Act.put, xgD, xgE, xgF]))); refine tkE ?_)
      (refine wpAnyU_one 8 (o := ?_) (by kernel_rfl) ?_ ?_; rotate_left 1; (simp only [xgA, xgB, xgC]; rfl); intro K hK)
      go_simp
      have hSn2 := hSn.ext ((Ext.refl v3).alloc (.cells zA 32))
      have hSn3 := hSn.ext ((Ext.refl v3).alloc (.cells (peA v) 32))
      clear hSn
      refine hK.out _ _ (fun _ => hSn2) ?_
      clear hK K
      (try simp only [Act.put, xgD, xgE, xgF])
      (refine wpAnyU_one 9 (o := ?_) (by kernel_rfl) ?_ ?_; rotate_left 1; (simp only [xgA, xgB, xgC]; rfl); intro K hK)
      go_simp
      refine hK.out _ _ (fun _ => hSn3) ?_
      clear hK K
      (try simp only [Act.put, xgD, xgE, xgF])
      ((refine wpAnyU_one 10 (o := ?_) (by kernel_rfl) ?_ ?_; rotate_left 1; (simp only [xgA, xgB, xgC]; rfl); intro K hK); go_simp; (refine hK.out _ _ (fun h => absurd rfl h) ?_); clear hK K; refine wpAnyU_done (by kernel_rfl) ?_ _)
      go_wp2_with (fail)
      go_meet
      exact ⟨v3.heap.size, v, ok, rfl, rfl, (Blk.of_arr v3 (peA v) 32 4 rfl).p4, by simp, (e3).size, hR.ext ((Ext.refl v3).alloc _), (e3).alloc _⟩
     ·go_simp
      have ea3 : Ext v2 (v2.alloc (.cells zA 32)) := (Ext.refl _).alloc _
      have hb3 := Blk.of_arr v2 zA 32 4 rfl
      have e3 : Ext wd (v2.alloc (.cells zA 32)) := (e2).trans ea3
      try clear hSn
      have hSn := hHeld.ext e3
      refine hK.out _ _ (fun _ => hSn) ?_
      clear hK K
      (try simp only [Act.put, xgD, xgE, xgF])
      (refine wpAnyU_one 4 (o := ?_) (by kernel_rfl) ?_ ?_; rotate_left 1; (simp only [xgA, xgB, xgC]; rfl); intro K hK)
      go_simp
      refine (HCE.out (fun g => (Mx M w.heap.size (w.heap.size + 3)) g ∨ g = v2.heap.size) a b (v2.alloc (.cells zA 32)) ((mb_or (hMd.ext e2) (.cells zA 32)).ext (Ext.refl (v2.alloc (.cells zA 32)))) ((((ha).ext d2).more (M' := fun g => (Mx M w.heap.size (w.heap.size + 3)) g ∨ g = v2.heap.size) (fun g hg => hg.imp id fun (h : g = v2.heap.size) => Nat.le_of_eq h.symm)).ext ea3) (((hb).more (M' := fun g => (Mx M w.heap.size (w.heap.size + 3)) g ∨ g = v2.heap.size) (fun g hg => hg.imp id fun (h : g = v2.heap.size) => Nat.le_of_eq h.symm)).ext ea3) HRZ.out).mono ?_
      rintro e v4 ⟨v, ok, rfl, hR, d4⟩
      go_wp2_with (fail)
      have e4 : Ext wd v4 := (e3).trans d4
      have hb4 := (hb3).ext d4
      try clear hSn
      have hSn := hHeld.ext e4
      refine hK.out _ _ (fun _ => hSn) ?_
      clear hK K
      (try simp only [Act.put, xgD, xgE, xgF])
      (refine tkB [5, 6, 7] ?_; (iterate 3 (refine tk1 (oi := ?_) (v := ?_) (by kernel_rfl) (by first | exact hSn | exact hHeld) ?_ ?_ ?_ ?_ ?_; rotate_left 2; (simp only [xgA, xgB, xgC]; rfl); rfl; (intro wS hSw; obtain ⟨⟨S1, S2, S3, S4⟩, S5, S6, S7, S8⟩ := hSw; go_simp; try with_reducible rfl); (exact fun _ _ _ h => h); (try simp only [Act.put, xgD, xgE, xgF]))); refine tkE ?_)
      obtain ⟨⟨q0, q1, q2, q3⟩, ⟨f0, f1, f2, f3⟩, hrr, hkp, hext⟩ := fin4 (M' := fun g => (Mx M w.heap.size (w.heap.size + 3)) g ∨ g = v2.heap.size) (w := wd) (.int .i64 v.lv) (.bool v.b) (.slice v.a v.n v.p) (.slice v.ka v.kn v.kp) (hb4) (.inr rfl) (e2).size (e4)
      simp only [arr] at q0 q1 q2 q3
      (refine wpAnyU_one 9 (o := ?_) (by kernel_rfl) ?_ ?_; rotate_left 1; (simp only [xgA, xgB, xgC]; rfl); intro K hK)
      go_simp
      have hSn3 := hHeld.ext hext
      clear hSn
      refine hK.out _ _ (fun _ => hSn3) ?_
      clear hK K
      (try simp only [Act.put, xgD, xgE, xgF])
      ((refine wpAnyU_one 10 (o := ?_) (by kernel_rfl) ?_ ?_; rotate_left 1; (simp only [xgA, xgB, xgC]; rfl); intro K hK); go_simp; (refine hK.out _ _ (fun h => absurd rfl h) ?_); clear hK K; refine wpAnyU_done (by kernel_rfl) ?_ _)
      go_wp2_with (fail)
      go_meet
      exact ⟨v2.heap.size, v, ok, rfl, rfl, hrr, Nat.lt_of_lt_of_eq (hb4).lt (size_set4 _ _ _ _ _ _ _).symm, (e2).size, (hR.kp hkp).more (fun g hg => .inl (.inl hg)), hext⟩
    ·go_simp
     have ea2 : Ext v1 (v1.alloc (.cells zA 32)) := (Ext.refl _).alloc _
     have hb2 := Blk.of_arr v1 zA 32 4 rfl
     have e2 : Ext wd (v1.alloc (.cells zA 32)) := (e1).trans ea2
     try clear hSn
     have hSn := hHeld.ext e2
     refine hK.out _ _ (fun _ => hSn) ?_
     clear hK K
     (try simp only [Act.put, xgD, xgE, xgF])
     (refine wpAnyU_one 3 (o := ?_) (by kernel_rfl) ?_ ?_; rotate_left 1; (simp only [xgA, xgB, xgC]; rfl); intro K hK)
     go_simp
     refine (CN2.out (fun g => (Mx M w.heap.size (w.heap.size + 3)) g ∨ g = v1.heap.size) (v1.alloc (.cells zA 32)) ((mb_or (hMd.ext e1) (.cells zA 32)).ext (Ext.refl (v1.alloc (.cells zA 32)))) (fun g hg => hg.imp id fun h => by rw [h]; exact e1.size) e2).mono ?_
     rintro e v3 ⟨b, rfl, hb, d3⟩
     go_wp2_with (fail)
     have e3 : Ext wd v3 := (e2).trans d3
     have hb3 := (hb2).ext d3
     try clear hSn
     have hSn := hHeld.ext e3
     refine hK.out _ _ (fun _ => hSn) ?_
     clear hK K
     (try simp only [Act.put, xgD, xgE, xgF])
     (refine wpAnyU_one 4 (o := ?_) (by kernel_rfl) ?_ ?_; rotate_left 1; (simp only [xgA, xgB, xgC]; rfl); intro K hK)
     go_simp
     refine (HCE.out (fun g => (Mx M w.heap.size (w.heap.size + 3)) g ∨ g = v1.heap.size) a b v3 ((mb_or (hMd.ext e1) (.cells zA 32)).ext (((Ext.refl (v1.alloc (.cells zA 32)))).trans d3)) ((((ha).more (M' := fun g => (Mx M w.heap.size (w.heap.size + 3)) g ∨ g = v1.heap.size) (fun g hg => hg.imp id fun (h : g = v1.heap.size) => Nat.le_of_eq h.symm)).ext ea2).ext d3) (hb) HRZ.out).mono ?_
     rintro e v4 ⟨v, ok, rfl, hR, d4⟩
     go_wp2_with (fail)
     have e4 : Ext wd v4 := (e3).trans d4
     have hb4 := (hb3).ext d4
     try clear hSn
     have hSn := hHeld.ext e4
     refine hK.out _ _ (fun _ => hSn) ?_
     clear hK K
     (try simp only [Act.put, xgD, xgE, xgF])
     (refine tkB [5, 6, 7] ?_; (iterate 3 (refine tk1 (oi := ?_) (v := ?_) (by kernel_rfl) (by first | exact hSn | exact hHeld) ?_ ?_ ?_ ?_ ?_; rotate_left 2; (simp only [xgA, xgB, xgC]; rfl); rfl; (intro wS hSw; obtain ⟨⟨S1, S2, S3, S4⟩, S5, S6, S7, S8⟩ := hSw; go_simp; try with_reducible rfl); (exact fun _ _ _ h => h); (try simp only [Act.put, xgD, xgE, xgF]))); refine tkE ?_)
     obtain ⟨⟨q0, q1, q2, q3⟩, ⟨f0, f1, f2, f3⟩, hrr, hkp, hext⟩ := fin4 (M' := fun g => (Mx M w.heap.size (w.heap.size + 3)) g ∨ g = v1.heap.size) (w := wd) (.int .i64 v.lv) (.bool v.b) (.slice v.a v.n v.p) (.slice v.ka v.kn v.kp) (hb4) (.inr rfl) (e1).size (e4)
     simp only [arr] at q0 q1 q2 q3
     (refine wpAnyU_one 9 (o := ?_) (by kernel_rfl) ?_ ?_; rotate_left 1; (simp only [xgA, xgB, xgC]; rfl); intro K hK)
     go_simp
     have hSn3 := hHeld.ext hext
     clear hSn
     refine hK.out _ _ (fun _ => hSn3) ?_
     clear hK K
     (try simp only [Act.put, xgD, xgE, xgF])
     ((refine wpAnyU_one 10 (o := ?_) (by kernel_rfl) ?_ ?_; rotate_left 1; (simp only [xgA, xgB, xgC]; rfl); intro K hK); go_simp; (refine hK.out _ _ (fun h => absurd rfl h) ?_); clear hK K; refine wpAnyU_done (by kernel_rfl) ?_ _)
     go_wp2_with (fail)
     go_meet
     exact ⟨v1.heap.size, v, ok, rfl, rfl, hrr, Nat.lt_of_lt_of_eq (hb4).lt (size_set4 _ _ _ _ _ _ _).symm, (e1).size, (hR.kp hkp).more (fun g hg => .inl (.inl hg)), hext⟩
   ·go_simp
    have ea1 : Ext wd (wd.alloc (.cells zA 32)) := (Ext.refl _).alloc _
    have hb1 := Blk.of_arr wd zA 32 4 rfl
    have e1 : Ext wd (wd.alloc (.cells zA 32)) := ((Ext.refl wd)).trans ea1
    try clear hSn
    have hSn := hHeld.ext e1
    refine hK.out _ _ (fun _ => hSn) ?_
    clear hK K
    (try simp only [Act.put, xgD, xgE, xgF])
    (refine wpAnyU_one 1 (o := ?_) (by kernel_rfl) ?_ ?_; rotate_left 1; (simp only [xgA, xgB, xgC]; rfl); intro K hK)
    go_simp
    refine (CN1.out (fun g => (Mx M w.heap.size (w.heap.size + 3)) g ∨ g = wd.heap.size) (wd.alloc (.cells zA 32)) ((mb_or (hMd.ext (Ext.refl wd)) (.cells zA 32)).ext (Ext.refl (wd.alloc (.cells zA 32)))) (fun g hg => hg.imp id fun h => by rw [h]; exact (Ext.refl wd).size) e1).mono ?_
    rintro e v2 ⟨a, rfl, ha, d2⟩
    go_wp2_with (fail)
    have e2 : Ext wd v2 := (e1).trans d2
    have hb2 := (hb1).ext d2
    try clear hSn
    have hSn := hHeld.ext e2
    refine hK.out _ _ (fun _ => hSn) ?_
    clear hK K
    (try simp only [Act.put, xgD, xgE, xgF])
    (refine wpAnyU_one 3 (o := ?_) (by kernel_rfl) ?_ ?_; rotate_left 1; (simp only [xgA, xgB, xgC]; rfl); intro K hK)
    go_simp
    refine (CN2.out (fun g => (Mx M w.heap.size (w.heap.size + 3)) g ∨ g = wd.heap.size) v2 ((mb_or (hMd.ext (Ext.refl wd)) (.cells zA 32)).ext (((Ext.refl (wd.alloc (.cells zA 32)))).trans d2)) (fun g hg => hg.imp id fun h => by rw [h]; exact (Ext.refl wd).size) e2).mono ?_
    rintro e v3 ⟨b, rfl, hb, d3⟩
    go_wp2_with (fail)
    have e3 : Ext wd v3 := (e2).trans d3
    have hb3 := (hb2).ext d3
    try clear hSn
    have hSn := hHeld.ext e3
    refine hK.out _ _ (fun _ => hSn) ?_
    clear hK K
    (try simp only [Act.put, xgD, xgE, xgF])
    (refine wpAnyU_one 4 (o := ?_) (by kernel_rfl) ?_ ?_; rotate_left 1; (simp only [xgA, xgB, xgC]; rfl); intro K hK)
    go_simp
    refine (HCE.out (fun g => (Mx M w.heap.size (w.heap.size + 3)) g ∨ g = wd.heap.size) a b v3 ((mb_or (hMd.ext (Ext.refl wd)) (.cells zA 32)).ext (((((Ext.refl (wd.alloc (.cells zA 32)))).trans d2)).trans d3)) ((ha).ext d3) (hb) HRZ.out).mono ?_
    rintro e v4 ⟨v, ok, rfl, hR, d4⟩
    go_wp2_with (fail)
    have e4 : Ext wd v4 := (e3).trans d4
    have hb4 := (hb3).ext d4
    try clear hSn
    have hSn := hHeld.ext e4
    refine hK.out _ _ (fun _ => hSn) ?_
    clear hK K
    (try simp only [Act.put, xgD, xgE, xgF])
    (refine tkB [5, 6, 7] ?_; (iterate 3 (refine tk1 (oi := ?_) (v := ?_) (by kernel_rfl) (by first | exact hSn | exact hHeld) ?_ ?_ ?_ ?_ ?_; rotate_left 2; (simp only [xgA, xgB, xgC]; rfl); rfl; (intro wS hSw; obtain ⟨⟨S1, S2, S3, S4⟩, S5, S6, S7, S8⟩ := hSw; go_simp; try with_reducible rfl); (exact fun _ _ _ h => h); (try simp only [Act.put, xgD, xgE, xgF]))); refine tkE ?_)
    obtain ⟨⟨q0, q1, q2, q3⟩, ⟨f0, f1, f2, f3⟩, hrr, hkp, hext⟩ := fin4 (M' := fun g => (Mx M w.heap.size (w.heap.size + 3)) g ∨ g = wd.heap.size) (w := wd) (.int .i64 v.lv) (.bool v.b) (.slice v.a v.n v.p) (.slice v.ka v.kn v.kp) (hb4) (.inr rfl) ((Ext.refl wd)).size (e4)
    simp only [arr] at q0 q1 q2 q3
    (refine wpAnyU_one 9 (o := ?_) (by kernel_rfl) ?_ ?_; rotate_left 1; (simp only [xgA, xgB, xgC]; rfl); intro K hK)
    go_simp
    have hSn3 := hHeld.ext hext
    clear hSn
    refine hK.out _ _ (fun _ => hSn3) ?_
    clear hK K
    (try simp only [Act.put, xgD, xgE, xgF])
    ((refine wpAnyU_one 10 (o := ?_) (by kernel_rfl) ?_ ?_; rotate_left 1; (simp only [xgA, xgB, xgC]; rfl); intro K hK); go_simp; (refine hK.out _ _ (fun h => absurd rfl h) ?_); clear hK K; refine wpAnyU_done (by kernel_rfl) ?_ _)
    go_wp2_with (fail)
    go_meet
    exact ⟨wd.heap.size, v, ok, rfl, rfl, hrr, Nat.lt_of_lt_of_eq (hb4).lt (size_set4 _ _ _ _ _ _ _).symm, ((Ext.refl wd)).size, (hR.kp hkp).more (fun g hg => .inl (.inl hg)), hext⟩
  case rest =>
   obtain ⟨gc, v, ok, rfl, rfl, hv, hgv, hgw, hR, heC⟩ := hcut
   have he5 : Ext w1 wc := (Ext.refl w1).drew.trans heC
   have HRR := Lib.hid hR
   have HBC := Lib.hid (HB1.out.ext he5)
   have HWC := Lib.hid (HE1.out.trans he5)
   have hw3 : w.heap.size + 2 < wc.heap.size := Nat.lt_of_lt_of_le hw2 he5.size
   obtain ⟨v0, v1, v2, v3⟩ := hv
   clear hR heC he5 hgw HSS HB1 HE1 HM1 HX1 HY1 HCE hw2
   cases ok with
   | false =>
    obtain ⟨⟨q0, q1, q2, q3⟩, ⟨f0, f1, f2, f3⟩, ⟨r0, r1, r2, r3⟩, HF⟩ := retX (M := M) (M' := Mx M w.heap.size (w.heap.size + 3)) (w := w) (L := 0) (l := []) (y := PE.z) HBC.out (Mx.at (by omega)) (by omega) HWC.out (CR.zero _ _ 0) Mx.sub
    obtain ⟨_, _, _, hext⟩ := HF
    have HF2 : Hid (RetQ M w l r A2 (.returned (.tuple #[.agg (peA PE.z), .int .i64 3])) _) := ⟨PE.z, 3, rfl, .inr (.inr ⟨rfl, rfl, HRZ.out, HRR.out.2 rfl⟩), hext⟩
    simp only [PE.z] at r0 r1 r2 r3
    clear hext HRR HBC HWC v0 v1 v2 v3
    go_wp2
    exact bodyPost_ret (v := .tuple #[.agg (peA PE.z), .int .i64 3]) (by simp [results, Tryz.results87, go_sem, r0, r1, r2, r3, PE.z]) rfl HF2.out
   | true =>
    obtain ⟨q, hq1, hq2, hq3⟩ := HRR.out.1 rfl
    obtain ⟨⟨q0, q1, q2, q3⟩, ⟨f0, f1, f2, f3⟩, ⟨r0, r1, r2, r3⟩, HF⟩ := retX (M := M) (w := w) HBC.out (Mx.at (by omega)) (by omega) HWC.out hq1 Mx.sub
    obtain ⟨v', e', hc', hext⟩ := HF
    simp only [Ending.returned.injEq, Value.agg.injEq] at e'
    have HF2 : Hid (RetQ M w l r A2 (.returned (.tuple #[.agg (peA v), .int .i64 0])) _) := ⟨v', 0, by rw [e'], .inr (.inl ⟨rfl, HRZ.out, q, hc', hq2, hq3⟩), hext⟩
    clear hext hc' e' hq1 hq2 hq3 HRR HBC HWC
    go_wp2
    exact bodyPost_ret (v := .tuple #[.agg (peA v), .int .i64 0]) (by simp [results, Tryz.results87, go_sem, r0, r1, r2, r3]) rfl HF2.out
theorem ps_Exact (C G : Nat) (M : Nat → Prop) (l r : List Tm) (x y : PE) (B A : Nat) (w : World) (hM : Mb M w) (h : PI M w x l) (hy : PI M w y r) (hB : Deg B l) (hC : Deg C r) (hA : dlen (nrm l) ≤ A) (hG : dlen (nrm r) ≤ G) (hO : OkB C 4 B) (hS : A + qX C 4 B * (G + 2) ≤ 549755813888) :
  Calls Tryz.prog 87 #[.agg (peA x), .agg (peA y)] w (RetQ M w l r (A + qX C 4 B * (G + 2))) := ps_ExactH M l r x y _ w hM h hy fun M' a b W' h1 h2 h4 h5 => ps_exact C G 4 (Nat.le_refl 4) M' l r a b B A W' h1 h2 h4 h5 hB hC hA hG hO hS


end Go.Proofs.YtjhhekmfdhfjpaaGreat
