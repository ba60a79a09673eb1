/- MainvarFamily: plain facts; cylinderlaw23.in. -/
import Derived.Test.YtjcceddloogiiaaGreatEt
import Derived.Test.YtjcceddloogiiaaGreatDf
set_option linter.unusedVariables false
set_option linter.unusedSimpArgs false

namespace Go.Proofs.YtjcceddloogiiaaGreat
open Go.RowKit

theorem asc_eq : ∀ (c c' : Nat) (F F' : Nat → List Tm), (∀ i j, i < j → j < c → cmpP (F i) (F j) < 0) → (∀ i j, i < j → j < c' → cmpP (F' i) (F' j) < 0) → (∀ i, i < c → ∃ j, j < c' ∧ F i = F' j) → (∀ j, j < c' → ∃ i, i < c ∧ F' j = F i) → c = c' ∧ ∀ i, i < c → F i = F' i
 | 0, c', _, _, _, _, _, h => by
  refine ⟨?_, fun i hi => absurd hi (Nat.not_lt_zero _)⟩
  cases c' with
  | zero => rfl
  | succ c' => obtain ⟨i, hi, _⟩ := h 0 (Nat.succ_pos _); exact absurd hi (Nat.not_lt_zero _)
 | c + 1, c', F, F', h1, h2, h3, h4 => by
  have irr : ∀ l : List Tm, ¬ cmpP l l < 0 := fun l hh => by rw [(cmpP_zero l l).2 rfl] at hh; omega
  obtain ⟨j, hj, hFj⟩ := h3 c (Nat.lt_succ_self c)
  obtain ⟨d, rfl⟩ : ∃ d, c' = d + 1 := ⟨c' - 1, by omega⟩
  obtain ⟨i, hi, hFi⟩ := h4 d (Nat.lt_succ_self d)
  have hid : F' d = F c := by
   by_cases hic : i = c
   ·rw [hFi, hic]
   ·exfalso
    have e1 := h1 i c (by omega) (Nat.lt_succ_self c)
    by_cases hjd : j = d
    ·rw [hFj, hjd, ← hFi] at e1; exact irr _ e1
    ·have e2 := h2 j d (by omega) (Nat.lt_succ_self d)
     rw [← hFj, hFi] at e2
     exact irr _ (cmpP_trans e1 e2)
  obtain ⟨r1, r2⟩ := asc_eq c d F F' (fun i j hij hj => h1 i j hij (by omega)) (fun i j hij hj => h2 i j hij (by omega)) (fun i hi => by
   obtain ⟨j, hj, e⟩ := h3 i (by omega)
   refine ⟨j, ?_, e⟩
   by_cases hjd : j = d
   ·exfalso
    have e1 := h1 i c hi (Nat.lt_succ_self c)
    rw [e, hjd, hid] at e1
    exact irr _ e1
   ·omega) (fun j hj => by
   obtain ⟨i, hi, e⟩ := h4 j (by omega)
   refine ⟨i, ?_, e⟩
   by_cases hic : i = c
   ·exfalso
    have e1 := h2 j d hj (Nat.lt_succ_self d)
    rw [e, hic, hid] at e1
    exact irr _ e1
   ·omega)
  subst r1
  refine ⟨rfl, fun i hi => ?_⟩
  by_cases hic : i = c
  ·rw [hic, hid]
  ·exact r2 i (by omega)
theorem fam_uniq {N N' c c' : Nat} {P P' F F' : Nat → List Tm} (h : FamL N P c F) (k : FamL N' P' c' F') (h1 : ∀ j, j < N → lvM ((snorm (P j)).map (·.2)) ≠ 0 → ∃ i, i < N' ∧ snorm (P j) = snorm (P' i)) (h2 : ∀ j, j < N' → lvM ((snorm (P' j)).map (·.2)) ≠ 0 → ∃ i, i < N ∧ snorm (P' j) = snorm (P i)) : c = c' ∧ ∀ i, i < c → F i = F' i := by
 refine asc_eq c c' F F' h.2.2 k.2.2 (fun i hi => ?_) (fun j hj => ?_)
 ·obtain ⟨j, hj, e, hl⟩ := h.1 i hi
  rw [e] at hl
  obtain ⟨i', hi', e'⟩ := h1 j hj hl
  rw [e'] at hl
  obtain ⟨q, hq, eq⟩ := k.2.1 i' hi' hl
  exact ⟨q, hq, by rw [e, e', eq]⟩
 ·obtain ⟨i, hi, e, hl⟩ := k.1 j hj
  rw [e] at hl
  obtain ⟨i', hi', e'⟩ := h2 i hi hl
  rw [e'] at hl
  obtain ⟨q, hq, eq⟩ := h.2.1 i' hi' hl
  exact ⟨q, hq, by rw [e, e', eq]⟩
def SmC (l : List Tm) : Prop := NN l ∧ Deg 12 l ∧ dlen (nrm l) ≤ 20
theorem CRx.tbM {M : Nat → Prop} {w : World} {L : Nat} {x : PE} {l : List Tm} {B : Nat} (h : CRx M w L x l) (hL4 : L ≤ 4) (hL : dlen (nrm l) ≤ 1099511627776) (hB : Deg B l) (hB4 : (B + 1) ^ 4 ≤ 1099511627776) : ∃ t : RT (L + 1), RR M w (L + 1) t (.int .i64 x.lv) (.bool x.b) (.slice x.a x.n x.p) (.slice x.ka x.kn x.kp) ∧ TB (L + 1) t ∧ Sim (terms (L + 1) t) l ∧ nrm (terms (L + 1) t) ≤ nrm l := by
 obtain ⟨t, h1, h2, h3, h4⟩ := h
 have hlv := can_lev h2
 have hlen := can_len B (L + 1) t h2 h1.ok (sim_deg h4 hB)
 have hpow : (B + 1) ^ (Go.Proofs.YtjcceddloogiiaaGreat.lev (L + 1) t).toNat ≤ (B + 1) ^ 4 := Nat.pow_le_pow_right (by omega) (by show t.1.toNat ≤ 4; omega)
 have hB1 : B + 1 ≤ (B + 1) ^ 4 := by
  have h5 := Nat.pow_le_pow_right (show 0 < B + 1 by omega) (show 1 ≤ 4 by omega)
  rwa [Nat.pow_one] at h5
 have hBs : B ≤ 1073741824 := by
  refine Classical.byContradiction fun hc => ?_
  have h6 : (1073741825 : Nat) ^ 2 ≤ (B + 1) ^ 4 := Nat.le_trans (Nat.pow_le_pow_left (show 1073741825 ≤ B + 1 by omega) 2) (Nat.pow_le_pow_right (by omega) (by omega))
  omega
 refine ⟨t, h1, ⟨by omega, by omega, Nat.le_trans (dlen_mono (can_nrm h2 h4)) hL, fun s hs k => ?_⟩, h4, can_nrm h2 h4⟩
 have := can_exp B (L + 1) t h2 h1.ok (sim_deg h4 hB) s hs k
 omega
theorem sn_c {M : Nat → Prop} {w : World} {x : PE} {l : List Tm} (hx : CRx M w 4 x l) (hs : SmC l) (M' : Nat → Prop) (W' : World) (h1 : Mb M' W') (h2 : ∀ g, M' g → M g ∨ w.heap.size ≤ g) (h3 : Ext w W') : Calls Tryz.prog 98 #[.agg (peA x)] W' (RetX M' W' 4 (snorm l)) := by
 have hd := hs.2.2
 obtain ⟨t, hR, hT, hS, hN⟩ := hx.tbM (B := 12) (Nat.le_refl _) (by omega) hs.2.1 (by decide)
 rw [← hS.snorm]
 refine mv_snorm M' (4 + 1) t x W' h1 (RR.ext (RR.more h2 hR) h3) hT ?_
 have h5 := dlen_mono hN
 omega
def RetIn (w : World) (l : List Tm) (N : Nat) (P : Nat → List Tm) (e : Ending) (w' : World) : Prop := ∃ b : Bool, e = .returned (.bool b) ∧ (b = true ↔ ∃ j, j < N ∧ snorm l = snorm (P j)) ∧ Ext w w'
def SL2i (b c : Nat) (x y : PE) (w : World) : Prop := P4 w b x ∧ P4 w c y
theorem SL2i.ext {b c : Nat} {x y : PE} {w w' : World} (h : SL2i b c x y w) (he : Ext w w') : SL2i b c x y w' := ⟨h.1.ext he, h.2.ext he⟩
set_option maxRecDepth 100000 in
set_option maxHeartbeats 8000000 in
theorem law_in (x : PE) (l : List Tm) (a : Option Addr) (N cap : Nat) (P : Nat → List Tm) (w : World) (hx : CRx M0 w 4 x l) (hl : SmC l) (h : KRow M0 w 4 (.slice a N cap) N P) (hP : ∀ j, j < N → SmC (P j)) :
  Calls Tryz.prog 23 #[.agg (peA x), .slice a N cap] w (RetIn w l N P) := by
 have hE := (Ext.refl w).alloc (.cells (peA x) 33)
 have hB := Blk.of_arr w (peA x) 33 4 rfl
 have hNL : N ≤ 1099511627776 := h.1
 obtain ⟨W, hW⟩ : ∃ W, w.alloc (.cells (peA x) 33) = W := ⟨_, rfl⟩
 rw [hW] at hE hB
 have HW := Lib.hid hW
 have HX := Lib.hid hx
 have HL := Lib.hid hl
 have HROW := Lib.hid h
 have HPP := Lib.hid hP
 have HE := Lib.hid hE
 have HB : Hid (P4 W w.heap.size x) := hB.p4
 clear hW hx hl h hP hE hB
 go_enter Tryz.func23, Tryz.ntmps23
 go_upto_region 1 with (fail)
 rw [HW.out]
 clear HW
 go_wp2
 go_loopw [9] (fun iv wr => ∃ k : Nat, k ≤ N ∧ iv = .int .i64 (k : Int) ∧ Hid (∀ j, j < k → snorm l ≠ snorm (P j)) ∧ Hid (Ext w wr) ∧ Hid (P4 wr w.heap.size x)) (fun iv _ => N - (intOf iv).toNat)
 case atStart => exact ⟨0, Nat.zero_le _, rfl, fun j hj => absurd hj (Nat.not_lt_zero _), HE, HB⟩
 case round =>
  clear HE HB
  obtain ⟨k, hk, rfl, HNO, HE, HB⟩ := hrel
  by_cases hlt : k < N
  ·have hltI : (k : Int) < (N : Int) := by omega
   have HLT := Lib.hid hlt
   obtain ⟨b, off, hab, hNc, hcm, hb, hMb, e0, e1, e2, e3, c0, c1, c2, c3, hcr⟩ := HROW.out.at k hlt
   obtain ⟨y, rfl, rfl, rfl, rfl, hy, _, _, _⟩ := CR.pe hcr
   subst hab
   rw [← HE.out.cell hb] at c0 c1 c2 c3
   have hbw : b < wr.heap.size := Nat.lt_of_lt_of_le hb HE.out.size
   have hEa := ((Ext.refl wr).alloc (.cells (peA y) 33)).drew
   have hwx := World.block_lt_of_cell? _ _ HB.out.1
   have hS : SL2i w.heap.size wr.heap.size x y (wr.alloc (.cells (peA y) 33)).drew := ⟨HB.out.ext hEa, (Blk.of_arr wr (peA y) 33 4 rfl).p4.ext (Ext.refl _).drew⟩
   have HE2 := Lib.hid (HE.out.trans hEa)
   have HY : Hid (CRx M0 w 4 y (P k)) := hy
   clear hcr hy hEa HE HB hlt
   go_upto_region 4 with (fail)
   refine wp_region_u (SL2i w.heap.size wr.heap.size x y) 5 (by kernel_rfl) hS (fun hHeld => ?_)
   clear hS
   generalize (wr.alloc (.cells (peA y) 33)).drew = wd at *
   (refine tkB [0, 2] ?_; (iterate 2 (refine tk1 (oi := ?_) (v := ?_) (by kernel_rfl) (by first | exact hSn | exact hHeld) ?_ ?_ ?_ ?_ ?_; rotate_left 2; (simp only [xgA, xgB, xgC]; rfl); rfl; (intro wS hSw; obtain ⟨⟨S1, S2, S3, S4⟩, S5, S6, S7, S8⟩ := hSw; go_simp; try with_reducible rfl); (exact fun _ _ _ h => h); (try simp only [Act.put, xgD, xgE, xgF]))); refine tkE ?_)
   ((refine wpAnyU_one 1 (o := ?_) (by kernel_rfl) ?_ ?_; rotate_left 1; (simp only [xgA, xgB, xgC]; rfl); intro K hK); go_simp; (refine (sn_c HX.out HL.out M0 _ (mb0 _) (fun g h => .inl h) HE2.out).mono ?_); rintro e_ u1 ⟨u, rfl, hu, d1⟩; go_wp2_with (fail); (try clear hSn); (have hSn := hHeld.ext d1); (refine hK.out _ _ (fun _ => hSn) ?_); clear hK K; (try simp only [Act.put, xgD, xgE, xgF]))
   ((refine wpAnyU_one 3 (o := ?_) (by kernel_rfl) ?_ ?_; rotate_left 1; (simp only [xgA, xgB, xgC]; rfl); intro K hK); go_simp; (refine (sn_c HY.out (HPP.out k HLT.out) M0 _ (mb0 _) (fun g h => .inl h) (HE2.out.trans d1)).mono ?_); rintro e_ u2 ⟨v, rfl, hv, d2⟩; go_wp2_with (fail); (try clear hSn); (have hSn := hHeld.ext (d1.trans d2)); (refine hK.out _ _ (fun _ => hSn) ?_); clear hK K; (try simp only [Act.put, xgD, xgE, xgF]))
   ((refine wpAnyU_one 4 (o := ?_) (by kernel_rfl) ?_ ?_; rotate_left 1; (simp only [xgA, xgB, xgC]; rfl); intro K hK); go_simp; (refine (rp_Same M0 u v _ _ _ (mb0 _) (hu.ext d2).pi hv.pi).mono ?_); rintro e_ u3 ⟨b2, rfl, hb2, d3⟩; go_wp2_with (fail); (try clear hSn); (have hSn := hHeld.ext ((d1.trans d2).trans d3)); (refine hK.out _ _ (fun _ => hSn) ?_); clear hK K; (try simp only [Act.put, xgD, xgE, xgF]))
   refine wpAnyU_done (by kernel_rfl) ?_ _
   have HEN := Lib.hid (HE2.out.trans ((d1.trans d2).trans d3))
   have HBN : Hid (P4 u3 w.heap.size x) := (hSn : SL2i w.heap.size wr.heap.size x y u3).1
   have HSM : Hid (b2 = true ↔ snorm l = snorm (P k)) := by
    refine hb2.trans ⟨fun hs => ?_, fun e => by rw [e]; exact Sim.refl _⟩
    have := hs.norm
    rw [norm_snorm, norm_snorm] at this
    exact this
   clear hb2 hu hv d1 d2 d3 hSn hHeld HE2
   cases b2 with
   | true =>
    have HF : Hid (RetIn w l N P (.returned (.bool true)) u3) := ⟨true, rfl, ⟨fun _ => ⟨k, HLT.out, HSM.out.1 rfl⟩, fun _ => rfl⟩, HEN.out⟩
    clear HSM HEN HBN HNO
    go_wp2
    exact bodyPost_ret (v := .bool true) (by simp [results, Tryz.results23, go_sem]) rfl HF.out
   | false =>
    have HNO2 : Hid (∀ j, j < k + 1 → snorm l ≠ snorm (P j)) := fun j hj => by
     by_cases hjk : j = k
     ·subst hjk; exact fun e => by have := HSM.out.2 e; cases this
     ·exact HNO.out j (by omega)
    clear HSM HNO
    go_wp2
    go_roundw
    case rel => exact ⟨k + 1, HLT.out, by go_num, HNO2, HEN, HBN⟩
    case measure => have := HLT.out; simp [intOf]; omega
  ·obtain rfl : k = N := by omega
   have hge : ¬ (k : Int) < (k : Int) := by omega
   have HF : Hid (RetIn w l k P (.returned (.bool false)) wr) := ⟨false, rfl, ⟨fun h => (by cases h), fun ⟨j, hj, e⟩ => absurd e (HNO.out j hj)⟩, HE.out⟩
   clear HNO HE HB
   go_wp2
   exact bodyPost_ret (v := .bool false) (by simp [results, Tryz.results23, go_sem]) rfl HF.out
end Go.Proofs.YtjcceddloogiiaaGreat
