/- MainvarFamily: the walk. -/
import Derived.Test.YtjcceddloogiiaaGreatGb
set_option linter.unusedVariables false
set_option linter.unusedSimpArgs false

namespace Go.Proofs.YtjcceddloogiiaaGreat
open Go.RowKit

def SBK (b : Nat) (x : PE) (bf o : Nat) (y : PE) (w : World) : Prop := P4 w b x ∧ KCell w bf o y
theorem SBK.ext {b bf o : Nat} {x y : PE} {w w' : World} (h : SBK b x bf o y w) (he : Ext w w') : SBK b x bf o y w' := ⟨h.1.ext he, h.2.ext (World.block_lt_of_cell? _ _ h.2.1) he⟩
def SKC (b o : Nat) (x : PE) (w : World) : Prop := KCell w b o x
theorem SKC.ext {b o : Nat} {x : PE} {w w' : World} (h : SKC b o x w) (he : Ext w w') : SKC b o x w' := KCell.ext h (World.block_lt_of_cell? _ _ h.1) he
theorem dl_small (r : Nat) (h : r < 8) : dlen (-(r : Int) - 1).natAbs ≤ 1 := Nat.le_trans (dlen_mono (show (-(r : Int) - 1).natAbs ≤ 8 by omega)) (by decide)
theorem dlen_pm (l : List Tm) (z : Int) : dlen (nrm (pmul l [(z, Mo.zero)])) ≤ dlen (nrm l) + dlen z.natAbs := by
 rw [nrm_pmul, show nrm [(z, Mo.zero)] = z.natAbs by simp [nrm]]
 exact dlen_mul _ _
set_option maxRecDepth 100000 in
set_option maxHeartbeats 16000000 in
theorem law_family (a : Option Addr) (n cap : Nat) (Y : Nat → SE) (w : World) (h : PsRaw w a n cap Y) :
  Calls Tryz.prog 3 #[.slice a n cap] w fun e w' => e = .returned (.bool true) ∧ Ext w w' := by
 obtain ⟨j0, ji, jz0, jz1, jz2⟩ := info_parts Tryz.info33
 have HR := Lib.hid h
 clear h
 go_enter Tryz.func3, Tryz.ntmps3
 go_wp2_with (fail)
 refine (law_fit23 _).mono ?_
 rintro e w1 ⟨rfl, he1⟩
 have HE1 := Lib.hid he1
 have HR1 : Hid (PsRaw w1 a n cap Y) := ⟨HR.out.1, HR.out.2.1, fun i hi => by
  obtain ⟨b, off, h1, h2, h3, X, h4, h5⟩ := HR.out.ext he1 i hi
  exact ⟨b, off, h1, h2, h3, X, h4, h5.2.1, fun j hj hL => by
   obtain ⟨d, hd⟩ := h5.2.2 j hj hL
   exact ⟨d, hd.ext he1⟩⟩⟩
 have CL := Lib.hid (law_list2 a n cap Y w1 HR1.out)
 clear he1 HR1 HR
 go_wp2_with (fail)
 refine CL.out.mono ?_
 rintro e w2 ⟨hr, he2⟩
 have HE2 := Lib.hid (HE1.out.trans he2)
 rcases hr with rfl | ⟨ca, cp, P, rfl, hn0, hn8, hP, hK⟩
 ·clear CL
  go_wp2
  go_ret
  exact ⟨rfl, HE2.out⟩
 have HP : Hid (∀ i, i < n → SmC (norm (P i))) := fun i hi => have hs : Sm23 (norm (P i)) := (hP i hi).2.1; ⟨hs.nn, fun m hm k => Int.le_trans (hs.deg m hm k) (by omega), Nat.le_trans hs.dl (by omega)⟩
 have CF := Lib.hid (mv_Family (fun _ => True) M0 ca n cp 12 (fun i => norm (P i)) w2 (mb0 _) hK (fun i hi => (HP.out i hi).2.1) (by decide) (by omega) (fun i hi => by have := (HP.out i hi).2.2; show dlen (nrm (norm (P i))) + 1 ≤ _; omega) (fun _ _ => trivial) (fun m hm => sort_on _ m (by omega)))
 have HN0 := Lib.hid hn0
 have HK2 := Lib.hid hK
 generalize hQ : (fun i => norm (P i)) = Q at *
 have HPQ : Hid (∀ i, i < n → SmC (Q i)) := by rw [← hQ]; exact HP.out
 clear hQ HP hP hK he2 CL hn0 HE1
 go_wp2_with (fail)
 refine CF.out.mono ?_
 rintro e w3 ⟨fa, c, fp, F, rfl, hKF, hfam, he3⟩
 have HFS : Hid (∀ i, i < c → SmC (F i) ∧ snorm (F i) = F i ∧ norm (F i) = F i ∧ lvM ((F i).map (·.2)) ≠ 0) := fun i hi => by
  obtain ⟨j, hj, e, hl⟩ := hfam.1 i hi
  exact ⟨by rw [e]; exact (HPQ.out j hj).sn, (hfam.sn i hi).1, (hfam.sn i hi).2, hl⟩
 have hcL : c ≤ 1099511627776 := hKF.1
 have HFM := Lib.hid hfam
 have HK := Lib.hid (HK2.out.ext he3)
 have HKF := Lib.hid hKF
 have HE3 := Lib.hid (HE2.out.trans he3)
 clear hKF hfam he3 CF HK2 HE2
 go_wp2
 obtain ⟨fx, hfx⟩ := HKF.out.x
 have HX := Lib.hid hfx
 clear hfx
 go_loopw [23] (fun iv wr => ∃ k : Nat, k ≤ c ∧ iv = .int .i64 (k : Int) ∧ Hid (Ext w3 wr)) (fun iv _ => c - (intOf iv).toNat)
 case atStart => exact ⟨0, Nat.zero_le _, rfl, Ext.refl _⟩
 case round =>
  obtain ⟨k, hk, rfl, HE⟩ := hrel
  by_cases hlt : k < c
  ·have hltI : (k : Int) < (c : Int) := by omega
   have HLT := Lib.hid hlt
   obtain ⟨⟨b, off, hab, hNc, hcm, hb, hMb, c0, c1, c2, c3⟩, hx, _, _, _⟩ := HX.out k hlt
   have hprev : KCell w3 b (off + (k - 1) * 4) (fx (k - 1)) ∧ CRx M0 w3 4 (fx (k - 1)) (F (k - 1)) := by
    obtain ⟨⟨b', off', he, _, _, _, _, hc⟩, hx', _⟩ := HX.out (k - 1) (by omega)
    rw [hab] at he
    simp only [Option.some.injEq, Addr.mk.injEq, and_true] at he
    obtain ⟨rfl, rfl⟩ := he
    exact ⟨hc, hx'⟩
   subst hab
   rw [← HE.out.cell hb] at c0 c1 c2 c3
   have hbw : b < wr.heap.size := Nat.lt_of_lt_of_le hb HE.out.size
   have hEa := ((Ext.refl wr).alloc (.cells (peA (fx k)) 33)).drew
   have hS : SBK wr.heap.size (fx k) b (off + (k - 1) * 4) (fx (k - 1)) (wr.alloc (.cells (peA (fx k)) 33)).drew := ⟨(Blk.of_arr wr (peA (fx k)) 33 4 rfl).p4.ext (Ext.refl _).drew, hprev.1.ext hb (HE.out.trans hEa)⟩
   have HE2 := Lib.hid (HE.out.trans hEa)
   have HXK := Lib.hid (hx.ext HE2.out)
   have HXP := Lib.hid (hprev.2.ext HE2.out)
   have HFK := Lib.hid (HFS.out k hlt)
   clear hx hprev hEa HE hlt
   go_upto_region 10 with (fail)
   refine wp_region_u (SBK wr.heap.size (fx k) b (off + (k - 1) * 4) (fx (k - 1))) 31 (by kernel_rfl) hS (fun hHeld => ?_)
   clear hS
   generalize (wr.alloc (.cells (peA (fx k)) 33)).drew = wd at *
   (refine tkB [0] ?_; (iterate 1 (refine tk1 (oi := ?_) (v := ?_) (by kernel_rfl) (by first | exact hSn | exact hHeld) ?_ ?_ ?_ ?_ ?_; rotate_left 2; (simp only [xgA, xgB, xgC]; rfl); rfl; (intro wS hSw; obtain ⟨⟨S1, S2, S3, S4⟩, S5, S6, S7, S8⟩ := hSw; go_simp; try with_reducible rfl); (exact fun _ _ _ h => h); (try simp only [Act.put, xgD, xgE, xgF]))); refine tkE ?_)
   ((refine wpAnyU_one 1 (o := ?_) (by kernel_rfl) ?_ ?_; rotate_left 1; (simp only [xgA, xgB, xgC]; rfl); intro K hK); go_simp; (refine (mv_Level M0 (fx k) (F k) _ (mb0 _) HXK.out.pi).mono ?_); rintro e_ u1 ⟨lv, rfl, hlv, d1⟩; go_wp2_with (fail); (try clear hSn); (have hSn := hHeld.ext d1); (refine hK.out _ _ (fun _ => hSn) ?_); clear hK K; (try simp only [Act.put, xgD, xgE, xgF]))
   have hl0 : (((lv : Nat) : Int) == 0) = false := by
    have h1 := lv_lvF HFK.out.1.1 hlv
    rw [HFK.out.2.2.1] at h1
    have h2 := HFK.out.2.2.2
    simp; omega
   clear hlv
   (refine tkB [2, 3, 4, 5] ?_; (iterate 4 (refine tk1 (oi := ?_) (v := ?_) (by kernel_rfl) (by first | exact hSn | exact hHeld) ?_ ?_ ?_ ?_ ?_; rotate_left 2; (simp only [xgA, xgB, xgC]; rfl); rfl; (intro wS hSw; obtain ⟨⟨S1, S2, S3, S4⟩, S5, S6, S7, S8⟩ := hSw; go_simp; try with_reducible rfl); (exact fun _ _ _ h => h); (try simp only [Act.put, xgD, xgE, xgF]))); refine tkE ?_)
   obtain ⟨t, hRR, hTB, hSim⟩ := HXK.out.tb (B := 12) (Nat.le_refl _) (by have := HFK.out.1.2.2; omega) HFK.out.1.2.1 (by decide)
   have HNM : Hid (norm (terms 5 t) = F k) := by have := hSim.norm; rw [HFK.out.2.2.1] at this; exact this
   ((refine wpAnyU_one 6 (o := ?_) (by kernel_rfl) ?_ ?_; rotate_left 1; (simp only [xgA, xgB, xgC]; rfl); intro K hK); go_simp; (refine (rp_To M0 5 t (fx k) _ (mb0 _) (RR.ext hRR d1) hTB).mono ?_); rintro e_ u2 ⟨u, rfl, hu, d2⟩; go_wp2_with (fail); (try clear hSn); (have hSn := hHeld.ext (d1.trans d2)); (refine hK.out _ _ (fun _ => hSn) ?_); clear hK K; (try simp only [Act.put, xgD, xgE, xgF]))
   rw [HNM.out] at hu
   have E2 := d1.trans d2
   clear d1 d2
   ((refine wpAnyU_one 7 (o := ?_) (by kernel_rfl) ?_ ?_; rotate_left 1; (simp only [xgA, xgB, xgC]; rfl); intro K hK); go_simp; (refine (sp_snorm M0 u (F k) _ (mb0 _) hu.toV (by have := HFK.out.1.2.2; omega)).mono ?_); rintro e_ u3 ⟨v, rfl, hv, d3⟩; go_wp2_with (fail); (try clear hSn); (have hSn := hHeld.ext (E2.trans d3)); (refine hK.out _ _ (fun _ => hSn) ?_); clear hK K; (try simp only [Act.put, xgD, xgE, xgF]))
   rw [HFK.out.2.1] at hv
   have E3 := E2.trans d3
   clear E2 d3 hu
   ((refine wpAnyU_one 8 (o := ?_) (by kernel_rfl) ?_ ?_; rotate_left 1; (simp only [xgA, xgB, xgC]; rfl); intro K hK); go_simp; (refine (law_is M0 (fx k) (F k) (F k) v 12 _ (mb0 _) (HXK.out.ext E3) hv.toV rfl (by have := HFK.out.1.2.2; omega) (by have := HFK.out.1.2.2; omega) HFK.out.1.2.1 (by decide)).mono ?_); rintro e_ u4 ⟨rfl, d4⟩; go_wp2_with (fail); (try clear hSn); (have hSn := hHeld.ext (E3.trans d4)); (refine hK.out _ _ (fun _ => hSn) ?_); clear hK K; (try simp only [Act.put, xgD, xgE, xgF]))
   have E4 := E3.trans d4
   clear E3 d4 hv
   (refine tkB [9, 10, 11, 12] ?_; (iterate 4 (refine tk1 (oi := ?_) (v := ?_) (by kernel_rfl) (by first | exact hSn | exact hHeld) ?_ ?_ ?_ ?_ ?_; rotate_left 2; (simp only [xgA, xgB, xgC]; rfl); rfl; (intro wS hSw; obtain ⟨⟨S1, S2, S3, S4⟩, S5, S6, S7, S8⟩ := hSw; go_simp; try with_reducible rfl); (exact fun _ _ _ h => h); (try simp only [Act.put, xgD, xgE, xgF]))); refine tkE ?_)
   by_cases hk0 : k = 0
   ·have hkI : ¬ (0 : Int) < (k : Int) := by omega
    have hkN : ¬ 0 < k := by omega
    clear hk0
    (refine tkB [13] ?_; (iterate 1 (refine tk1 (oi := ?_) (v := ?_) (by kernel_rfl) (by first | exact hSn | exact hHeld) ?_ ?_ ?_ ?_ ?_; rotate_left 2; (simp only [xgA, xgB, xgC]; rfl); rfl; (intro wS hSw; obtain ⟨⟨S1, S2, S3, S4⟩, S5, S6, S7, S8⟩ := hSw; go_simp; try with_reducible rfl); (exact fun _ _ _ h => h); (try simp only [Act.put, xgD, xgE, xgF]))); refine tkE ?_)
    (refine tkB [14] ?_; (iterate 1 (refine tk1 (oi := ?_) (v := ?_) (by kernel_rfl) (by first | exact hSn | exact hHeld) ?_ ?_ ?_ ?_ ?_; rotate_left 2; (simp only [xgA, xgB, xgC]; rfl); rfl; (intro wS hSw; obtain ⟨⟨S1, S2, S3, S4⟩, S5, S6, S7, S8⟩ := hSw; go_simp; try with_reducible rfl); (exact fun _ _ _ h => h); (try simp only [Act.put, xgD, xgE, xgF]))); refine tkE ?_)
    (refine tkB [15, 16, 17, 18, 19, 20, 21, 22] ?_; (iterate 8 (refine ts1F (oi := ?_) (by kernel_rfl) (by first | exact hSn | exact hHeld) ?_ ?_ ?_ ?_; rotate_left 1; (simp only [xgA, xgB, xgC]; rfl); rfl; (exact fun _ _ _ h => h); (try simp only [Act.put, xgD, xgE, xgF]))); refine tkE ?_)
    (refine tkB [23, 24, 25, 26, 27] ?_; (iterate 5 (refine tk1 (oi := ?_) (v := ?_) (by kernel_rfl) (by first | exact hSn | exact hHeld) ?_ ?_ ?_ ?_ ?_; rotate_left 2; (simp only [xgA, xgB, xgC]; rfl); rfl; (intro wS hSw; obtain ⟨⟨S1, S2, S3, S4⟩, S5, S6, S7, S8⟩ := hSw; go_simp; try with_reducible rfl); (exact fun _ _ _ h => h); (try simp only [Act.put, xgD, xgE, xgF]))); refine tkE ?_)
    ((refine wpAnyU_one 28 (o := ?_) (by kernel_rfl) ?_ ?_; rotate_left 1; (simp only [xgA, xgB, xgC]; rfl); intro K hK); go_simp; (refine (law_in (fx k) (F k) ca n cp Q _ (HXK.out.ext E4) HFK.out.1 (HK.out.ext (HE2.out.trans E4)) HPQ.out).mono ?_); rintro e_ u6 ⟨bi, rfl, hbi, d6⟩; go_wp2_with (fail); (try clear hSn); (have hSn := hHeld.ext (E4.trans d6)); (refine hK.out _ _ (fun _ => hSn) ?_); clear hK K; (try simp only [Act.put, xgD, xgE, xgF]))
    obtain rfl : bi = true := hbi.2 (by
     obtain ⟨j, hj, e, _⟩ := HFM.out.1 k HLT.out
     exact ⟨j, hj, by rw [HFK.out.2.1]; exact e⟩)
    (refine tkB [29, 30] ?_; (iterate 2 (refine tk1 (oi := ?_) (v := ?_) (by kernel_rfl) (by first | exact hSn | exact hHeld) ?_ ?_ ?_ ?_ ?_; rotate_left 2; (simp only [xgA, xgB, xgC]; rfl); rfl; (intro wS hSw; obtain ⟨⟨S1, S2, S3, S4⟩, S5, S6, S7, S8⟩ := hSw; go_simp; try with_reducible rfl); (exact fun _ _ _ h => h); (try simp only [Act.put, xgD, xgE, xgF]))); refine tkE ?_)
    refine wpAnyU_done (by kernel_rfl) ?_ _
    have HEN := Lib.hid (HE2.out.trans (E4.trans d6))
    clear hbi E4 d6 hSn hHeld HE2 HXK HXP hRR hTB hSim HNM
    go_wp2
    go_roundw
    case rel => exact ⟨k + 1, HLT.out, by go_num, HEN⟩
    case measure => have := HLT.out; simp [intOf]; omega
   ·have hkI : (0 : Int) < (k : Int) := by omega
    have hk1 : (k : Int) - 1 = ((k - 1 : Nat) : Int) := by omega
    have hkc : ((k - 1 : Nat) : Int) < (c : Int) := by omega
    have hkp : (0 : Int) ≤ ((k - 1 : Nat) : Int) := by omega
    have hkt : (((k - 1 : Nat) : Int)).toNat = k - 1 := by omega
    have hkw : IntKind.i64.wrap ((k - 1 : Nat) : Int) = ((k - 1 : Nat) : Int) := IntWalk.i64_in _ (by omega)
    have hkN : 0 < k := by omega
    (refine tkB [13] ?_; (iterate 1 (refine tk1 (oi := ?_) (v := ?_) (by kernel_rfl) (by first | exact hSn | exact hHeld) ?_ ?_ ?_ ?_ ?_; rotate_left 2; (simp only [xgA, xgB, xgC]; rfl); rfl; (intro wS hSw; obtain ⟨⟨S1, S2, S3, S4⟩, S5, S6, S7, S8⟩ := hSw; go_simp; try with_reducible rfl); (exact fun _ _ _ h => h); (try simp only [Act.put, xgD, xgE, xgF]))); refine tkE ?_)
    (refine tkB [14, 15, 16, 17] ?_; (iterate 4 (refine tk1 (oi := ?_) (v := ?_) (by kernel_rfl) (by first | exact hSn | exact hHeld) ?_ ?_ ?_ ?_ ?_; rotate_left 2; (simp only [xgA, xgB, xgC]; rfl); rfl; (intro wS hSw; obtain ⟨⟨S1, S2, S3, S4⟩, S5, S6, S7, S8⟩ := hSw; go_simp; try with_reducible rfl); (exact fun _ _ _ h => h); (try simp only [Act.put, xgD, xgE, xgF]))); refine tkE ?_)
    (refine tkB [18, 19, 20] ?_; (iterate 3 (refine tk1 (oi := ?_) (v := ?_) (by kernel_rfl) (by first | exact hSn | exact hHeld) ?_ ?_ ?_ ?_ ?_; rotate_left 2; (simp only [xgA, xgB, xgC]; rfl); rfl; (intro wS hSw; obtain ⟨⟨S1, S2, S3, S4⟩, S5, S6, S7, S8⟩ := hSw; go_simp; try with_reducible rfl); (exact fun _ _ _ h => h); (try simp only [Act.put, xgD, xgE, xgF]))); refine tkE ?_)
    have HFP := Lib.hid (HFS.out (k - 1) (by omega))
    obtain ⟨t', hRR', hTB', hSim'⟩ := HXP.out.tb (B := 12) (Nat.le_refl _) (by have := HFP.out.1.2.2; omega) HFP.out.1.2.1 (by decide)
    have hCV : cmpP (norm (terms 5 t')) (norm (terms 5 t)) < 0 := by
     rw [HNM.out, hSim'.norm, HFP.out.2.2.1]
     exact HFM.out.2.2 (k - 1) k (by omega) HLT.out
    have hz0 : ¬ (0 : Int) ≤ cmpP (norm (terms 5 t')) (norm (terms 5 t)) := by omega
    ((refine wpAnyU_one 21 (o := ?_) (by kernel_rfl) ?_ ?_; rotate_left 1; (simp only [xgA, xgB, xgC]; rfl); intro K hK); go_simp; (refine (mv_Compare M0 5 5 t' t (fx (k - 1)) (fx k) _ (mb0 _) (RR.ext hRR' E4) hTB' (RR.ext hRR E4) hTB).mono ?_); rintro e_ u5 ⟨rfl, d5⟩; go_wp2_with (fail); (try clear hSn); (have hSn := hHeld.ext (E4.trans d5)); (refine hK.out _ _ (fun _ => hSn) ?_); clear hK K; (try simp only [Act.put, xgD, xgE, xgF]))
    have E5 := E4.trans d5
    clear E4 d5
    generalize cmpP (norm (terms 5 t')) (norm (terms 5 t)) = zc at *
    (refine tkB [22] ?_; (iterate 1 (refine tk1 (oi := ?_) (v := ?_) (by kernel_rfl) (by first | exact hSn | exact hHeld) ?_ ?_ ?_ ?_ ?_; rotate_left 2; (simp only [xgA, xgB, xgC]; rfl); rfl; (intro wS hSw; obtain ⟨⟨S1, S2, S3, S4⟩, S5, S6, S7, S8⟩ := hSw; go_simp; try with_reducible rfl); (exact fun _ _ _ h => h); (try simp only [Act.put, xgD, xgE, xgF]))); refine tkE ?_)
    have hzd : decide (0 ≤ zc) = false := decide_eq_false (by omega)
    rw [hzd]
    (refine tkB [23, 24, 25, 26, 27] ?_; (iterate 5 (refine tk1 (oi := ?_) (v := ?_) (by kernel_rfl) (by first | exact hSn | exact hHeld) ?_ ?_ ?_ ?_ ?_; rotate_left 2; (simp only [xgA, xgB, xgC]; rfl); rfl; (intro wS hSw; obtain ⟨⟨S1, S2, S3, S4⟩, S5, S6, S7, S8⟩ := hSw; go_simp; try with_reducible rfl); (exact fun _ _ _ h => h); (try simp only [Act.put, xgD, xgE, xgF]))); refine tkE ?_)
    ((refine wpAnyU_one 28 (o := ?_) (by kernel_rfl) ?_ ?_; rotate_left 1; (simp only [xgA, xgB, xgC]; rfl); intro K hK); go_simp; (refine (law_in (fx k) (F k) ca n cp Q _ (HXK.out.ext E5) HFK.out.1 (HK.out.ext (HE2.out.trans E5)) HPQ.out).mono ?_); rintro e_ u6 ⟨bi, rfl, hbi, d6⟩; go_wp2_with (fail); (try clear hSn); (have hSn := hHeld.ext (E5.trans d6)); (refine hK.out _ _ (fun _ => hSn) ?_); clear hK K; (try simp only [Act.put, xgD, xgE, xgF]))
    obtain rfl : bi = true := hbi.2 (by
     obtain ⟨j, hj, e, _⟩ := HFM.out.1 k HLT.out
     exact ⟨j, hj, by rw [HFK.out.2.1]; exact e⟩)
    (refine tkB [29, 30] ?_; (iterate 2 (refine tk1 (oi := ?_) (v := ?_) (by kernel_rfl) (by first | exact hSn | exact hHeld) ?_ ?_ ?_ ?_ ?_; rotate_left 2; (simp only [xgA, xgB, xgC]; rfl); rfl; (intro wS hSw; obtain ⟨⟨S1, S2, S3, S4⟩, S5, S6, S7, S8⟩ := hSw; go_simp; try with_reducible rfl); (exact fun _ _ _ h => h); (try simp only [Act.put, xgD, xgE, xgF]))); refine tkE ?_)
    refine wpAnyU_done (by kernel_rfl) ?_ _
    have HEN := Lib.hid (HE2.out.trans (E5.trans d6))
    clear hbi E5 d6 hSn hHeld HE2 HXK HXP hRR hTB hSim HNM
    go_wp2
    go_roundw
    case rel => exact ⟨k + 1, HLT.out, by go_num, HEN⟩
    case measure => have := HLT.out; simp [intOf]; omega
  ·obtain rfl : k = c := by omega
   have hge : ¬ (k : Int) < (k : Int) := by omega
   have hnL : (n : Int) ≤ 8 := by omega
   go_wp2
   clear hge
   obtain ⟨cx, hcx⟩ := HK.out.x
   have HCX := Lib.hid hcx
   clear hcx
   go_loopw [9, 8] (fun iv v wl => ∃ (q : Nat) (xx : Nat → PE), q ≤ n ∧ iv = .int .i64 ((q : Int) - 1) ∧ Own wl w3.heap.size 33 4 v (n - q) (px xx) ∧ Hid (∀ j, j < n - q → CRx (MR M0 v) wl 4 (xx j) (gS n Q j)) ∧ Hid (Ext w3 wl)) (fun iv _ _ => (intOf iv + 1).toNat)
   case atStart => exact ⟨n, fun _ => PE.z, Nat.le_refl _, rfl, by rw [Nat.sub_self]; exact Own.nil _ _ _ _ _, fun j hj => by omega, HE.out⟩
   case round =>
    clear HE
    obtain ⟨q, xx, hq, rfl, hO, HXB, HEL⟩ := hrel
    by_cases hq0 : 0 < q
    ·obtain ⟨r, rfl⟩ : ∃ r, q = r + 1 := ⟨q - 1, by omega⟩
     have hr : ((r + 1 : Nat) : Int) - 1 = (r : Int) := by omega
     rw [hr]
     have hrn : r < n := by omega
     have hrI : (0 : Int) ≤ (r : Int) := by omega
     have hrnI : (r : Int) < (n : Int) := by omega
     have HRN := Lib.hid hrn
     clear hq0 hr
     obtain ⟨m, hm⟩ : ∃ m, n - (r + 1) = m := ⟨_, rfl⟩
     rw [hm] at hO HXB
     obtain ⟨va, vc, rfl⟩ := hO.form
     obtain ⟨⟨b, off, hab, hNc, hcm, hb, hMb, hcell⟩, hx, _, _, _⟩ := HCX.out r hrn
     subst hab
     have HCE := Lib.hid hcell
     have HXR := Lib.hid hx
     have HO := Lib.hid hO
     clear hcell hx hO
     obtain ⟨c0, c1, c2, c3⟩ := HCE.out.ext hb HEL.out
     have hbw : b < wr.heap.size := Nat.lt_of_lt_of_le hb HEL.out.size
     have CLV := Lib.hid (mv_Level M0 (cx r) (Q r) wr (mb0 _) (HXR.out.ext HEL.out).pi)
     go_wp2_with (fail)
     refine CLV.out.mono ?_
     rintro e wm ⟨lv, rfl, hlv, dm⟩
     by_cases hlv0 : 0 < lv
     ·have hlI : (0 : Int) < (lv : Int) := by omega
      have CIN := Lib.hid (law_in (cx r) (Q r) fa k fp F wm (HXR.out.ext (HEL.out.trans dm)) (HPQ.out r hrn) (HKF.out.ext (HEL.out.trans dm)) (fun j hj => (HFS.out j hj).1))
      have HIN : Hid (∃ j, j < k ∧ snorm (Q r) = snorm (F j)) := by
       have h1 := lv_lvF (HPQ.out r hrn).1 hlv
       obtain ⟨j, hj, e⟩ := HFM.out.2.1 r hrn (by rw [lvM_sn]; omega)
       exact ⟨j, hj, by rw [(HFS.out j hj).2.1]; exact e.symm⟩
      have HEM := Lib.hid (HEL.out.trans dm)
      have HDM := Lib.hid dm
      obtain ⟨c0, c1, c2, c3⟩ := HCE.out.ext hb HEM.out
      clear hlv dm CLV
      go_wp2_with (fail)
      refine CIN.out.mono ?_
      rintro e wn ⟨bi, rfl, hbi, dn⟩
      obtain rfl : bi = true := hbi.2 HIN.out
      have HEN := Lib.hid (HDM.out.trans dn)
      clear hbi dn CIN HIN HEM HDM
      go_upto_region 19 with (fail)
      have HEN3 := Lib.hid ((HEL.out.trans HEN.out).trans (Ext.refl _).drew)
      have hEd := HEN.out.trans (Ext.refl wn).drew
      have HOW := Lib.hid (HO.out.ext hEd)
      have HXW : Hid (∀ j, j < m → CRx (MR M0 (.slice va m vc)) wn.drew 4 (xx j) (gS n Q j)) := fun j hj => (HXB.out j hj).ext hEd
      have HCR : Hid (CRx (MR M0 (.slice va m vc)) wn.drew 4 (cx r) (Q r)) := (HXR.out.more (M' := MR M0 (.slice va m vc)) (fun b hb => hb.imp id fun h => (HO.out.lt b h).1)).ext HEN3.out
      have HMB : Hid (Mb (MR M0 (.slice va m vc)) wn.drew) := mr_own (mb0 w3) HEN3.out HOW.out
      have hS : SKC b (off + r * 4) (cx r) wn.drew := HCE.out.ext hb HEN3.out
      have hgs : gS n Q m = pmul (Q r) [(-(r : Int) - 1, Mo.zero)] := by unfold gS; rw [show n - 1 - m = r by omega]
      have HGS := Lib.hid hgs
      have hN1 : IntKind.i64.wrap (-(r : Int)) = -(r : Int) := IntWalk.i64_in _ (by omega)
      have hN2 : IntKind.i64.wrap (-(r : Int) - 1) = -(r : Int) - 1 := IntWalk.i64_in _ (by omega)
      clear hgs hEd HEN HO HXB HEL
      refine wp_region_u (SKC b (off + r * 4) (cx r)) 12 (by kernel_rfl) hS (fun hHeld => ?_)
      clear hS
      generalize wn.drew = wd at *
      (refine tkB [0, 1, 2, 3, 4, 5, 6, 7] ?_; (iterate 8 (refine tk1 (oi := ?_) (v := ?_) (by kernel_rfl) (by first | exact hSn | exact hHeld) ?_ ?_ ?_ ?_ ?_; rotate_left 2; (simp only [xgA, xgB, xgC]; rfl); rfl; (intro wS hSw; obtain ⟨S1, S2, S3, S4⟩ := hSw; go_simp; try with_reducible rfl); (exact fun _ _ _ h => h); (try simp only [Act.put, xgD, xgE, xgF]))); refine tkE ?_)
      ((refine wpAnyU_one 8 (o := ?_) (by kernel_rfl) ?_ ?_; rotate_left 1; (simp only [xgA, xgB, xgC]; rfl); intro K hK); go_simp; (refine (int_of (M := MR M0 (.slice va m vc)) (-(r : Int) - 1) _ HMB.out (by omega) (by omega)).mono ?_); rintro e_ v1 ⟨e0, e1, rfl, hi, d1⟩; go_wp2_with (fail); (try clear hSn); (have hSn := hHeld.ext d1); (refine hK.out _ _ (fun _ => hSn) ?_); clear hK K; (try simp only [Act.put, xgD, xgE, xgF]))
      obtain ⟨ib, ia, ik, ip, rfl, rfl⟩ := hi.form
      ((refine wpAnyU_one 9 (o := ?_) (by kernel_rfl) ?_ ?_; rotate_left 1; (simp only [xgA, xgB, xgC]; rfl); intro K hK); go_simp; (refine (rp_Scale (MR M0 (.slice va m vc)) (cx r) (Q r) 12 ib ia ik ip (-(r : Int) - 1) _ (HMB.out.ext d1) (HCR.out.ext d1).pi hi.toV (by have := dl_small r (by omega); have := (HPQ.out r HRN.out).2.2; show _ ≤ (_ : Nat); omega) (HPQ.out r HRN.out).2.1 (by decide)).mono ?_); rintro e_ v2 ⟨y, rfl, hy, d2⟩; go_wp2_with (fail); (try clear hSn); (have hSn := hHeld.ext (d1.trans d2)); (refine hK.out _ _ (fun _ => hSn) ?_); clear hK K; (try simp only [Act.put, xgD, xgE, xgF]))
      (refine wpAnyU_one 10 (o := ?_) (by kernel_rfl) ?_ ?_; rotate_left 1; (simp only [xgA, xgB, xgC]; rfl); intro K hK)
      go_simp
      have hEA : Ext wd (v2.alloc (.cells (peA y) 33)) := (d1.trans d2).alloc _
      have hS2 := hHeld.ext hEA
      refine hK.out _ _ (fun _ => hS2) ?_
      clear hK K
      (try simp only [Act.put, xgD, xgE, xgF])
      (refine wpAnyU_one 11 (o := ?_) (by kernel_rfl) ?_ ?_; rotate_left 1; (simp only [xgA, xgB, xgC]; rfl); intro K hK)
      have hsz := (HEN3.out.trans hEA).size
      refine step_append_fn _ (by rfl) (.tmp 82) (.tmp 92) _ (by rfl) w3.heap.size 33 j0 _ 4 64 Tryz.underlying24 ji jz0 jz1 jz2 rfl (by omega) (.slice va m vc) m (px xx) (by rfl) (HOW.out.ext hEA) v2.heap.size 33 1 (arr (peA y)) (by rfl) (Blk.of_arr v2 (peA y) 33 4 rfl) (pe_one y) (by unfold maxLen; omega) (by omega) hsz ?_
      intro gg cap2 v3 hO6 hg6 hat hlt6
      have HE9 := Lib.hid ((HEN3.out.trans hEA).grown hg6 (fun q hq => (HOW.out.lt q hq).1))
      have hS9 : SKC b (off + r * 4) (cx r) v3 := HCE.out.ext hb HE9.out
      refine hK.out _ _ (fun _ => hS9) ?_
      clear hK K
      (try simp only [Act.put, xgD, xgE, xgF])
      ((refine wpAnyU_one 12 (o := ?_) (by kernel_rfl) ?_ ?_; rotate_left 1; (simp only [xgA, xgB, xgC]; rfl); intro K hK); go_simp; (refine hK.out _ _ (fun h => absurd rfl h) ?_); clear hK K; refine wpAnyU_done (by kernel_rfl) ?_ _)
      have HF : Hid (∃ (q' : Nat) (xx' : Nat → PE), q' ≤ n ∧ Value.int .i64 ((r : Int) - 1) = .int .i64 ((q' : Int) - 1) ∧ Own v3 w3.heap.size 33 4 (.slice (some ⟨gg, 0, none⟩) (m + 1) cap2) (n - q') (px xx') ∧ Hid (∀ j, j < n - q' → CRx (MR M0 (.slice (some ⟨gg, 0, none⟩) (m + 1) cap2)) v3 4 (xx' j) (gS n Q j)) ∧ Hid (Ext w3 v3)) := by
       refine ⟨r, snoc xx m y, by omega, rfl, ?_, fun j hj => ?_, HE9.out⟩
       ·rw [show n - r = m + 1 by omega]
        exact hO6.congr fun j hj => px_app xx m y j hj
       ·by_cases hjm : j = m
        ·subst hjm; rw [snoc_at, HGS.out]; exact keep_grownC (hy.ext ((Ext.refl v2).alloc _)) hg6 hat
        ·rw [snoc_lt _ _ _ _ (by omega)]; exact keep_grownC ((HXW.out j (by omega)).ext hEA) hg6 hat
      clear hO6 hg6 hat hS9 hS2 hHeld hy d1 d2 hi hEA HE9 HXW HOW HCR HMB HGS HEN3 hsz
      go_wp2
      go_roundw
      case rel => exact HF.out
      case measure => simp [intOf]
     ·have hlI : ¬ (0 : Int) < (lv : Int) := by omega
      have HEN := Lib.hid dm
      clear hlv dm CLV
      go_upto_region 19 with (fail)
      have HEN3 := Lib.hid ((HEL.out.trans HEN.out).trans (Ext.refl _).drew)
      have hEd := HEN.out.trans (Ext.refl wm).drew
      have HOW := Lib.hid (HO.out.ext hEd)
      have HXW : Hid (∀ j, j < m → CRx (MR M0 (.slice va m vc)) wm.drew 4 (xx j) (gS n Q j)) := fun j hj => (HXB.out j hj).ext hEd
      have HCR : Hid (CRx (MR M0 (.slice va m vc)) wm.drew 4 (cx r) (Q r)) := (HXR.out.more (M' := MR M0 (.slice va m vc)) (fun b hb => hb.imp id fun h => (HO.out.lt b h).1)).ext HEN3.out
      have HMB : Hid (Mb (MR M0 (.slice va m vc)) wm.drew) := mr_own (mb0 w3) HEN3.out HOW.out
      have hS : SKC b (off + r * 4) (cx r) wm.drew := HCE.out.ext hb HEN3.out
      have hgs : gS n Q m = pmul (Q r) [(-(r : Int) - 1, Mo.zero)] := by unfold gS; rw [show n - 1 - m = r by omega]
      have HGS := Lib.hid hgs
      have hN1 : IntKind.i64.wrap (-(r : Int)) = -(r : Int) := IntWalk.i64_in _ (by omega)
      have hN2 : IntKind.i64.wrap (-(r : Int) - 1) = -(r : Int) - 1 := IntWalk.i64_in _ (by omega)
      clear hgs hEd HEN HO HXB HEL
      refine wp_region_u (SKC b (off + r * 4) (cx r)) 12 (by kernel_rfl) hS (fun hHeld => ?_)
      clear hS
      generalize wm.drew = wd at *
      (refine tkB [0, 1, 2, 3, 4, 5, 6, 7] ?_; (iterate 8 (refine tk1 (oi := ?_) (v := ?_) (by kernel_rfl) (by first | exact hSn | exact hHeld) ?_ ?_ ?_ ?_ ?_; rotate_left 2; (simp only [xgA, xgB, xgC]; rfl); rfl; (intro wS hSw; obtain ⟨S1, S2, S3, S4⟩ := hSw; go_simp; try with_reducible rfl); (exact fun _ _ _ h => h); (try simp only [Act.put, xgD, xgE, xgF]))); refine tkE ?_)
      ((refine wpAnyU_one 8 (o := ?_) (by kernel_rfl) ?_ ?_; rotate_left 1; (simp only [xgA, xgB, xgC]; rfl); intro K hK); go_simp; (refine (int_of (M := MR M0 (.slice va m vc)) (-(r : Int) - 1) _ HMB.out (by omega) (by omega)).mono ?_); rintro e_ v1 ⟨e0, e1, rfl, hi, d1⟩; go_wp2_with (fail); (try clear hSn); (have hSn := hHeld.ext d1); (refine hK.out _ _ (fun _ => hSn) ?_); clear hK K; (try simp only [Act.put, xgD, xgE, xgF]))
      obtain ⟨ib, ia, ik, ip, rfl, rfl⟩ := hi.form
      ((refine wpAnyU_one 9 (o := ?_) (by kernel_rfl) ?_ ?_; rotate_left 1; (simp only [xgA, xgB, xgC]; rfl); intro K hK); go_simp; (refine (rp_Scale (MR M0 (.slice va m vc)) (cx r) (Q r) 12 ib ia ik ip (-(r : Int) - 1) _ (HMB.out.ext d1) (HCR.out.ext d1).pi hi.toV (by have := dl_small r (by omega); have := (HPQ.out r HRN.out).2.2; show _ ≤ (_ : Nat); omega) (HPQ.out r HRN.out).2.1 (by decide)).mono ?_); rintro e_ v2 ⟨y, rfl, hy, d2⟩; go_wp2_with (fail); (try clear hSn); (have hSn := hHeld.ext (d1.trans d2)); (refine hK.out _ _ (fun _ => hSn) ?_); clear hK K; (try simp only [Act.put, xgD, xgE, xgF]))
      (refine wpAnyU_one 10 (o := ?_) (by kernel_rfl) ?_ ?_; rotate_left 1; (simp only [xgA, xgB, xgC]; rfl); intro K hK)
      go_simp
      have hEA : Ext wd (v2.alloc (.cells (peA y) 33)) := (d1.trans d2).alloc _
      have hS2 := hHeld.ext hEA
      refine hK.out _ _ (fun _ => hS2) ?_
      clear hK K
      (try simp only [Act.put, xgD, xgE, xgF])
      (refine wpAnyU_one 11 (o := ?_) (by kernel_rfl) ?_ ?_; rotate_left 1; (simp only [xgA, xgB, xgC]; rfl); intro K hK)
      have hsz := (HEN3.out.trans hEA).size
      refine step_append_fn _ (by rfl) (.tmp 82) (.tmp 92) _ (by rfl) w3.heap.size 33 j0 _ 4 64 Tryz.underlying24 ji jz0 jz1 jz2 rfl (by omega) (.slice va m vc) m (px xx) (by rfl) (HOW.out.ext hEA) v2.heap.size 33 1 (arr (peA y)) (by rfl) (Blk.of_arr v2 (peA y) 33 4 rfl) (pe_one y) (by unfold maxLen; omega) (by omega) hsz ?_
      intro gg cap2 v3 hO6 hg6 hat hlt6
      have HE9 := Lib.hid ((HEN3.out.trans hEA).grown hg6 (fun q hq => (HOW.out.lt q hq).1))
      have hS9 : SKC b (off + r * 4) (cx r) v3 := HCE.out.ext hb HE9.out
      refine hK.out _ _ (fun _ => hS9) ?_
      clear hK K
      (try simp only [Act.put, xgD, xgE, xgF])
      ((refine wpAnyU_one 12 (o := ?_) (by kernel_rfl) ?_ ?_; rotate_left 1; (simp only [xgA, xgB, xgC]; rfl); intro K hK); go_simp; (refine hK.out _ _ (fun h => absurd rfl h) ?_); clear hK K; refine wpAnyU_done (by kernel_rfl) ?_ _)
      have HF : Hid (∃ (q' : Nat) (xx' : Nat → PE), q' ≤ n ∧ Value.int .i64 ((r : Int) - 1) = .int .i64 ((q' : Int) - 1) ∧ Own v3 w3.heap.size 33 4 (.slice (some ⟨gg, 0, none⟩) (m + 1) cap2) (n - q') (px xx') ∧ Hid (∀ j, j < n - q' → CRx (MR M0 (.slice (some ⟨gg, 0, none⟩) (m + 1) cap2)) v3 4 (xx' j) (gS n Q j)) ∧ Hid (Ext w3 v3)) := by
       refine ⟨r, snoc xx m y, by omega, rfl, ?_, fun j hj => ?_, HE9.out⟩
       ·rw [show n - r = m + 1 by omega]
        exact hO6.congr fun j hj => px_app xx m y j hj
       ·by_cases hjm : j = m
        ·subst hjm; rw [snoc_at, HGS.out]; exact keep_grownC (hy.ext ((Ext.refl v2).alloc _)) hg6 hat
        ·rw [snoc_lt _ _ _ _ (by omega)]; exact keep_grownC ((HXW.out j (by omega)).ext hEA) hg6 hat
      clear hO6 hg6 hat hS9 hS2 hHeld hy d1 d2 hi hEA HE9 HXW HOW HCR HMB HGS HEN3 hsz
      go_wp2
      go_roundw
      case rel => exact HF.out
      case measure => simp [intOf]
    ·obtain rfl : q = 0 := by omega
     have hr : ((0 : Nat) : Int) - 1 = -1 := by omega
     rw [hr]
     rw [Nat.sub_zero] at hO HXB
     obtain ⟨va, vc, rfl⟩ := hO.form
     have HO := Lib.hid hO
     have KB : Hid (KRow M0 wr 4 (.slice va n vc) n (gS n Q)) := Own.toK hO (fun i hi => (HXB.out i hi).more fun b hb => .inl (.inl hb)) (fun g hg hm => hm) (by omega)
     have HGB : Hid (∀ j, j < n → Deg 12 (gS n Q j) ∧ dlen (nrm (gS n Q j)) ≤ 21) := fun j hj => by
      have h1 := HPQ.out (n - 1 - j) (by omega)
      unfold gS
      refine ⟨deg_sclF h1.2.1 _, ?_⟩
      have h2 := dl_small (n - 1 - j) (by omega)
      have h3 := h1.2.2
      have h4 := dlen_pm (Q (n - 1 - j)) (-((n - 1 - j : Nat) : Int) - 1)
      omega
     have CF1 := Lib.hid (mv_Family (fun _ => True) M0 va n vc 12 (gS n Q) wr (mb0 _) KB.out (fun i hi => (HGB.out i hi).1) (by decide) (by omega) (fun i hi => by have := (HGB.out i hi).2; show _ ≤ (_ : Nat); omega) (fun _ _ => trivial) (fun m hm => sort_on _ m (by omega)))
     clear hO hr hq0
     go_wp2_with (fail)
     refine CF1.out.mono ?_
     rintro e w5 ⟨a5, c5, p5, F5, rfl, hK5, hf5, he5⟩
     obtain ⟨rfl, h5⟩ := back_eq HFM.out hf5
     have CE1 := Lib.hid (law_equalP M0 a5 fa _ p5 fp F5 F w5 hK5 (HKF.out.ext (HEL.out.trans he5)) (fun i hi => by rw [← h5 i hi]; exact simB_true (Sim.refl _)))
     have HE5 := Lib.hid (HEL.out.trans he5)
     have HO5 := Lib.hid (HO.out.ext he5)
     have HX5 : Hid (∀ j, j < n → CRx (MR M0 (.slice va n vc)) w5 4 (xx j) (gS n Q j)) := fun j hj => (HXB.out j hj).ext he5
     clear hK5 hf5 he5 h5 CF1 HEL HO HXB KB
     go_wp2_with (fail)
     refine CE1.out.mono ?_
     rintro e w6 ⟨rfl, he6⟩
     have HE6 := Lib.hid (HE5.out.trans he6)
     have HO6 := Lib.hid (HO5.out.ext he6)
     have HX6 : Hid (∀ j, j < n → CRx (MR M0 (.slice va n vc)) w6 4 (xx j) (gS n Q j)) := fun j hj => (HX5.out j hj).ext he6
     have CF2 := Lib.hid (mv_Family (fun _ => True) M0 fa _ fp 12 F w6 (mb0 _) (HKF.out.ext HE6.out) (fun i hi => (HFS.out i hi).1.2.1) (by decide) (by omega) (fun i hi => by have := (HFS.out i hi).1.2.2; show _ ≤ (_ : Nat); omega) (fun _ _ => trivial) (fun m hm => sort_on _ m (by omega)))
     clear he6 CE1 HE5 HO5 HX5
     go_wp2_with (fail)
     refine CF2.out.mono ?_
     rintro e w7 ⟨a7, c7, p7, F7, rfl, hK7, hf7, he7⟩
     obtain ⟨rfl, h7⟩ := idem_eq HFM.out hf7
     have CE2 := Lib.hid (law_equalP M0 a7 fa _ p7 fp F7 F w7 hK7 (HKF.out.ext (HE6.out.trans he7)) (fun i hi => by rw [← h7 i hi]; exact simB_true (Sim.refl _)))
     have HE7 := Lib.hid (HE6.out.trans he7)
     have HO7 := Lib.hid (HO6.out.ext he7)
     have HX7 : Hid (∀ j, j < n → CRx (MR M0 (.slice va n vc)) w7 4 (xx j) (gS n Q j)) := fun j hj => (HX6.out j hj).ext he7
     clear hK7 hf7 he7 h7 CF2 HE6 HO6 HX6
     go_wp2_with (fail)
     refine CE2.out.mono ?_
     rintro e w8 ⟨rfl, he8⟩
     have HE8 := Lib.hid (HE7.out.trans he8)
     have HO8 := Lib.hid (HO7.out.ext he8)
     have HX8 : Hid (∀ j, j < n → CRx (MR M0 (.slice va n vc)) w8 4 (xx j) (gS n Q j)) := fun j hj => (HX7.out j hj).ext he8
     have HC8 : Hid (KRow (MR M0 (.slice va n vc)) w8 4 (.slice ca n cp) n Q) := (HK.out.more (M' := MR M0 (.slice va n vc)) (fun b hb => hb.imp id fun h => (HO8.out.lt b h).1)).ext HE8.out
     clear he8 CE2 HE7 HO7 HX7
     go_wp2_with (at_builtin; refine wpList_wanted (by rfl) (wp_append_rows _ (.tmp 105) (.tmp 106) _ rfl w3.heap.size j0 _ Tryz.underlying24 ji jz0 jz1 jz2 rfl (.slice va n vc) n xx (gS n Q) rfl HO8.out HX8.out ca n cp Q rfl HC8.out HN0.out (by omega) HE8.out.size ?_))
     intro va' cap' w9 hK9 hg9
     have HE9 := Lib.hid (HE8.out.grown hg9 (fun q hq => (HO8.out.lt q hq).1))
     have HGB2 : Hid (∀ j, j < n + n → Deg 12 (appF n (gS n Q) Q j) ∧ dlen (nrm (appF n (gS n Q) Q j)) ≤ 21) := fun j hj => by
      unfold appF
      by_cases hjn : j < n
      ·rw [if_pos hjn]; exact HGB.out j hjn
      ·rw [if_neg hjn]
       have h1 := HPQ.out (j - n) (by omega)
       exact ⟨h1.2.1, by have := h1.2.2; omega⟩
     have CF3 := Lib.hid (mv_Family (fun _ => True) M0 va' (n + n) cap' 12 (appF n (gS n Q) Q) w9 (mb0 _) hK9 (fun i hi => (HGB2.out i hi).1) (by decide) (by omega) (fun i hi => by have := (HGB2.out i hi).2; show _ ≤ (_ : Nat); omega) (fun _ _ => trivial) (fun m hm => sort_on _ m (by omega)))
     clear hK9 hg9 HO8 HX8 HC8 HE8
     go_wp2_with (fail)
     refine CF3.out.mono ?_
     rintro e wa ⟨aa, ck, pa, Fa, rfl, hKa, hfa, hea⟩
     obtain ⟨rfl, ha⟩ := both_eq HFM.out hfa
     have CE3 := Lib.hid (law_equalP M0 aa fa _ pa fp Fa F wa hKa (HKF.out.ext (HE9.out.trans hea)) (fun i hi => by rw [← ha i hi]; exact simB_true (Sim.refl _)))
     have HEA := Lib.hid (HE9.out.trans hea)
     clear hKa hfa hea ha CF3 HE9
     go_wp2_with (fail)
     refine CE3.out.mono ?_
     rintro e wb ⟨rfl, heb⟩
     have HF := Lib.hid (HE3.out.trans (HEA.out.trans heb))
     clear heb CE3 HEA
     go_wp2
     go_ret
     exact ⟨rfl, HF.out⟩
end Go.Proofs.YtjcceddloogiiaaGreat
