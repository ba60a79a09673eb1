/- cylinderref39.Family: the walk. -/
import Derived.Test.YtfbdckffjjladaaGreatHe
import Derived.Test.YtfbdckffjjladaaGreatHd
import Derived.Test.YtfbdckffjjladaaGreatGc
set_option linter.unusedVariables false
set_option linter.unusedSimpArgs false

namespace Go.Proofs.YtfbdckffjjladaaGreat
open Go.RowKit

theorem PRow.low {base base' : Nat} {w : World} {v : Value} {GL : List (List Tm)} (h : PRow base w v GL) (hb : base' ≤ base) : PRow base' w v GL := by
 obtain ⟨xx, hO, hX⟩ := h
 refine ⟨xx, ?_, hX⟩
 rcases hO with h | ⟨g, cap, F, h1, h2, h3⟩
 ·exact .inl h
 ·exact .inr ⟨g, cap, F, h1, Nat.le_trans hb h2, h3⟩
theorem lvR_const {l : List Tm} {z : Int} (h : Sim l [(z, Mo.zero)]) : LvR l 0 := by
 refine ⟨by omega, fun m hm j hj hj4 => ?_, .inl rfl⟩
 have h1 := h m
 have hm0 : m = Mo.zero := by
  refine Classical.byContradiction fun hne => hm ?_
  rw [h1]
  exact coefAt_zero fun t ht e => by
   rw [List.mem_singleton] at ht
   rw [ht] at e
   exact hne e.symm
 rw [hm0]
 rcases (show j = 1 ∨ j = 2 ∨ j = 3 ∨ j = 4 by omega) with rfl | rfl | rfl | rfl <;> rfl
theorem lvM_const {l : List Tm} {z : Int} (hl : NN l) (h : Sim l [(z, Mo.zero)]) : lvM ((snorm l).map (·.2)) = 0 := by
 rw [lvM_sn, ← lv_lvF hl (lvR_const h)]
theorem lvM_nconst {M : Nat → Prop} {w : World} {x : PE} {l : List Tm} (hx : CRx M w 4 x l) (h : ∃ m k, coefAt l m ≠ 0 ∧ 1 ≤ k ∧ k ≤ 4 ∧ 0 < m.get k) : lvM ((snorm l).map (·.2)) ≠ 0 := by
 obtain ⟨k, _, hk⟩ := hx.lvR
 have h1 := lv_lvF hx.nn hk
 rw [lvM_sn, ← h1]
 rintro rfl
 obtain ⟨m, j, hm, h1, h4, hp⟩ := h
 have := hk.2.1 m hm j (by omega) h4
 omega
def SmF (l : List Tm) : Prop := NN l ∧ Deg 66 l ∧ dlen (nrm l) ≤ 5
theorem SmF.sn {l : List Tm} (h : SmF l) : SmF (snorm l) := ⟨nn_of_all fun t ht => all_nn_norm (snorm l) t (by rw [norm_snorm]; exact ht), snorm_degF h.1 h.2.1, Nat.le_trans (dlen_mono (snorm_nrm l)) h.2.2⟩
theorem FamLs.sm {P : Nat → List Tm} {k N : Nat} {GL : List (List Tm)} (h : FamLs P k GL) (hk : k ≤ N) (hP : ∀ j, j < N → SmF (P j)) (i : Nat) (hi : i < GL.length) : SmF (GL.getD i []) ∧ norm (GL.getD i []) = GL.getD i [] := by
 have hgd : GL.getD i [] = GL[i] := by rw [List.getD_eq_getElem?_getD, List.getElem?_eq_getElem hi]; rfl
 obtain ⟨j, hj, e, _⟩ := h.1 (GL.getD i []) (by rw [hgd]; exact List.getElem_mem hi)
 rw [e]
 exact ⟨(hP j (by omega)).sn, norm_snorm _⟩
def SP1 (b : Nat) (x : PE) (w : World) : Prop := P4 w b x
theorem SP1.ext {b : Nat} {x : PE} {w w' : World} (h : SP1 b x w) (he : Ext w w') : SP1 b x w' := P4.ext h he
def RetF39 (w : World) (N : Nat) (P : Nat → List Tm) (e : Ending) (w' : World) : Prop := ∃ (a : Option Addr) (c p : Nat) (F : Nat → List Tm), e = .returned (.slice a c p) ∧ KRow M0 w' 4 (.slice a c p) c F ∧ FamL N P c F ∧ Ext w w'
set_option maxRecDepth 100000 in
set_option maxHeartbeats 16000000 in
theorem rf_fam39 (a : Option Addr) (N cap : Nat) (P : Nat → List Tm) (w : World) (h : KRow M0 w 4 (.slice a N cap) N P) (hP : ∀ j, j < N → Deg 66 (P j) ∧ dlen (nrm (P j)) ≤ 5) (hN : N ≤ 1000) :
  Calls Tryz.prog 18 #[.slice a N cap] w (RetF39 w N P) := by
 obtain ⟨j0, ji, jz0, jz1, jz2⟩ := info_parts Tryz.info29
 obtain ⟨fx, hfx⟩ := h.x
 have HX := Lib.hid hfx
 have HSM : Hid (∀ j, j < N → SmF (P j)) := fun j hj => ⟨(hfx j hj).2.1.nn, (hP j hj).1, (hP j hj).2⟩
 clear h hfx hP
 go_enter Tryz.func18, Tryz.ntmps18
 go_wp2
 go_loopw [12, 3] (fun iv v wr => ∃ (k : Nat) (GL : List (List Tm)), k ≤ N ∧ iv = .int .i64 (k : Int) ∧ PRow w.heap.size wr v GL ∧ Hid (FamLs P k GL) ∧ Hid (GL.length ≤ k) ∧ Hid (Ext w wr)) (fun iv _ _ => N - (intOf iv).toNat)
 case atStart => exact ⟨0, [], Nat.zero_le _, rfl, PRow.nil _ _, FamLs.start P, Nat.le_refl _, Ext.refl _⟩
 case round =>
  obtain ⟨k, GL, hk, rfl, hPR, HFM, HLN, HE⟩ := hrel
  obtain ⟨va, n, vp, rfl, hn⟩ := hPR.form3
  have hnk : n ≤ 1000 := by have := HLN.out; omega
  have hKV := hPR.krow (by omega)
  rw [← hn] at hKV
  have HNL := Lib.hid hn
  obtain ⟨gx, hgx⟩ : ∃ gx : Nat → List Tm, gx = fun j => GL.getD j [] := ⟨_, rfl⟩
  rw [← hgx] at hKV
  have HGX : Hid (∀ j, gx j = GL.getD j []) := fun j => by rw [hgx]
  clear hn hgx
  by_cases hlt : k < N
  ·have hltI : (k : Int) < (N : Int) := by omega
   have HLT := Lib.hid hlt
   obtain ⟨⟨b, off, hab, hNc, hcm, hb, hMb, hkc⟩, hx, _, _, _⟩ := HX.out k hlt
   subst hab
   obtain ⟨c0, c1, c2, c3⟩ := hkc.ext hb HE.out
   have hbw : b < wr.heap.size := Nat.lt_of_lt_of_le hb HE.out.size
   have HKC := Lib.hid hkc
   have HXK := Lib.hid hx
   have CC := Lib.hid (rp_Constant M0 (fx k) (P k) wr (mb0 _) (hx.ext HE.out).pi)
   have HPR := Lib.hid hPR
   have HKV := Lib.hid hKV
   clear hkc hx hPR hKV hlt
   go_wp2_with (fail)
   refine CC.out.mono ?_
   rintro e w2 ⟨z, ok, zb, za, zn, zp, rfl, hz, hok1, hok2, he2⟩
   have HO1 := Lib.hid hok1
   have HO2 := Lib.hid hok2
   have hEz := he2.trans ((Ext.refl w2).alloc (.cells #[.bool zb, .slice za zn zp] 26))
   have HEZ := Lib.hid hEz
   clear hz hok1 hok2 he2 CC c0 c1 c2 c3 hEz
   cases ok with
   | true =>
    have HF : Hid (FamLs P (k + 1) GL) := HFM.out.skip (.inl (lvM_const (HSM.out k HLT.out).1 (HO1.out rfl)))
    have HL : Hid (GL.length ≤ k + 1) := by have := HLN.out; show _ ≤ _; omega
    have HPR2 := Lib.hid (HPR.out.ext HEZ.out)
    have HE2 := Lib.hid (HE.out.trans HEZ.out)
    clear HFM HLN HPR HE HEZ HKV HO1 HO2
    go_wp2
    go_roundw
    case rel => exact ⟨k + 1, GL, HLT.out, by go_num, HPR2.out, HF, HL, HE2⟩
    case measure => have := HLT.out; simp [intOf]; omega
   | false =>
    have hne := lvM_nconst HXK.out (HO2.out rfl).2
    have HNE := Lib.hid hne
    have hE2 := HE.out.trans HEZ.out
    have CS := Lib.hid (sn_f HXK.out (HSM.out k HLT.out).2.1 (HSM.out k HLT.out).2.2 M0 (w2.alloc (.cells #[.bool zb, .slice za zn zp] 26)) (mb0 _) (fun g h => .inl h) hE2)
    have HE2 := Lib.hid hE2
    obtain ⟨c0, c1, c2, c3⟩ := HKC.out.ext hb hE2
    have hbw2 : b < (w2.alloc (.cells #[.bool zb, .slice za zn zp] 26)).heap.size := Nat.lt_of_lt_of_le hb hE2.size
    go_upto_region 7 with (fail)
    generalize w2.alloc (.cells #[.bool zb, .slice za zn zp] 26) = w3 at *
    clear hne hE2 HO1 HO2 hbw
    go_wp2_with (fail)
    refine CS.out.mono ?_
    rintro e w4 ⟨y, rfl, hy, he4⟩
    have hE5 := he4.trans ((Ext.refl w4).alloc (.cells (peA y) 29))
    have HY := Lib.hid (hy.ext ((Ext.refl w4).alloc (.cells (peA y) 29)))
    have HB5 : Hid (P4 (w4.alloc (.cells (peA y) 29)) w4.heap.size y) := (Blk.of_arr w4 (peA y) 29 4 rfl).p4
    have HE5 := Lib.hid (HE2.out.trans hE5)
    have HPR5 := Lib.hid ((HPR.out.ext HEZ.out).ext hE5)
    have HKV5 := Lib.hid ((HKV.out.ext HEZ.out).ext hE5)
    clear hy he4 hE5 CS c0 c1 c2 c3 hbw2 HPR HKV HE HE2 HEZ HKC HXK
    go_wp2
    generalize w4.heap.size = gb at *
    generalize w4.alloc (.cells (peA y) 29) = w5 at *
    obtain ⟨vx, hvx⟩ := HKV5.out.x
    have HVX := Lib.hid hvx
    have HPK : Hid (SmF (snorm (P k))) := (HSM.out k HLT.out).sn
    clear hvx
    go_loopw [8] (fun iv wq => ∃ at_ : Nat, at_ ≤ n ∧ iv = .int .i64 (at_ : Int) ∧ Hid (∀ i, i < at_ → cmpP (gx i) (snorm (P k)) < 0) ∧ Hid (Ext w5 wq)) (fun iv _ => n - (intOf iv).toNat)
    case atStart => exact ⟨0, Nat.zero_le _, rfl, fun i hi => absurd hi (Nat.not_lt_zero _), Ext.refl _⟩
    case round =>
     obtain ⟨at_, hat, rfl, HLO, HEQ⟩ := hrel
     by_cases hal : at_ < n
     ·have HAL := Lib.hid hal
      have hatI : (at_ : Int) < (n : Int) := by omega
      obtain ⟨⟨b1, off1, hab1, hnc1, hcm1, hb1, _, hkc1⟩, hx1, _⟩ := HVX.out at_ hal
      subst hab1
      have hGM := HFM.out.sm (Nat.le_of_lt HLT.out) HSM.out at_ (by rw [← HNL.out]; exact hal)
      rw [← HGX.out] at hGM
      have hEd := HEQ.out.trans (Ext.refl wr).drew
      have hS : SBK gb y b1 (off1 + at_ * 4) (vx at_) wr.drew := ⟨HB5.out.ext hEd, hkc1.ext hb1 hEd⟩
      have HE6 := Lib.hid hEd
      have HGM := Lib.hid hGM
      have HX1 := Lib.hid hx1
      have HKC1 := Lib.hid hkc1
      have hlnx : (at_ : Int) + 1 ≤ (n : Int) := by omega
      clear hGM hEd hkc1 hx1 HEQ hal
      go_upto_region 9 with (fail)
      refine wp_region_u (SBK gb y b1 (off1 + at_ * 4) (vx at_)) 13 (by kernel_rfl) hS (fun hHeld => ?_)
      clear hS
      generalize wr.drew = wd at *
      (refine tkB [0, 1, 2, 3, 4, 5, 6, 7, 8, 9] ?_; (iterate 10 (refine tk1 (oi := ?_) (v := ?_) (by kernel_rfl) (by first | exact hSn | exact hHeld) ?_ ?_ ?_ ?_ ?_; rotate_left 2; (simp only [xgA, xgB, xgC]; rfl); rfl; (intro wS hSw; obtain ⟨⟨S1, S2, S3, S4⟩, S5, S6, S7, S8⟩ := hSw; go_simp; try with_reducible rfl); (exact fun _ _ _ h => h); (try simp only [Act.put, xgD, xgE, xgF]))); refine tkE ?_)
      ((refine wpAnyU_one 10 (o := ?_) (by kernel_rfl) ?_ ?_; rotate_left 1; (simp only [xgA, xgB, xgC]; rfl); intro K hK); go_simp; (refine (cmp_f HX1.out HY.out HGM.out.1.2.1 HGM.out.1.2.2 HPK.out.2.1 HPK.out.2.2 _ HE6.out HE6.out).mono ?_); rintro e_ u1 ⟨rfl, d1⟩; go_wp2_with (fail); (try clear hSn); (have hSn := hHeld.ext d1); (refine hK.out _ _ (fun _ => hSn) ?_); clear hK K; (try simp only [Act.put, xgD, xgE, xgF]))
      rw [HGM.out.2, norm_snorm]
      have HE7 := Lib.hid (HE6.out.trans d1)
      by_cases hz : cmpP (gx at_) (snorm (P k)) < 0
      ·have HLO2 : Hid (∀ i, i < at_ + 1 → cmpP (gx i) (snorm (P k)) < 0) := fun i hi => by
        by_cases hia : i = at_
        ·rw [hia]; exact hz
        ·exact HLO.out i (by omega)
       generalize cmpP (gx at_) (snorm (P k)) = zc at *
       have hzd : decide (zc < 0) = true := decide_eq_true hz
       (refine tkB [11, 12] ?_; (iterate 2 (refine tk1 (oi := ?_) (v := ?_) (by kernel_rfl) (by first | exact hSn | exact hHeld) ?_ ?_ ?_ ?_ ?_; rotate_left 2; (simp only [xgA, xgB, xgC]; rfl); rfl; (intro wS hSw; obtain ⟨⟨S1, S2, S3, S4⟩, S5, S6, S7, S8⟩ := hSw; go_simp; try with_reducible rfl); (exact fun _ _ _ h => h); (try simp only [Act.put, xgD, xgE, xgF]))); refine tkE ?_)
       refine wpAnyU_done (by kernel_rfl) ?_ _
       clear hHeld hSn d1 hz HLO
       go_wp2
       go_roundw
       case rel => exact ⟨at_ + 1, HAL.out, by go_num, HLO2, HE7⟩
       case measure => have := HAL.out; simp [intOf]; omega
      ·have HNZ := Lib.hid hz
       generalize hzc : cmpP (gx at_) (snorm (P k)) = zc at *
       have HZC := Lib.hid hzc
       have hzd : decide (zc < 0) = false := decide_eq_false hz
       (refine tkB [11, 12] ?_; (iterate 2 (refine tk1 (oi := ?_) (v := ?_) (by kernel_rfl) (by first | exact hSn | exact hHeld) ?_ ?_ ?_ ?_ ?_; rotate_left 2; (simp only [xgA, xgB, xgC]; rfl); rfl; (intro wS hSw; obtain ⟨⟨S1, S2, S3, S4⟩, S5, S6, S7, S8⟩ := hSw; go_simp; try with_reducible rfl); (exact fun _ _ _ h => h); (try simp only [Act.put, xgD, xgE, xgF]))); refine tkE ?_)
       refine wpAnyU_done (by kernel_rfl) ?_ _
       clear hHeld hSn d1 hz hzc hzd HE6
       have hEd2 := HE7.out.trans (Ext.refl u1).drew
       have hS : SBK gb y b1 (off1 + at_ * 4) (vx at_) u1.drew := ⟨HB5.out.ext hEd2, HKC1.out.ext hb1 hEd2⟩
       have HE8 := Lib.hid hEd2
       clear hEd2 HE7
       go_upto_region 11 with (fail)
       refine wp_region_u (SBK gb y b1 (off1 + at_ * 4) (vx at_)) 12 (by kernel_rfl) hS (fun hHeld => ?_)
       clear hS
       generalize u1.drew = wd2 at *
       (refine tkB [0, 1, 2, 3, 4, 5, 6, 7, 8, 9] ?_; (iterate 10 (refine tk1 (oi := ?_) (v := ?_) (by kernel_rfl) (by first | exact hSn | exact hHeld) ?_ ?_ ?_ ?_ ?_; rotate_left 2; (simp only [xgA, xgB, xgC]; rfl); rfl; (intro wS hSw; obtain ⟨⟨S1, S2, S3, S4⟩, S5, S6, S7, S8⟩ := hSw; go_simp; try with_reducible rfl); (exact fun _ _ _ h => h); (try simp only [Act.put, xgD, xgE, xgF]))); refine tkE ?_)
       ((refine wpAnyU_one 10 (o := ?_) (by kernel_rfl) ?_ ?_; rotate_left 1; (simp only [xgA, xgB, xgC]; rfl); intro K hK); go_simp; (refine (rf_samePolyB 4 M0 (gx at_) (snorm (P k)) (vx at_) y _ (HX1.out.ext HE8.out) (HY.out.ext HE8.out)).mono ?_); rintro e_ u2 ⟨rfl, d2⟩; go_wp2_with (fail); (try clear hSn); (have hSn := hHeld.ext d2); (refine hK.out _ _ (fun _ => hSn) ?_); clear hK K; (try simp only [Act.put, xgD, xgE, xgF]))
       have HE9 := Lib.hid (HE8.out.trans d2)
       cases hsb : simB (gx at_) (snorm (P k)) with
       | true =>
        have HIN : Hid (snorm (P k) ∈ GL) := by
         have h1 : norm (gx at_) = norm (snorm (P k)) := of_decide_eq_true hsb
         rw [HGM.out.2, norm_snorm, HGX.out] at h1
         have h2 : at_ < GL.length := by rw [← HNL.out]; exact HAL.out
         show _ ∈ _
         rw [← h1, List.getD_eq_getElem?_getD, List.getElem?_eq_getElem h2]
         exact List.getElem_mem h2
        (refine tkB [11] ?_; (iterate 1 (refine tk1 (oi := ?_) (v := ?_) (by kernel_rfl) (by first | exact hSn | exact hHeld) ?_ ?_ ?_ ?_ ?_; rotate_left 2; (simp only [xgA, xgB, xgC]; rfl); rfl; (intro wS hSw; obtain ⟨⟨S1, S2, S3, S4⟩, S5, S6, S7, S8⟩ := hSw; go_simp; try with_reducible rfl); (exact fun _ _ _ h => h); (try simp only [Act.put, xgD, xgE, xgF]))); refine tkE ?_)
        refine wpAnyU_done (by kernel_rfl) ?_ _
        have HF := Lib.hid (HFM.out.skip (.inr HIN.out))
        have HL : Hid (GL.length ≤ k + 1) := by have := HLN.out; show _ ≤ _; omega
        have HPR2 := Lib.hid (HPR5.out.ext HE9.out)
        have HE2 := Lib.hid (HE5.out.trans HE9.out)
        clear hHeld hSn d2 hsb HE8 HE9 HE5 HPR5 HKV5 HX1 HY HVX HB5
        go_wp2
        go_roundw
        case rel => exact ⟨k + 1, GL, HLT.out, by go_num, HPR2.out, HF, HL, HE2⟩
        case measure => have := HLT.out; simp [intOf]; omega
       | false =>
        have HPUT : Hid (FamLs P (k + 1) (GL.take at_ ++ [snorm (P k)] ++ GL.drop at_)) := HFM.out.put HNE.out (fun i hi => by rw [← HGX.out]; exact HLO.out i hi) (by rw [← HNL.out]; exact hat) (fun _ => by
         rw [← HGX.out]
         refine cmpP_of_nlt (by rw [HZC.out]; have := HNZ.out; omega) fun e => ?_
         rw [e, simB_true (Sim.refl _)] at hsb
         cases hsb)
        (refine tkB [11] ?_; (iterate 1 (refine tk1 (oi := ?_) (v := ?_) (by kernel_rfl) (by first | exact hSn | exact hHeld) ?_ ?_ ?_ ?_ ?_; rotate_left 2; (simp only [xgA, xgB, xgC]; rfl); rfl; (intro wS hSw; obtain ⟨⟨S1, S2, S3, S4⟩, S5, S6, S7, S8⟩ := hSw; go_simp; try with_reducible rfl); (exact fun _ _ _ h => h); (try simp only [Act.put, xgD, xgE, xgF]))); refine tkE ?_)
        refine wpAnyU_done (by kernel_rfl) ?_ _
        clear hHeld hSn d2 hsb HE8 HZC HNZ
        have HKQ : Hid (KRow M0 u2 4 (.slice (some ⟨b1, off1, none⟩) n vp) n gx) := HKV5.out.ext HE9.out
        have hatc : (at_ : Int) ≤ (vp : Int) := by omega
        have hS1 : Hid (KRow (MR M0 (.slice none 0 0)) u2 4 (.slice (some ⟨b1, off1, none⟩) at_ vp) at_ fun j => (GL.take at_).getD j []) := ((HKQ.out.take at_ hat).congr fun j hj => by
         have hj : j < at_ := hj
         have e : gx j = (GL.take at_).getD j [] := by
          rw [HGX.out]
          simp [List.getD_eq_getElem?_getD, List.getElem?_take, hj]
         rw [e]; exact Sim.refl _).more fun g hg => hg.elim .inl fun h => by cases h
        have HTL : Hid (at_ = (GL.take at_).length) := by
         show _ = _
         rw [List.length_take, ← HNL.out]; omega
        go_wp2_with (at_builtin; refine wpList_wanted (by rfl) (wp_append_prow _ (.tmp 56) (.tmp 59) _ rfl u2.heap.size j0 _ Tryz.underlying27 ji jz0 jz1 jz2 rfl (.slice none 0 0) [] rfl (PRow.nil _ _) (some ⟨b1, off1, none⟩) at_ vp (GL.take at_) HTL.out rfl hS1.out (by show 0 + at_ ≤ _; omega) (Nat.le_refl _) ?_))
        intro v1 w6 hR6 hg6 hb6
        have hE6 : Ext u2 w6 := (Ext.refl u2).grown hg6 (fun q hq => by cases hq)
        obtain ⟨a1, n1, p1, rfl, hn1⟩ := hR6.form3
        have hlo6 := hR6.lt
        have hE7 := hE6.trans ((Ext.refl w6).alloc (.cells (peA y) 29))
        obtain ⟨xx, hO7, hX7⟩ := hR6.ext ((Ext.refl w6).alloc (.cells (peA y) 29))
        rw [← hn1] at hO7
        have HX7 := Lib.hid hX7
        have HY7 : Hid (CRx (MR M0 (.slice a1 n1 p1)) (w6.alloc (.cells (peA y) 29)) 4 y (snorm (P k))) := ((HY.out.ext HE9.out).more (M' := MR M0 (.slice a1 n1 p1)) (fun g hg => hg.elim (fun h => h.elim) fun h' => .inr (hlo6 g h').1)).ext hE7
        have HN1 := Lib.hid hn1
        have HE7 := Lib.hid hE7
        have hB7 := Blk.of_arr w6 (peA y) 29 4 rfl
        have hn1b : n1 ≤ 1000 := by have h1 := HTL.out; omega
        have hsz7 := hE7.size
        have HLT7 := Lib.hid hO7.lt
        obtain ⟨g0, g1, g2, g3⟩ := HB5.out.ext (HE9.out.trans hE6)
        clear hR6 hg6 hb6 hE6 hn1 hX7 hE7 hlo6 hS1
        go_wp2_with (at_builtin; refine wpList_append_fn _ rfl (.tmp 61) (.tmp 63) _ rfl u2.heap.size 29 j0 _ 4 64 Tryz.underlying27 ji jz0 jz1 jz2 rfl (by omega) (.slice a1 n1 p1) n1 (px xx) rfl hO7 w6.heap.size 29 1 (arr (peA y)) rfl hB7 (pe_one y) ?s1 ?s2 ?s3 ?_)
        case s1 => unfold maxLen; omega
        case s2 => omega
        case s3 => exact hsz7
        intro gg cap2 w8 hO8 hg8 hat8 hlt8
        replace hat8 : (Value.slice a1 n1 p1).ownBlock = some gg ∨ (w6.alloc (.cells (peA y) 29)).heap.size ≤ gg := by rw [World.size_alloc]; exact hat8
        have hR8 : PRow u2.heap.size w8 (.slice (some ⟨gg, 0, none⟩) (n1 + 1) cap2) (GL.take at_ ++ [snorm (P k)]) := PRow.push2 HN1.out HX7.out HY7.out hO8 hg8 hat8
        have hE8 := HE7.out.grown hg8 (fun q hq => (HLT7.out q hq).1)
        have HE8 := Lib.hid hE8
        have HR8 := Lib.hid hR8
        have HL8 : Hid ((GL.take at_ ++ [snorm (P k)]).length = n1 + 1) := by show _ = _; rw [List.length_append, HN1.out]; rfl
        have HDL : Hid (n - at_ = (GL.drop at_).length) := by show _ = _; rw [List.length_drop, HNL.out]
        clear hO8 hg8 hat8 hlt8 hO7 hB7 hsz7 g0 g1 g2 g3 hR8
        have hdr : KRow M0 u2 4 (.slice (some ⟨b1, off1 + at_ * 4, none⟩) (n - at_) (vp - at_)) (n - at_) fun j => gx (at_ + j) := by
         rcases HKQ.out.drop at_ hat with ⟨h, _⟩ | ⟨b', o', h, h2⟩
         ·cases h
         ·simp only [Option.some.injEq, Addr.mk.injEq, and_true] at h
          obtain ⟨rfl, rfl⟩ := h
          exact h2
        have hS2 : Hid (KRow (MR M0 (.slice (some ⟨gg, 0, none⟩) (n1 + 1) cap2)) w8 4 (.slice (some ⟨b1, off1 + at_ * 4, none⟩) (n - at_) (vp - at_)) (n - at_) fun j => (GL.drop at_).getD j []) := ((hdr.congr fun j hj => by
         have e : gx (at_ + j) = (GL.drop at_).getD j [] := by
          rw [HGX.out]
          simp [List.getD_eq_getElem?_getD, List.getElem?_drop]
         rw [e]; exact Sim.refl _).more (M' := MR M0 (.slice (some ⟨gg, 0, none⟩) (n1 + 1) cap2)) (fun g hg => hg.elim (fun h => h.elim) fun h' => .inr (HR8.out.lt g h').1)).ext HE8.out
        have hsub : (n : Int) - (at_ : Int) = ((n - at_ : Nat) : Int) := by omega
        clear hdr
        go_wp2_with (at_builtin; refine wpList_wanted (by rfl) (wp_append_prow _ (.tmp 65) (.tmp 68) _ rfl u2.heap.size j0 _ Tryz.underlying27 ji jz0 jz1 jz2 rfl (.slice (some ⟨gg, 0, none⟩) (n1 + 1) cap2) (GL.take at_ ++ [snorm (P k)]) rfl HR8.out (some ⟨b1, off1 + at_ * 4, none⟩) (n - at_) (vp - at_) (GL.drop at_) HDL.out rfl hS2.out (by rw [HL8.out]; omega) HE8.out.size ?_))
        intro v3 w9 hR9 hg9 hb9
        have hE9 := HE8.out.grown hg9 (fun q hq => (HR8.out.lt q hq).1)
        obtain ⟨a3, n3, p3, rfl, _⟩ := hR9.form3
        have HR9 : Hid (PRow w.heap.size w9 (.slice a3 n3 p3) (GL.take at_ ++ [snorm (P k)] ++ GL.drop at_)) := by
         show PRow _ _ _ _
         rw [List.append_assoc]
         exact hR9.low (Nat.le_trans HE5.out.size HE9.out.size)
        have HL9 : Hid ((GL.take at_ ++ [snorm (P k)] ++ GL.drop at_).length ≤ k + 1) := by
         show _ ≤ _
         have h1 := HLN.out
         have h2 := HDL.out
         have h3 := HTL.out
         have h4 := HNL.out
         have h5 := HN1.out
         rw [List.length_append, HL8.out]
         omega
        have HEF := Lib.hid (HE5.out.trans (HE9.out.trans hE9))
        clear hR9 hg9 hb9 hE9 hE8 HE8 HR8 hS2 HE9 HE5 HX7 HY7 HE7 HLT7 HKQ HPR5 HKV5 HB5 HY HVX
        go_wp2
        go_roundw
        case rel => exact ⟨k + 1, _, HLT.out, by go_num, HR9.out, HPUT, HL9, HEF⟩
        case measure => have := HLT.out; simp [intOf]; omega
     ·obtain rfl : at_ = n := by omega
      have hnI : ¬ (at_ : Int) < (at_ : Int) := by omega
      have HNL2 := Lib.hid hal
      have hEd := HEQ.out.trans (Ext.refl wr).drew
      have hS : SP1 gb y wr.drew := HB5.out.ext hEd
      have HE6 := Lib.hid hEd
      clear hEd HEQ hal
      go_upto_region 9 with (fail)
      refine wp_region_u (SP1 gb y) 13 (by kernel_rfl) hS (fun hHeld => ?_)
      clear hS
      generalize wr.drew = wd at *
      (refine tkB [0, 1, 2, 3, 4] ?_; (iterate 5 (refine tk1 (oi := ?_) (v := ?_) (by kernel_rfl) (by first | exact hSn | exact hHeld) ?_ ?_ ?_ ?_ ?_; rotate_left 2; (simp only [xgA, xgB, xgC]; rfl); rfl; (intro wS hSw; obtain ⟨S1, S2, S3, S4⟩ := hSw; go_simp; try with_reducible rfl); (exact fun _ _ _ h => h); (try simp only [Act.put, xgD, xgE, xgF]))); refine tkE ?_)
      (refine tkB [5, 6, 7, 8, 9, 10, 11] ?_; (iterate 7 (refine ts1F (oi := ?_) (by kernel_rfl) (by first | exact hSn | exact hHeld) ?_ ?_ ?_ ?_; rotate_left 1; (simp only [xgA, xgB, xgC]; rfl); rfl; (exact fun _ _ _ h => h); (try simp only [Act.put, xgD, xgE, xgF]))); refine tkE ?_)
      (refine tkB [12] ?_; (iterate 1 (refine tk1 (oi := ?_) (v := ?_) (by kernel_rfl) (by first | exact hSn | exact hHeld) ?_ ?_ ?_ ?_ ?_; rotate_left 2; (simp only [xgA, xgB, xgC]; rfl); rfl; (intro wS hSw; obtain ⟨S1, S2, S3, S4⟩ := hSw; go_simp; try with_reducible rfl); (exact fun _ _ _ h => h); (try simp only [Act.put, xgD, xgE, xgF]))); refine tkE ?_)
      refine wpAnyU_done (by kernel_rfl) ?_ _
      clear hHeld
      have hEd2 := HE6.out.trans (Ext.refl wd).drew
      have hS : SP1 gb y wd.drew := HB5.out.ext hEd2
      have HEA := Lib.hid hEd2
      clear hEd2 HE6
      go_upto_region 11 with (fail)
      refine wp_region_u (SP1 gb y) 12 (by kernel_rfl) hS (fun hHeld => ?_)
      clear hS
      generalize wd.drew = wd2 at *
      (refine tkB [0, 1, 2, 3, 4] ?_; (iterate 5 (refine tk1 (oi := ?_) (v := ?_) (by kernel_rfl) (by first | exact hSn | exact hHeld) ?_ ?_ ?_ ?_ ?_; rotate_left 2; (simp only [xgA, xgB, xgC]; rfl); rfl; (intro wS hSw; obtain ⟨S1, S2, S3, S4⟩ := hSw; go_simp; try with_reducible rfl); (exact fun _ _ _ h => h); (try simp only [Act.put, xgD, xgE, xgF]))); refine tkE ?_)
      (refine tkB [5, 6, 7, 8, 9, 10] ?_; (iterate 6 (refine ts1F (oi := ?_) (by kernel_rfl) (by first | exact hSn | exact hHeld) ?_ ?_ ?_ ?_; rotate_left 1; (simp only [xgA, xgB, xgC]; rfl); rfl; (exact fun _ _ _ h => h); (try simp only [Act.put, xgD, xgE, xgF]))); refine tkE ?_)
      (refine tkB [11] ?_; (iterate 1 (refine tk1 (oi := ?_) (v := ?_) (by kernel_rfl) (by first | exact hSn | exact hHeld) ?_ ?_ ?_ ?_ ?_; rotate_left 2; (simp only [xgA, xgB, xgC]; rfl); rfl; (intro wS hSw; obtain ⟨S1, S2, S3, S4⟩ := hSw; go_simp; try with_reducible rfl); (exact fun _ _ _ h => h); (try simp only [Act.put, xgD, xgE, xgF]))); refine tkE ?_)
      refine wpAnyU_done (by kernel_rfl) ?_ _
      clear hHeld
      have HPUT : Hid (FamLs P (k + 1) (GL.take at_ ++ [snorm (P k)] ++ GL.drop at_)) := HFM.out.put HNE.out (fun i hi => by rw [← HGX.out]; exact HLO.out i hi) (by rw [← HNL.out]; exact hat) (fun h => absurd h (by rw [← HNL.out]; omega))
      have HDR := Lib.hid (HKV5.out.drop at_ (Nat.le_refl _))
      have HCP := Lib.hid (HKV5.out.2)
      rcases HDR.out with ⟨rfl, h0, hp0⟩ | ⟨b1, off1, rfl, _⟩
      ·subst hp0
       subst h0
       obtain rfl : GL = [] := List.length_eq_zero_iff.1 HNL.out.symm
       have HPUT2 : Hid (FamLs P (k + 1) ([] ++ [snorm (P k)])) := HPUT.out
       clear HDR HCP HPUT
       have hS1 : Hid (KRow (MR M0 (.slice none 0 0)) wd2 4 (.slice none 0 0) 0 fun j => ([] : List (List Tm)).getD j []) := ⟨by omega, .inl ⟨rfl, rfl⟩⟩
       have HTL : Hid (0 = ([] : List (List Tm)).length) := rfl
       go_wp2_with (at_builtin; refine wpList_wanted (by rfl) (wp_append_prow _ (.tmp 56) (.tmp 59) _ rfl wd2.heap.size j0 _ Tryz.underlying27 ji jz0 jz1 jz2 rfl (.slice none 0 0) [] rfl (PRow.nil _ _) none 0 0 (([] : List (List Tm))) HTL.out rfl hS1.out (by show 0 + 0 ≤ _; omega) (Nat.le_refl _) ?_))
       intro v1 w6 hR6 hg6 hb6
       have hE6 : Ext wd2 w6 := (Ext.refl wd2).grown hg6 (fun q hq => by cases hq)
       obtain ⟨a1, n1, p1, rfl, hn1⟩ := hR6.form3
       have hlo6 := hR6.lt
       have hE7 := hE6.trans ((Ext.refl w6).alloc (.cells (peA y) 29))
       obtain ⟨xx, hO7, hX7⟩ := hR6.ext ((Ext.refl w6).alloc (.cells (peA y) 29))
       rw [← hn1] at hO7
       have HX7 := Lib.hid hX7
       have HY7 : Hid (CRx (MR M0 (.slice a1 n1 p1)) (w6.alloc (.cells (peA y) 29)) 4 y (snorm (P k))) := ((HY.out.ext HEA.out).more (M' := MR M0 (.slice a1 n1 p1)) (fun g hg => hg.elim (fun h => h.elim) fun h' => .inr (hlo6 g h').1)).ext hE7
       have HN1 := Lib.hid hn1
       have HE7 := Lib.hid hE7
       have hB7 := Blk.of_arr w6 (peA y) 29 4 rfl
       have hn1b : n1 ≤ 1000 := by have h1 := HTL.out; omega
       have hsz7 := hE7.size
       have HLT7 := Lib.hid hO7.lt
       obtain ⟨g0, g1, g2, g3⟩ := HB5.out.ext (HEA.out.trans hE6)
       clear hR6 hg6 hb6 hE6 hn1 hX7 hE7 hlo6 hS1
       go_wp2_with (at_builtin; refine wpList_append_fn _ rfl (.tmp 61) (.tmp 63) _ rfl wd2.heap.size 29 j0 _ 4 64 Tryz.underlying27 ji jz0 jz1 jz2 rfl (by omega) (.slice a1 n1 p1) n1 (px xx) rfl hO7 w6.heap.size 29 1 (arr (peA y)) rfl hB7 (pe_one y) ?s1 ?s2 ?s3 ?_)
       case s1 => unfold maxLen; omega
       case s2 => omega
       case s3 => exact hsz7
       intro gg cap2 w8 hO8 hg8 hat8 hlt8
       replace hat8 : (Value.slice a1 n1 p1).ownBlock = some gg ∨ (w6.alloc (.cells (peA y) 29)).heap.size ≤ gg := by rw [World.size_alloc]; exact hat8
       have hR8 : PRow wd2.heap.size w8 (.slice (some ⟨gg, 0, none⟩) (n1 + 1) cap2) (([] : List (List Tm)) ++ [snorm (P k)]) := PRow.push2 HN1.out HX7.out HY7.out hO8 hg8 hat8
       have hE8 := HE7.out.grown hg8 (fun q hq => (HLT7.out q hq).1)
       have HE8 := Lib.hid hE8
       have HR8 := Lib.hid hR8
       have HL8 : Hid ((([] : List (List Tm)) ++ [snorm (P k)]).length = n1 + 1) := by show _ = _; rw [List.length_append, HN1.out]; rfl
       have HR9 : Hid (PRow w.heap.size w8 (.slice (some ⟨gg, 0, none⟩) (n1 + 1) cap2) (([] : List (List Tm)) ++ [snorm (P k)])) := hR8.low (Nat.le_trans HE5.out.size HEA.out.size)
       have HL9 : Hid ((([] : List (List Tm)) ++ [snorm (P k)]).length ≤ k + 1) := by
        show _ ≤ _
        have h1 := HLN.out
        have h3 := HTL.out
        have h4 := HNL.out
        have h5 := HN1.out
        rw [HL8.out]
        omega
       have HEF := Lib.hid (HE5.out.trans (HEA.out.trans hE8))
       clear hO8 hg8 hat8 hlt8 hO7 hB7 hsz7 g0 g1 g2 g3 hR8
       go_wp2_with (at_builtin; refine wpList_wanted (by rfl) (wp_append_zero _ (.tmp 65) (.tmp 68) _ rfl wd2.heap.size j0 Tryz.underlying27 ji (.slice (some ⟨gg, 0, none⟩) (n1 + 1) cap2) (([] : List (List Tm)) ++ [snorm (P k)]) rfl HR8.out _ _ rfl ?_))
       clear HR8 HE8 hE8 HEA HE5 HX7 HY7 HE7 HLT7 HPR5 HKV5 HB5 HY HVX
       go_wp2
       go_roundw
       case rel => exact ⟨k + 1, _, HLT.out, by go_num, HR9.out, HPUT2, HL9, HEF⟩
       case measure => have := HLT.out; simp [intOf]; omega
      ·have hnc1 : at_ ≤ vp := by
        rcases HCP.out with ⟨h, h0⟩ | ⟨b', o', c', h, h2, _⟩
        ·rw [h0]; exact Nat.zero_le _
        ·simp only [Value.slice.injEq] at h
         rw [h.2.2]; exact h2
       have HPUT2 : Hid (FamLs P (k + 1) (GL.take at_ ++ [snorm (P k)])) := by
        have h1 := HPUT.out
        rw [List.drop_eq_nil_of_le (by rw [← HNL.out]; omega), List.append_nil] at h1
        exact h1
       clear HDR HCP HPUT
       have HKQ : Hid (KRow M0 wd2 4 (.slice (some ⟨b1, off1, none⟩) at_ vp) at_ gx) := HKV5.out.ext HEA.out
       have hatc : (at_ : Int) ≤ (vp : Int) := by omega
       have hS1 : Hid (KRow (MR M0 (.slice none 0 0)) wd2 4 (.slice (some ⟨b1, off1, none⟩) at_ vp) at_ fun j => (GL.take at_).getD j []) := ((HKQ.out.take at_ hat).congr fun j hj => by
        have hj : j < at_ := hj
        have e : gx j = (GL.take at_).getD j [] := by
         rw [HGX.out]
         simp [List.getD_eq_getElem?_getD, List.getElem?_take, hj]
        rw [e]; exact Sim.refl _).more fun g hg => hg.elim .inl fun h => by cases h
       have HTL : Hid (at_ = (GL.take at_).length) := by
        show _ = _
        rw [List.length_take, ← HNL.out]; omega
       go_wp2_with (at_builtin; refine wpList_wanted (by rfl) (wp_append_prow _ (.tmp 56) (.tmp 59) _ rfl wd2.heap.size j0 _ Tryz.underlying27 ji jz0 jz1 jz2 rfl (.slice none 0 0) [] rfl (PRow.nil _ _) (some ⟨b1, off1, none⟩) at_ vp (GL.take at_) HTL.out rfl hS1.out (by show 0 + at_ ≤ _; omega) (Nat.le_refl _) ?_))
       intro v1 w6 hR6 hg6 hb6
       have hE6 : Ext wd2 w6 := (Ext.refl wd2).grown hg6 (fun q hq => by cases hq)
       obtain ⟨a1, n1, p1, rfl, hn1⟩ := hR6.form3
       have hlo6 := hR6.lt
       have hE7 := hE6.trans ((Ext.refl w6).alloc (.cells (peA y) 29))
       obtain ⟨xx, hO7, hX7⟩ := hR6.ext ((Ext.refl w6).alloc (.cells (peA y) 29))
       rw [← hn1] at hO7
       have HX7 := Lib.hid hX7
       have HY7 : Hid (CRx (MR M0 (.slice a1 n1 p1)) (w6.alloc (.cells (peA y) 29)) 4 y (snorm (P k))) := ((HY.out.ext HEA.out).more (M' := MR M0 (.slice a1 n1 p1)) (fun g hg => hg.elim (fun h => h.elim) fun h' => .inr (hlo6 g h').1)).ext hE7
       have HN1 := Lib.hid hn1
       have HE7 := Lib.hid hE7
       have hB7 := Blk.of_arr w6 (peA y) 29 4 rfl
       have hn1b : n1 ≤ 1000 := by have h1 := HTL.out; omega
       have hsz7 := hE7.size
       have HLT7 := Lib.hid hO7.lt
       obtain ⟨g0, g1, g2, g3⟩ := HB5.out.ext (HEA.out.trans hE6)
       clear hR6 hg6 hb6 hE6 hn1 hX7 hE7 hlo6 hS1
       go_wp2_with (at_builtin; refine wpList_append_fn _ rfl (.tmp 61) (.tmp 63) _ rfl wd2.heap.size 29 j0 _ 4 64 Tryz.underlying27 ji jz0 jz1 jz2 rfl (by omega) (.slice a1 n1 p1) n1 (px xx) rfl hO7 w6.heap.size 29 1 (arr (peA y)) rfl hB7 (pe_one y) ?s1 ?s2 ?s3 ?_)
       case s1 => unfold maxLen; omega
       case s2 => omega
       case s3 => exact hsz7
       intro gg cap2 w8 hO8 hg8 hat8 hlt8
       replace hat8 : (Value.slice a1 n1 p1).ownBlock = some gg ∨ (w6.alloc (.cells (peA y) 29)).heap.size ≤ gg := by rw [World.size_alloc]; exact hat8
       have hR8 : PRow wd2.heap.size w8 (.slice (some ⟨gg, 0, none⟩) (n1 + 1) cap2) (GL.take at_ ++ [snorm (P k)]) := PRow.push2 HN1.out HX7.out HY7.out hO8 hg8 hat8
       have hE8 := HE7.out.grown hg8 (fun q hq => (HLT7.out q hq).1)
       have HE8 := Lib.hid hE8
       have HR8 := Lib.hid hR8
       have HL8 : Hid ((GL.take at_ ++ [snorm (P k)]).length = n1 + 1) := by show _ = _; rw [List.length_append, HN1.out]; rfl
       have HR9 : Hid (PRow w.heap.size w8 (.slice (some ⟨gg, 0, none⟩) (n1 + 1) cap2) (GL.take at_ ++ [snorm (P k)])) := hR8.low (Nat.le_trans HE5.out.size HEA.out.size)
       have HL9 : Hid ((GL.take at_ ++ [snorm (P k)]).length ≤ k + 1) := by
        show _ ≤ _
        have h1 := HLN.out
        have h3 := HTL.out
        have h4 := HNL.out
        have h5 := HN1.out
        rw [HL8.out]
        omega
       have HEF := Lib.hid (HE5.out.trans (HEA.out.trans hE8))
       clear hO8 hg8 hat8 hlt8 hO7 hB7 hsz7 g0 g1 g2 g3 hR8
       by_cases hvc : vp = at_
       ·replace hvc := hvc.symm
        subst hvc
        go_wp2_with (at_builtin; refine wpList_wanted (by rfl) (wp_append_zero _ (.tmp 65) (.tmp 68) _ rfl wd2.heap.size j0 Tryz.underlying27 ji (.slice (some ⟨gg, 0, none⟩) (n1 + 1) cap2) (GL.take at_ ++ [snorm (P k)]) rfl HR8.out _ _ rfl ?_))
        clear HR8 HE8 hE8 HEA HE5 HX7 HY7 HE7 HLT7 HPR5 HKV5 HB5 HY HVX
        go_wp2
        go_roundw
        case rel => exact ⟨k + 1, _, HLT.out, by go_num, HR9.out, HPUT2, HL9, HEF⟩
        case measure => have := HLT.out; simp [intOf]; omega
       ·have hvc2 : (at_ : Int) < (vp : Int) := by omega
        go_wp2_with (at_builtin; refine wpList_wanted (by rfl) (wp_append_zero _ (.tmp 65) (.tmp 68) _ rfl wd2.heap.size j0 Tryz.underlying27 ji (.slice (some ⟨gg, 0, none⟩) (n1 + 1) cap2) (GL.take at_ ++ [snorm (P k)]) rfl HR8.out _ _ rfl ?_))
        clear HR8 HE8 hE8 HEA HE5 HX7 HY7 HE7 HLT7 HPR5 HKV5 HB5 HY HVX
        go_wp2
        go_roundw
        case rel => exact ⟨k + 1, _, HLT.out, by go_num, HR9.out, HPUT2, HL9, HEF⟩
        case measure => have := HLT.out; simp [intOf]; omega
  ·have hge : ¬ (k : Int) < (N : Int) := by omega
   obtain rfl : k = N := by omega
   have HF : Hid (RetF39 w k P (.returned (.slice va n vp)) wr) := ⟨va, n, vp, gx, rfl, hKV, by
    have h1 := HFM.out.fam
    rw [← HNL.out] at h1
    have h2 : (fun j => GL.getD j []) = gx := funext fun j => (HGX.out j).symm
    rw [h2] at h1
    exact h1, HE.out⟩
   clear hKV HFM HE hPR
   go_wp2
   exact bodyPost_ret (v := .slice va n vp) (by simp [results, Tryz.results18, go_sem]) rfl HF.out
end Go.Proofs.YtfbdckffjjladaaGreat
