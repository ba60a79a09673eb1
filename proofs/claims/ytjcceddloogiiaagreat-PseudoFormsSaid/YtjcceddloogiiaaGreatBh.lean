/- pseudo.Divides. -/
import Derived.Test.YtjcceddloogiiaaGreatBg
set_option linter.unusedVariables false
set_option linter.unusedSimpArgs false

namespace Go.Proofs.YtjcceddloogiiaaGreat
open Go.RowKit

def RetD (w : World) (l r s : List Tm) (e : Ending) (w' : World) : Prop := ∃ b : Bool, e = .returned (.bool b) ∧ (Sim r [] → (b = true ↔ Sim l [])) ∧ (¬ Sim r [] → (b = true ↔ Dv s l)) ∧ Ext w w'
set_option maxRecDepth 100000 in
set_option maxHeartbeats 8000000 in
theorem ps_Divides (C G : Nat) (M : Nat → Prop) (l r s : List Tm) (x y : PE) (B A : Nat) (w : World) (hM : Mb M w) (h : PI M w x r) (hy : PI M w y l)
  (hsn : ∀ (M' : Nat → Prop) (W' : World), Mb M' W' → (∀ g, M' g → M g ∨ w.heap.size ≤ g) → Ext w W' → Calls Tryz.prog 98 #[.agg (peA x)] W' (RetX M' W' 4 s)) (hz : ¬ Sim r [] → ¬ Sim s [])
  (hB : Deg B l) (hC : Deg C s) (hA : dlen (nrm l) ≤ A) (hG : dlen (nrm s) ≤ G) (hO : OkB C 4 B) (hS : A + qX C 4 B * (G + 2) ≤ 549755813888) :
  Calls Tryz.prog 40 #[.agg (peA x), .agg (peA y)] w (RetD w l r s) := by
 have hE0 : Ext w ((w.alloc (.cells (peA x) 33)).alloc (.cells (peA y) 33)) := ((Ext.refl w).alloc _).alloc _
 have hb1 := Blk.of_arr (w.alloc (.cells (peA x) 33)) (peA y) 33 4 rfl
 simp only [World.size_alloc] at hb1
 have hX0 : SP2 w.heap.size x y ((w.alloc (.cells (peA x) 33)).alloc (.cells (peA y) 33)) := ⟨((Blk.of_arr w (peA x) 33 4 rfl).alloc _).p4, hb1.p4⟩
 have hsz0 : w.heap.size + 2 = ((w.alloc (.cells (peA x) 33)).alloc (.cells (peA y) 33)).heap.size := by simp
 have HCE : Hid (∀ (M' : Nat → Prop) (a b : PE) (W' : World), Mb M' W' → CRx M' W' 4 a l → CRx M' W' 4 b s → ¬ Sim s [] → Calls Tryz.prog 114 #[.agg (peA a), .agg (peA b)] W' (RetEx M' W' 4 l s (A + qX C 4 B * (G + 2)))) := fun M' a b W' h1 h2 h4 h5 => ps_exact C G 4 (Nat.le_refl 4) M' l s a b B A W' h1 h2 h4 h5 hB hC hA hG hO hS
 have HSN : Hid (∀ (M' : Nat → Prop) (W' : World), Mb M' W' → (∀ g, M' g → M g ∨ w.heap.size ≤ g) → Ext w W' → Calls Tryz.prog 98 #[.agg (peA x)] W' (RetX M' W' 4 s)) := hsn
 have HZS := Lib.hid hz
 have HM := Lib.hid hM
 have HX := Lib.hid h
 have HY := Lib.hid hy
 generalize A + qX C 4 B * (G + 2) = A2 at *
 generalize hW : (w.alloc (.cells (peA x) 33)).alloc (.cells (peA y) 33) = W at *
 have HW := Lib.hid hW
 have HE := Lib.hid hE0
 have HS := Lib.hid hX0
 have CZ := Lib.hid (rp_IsZero M x r W (hM.ext hE0) (h.ext hE0))
 obtain ⟨⟨x0, x1, x2, x3⟩, ⟨y0, y1, y2, y3⟩⟩ := hX0
 clear hE0 hb1 h hy hB hC hA hG hO hW hM hS hsn hz hsz0
 go_enter Tryz.func40, Tryz.ntmps40
 go_upto_region 1 with (fail)
 rw [HW.out]
 go_wp2_with (fail)
 refine CZ.out.mono ?_
 rintro e w1 ⟨bz, rfl, hbz, he1⟩
 have HE1 := Lib.hid (HE.out.trans he1)
 have HSS := Lib.hid (HS.out.ext he1)
 have HBZ := Lib.hid hbz
 clear x0 x1 x2 x3 y0 y1 y2 y3 HE HS HW he1 hbz CZ
 cases bz with
 | true =>
  have HRZ0 : Hid (Sim r []) := HBZ.out.1 rfl
  obtain ⟨⟨x0, x1, x2, x3⟩, ⟨y0, y1, y2, y3⟩⟩ := HSS.out
  have CZ := Lib.hid (rp_IsZero M y l w1 (HM.out.ext HE1.out) (HY.out.ext HE1.out))
  go_wp2_with (fail)
  refine CZ.out.mono ?_
  rintro e w2 ⟨b2, rfl, hb2, he2⟩
  have HF : Hid (RetD w l r s (.returned (.bool b2)) w2) := ⟨b2, rfl, fun _ => hb2, fun hh => absurd HRZ0.out hh, HE1.out.trans he2⟩
  clear hb2 he2 CZ HCE HSN HZS HX HY HE1 HSS HBZ x0 x1 x2 x3 y0 y1 y2 y3
  go_wp2
  exact bodyPost_ret (v := .bool b2) (by simp [results, Tryz.results40, go_sem]) rfl HF.out
 | false =>
  have HRN : Hid (¬ Sim r []) := fun hh => by have := HBZ.out.2 hh; cases this
  have HRZ : Hid (¬ Sim s []) := HZS.out HRN.out
  clear HBZ HZS
  go_upto_region 3 with (fail)
  go_cut [5, 6] (ExCut M w1.drew 4 l s A2)
  case first =>
   have hEd : Ext w1 w1.drew := (Ext.refl w1).drew
   have hEw : Ext w w1.drew := HE1.out.trans hEd
   have HS2 : Hid (SP2 w.heap.size x y w1.drew) := HSS.out.ext hEd
   have CN1 : Hid (∀ (M' : Nat → Prop) (W' : World), Mb M' W' → (∀ g, M' g → M g ∨ w1.drew.heap.size ≤ g) → Ext w1.drew W' → Calls Tryz.prog 36 #[.agg (peA y)] W' (RetX M' W' 4 l)) := fun M' W' h1 h2 h3 => rp_Normal M' y l W' h1 (((HY.out.ext hEw).more h2).ext h3)
   have CN2 : Hid (∀ (M' : Nat → Prop) (W' : World), Mb M' W' → (∀ g, M' g → M g ∨ w1.drew.heap.size ≤ g) → Ext w1.drew W' → Calls Tryz.prog 98 #[.agg (peA x)] W' (RetX M' W' 4 s)) := fun M' W' h1 h2 h3 => HSN.out M' W' h1 (fun g hg => (h2 g hg).imp id fun h => Nat.le_trans hEw.size h) (hEw.trans h3)
   have hMd : Mb M w1.drew := HM.out.ext hEw
   refine wp_region_u (SP2 w.heap.size x y) 10 (by kernel_rfl) HS2.out (fun hHeld => ?_)
   clear HSS HE1 HM HX HY HS2 hEd HSN hEw
   generalize w1.drew = wd at *
   (refine tkB [0, 2] ?_; (iterate 2 (refine tk1 (oi := ?_) (v := ?_) (by kernel_rfl) (by first | exact hSn | exact hHeld) ?_ ?_ ?_ ?_ ?_; rotate_left 2; (simp only [xgA, xgB, xgC]; rfl); rfl; (intro wS hSw; obtain ⟨⟨S1, S2, S3, S4⟩, S5, S6, S7, S8⟩ := hSw; go_simp; try with_reducible rfl); (exact fun _ _ _ h => h); (try simp only [Act.put, xgD, xgE, xgF]))); refine tkE ?_)
   (refine wpAnyU_two 1 8 (oi := ?_) (oj := ?_) (by kernel_rfl) ?_ ?_ ?_ ?_; rotate_left 2; (simp only [xgA, xgB, xgC]; rfl); (simp only [xgA, xgB, xgC]; rfl); all_goals intro K hK)
   ·go_simp
    refine (CN1.out M wd (hMd.ext (Ext.refl wd)) (fun g hg => .inl hg) (Ext.refl wd)).mono ?_
    rintro e v1 ⟨a, rfl, ha, d1⟩
    go_wp2_with (fail)
    have e1 : Ext wd v1 := ((Ext.refl wd)).trans d1
    try clear hSn
    have hSn := hHeld.ext e1
    refine hK.out _ _ (fun _ => hSn) ?_
    clear hK K
    (try simp only [Act.put, xgD, xgE, xgF])
    (refine wpAnyU_two 3 8 (oi := ?_) (oj := ?_) (by kernel_rfl) ?_ ?_ ?_ ?_; rotate_left 2; (simp only [xgA, xgB, xgC]; rfl); (simp only [xgA, xgB, xgC]; rfl); all_goals intro K hK)
    ·go_simp
     refine (CN2.out M v1 (hMd.ext e1) (fun g hg => .inl hg) e1).mono ?_
     rintro e v2 ⟨b, rfl, hb, d2⟩
     go_wp2_with (fail)
     have e2 : Ext wd v2 := (e1).trans d2
     try clear hSn
     have hSn := hHeld.ext e2
     refine hK.out _ _ (fun _ => hSn) ?_
     clear hK K
     (try simp only [Act.put, xgD, xgE, xgF])
     (refine wpAnyU_two 4 8 (oi := ?_) (oj := ?_) (by kernel_rfl) ?_ ?_ ?_ ?_; rotate_left 2; (simp only [xgA, xgB, xgC]; rfl); (simp only [xgA, xgB, xgC]; rfl); all_goals intro K hK)
     ·go_simp
      refine (HCE.out M a b v2 (hMd.ext e2) ((ha).ext d2) (hb) HRZ.out).mono ?_
      rintro e v3 ⟨v, ok, rfl, hR, d3⟩
      go_wp2_with (fail)
      have e3 : Ext wd v3 := (e2).trans d3
      try clear hSn
      have hSn := hHeld.ext e3
      refine hK.out _ _ (fun _ => hSn) ?_
      clear hK K
      (try simp only [Act.put, xgD, xgE, xgF])
      (refine tkB [5, 6, 7] ?_; (iterate 3 (refine tk1 (oi := ?_) (v := ?_) (by kernel_rfl) (by first | exact hSn | exact hHeld) ?_ ?_ ?_ ?_ ?_; rotate_left 2; (simp only [xgA, xgB, xgC]; rfl); rfl; (intro wS hSw; obtain ⟨⟨S1, S2, S3, S4⟩, S5, S6, S7, S8⟩ := hSw; go_simp; try with_reducible rfl); (exact fun _ _ _ h => h); (try simp only [Act.put, xgD, xgE, xgF]))); refine tkE ?_)
      (refine wpAnyU_one 8 (o := ?_) (by kernel_rfl) ?_ ?_; rotate_left 1; (simp only [xgA, xgB, xgC]; rfl); intro K hK)
      go_simp
      have hSn2 := hSn.ext ((Ext.refl v3).alloc (.cells zA 33))
      have hSn3 := hSn.ext ((Ext.refl v3).alloc (.cells (peA v) 33))
      clear hSn
      refine hK.out _ _ (fun _ => hSn2) ?_
      clear hK K
      (try simp only [Act.put, xgD, xgE, xgF])
      (refine wpAnyU_one 9 (o := ?_) (by kernel_rfl) ?_ ?_; rotate_left 1; (simp only [xgA, xgB, xgC]; rfl); intro K hK)
      go_simp
      refine hK.out _ _ (fun _ => hSn3) ?_
      clear hK K
      (try simp only [Act.put, xgD, xgE, xgF])
      ((refine wpAnyU_one 10 (o := ?_) (by kernel_rfl) ?_ ?_; rotate_left 1; (simp only [xgA, xgB, xgC]; rfl); intro K hK); go_simp; (refine hK.out _ _ (fun h => absurd rfl h) ?_); clear hK K; refine wpAnyU_done (by kernel_rfl) ?_ _)
      go_wp2_with (fail)
      go_meet
      exact ⟨v3.heap.size, v, ok, rfl, rfl, (Blk.of_arr v3 (peA v) 33 4 rfl).p4, by simp, (e3).size, hR.ext ((Ext.refl v3).alloc _), (e3).alloc _⟩
     ·go_simp
      have ea3 : Ext v2 (v2.alloc (.cells zA 33)) := (Ext.refl _).alloc _
      have hb3 := Blk.of_arr v2 zA 33 4 rfl
      have e3 : Ext wd (v2.alloc (.cells zA 33)) := (e2).trans ea3
      try clear hSn
      have hSn := hHeld.ext e3
      refine hK.out _ _ (fun _ => hSn) ?_
      clear hK K
      (try simp only [Act.put, xgD, xgE, xgF])
      (refine wpAnyU_one 4 (o := ?_) (by kernel_rfl) ?_ ?_; rotate_left 1; (simp only [xgA, xgB, xgC]; rfl); intro K hK)
      go_simp
      refine (HCE.out (fun g => M g ∨ g = v2.heap.size) a b (v2.alloc (.cells zA 33)) ((mb_or (hMd.ext e2) (.cells zA 33)).ext (Ext.refl (v2.alloc (.cells zA 33)))) ((((ha).ext d2).more (M' := fun g => M g ∨ g = v2.heap.size) (fun g hg => hg.imp id fun (h : g = v2.heap.size) => Nat.le_of_eq h.symm)).ext ea3) (((hb).more (M' := fun g => M g ∨ g = v2.heap.size) (fun g hg => hg.imp id fun (h : g = v2.heap.size) => Nat.le_of_eq h.symm)).ext ea3) HRZ.out).mono ?_
      rintro e v4 ⟨v, ok, rfl, hR, d4⟩
      go_wp2_with (fail)
      have e4 : Ext wd v4 := (e3).trans d4
      have hb4 := (hb3).ext d4
      try clear hSn
      have hSn := hHeld.ext e4
      refine hK.out _ _ (fun _ => hSn) ?_
      clear hK K
      (try simp only [Act.put, xgD, xgE, xgF])
      (refine tkB [5, 6, 7] ?_; (iterate 3 (refine tk1 (oi := ?_) (v := ?_) (by kernel_rfl) (by first | exact hSn | exact hHeld) ?_ ?_ ?_ ?_ ?_; rotate_left 2; (simp only [xgA, xgB, xgC]; rfl); rfl; (intro wS hSw; obtain ⟨⟨S1, S2, S3, S4⟩, S5, S6, S7, S8⟩ := hSw; go_simp; try with_reducible rfl); (exact fun _ _ _ h => h); (try simp only [Act.put, xgD, xgE, xgF]))); refine tkE ?_)
      obtain ⟨⟨q0, q1, q2, q3⟩, ⟨f0, f1, f2, f3⟩, hrr, hkp, hext⟩ := fin4 (M' := fun g => M g ∨ g = v2.heap.size) (w := wd) (.int .i64 v.lv) (.bool v.b) (.slice v.a v.n v.p) (.slice v.ka v.kn v.kp) (hb4) (.inr rfl) (e2).size (e4)
      simp only [arr] at q0 q1 q2 q3
      (refine wpAnyU_one 9 (o := ?_) (by kernel_rfl) ?_ ?_; rotate_left 1; (simp only [xgA, xgB, xgC]; rfl); intro K hK)
      go_simp
      have hSn3 := hHeld.ext hext
      clear hSn
      refine hK.out _ _ (fun _ => hSn3) ?_
      clear hK K
      (try simp only [Act.put, xgD, xgE, xgF])
      ((refine wpAnyU_one 10 (o := ?_) (by kernel_rfl) ?_ ?_; rotate_left 1; (simp only [xgA, xgB, xgC]; rfl); intro K hK); go_simp; (refine hK.out _ _ (fun h => absurd rfl h) ?_); clear hK K; refine wpAnyU_done (by kernel_rfl) ?_ _)
      go_wp2_with (fail)
      go_meet
      exact ⟨v2.heap.size, v, ok, rfl, rfl, hrr, Nat.lt_of_lt_of_eq (hb4).lt (size_set4 _ _ _ _ _ _ _).symm, (e2).size, (hR.kp hkp).more (fun g hg => .inl (.inl hg)), hext⟩
    ·go_simp
     have ea2 : Ext v1 (v1.alloc (.cells zA 33)) := (Ext.refl _).alloc _
     have hb2 := Blk.of_arr v1 zA 33 4 rfl
     have e2 : Ext wd (v1.alloc (.cells zA 33)) := (e1).trans ea2
     try clear hSn
     have hSn := hHeld.ext e2
     refine hK.out _ _ (fun _ => hSn) ?_
     clear hK K
     (try simp only [Act.put, xgD, xgE, xgF])
     (refine wpAnyU_one 3 (o := ?_) (by kernel_rfl) ?_ ?_; rotate_left 1; (simp only [xgA, xgB, xgC]; rfl); intro K hK)
     go_simp
     refine (CN2.out (fun g => M g ∨ g = v1.heap.size) (v1.alloc (.cells zA 33)) ((mb_or (hMd.ext e1) (.cells zA 33)).ext (Ext.refl (v1.alloc (.cells zA 33)))) (fun g hg => hg.imp id fun h => by rw [h]; exact e1.size) e2).mono ?_
     rintro e v3 ⟨b, rfl, hb, d3⟩
     go_wp2_with (fail)
     have e3 : Ext wd v3 := (e2).trans d3
     have hb3 := (hb2).ext d3
     try clear hSn
     have hSn := hHeld.ext e3
     refine hK.out _ _ (fun _ => hSn) ?_
     clear hK K
     (try simp only [Act.put, xgD, xgE, xgF])
     (refine wpAnyU_one 4 (o := ?_) (by kernel_rfl) ?_ ?_; rotate_left 1; (simp only [xgA, xgB, xgC]; rfl); intro K hK)
     go_simp
     refine (HCE.out (fun g => M g ∨ g = v1.heap.size) a b v3 ((mb_or (hMd.ext e1) (.cells zA 33)).ext (((Ext.refl (v1.alloc (.cells zA 33)))).trans d3)) ((((ha).more (M' := fun g => M g ∨ g = v1.heap.size) (fun g hg => hg.imp id fun (h : g = v1.heap.size) => Nat.le_of_eq h.symm)).ext ea2).ext d3) (hb) HRZ.out).mono ?_
     rintro e v4 ⟨v, ok, rfl, hR, d4⟩
     go_wp2_with (fail)
     have e4 : Ext wd v4 := (e3).trans d4
     have hb4 := (hb3).ext d4
     try clear hSn
     have hSn := hHeld.ext e4
     refine hK.out _ _ (fun _ => hSn) ?_
     clear hK K
     (try simp only [Act.put, xgD, xgE, xgF])
     (refine tkB [5, 6, 7] ?_; (iterate 3 (refine tk1 (oi := ?_) (v := ?_) (by kernel_rfl) (by first | exact hSn | exact hHeld) ?_ ?_ ?_ ?_ ?_; rotate_left 2; (simp only [xgA, xgB, xgC]; rfl); rfl; (intro wS hSw; obtain ⟨⟨S1, S2, S3, S4⟩, S5, S6, S7, S8⟩ := hSw; go_simp; try with_reducible rfl); (exact fun _ _ _ h => h); (try simp only [Act.put, xgD, xgE, xgF]))); refine tkE ?_)
     obtain ⟨⟨q0, q1, q2, q3⟩, ⟨f0, f1, f2, f3⟩, hrr, hkp, hext⟩ := fin4 (M' := fun g => M g ∨ g = v1.heap.size) (w := wd) (.int .i64 v.lv) (.bool v.b) (.slice v.a v.n v.p) (.slice v.ka v.kn v.kp) (hb4) (.inr rfl) (e1).size (e4)
     simp only [arr] at q0 q1 q2 q3
     (refine wpAnyU_one 9 (o := ?_) (by kernel_rfl) ?_ ?_; rotate_left 1; (simp only [xgA, xgB, xgC]; rfl); intro K hK)
     go_simp
     have hSn3 := hHeld.ext hext
     clear hSn
     refine hK.out _ _ (fun _ => hSn3) ?_
     clear hK K
     (try simp only [Act.put, xgD, xgE, xgF])
     ((refine wpAnyU_one 10 (o := ?_) (by kernel_rfl) ?_ ?_; rotate_left 1; (simp only [xgA, xgB, xgC]; rfl); intro K hK); go_simp; (refine hK.out _ _ (fun h => absurd rfl h) ?_); clear hK K; refine wpAnyU_done (by kernel_rfl) ?_ _)
     go_wp2_with (fail)
     go_meet
     exact ⟨v1.heap.size, v, ok, rfl, rfl, hrr, Nat.lt_of_lt_of_eq (hb4).lt (size_set4 _ _ _ _ _ _ _).symm, (e1).size, (hR.kp hkp).more (fun g hg => .inl (.inl hg)), hext⟩
   ·go_simp
    have ea1 : Ext wd (wd.alloc (.cells zA 33)) := (Ext.refl _).alloc _
    have hb1 := Blk.of_arr wd zA 33 4 rfl
    have e1 : Ext wd (wd.alloc (.cells zA 33)) := ((Ext.refl wd)).trans ea1
    try clear hSn
    have hSn := hHeld.ext e1
    refine hK.out _ _ (fun _ => hSn) ?_
    clear hK K
    (try simp only [Act.put, xgD, xgE, xgF])
    (refine wpAnyU_one 1 (o := ?_) (by kernel_rfl) ?_ ?_; rotate_left 1; (simp only [xgA, xgB, xgC]; rfl); intro K hK)
    go_simp
    refine (CN1.out (fun g => M g ∨ g = wd.heap.size) (wd.alloc (.cells zA 33)) ((mb_or (hMd.ext (Ext.refl wd)) (.cells zA 33)).ext (Ext.refl (wd.alloc (.cells zA 33)))) (fun g hg => hg.imp id fun h => by rw [h]; exact (Ext.refl wd).size) e1).mono ?_
    rintro e v2 ⟨a, rfl, ha, d2⟩
    go_wp2_with (fail)
    have e2 : Ext wd v2 := (e1).trans d2
    have hb2 := (hb1).ext d2
    try clear hSn
    have hSn := hHeld.ext e2
    refine hK.out _ _ (fun _ => hSn) ?_
    clear hK K
    (try simp only [Act.put, xgD, xgE, xgF])
    (refine wpAnyU_one 3 (o := ?_) (by kernel_rfl) ?_ ?_; rotate_left 1; (simp only [xgA, xgB, xgC]; rfl); intro K hK)
    go_simp
    refine (CN2.out (fun g => M g ∨ g = wd.heap.size) v2 ((mb_or (hMd.ext (Ext.refl wd)) (.cells zA 33)).ext (((Ext.refl (wd.alloc (.cells zA 33)))).trans d2)) (fun g hg => hg.imp id fun h => by rw [h]; exact (Ext.refl wd).size) e2).mono ?_
    rintro e v3 ⟨b, rfl, hb, d3⟩
    go_wp2_with (fail)
    have e3 : Ext wd v3 := (e2).trans d3
    have hb3 := (hb2).ext d3
    try clear hSn
    have hSn := hHeld.ext e3
    refine hK.out _ _ (fun _ => hSn) ?_
    clear hK K
    (try simp only [Act.put, xgD, xgE, xgF])
    (refine wpAnyU_one 4 (o := ?_) (by kernel_rfl) ?_ ?_; rotate_left 1; (simp only [xgA, xgB, xgC]; rfl); intro K hK)
    go_simp
    refine (HCE.out (fun g => M g ∨ g = wd.heap.size) a b v3 ((mb_or (hMd.ext (Ext.refl wd)) (.cells zA 33)).ext (((((Ext.refl (wd.alloc (.cells zA 33)))).trans d2)).trans d3)) ((ha).ext d3) (hb) HRZ.out).mono ?_
    rintro e v4 ⟨v, ok, rfl, hR, d4⟩
    go_wp2_with (fail)
    have e4 : Ext wd v4 := (e3).trans d4
    have hb4 := (hb3).ext d4
    try clear hSn
    have hSn := hHeld.ext e4
    refine hK.out _ _ (fun _ => hSn) ?_
    clear hK K
    (try simp only [Act.put, xgD, xgE, xgF])
    (refine tkB [5, 6, 7] ?_; (iterate 3 (refine tk1 (oi := ?_) (v := ?_) (by kernel_rfl) (by first | exact hSn | exact hHeld) ?_ ?_ ?_ ?_ ?_; rotate_left 2; (simp only [xgA, xgB, xgC]; rfl); rfl; (intro wS hSw; obtain ⟨⟨S1, S2, S3, S4⟩, S5, S6, S7, S8⟩ := hSw; go_simp; try with_reducible rfl); (exact fun _ _ _ h => h); (try simp only [Act.put, xgD, xgE, xgF]))); refine tkE ?_)
    obtain ⟨⟨q0, q1, q2, q3⟩, ⟨f0, f1, f2, f3⟩, hrr, hkp, hext⟩ := fin4 (M' := fun g => M g ∨ g = wd.heap.size) (w := wd) (.int .i64 v.lv) (.bool v.b) (.slice v.a v.n v.p) (.slice v.ka v.kn v.kp) (hb4) (.inr rfl) ((Ext.refl wd)).size (e4)
    simp only [arr] at q0 q1 q2 q3
    (refine wpAnyU_one 9 (o := ?_) (by kernel_rfl) ?_ ?_; rotate_left 1; (simp only [xgA, xgB, xgC]; rfl); intro K hK)
    go_simp
    have hSn3 := hHeld.ext hext
    clear hSn
    refine hK.out _ _ (fun _ => hSn3) ?_
    clear hK K
    (try simp only [Act.put, xgD, xgE, xgF])
    ((refine wpAnyU_one 10 (o := ?_) (by kernel_rfl) ?_ ?_; rotate_left 1; (simp only [xgA, xgB, xgC]; rfl); intro K hK); go_simp; (refine hK.out _ _ (fun h => absurd rfl h) ?_); clear hK K; refine wpAnyU_done (by kernel_rfl) ?_ _)
    go_wp2_with (fail)
    go_meet
    exact ⟨wd.heap.size, v, ok, rfl, rfl, hrr, Nat.lt_of_lt_of_eq (hb4).lt (size_set4 _ _ _ _ _ _ _).symm, ((Ext.refl wd)).size, (hR.kp hkp).more (fun g hg => .inl (.inl hg)), hext⟩
  case rest =>
   obtain ⟨gc, v, ok, rfl, rfl, hv, hgv, hgw, hR, heC⟩ := hcut
   have he5 : Ext w1 wc := (Ext.refl w1).drew.trans heC
   have HF : Hid (RetD w l r s (.returned (.bool ok)) wc) := ⟨ok, rfl, fun hh => absurd hh HRN.out, fun _ => ⟨fun ho => by
    obtain ⟨q, h1, h2, _⟩ := hR.1 ho
    exact ⟨q, h1.nn, h2⟩, fun hd => by
    cases ok with
    | true => rfl
    | false => exact absurd hd (hR.2 rfl)⟩, HE1.out.trans he5⟩
   clear hR heC he5 hv HSS HE1 HM HX HY HCE HSN HRN HRZ
   go_wp2
   exact bodyPost_ret (v := .bool ok) (by simp [results, Tryz.results40, go_sem]) rfl HF.out
end Go.Proofs.YtjcceddloogiiaaGreat
