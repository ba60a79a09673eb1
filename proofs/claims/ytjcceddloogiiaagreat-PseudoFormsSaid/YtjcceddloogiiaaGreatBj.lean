/- cylinderlaw24.fit: the walk. -/
import Derived.Test.YtjcceddloogiiaaGreatBi
set_option linter.unusedVariables false
set_option linter.unusedSimpArgs false

namespace Go.Proofs.YtjcceddloogiiaaGreat
open Go.RowKit

def SFt (g1 g2 : Nat) (x y : PE) (w : World) : Prop := P4 w g1 x ∧ P4 w g2 y
theorem SFt.ext {g1 g2 : Nat} {x y : PE} {w w' : World} (h : SFt g1 g2 x y w) (he : Ext w w') : SFt g1 g2 x y w' := ⟨h.1.ext he, h.2.ext he⟩
def FtCut (W : World) (s3 s4 : Value) (wx : World) : Prop := ∃ (g : Nat) (v : PE), s3 = .pointer (some ⟨g, 0, none⟩) ∧ s4 = .int .i64 0 ∧ P4 wx g v ∧ CRx M0 wx 4 v fQ ∧ Ext W wx
theorem ft_exact {M : Nat → Prop} {w w' : World} {e : Ending} {A : Nat} (h : RetQ M w fP fS A e w') : ∃ v : PE, e = .returned (.tuple #[.agg (peA v), .int .i64 0]) ∧ CRx M w' 4 v fQ ∧ Ext w w' := by
 obtain ⟨v, er, h1, h2, h3⟩ := h
 rcases h2 with ⟨_, h4, _⟩ | ⟨rfl, _, q, q1, q2, _⟩ | ⟨_, _, _, h4⟩
 ·exact absurd h4 fS_ne
 ·exact ⟨v, h1, q1.sim (f_quot q1.nn q2), h3⟩
 ·exact absurd f_dv h4
def SF3 (g1 g2 g3 : Nat) (x y v : PE) (w : World) : Prop := P4 w g1 x ∧ P4 w g2 y ∧ P4 w g3 v
theorem SF3.ext {g1 g2 g3 : Nat} {x y v : PE} {w w' : World} (h : SF3 g1 g2 g3 x y v w) (he : Ext w w') : SF3 g1 g2 g3 x y v w' := ⟨h.1.ext he, h.2.1.ext he, h.2.2.ext he⟩
theorem CRx.tbN {M : Nat → Prop} {w : World} {L : Nat} {x : PE} {l : List Tm} {B : Nat} (h : CRx M w L x l) (hL4 : L ≤ 4) (hL : dlen (nrm l) ≤ 1099511627776) (hB : Deg B l) (hB4 : (B + 1) ^ 4 ≤ 1099511627776) : ∃ t : RT (L + 1), RR M w (L + 1) t (.int .i64 x.lv) (.bool x.b) (.slice x.a x.n x.p) (.slice x.ka x.kn x.kp) ∧ TB (L + 1) t ∧ Sim (terms (L + 1) t) l ∧ nrm (terms (L + 1) t) ≤ nrm l := by
 obtain ⟨t, h1, h2, h3, h4⟩ := h
 have hlv := can_lev h2
 have hlen := can_len B (L + 1) t h2 h1.ok (sim_deg h4 hB)
 have hpow : (B + 1) ^ (Go.Proofs.YtjcceddloogiiaaGreat.lev (L + 1) t).toNat ≤ (B + 1) ^ 4 := Nat.pow_le_pow_right (by omega) (by show t.1.toNat ≤ 4; omega)
 have hB1 : B + 1 ≤ (B + 1) ^ 4 := by
  have h5 := Nat.pow_le_pow_right (show 0 < B + 1 by omega) (show 1 ≤ 4 by omega)
  rwa [Nat.pow_one] at h5
 have hBs : B ≤ 1073741824 := by
  refine Classical.byContradiction fun hc => ?_
  have h6 : (1073741825 : Nat) ^ 2 ≤ (B + 1) ^ 4 := Nat.le_trans (Nat.pow_le_pow_left (show 1073741825 ≤ B + 1 by omega) 2) (Nat.pow_le_pow_right (by omega) (by omega))
  omega
 refine ⟨t, h1, ⟨by omega, by omega, Nat.le_trans (dlen_mono (can_nrm h2 h4)) hL, fun s hs k => ?_⟩, h4, can_nrm h2 h4⟩
 have := can_exp B (L + 1) t h2 h1.ok (sim_deg h4 hB) s hs k
 omega
theorem x_sn {M : Nat → Prop} {w : World} {x : PE} (hx : CRx M w 4 x (varL 1)) (M' : Nat → Prop) (W' : World) (h1 : Mb M' W') (h2 : ∀ g, M' g → M g ∨ w.heap.size ≤ g) (h3 : Ext w W') : Calls Tryz.prog 98 #[.agg (peA x)] W' (RetX M' W' 4 (varL 1)) := by
 obtain ⟨t, hR, hT, hS, hN⟩ := hx.tbN (B := 1) (Nat.le_refl _) (by decide) (deg_var 1) (by decide)
 have hsn : snorm (terms (4 + 1) t) = varL 1 := hS.snorm.trans x_snorm
 rw [← hsn]
 refine mv_snorm M' (4 + 1) t x W' h1 (RR.ext (RR.more h2 hR) h3) hT ?_
 have h5 := dlen_mono hN
 have h6 : dlen (nrm (varL 1)) = 1 := by decide
 omega
set_option maxRecDepth 100000 in
set_option maxHeartbeats 8000000 in
theorem law_fit24 (w : World) : Calls Tryz.prog 34 #[] w fun e w' => e = .returned (.bool true) ∧ Ext w w' := by
 go_enter Tryz.func34, Tryz.ntmps34
 go_wp2_with (fail)
 refine (rp_Var M0 1 _ (mb0 _)).mono ?_
 rintro e w1 ⟨x, rfl, hx, he1⟩
 go_wp2_with (fail)
 refine (rp_Var M0 2 _ (mb0 _)).mono ?_
 rintro e w2 ⟨y, rfl, hy, he2⟩
 have hb1 := Blk.of_arr w2 (peA x) 33 4 rfl
 have hb2 := Blk.of_arr (w2.alloc (.cells (peA x) 33)) (peA y) 33 4 rfl
 simp only [World.size_alloc] at hb2
 have hE2 : Ext w2 ((w2.alloc (.cells (peA x) 33)).alloc (.cells (peA y) 33)) := ((Ext.refl w2).alloc _).alloc _
 have HS0 : Hid (SFt w2.heap.size (w2.heap.size + 1) x y ((w2.alloc (.cells (peA x) 33)).alloc (.cells (peA y) 33))) := ⟨(hb1.alloc _).p4, hb2.p4⟩
 have HX := Lib.hid ((hx.ext he2).ext hE2)
 have HY := Lib.hid (hy.ext hE2)
 have HE := Lib.hid ((he1.trans he2).trans hE2)
 clear hb1 hb2 hE2 hx hy he1 he2
 go_upto_region 2 with (fail)
 generalize (w2.alloc (.cells (peA x) 33)).alloc (.cells (peA y) 33) = W at *
 go_cut [3, 4] (FtCut W.drew)
 case first =>
  have hEd : Ext W W.drew := (Ext.refl W).drew
  have HS2 : Hid (SFt w2.heap.size (w2.heap.size + 1) x y W.drew) := HS0.out.ext hEd
  have hMd : Mb M0 W.drew := mb0 _
  have C1 : Hid (∀ (M' : Nat → Prop) (W' : World), Mb M' W' → (∀ g, M' g → M0 g ∨ W.drew.heap.size ≤ g) → Ext W.drew W' → Calls Tryz.prog 57 #[.agg (peA x), .int .i64 2] W' (RetX M' W' 4 (ppow (varL 1) 2))) := fun M' W' h1 h2 h3 => rp_Pow M' x (varL 1) 1 2 W' h1 (((HX.out.ext hEd).more h2).ext h3).pi (by decide) (by decide) (deg_var 1) (by decide)
  have C3 : Hid (∀ (M' : Nat → Prop) (W' : World), Mb M' W' → (∀ g, M' g → M0 g ∨ W.drew.heap.size ≤ g) → Ext W.drew W' → Calls Tryz.prog 57 #[.agg (peA y), .int .i64 2] W' (RetX M' W' 4 (ppow (varL 2) 2))) := fun M' W' h1 h2 h3 => rp_Pow M' y (varL 2) 1 2 W' h1 (((HY.out.ext hEd).more h2).ext h3).pi (by decide) (by decide) (deg_var 2) (by decide)
  have C4 : Hid (∀ (M' : Nat → Prop) (W' : World) (p q : PE), Mb M' W' → CRx M' W' 4 p (ppow (varL 1) 2) → CRx M' W' 4 q (ppow (varL 2) 2) → Calls Tryz.prog 109 #[.agg (peA p), .agg (peA q)] W' (RetX M' W' 4 fP)) := fun M' W' p q h1 h2 h3 => rp_Sub M' p q _ _ 2 W' h1 h2.pi h3.pi (by decide) (by decide) (deg_list (nn_of_all (by decide)) (by decide)) (by decide)
  have C7 : Hid (∀ (M' : Nat → Prop) (W' : World), Mb M' W' → (∀ g, M' g → M0 g ∨ W.drew.heap.size ≤ g) → Ext W.drew W' → Calls Tryz.prog 64 #[.agg (peA x), .agg (peA y)] W' (RetX M' W' 4 fS)) := fun M' W' h1 h2 h3 => rp_Add M' x y (varL 1) (varL 2) W' h1 (((HX.out.ext hEd).more h2).ext h3).pi (((HY.out.ext hEd).more h2).ext h3).pi (by decide)
  have C8 : Hid (∀ (M' : Nat → Prop) (W' : World) (p q : PE), Mb M' W' → CRx M' W' 4 p fP → CRx M' W' 4 q fS → Calls Tryz.prog 38 #[.agg (peA p), .agg (peA q)] W' (fun e w' => ∃ v : PE, e = .returned (.tuple #[.agg (peA v), .int .i64 0]) ∧ CRx M' w' 4 v fQ ∧ Ext W' w')) := fun M' W' p q h1 h2 h3 => (ps_Exact 1 2 M' fP fS p q 2 2 W' h1 h2.pi h3.pi fP_deg fS_deg (by decide) (by decide) f_ok f_num).mono fun e w' hp => ft_exact hp
  refine wp_region_u (SFt w2.heap.size (w2.heap.size + 1) x y) 14 (by kernel_rfl) HS2.out (fun hHeld => ?_)
  clear HX HY HE HS0 HS2 hEd
  generalize W.drew = wd at *
  (refine tkB [0, 2, 5, 6] ?_; (iterate 4 (refine tk1 (oi := ?_) (v := ?_) (by kernel_rfl) (by first | exact hSn | exact hHeld) ?_ ?_ ?_ ?_ ?_; rotate_left 2; (simp only [xgA, xgB, xgC]; rfl); rfl; (intro wS hSw; obtain ⟨⟨S1, S2, S3, S4⟩, S5, S6, S7, S8⟩ := hSw; go_simp; try with_reducible rfl); (exact fun _ _ _ h => h); (try simp only [Act.put, xgD, xgE, xgF]))); refine tkE ?_)
  (refine wpAnyU_two 1 12 (oi := ?_) (oj := ?_) (by kernel_rfl) ?_ ?_ ?_ ?_; rotate_left 2; (simp only [xgA, xgB, xgC]; rfl); (simp only [xgA, xgB, xgC]; rfl); all_goals intro K hK)
  ·go_simp
   refine (C1.out M0 wd (hMd.ext (Ext.refl wd)) (fun g hg => .inl hg) (Ext.refl wd)).mono ?_
   rintro e v1 ⟨p1, rfl, hp1, d1⟩
   go_wp2_with (fail)
   have e1 : Ext wd v1 := ((Ext.refl wd)).trans d1
   try clear hSn
   have hSn := hHeld.ext e1
   refine hK.out _ _ (fun _ => hSn) ?_
   clear hK K
   (try simp only [Act.put, xgD, xgE, xgF])
   (refine wpAnyU_two 3 12 (oi := ?_) (oj := ?_) (by kernel_rfl) ?_ ?_ ?_ ?_; rotate_left 2; (simp only [xgA, xgB, xgC]; rfl); (simp only [xgA, xgB, xgC]; rfl); all_goals intro K hK)
   ·go_simp
    refine (C3.out M0 v1 (hMd.ext e1) (fun g hg => .inl hg) e1).mono ?_
    rintro e v2 ⟨p2, rfl, hp2, d2⟩
    go_wp2_with (fail)
    have e2 : Ext wd v2 := (e1).trans d2
    try clear hSn
    have hSn := hHeld.ext e2
    refine hK.out _ _ (fun _ => hSn) ?_
    clear hK K
    (try simp only [Act.put, xgD, xgE, xgF])
    (refine wpAnyU_two 4 12 (oi := ?_) (oj := ?_) (by kernel_rfl) ?_ ?_ ?_ ?_; rotate_left 2; (simp only [xgA, xgB, xgC]; rfl); (simp only [xgA, xgB, xgC]; rfl); all_goals intro K hK)
    ·go_simp
     refine (C4.out M0 v2 p1 p2 (hMd.ext e2) ((hp1).ext d2) (hp2)).mono ?_
     rintro e v3 ⟨p3, rfl, hp3, d3⟩
     go_wp2_with (fail)
     have e3 : Ext wd v3 := (e2).trans d3
     try clear hSn
     have hSn := hHeld.ext e3
     refine hK.out _ _ (fun _ => hSn) ?_
     clear hK K
     (try simp only [Act.put, xgD, xgE, xgF])
     (refine wpAnyU_two 7 12 (oi := ?_) (oj := ?_) (by kernel_rfl) ?_ ?_ ?_ ?_; rotate_left 2; (simp only [xgA, xgB, xgC]; rfl); (simp only [xgA, xgB, xgC]; rfl); all_goals intro K hK)
     ·go_simp
      refine (C7.out M0 v3 (hMd.ext e3) (fun g hg => .inl hg) e3).mono ?_
      rintro e v4 ⟨p4, rfl, hp4, d4⟩
      go_wp2_with (fail)
      have e4 : Ext wd v4 := (e3).trans d4
      try clear hSn
      have hSn := hHeld.ext e4
      refine hK.out _ _ (fun _ => hSn) ?_
      clear hK K
      (try simp only [Act.put, xgD, xgE, xgF])
      (refine wpAnyU_two 8 12 (oi := ?_) (oj := ?_) (by kernel_rfl) ?_ ?_ ?_ ?_; rotate_left 2; (simp only [xgA, xgB, xgC]; rfl); (simp only [xgA, xgB, xgC]; rfl); all_goals intro K hK)
      ·go_simp
       refine (C8.out M0 v4 p3 p4 (hMd.ext e4) ((hp3).ext d4) (hp4)).mono ?_
       rintro e v5 ⟨v, rfl, hv, d5⟩
       go_wp2_with (fail)
       have e5 : Ext wd v5 := (e4).trans d5
       try clear hSn
       have hSn := hHeld.ext e5
       refine hK.out _ _ (fun _ => hSn) ?_
       clear hK K
       (try simp only [Act.put, xgD, xgE, xgF])
       (refine tkB [9, 10, 11] ?_; (iterate 3 (refine tk1 (oi := ?_) (v := ?_) (by kernel_rfl) (by first | exact hSn | exact hHeld) ?_ ?_ ?_ ?_ ?_; rotate_left 2; (simp only [xgA, xgB, xgC]; rfl); rfl; (intro wS hSw; obtain ⟨⟨S1, S2, S3, S4⟩, S5, S6, S7, S8⟩ := hSw; go_simp; try with_reducible rfl); (exact fun _ _ _ h => h); (try simp only [Act.put, xgD, xgE, xgF]))); refine tkE ?_)
       (refine wpAnyU_one 12 (o := ?_) (by kernel_rfl) ?_ ?_; rotate_left 1; (simp only [xgA, xgB, xgC]; rfl); intro K hK)
       go_simp
       have hSn2 := hSn.ext ((Ext.refl v5).alloc (.cells zA 33))
       have hSn3 := hSn.ext ((Ext.refl v5).alloc (.cells (peA v) 33))
       clear hSn
       refine hK.out _ _ (fun _ => hSn2) ?_
       clear hK K
       (try simp only [Act.put, xgD, xgE, xgF])
       (refine wpAnyU_one 13 (o := ?_) (by kernel_rfl) ?_ ?_; rotate_left 1; (simp only [xgA, xgB, xgC]; rfl); intro K hK)
       go_simp
       refine hK.out _ _ (fun _ => hSn3) ?_
       clear hK K
       (try simp only [Act.put, xgD, xgE, xgF])
       ((refine wpAnyU_one 14 (o := ?_) (by kernel_rfl) ?_ ?_; rotate_left 1; (simp only [xgA, xgB, xgC]; rfl); intro K hK); go_simp; (refine hK.out _ _ (fun h => absurd rfl h) ?_); clear hK K; refine wpAnyU_done (by kernel_rfl) ?_ _)
       go_wp2_with (fail)
       go_meet
       exact ⟨v5.heap.size, v, rfl, rfl, (Blk.of_arr v5 (peA v) 33 4 rfl).p4, hv.ext ((Ext.refl v5).alloc _), (e5).alloc _⟩
      ·go_simp
       have ea5 : Ext v4 (v4.alloc (.cells zA 33)) := (Ext.refl _).alloc _
       have hb5 := Blk.of_arr v4 zA 33 4 rfl
       have e5 : Ext wd (v4.alloc (.cells zA 33)) := (e4).trans ea5
       try clear hSn
       have hSn := hHeld.ext e5
       refine hK.out _ _ (fun _ => hSn) ?_
       clear hK K
       (try simp only [Act.put, xgD, xgE, xgF])
       (refine wpAnyU_one 8 (o := ?_) (by kernel_rfl) ?_ ?_; rotate_left 1; (simp only [xgA, xgB, xgC]; rfl); intro K hK)
       go_simp
       refine (C8.out (fun g => M0 g ∨ g = v4.heap.size) (v4.alloc (.cells zA 33)) p3 p4 ((mb_or (hMd.ext e4) (.cells zA 33)).ext (Ext.refl (v4.alloc (.cells zA 33)))) ((((hp3).ext d4).more (M' := fun g => M0 g ∨ g = v4.heap.size) (fun g hg => hg.imp id fun (h : g = v4.heap.size) => Nat.le_of_eq h.symm)).ext ea5) (((hp4).more (M' := fun g => M0 g ∨ g = v4.heap.size) (fun g hg => hg.imp id fun (h : g = v4.heap.size) => Nat.le_of_eq h.symm)).ext ea5)).mono ?_
       rintro e v6 ⟨v, rfl, hv, d6⟩
       go_wp2_with (fail)
       have e6 : Ext wd v6 := (e5).trans d6
       have hb6 := (hb5).ext d6
       try clear hSn
       have hSn := hHeld.ext e6
       refine hK.out _ _ (fun _ => hSn) ?_
       clear hK K
       (try simp only [Act.put, xgD, xgE, xgF])
       (refine tkB [9, 10, 11] ?_; (iterate 3 (refine tk1 (oi := ?_) (v := ?_) (by kernel_rfl) (by first | exact hSn | exact hHeld) ?_ ?_ ?_ ?_ ?_; rotate_left 2; (simp only [xgA, xgB, xgC]; rfl); rfl; (intro wS hSw; obtain ⟨⟨S1, S2, S3, S4⟩, S5, S6, S7, S8⟩ := hSw; go_simp; try with_reducible rfl); (exact fun _ _ _ h => h); (try simp only [Act.put, xgD, xgE, xgF]))); refine tkE ?_)
       obtain ⟨⟨q0, q1, q2, q3⟩, ⟨f0, f1, f2, f3⟩, hrr, hkp, hext⟩ := fin4 (M' := fun g => M0 g ∨ g = v4.heap.size) (w := wd) (.int .i64 v.lv) (.bool v.b) (.slice v.a v.n v.p) (.slice v.ka v.kn v.kp) (hb6) (.inr rfl) (e4).size (e6)
       simp only [arr] at q0 q1 q2 q3
       (refine wpAnyU_one 13 (o := ?_) (by kernel_rfl) ?_ ?_; rotate_left 1; (simp only [xgA, xgB, xgC]; rfl); intro K hK)
       go_simp
       have hSn3 := hHeld.ext hext
       clear hSn
       refine hK.out _ _ (fun _ => hSn3) ?_
       clear hK K
       (try simp only [Act.put, xgD, xgE, xgF])
       ((refine wpAnyU_one 14 (o := ?_) (by kernel_rfl) ?_ ?_; rotate_left 1; (simp only [xgA, xgB, xgC]; rfl); intro K hK); go_simp; (refine hK.out _ _ (fun h => absurd rfl h) ?_); clear hK K; refine wpAnyU_done (by kernel_rfl) ?_ _)
       go_wp2_with (fail)
       go_meet
       exact ⟨v4.heap.size, v, rfl, rfl, hrr, (hv.kp hkp).more (fun g hg => .inl (.inl hg)), hext⟩
     ·go_simp
      have ea4 : Ext v3 (v3.alloc (.cells zA 33)) := (Ext.refl _).alloc _
      have hb4 := Blk.of_arr v3 zA 33 4 rfl
      have e4 : Ext wd (v3.alloc (.cells zA 33)) := (e3).trans ea4
      try clear hSn
      have hSn := hHeld.ext e4
      refine hK.out _ _ (fun _ => hSn) ?_
      clear hK K
      (try simp only [Act.put, xgD, xgE, xgF])
      (refine wpAnyU_one 7 (o := ?_) (by kernel_rfl) ?_ ?_; rotate_left 1; (simp only [xgA, xgB, xgC]; rfl); intro K hK)
      go_simp
      refine (C7.out (fun g => M0 g ∨ g = v3.heap.size) (v3.alloc (.cells zA 33)) ((mb_or (hMd.ext e3) (.cells zA 33)).ext (Ext.refl (v3.alloc (.cells zA 33)))) (fun g hg => hg.imp id fun h => by rw [h]; exact e3.size) e4).mono ?_
      rintro e v5 ⟨p4, rfl, hp4, d5⟩
      go_wp2_with (fail)
      have e5 : Ext wd v5 := (e4).trans d5
      have hb5 := (hb4).ext d5
      try clear hSn
      have hSn := hHeld.ext e5
      refine hK.out _ _ (fun _ => hSn) ?_
      clear hK K
      (try simp only [Act.put, xgD, xgE, xgF])
      (refine wpAnyU_one 8 (o := ?_) (by kernel_rfl) ?_ ?_; rotate_left 1; (simp only [xgA, xgB, xgC]; rfl); intro K hK)
      go_simp
      refine (C8.out (fun g => M0 g ∨ g = v3.heap.size) v5 p3 p4 ((mb_or (hMd.ext e3) (.cells zA 33)).ext (((Ext.refl (v3.alloc (.cells zA 33)))).trans d5)) ((((hp3).more (M' := fun g => M0 g ∨ g = v3.heap.size) (fun g hg => hg.imp id fun (h : g = v3.heap.size) => Nat.le_of_eq h.symm)).ext ea4).ext d5) (hp4)).mono ?_
      rintro e v6 ⟨v, rfl, hv, d6⟩
      go_wp2_with (fail)
      have e6 : Ext wd v6 := (e5).trans d6
      have hb6 := (hb5).ext d6
      try clear hSn
      have hSn := hHeld.ext e6
      refine hK.out _ _ (fun _ => hSn) ?_
      clear hK K
      (try simp only [Act.put, xgD, xgE, xgF])
      (refine tkB [9, 10, 11] ?_; (iterate 3 (refine tk1 (oi := ?_) (v := ?_) (by kernel_rfl) (by first | exact hSn | exact hHeld) ?_ ?_ ?_ ?_ ?_; rotate_left 2; (simp only [xgA, xgB, xgC]; rfl); rfl; (intro wS hSw; obtain ⟨⟨S1, S2, S3, S4⟩, S5, S6, S7, S8⟩ := hSw; go_simp; try with_reducible rfl); (exact fun _ _ _ h => h); (try simp only [Act.put, xgD, xgE, xgF]))); refine tkE ?_)
      obtain ⟨⟨q0, q1, q2, q3⟩, ⟨f0, f1, f2, f3⟩, hrr, hkp, hext⟩ := fin4 (M' := fun g => M0 g ∨ g = v3.heap.size) (w := wd) (.int .i64 v.lv) (.bool v.b) (.slice v.a v.n v.p) (.slice v.ka v.kn v.kp) (hb6) (.inr rfl) (e3).size (e6)
      simp only [arr] at q0 q1 q2 q3
      (refine wpAnyU_one 13 (o := ?_) (by kernel_rfl) ?_ ?_; rotate_left 1; (simp only [xgA, xgB, xgC]; rfl); intro K hK)
      go_simp
      have hSn3 := hHeld.ext hext
      clear hSn
      refine hK.out _ _ (fun _ => hSn3) ?_
      clear hK K
      (try simp only [Act.put, xgD, xgE, xgF])
      ((refine wpAnyU_one 14 (o := ?_) (by kernel_rfl) ?_ ?_; rotate_left 1; (simp only [xgA, xgB, xgC]; rfl); intro K hK); go_simp; (refine hK.out _ _ (fun h => absurd rfl h) ?_); clear hK K; refine wpAnyU_done (by kernel_rfl) ?_ _)
      go_wp2_with (fail)
      go_meet
      exact ⟨v3.heap.size, v, rfl, rfl, hrr, (hv.kp hkp).more (fun g hg => .inl (.inl hg)), hext⟩
    ·go_simp
     have ea3 : Ext v2 (v2.alloc (.cells zA 33)) := (Ext.refl _).alloc _
     have hb3 := Blk.of_arr v2 zA 33 4 rfl
     have e3 : Ext wd (v2.alloc (.cells zA 33)) := (e2).trans ea3
     try clear hSn
     have hSn := hHeld.ext e3
     refine hK.out _ _ (fun _ => hSn) ?_
     clear hK K
     (try simp only [Act.put, xgD, xgE, xgF])
     (refine wpAnyU_one 4 (o := ?_) (by kernel_rfl) ?_ ?_; rotate_left 1; (simp only [xgA, xgB, xgC]; rfl); intro K hK)
     go_simp
     refine (C4.out (fun g => M0 g ∨ g = v2.heap.size) (v2.alloc (.cells zA 33)) p1 p2 ((mb_or (hMd.ext e2) (.cells zA 33)).ext (Ext.refl (v2.alloc (.cells zA 33)))) ((((hp1).ext d2).more (M' := fun g => M0 g ∨ g = v2.heap.size) (fun g hg => hg.imp id fun (h : g = v2.heap.size) => Nat.le_of_eq h.symm)).ext ea3) (((hp2).more (M' := fun g => M0 g ∨ g = v2.heap.size) (fun g hg => hg.imp id fun (h : g = v2.heap.size) => Nat.le_of_eq h.symm)).ext ea3)).mono ?_
     rintro e v4 ⟨p3, rfl, hp3, d4⟩
     go_wp2_with (fail)
     have e4 : Ext wd v4 := (e3).trans d4
     have hb4 := (hb3).ext d4
     try clear hSn
     have hSn := hHeld.ext e4
     refine hK.out _ _ (fun _ => hSn) ?_
     clear hK K
     (try simp only [Act.put, xgD, xgE, xgF])
     (refine wpAnyU_one 7 (o := ?_) (by kernel_rfl) ?_ ?_; rotate_left 1; (simp only [xgA, xgB, xgC]; rfl); intro K hK)
     go_simp
     refine (C7.out (fun g => M0 g ∨ g = v2.heap.size) v4 ((mb_or (hMd.ext e2) (.cells zA 33)).ext (((Ext.refl (v2.alloc (.cells zA 33)))).trans d4)) (fun g hg => hg.imp id fun h => by rw [h]; exact e2.size) e4).mono ?_
     rintro e v5 ⟨p4, rfl, hp4, d5⟩
     go_wp2_with (fail)
     have e5 : Ext wd v5 := (e4).trans d5
     have hb5 := (hb4).ext d5
     try clear hSn
     have hSn := hHeld.ext e5
     refine hK.out _ _ (fun _ => hSn) ?_
     clear hK K
     (try simp only [Act.put, xgD, xgE, xgF])
     (refine wpAnyU_one 8 (o := ?_) (by kernel_rfl) ?_ ?_; rotate_left 1; (simp only [xgA, xgB, xgC]; rfl); intro K hK)
     go_simp
     refine (C8.out (fun g => M0 g ∨ g = v2.heap.size) v5 p3 p4 ((mb_or (hMd.ext e2) (.cells zA 33)).ext (((((Ext.refl (v2.alloc (.cells zA 33)))).trans d4)).trans d5)) ((hp3).ext d5) (hp4)).mono ?_
     rintro e v6 ⟨v, rfl, hv, d6⟩
     go_wp2_with (fail)
     have e6 : Ext wd v6 := (e5).trans d6
     have hb6 := (hb5).ext d6
     try clear hSn
     have hSn := hHeld.ext e6
     refine hK.out _ _ (fun _ => hSn) ?_
     clear hK K
     (try simp only [Act.put, xgD, xgE, xgF])
     (refine tkB [9, 10, 11] ?_; (iterate 3 (refine tk1 (oi := ?_) (v := ?_) (by kernel_rfl) (by first | exact hSn | exact hHeld) ?_ ?_ ?_ ?_ ?_; rotate_left 2; (simp only [xgA, xgB, xgC]; rfl); rfl; (intro wS hSw; obtain ⟨⟨S1, S2, S3, S4⟩, S5, S6, S7, S8⟩ := hSw; go_simp; try with_reducible rfl); (exact fun _ _ _ h => h); (try simp only [Act.put, xgD, xgE, xgF]))); refine tkE ?_)
     obtain ⟨⟨q0, q1, q2, q3⟩, ⟨f0, f1, f2, f3⟩, hrr, hkp, hext⟩ := fin4 (M' := fun g => M0 g ∨ g = v2.heap.size) (w := wd) (.int .i64 v.lv) (.bool v.b) (.slice v.a v.n v.p) (.slice v.ka v.kn v.kp) (hb6) (.inr rfl) (e2).size (e6)
     simp only [arr] at q0 q1 q2 q3
     (refine wpAnyU_one 13 (o := ?_) (by kernel_rfl) ?_ ?_; rotate_left 1; (simp only [xgA, xgB, xgC]; rfl); intro K hK)
     go_simp
     have hSn3 := hHeld.ext hext
     clear hSn
     refine hK.out _ _ (fun _ => hSn3) ?_
     clear hK K
     (try simp only [Act.put, xgD, xgE, xgF])
     ((refine wpAnyU_one 14 (o := ?_) (by kernel_rfl) ?_ ?_; rotate_left 1; (simp only [xgA, xgB, xgC]; rfl); intro K hK); go_simp; (refine hK.out _ _ (fun h => absurd rfl h) ?_); clear hK K; refine wpAnyU_done (by kernel_rfl) ?_ _)
     go_wp2_with (fail)
     go_meet
     exact ⟨v2.heap.size, v, rfl, rfl, hrr, (hv.kp hkp).more (fun g hg => .inl (.inl hg)), hext⟩
   ·go_simp
    have ea2 : Ext v1 (v1.alloc (.cells zA 33)) := (Ext.refl _).alloc _
    have hb2 := Blk.of_arr v1 zA 33 4 rfl
    have e2 : Ext wd (v1.alloc (.cells zA 33)) := (e1).trans ea2
    try clear hSn
    have hSn := hHeld.ext e2
    refine hK.out _ _ (fun _ => hSn) ?_
    clear hK K
    (try simp only [Act.put, xgD, xgE, xgF])
    (refine wpAnyU_one 3 (o := ?_) (by kernel_rfl) ?_ ?_; rotate_left 1; (simp only [xgA, xgB, xgC]; rfl); intro K hK)
    go_simp
    refine (C3.out (fun g => M0 g ∨ g = v1.heap.size) (v1.alloc (.cells zA 33)) ((mb_or (hMd.ext e1) (.cells zA 33)).ext (Ext.refl (v1.alloc (.cells zA 33)))) (fun g hg => hg.imp id fun h => by rw [h]; exact e1.size) e2).mono ?_
    rintro e v3 ⟨p2, rfl, hp2, d3⟩
    go_wp2_with (fail)
    have e3 : Ext wd v3 := (e2).trans d3
    have hb3 := (hb2).ext d3
    try clear hSn
    have hSn := hHeld.ext e3
    refine hK.out _ _ (fun _ => hSn) ?_
    clear hK K
    (try simp only [Act.put, xgD, xgE, xgF])
    (refine wpAnyU_one 4 (o := ?_) (by kernel_rfl) ?_ ?_; rotate_left 1; (simp only [xgA, xgB, xgC]; rfl); intro K hK)
    go_simp
    refine (C4.out (fun g => M0 g ∨ g = v1.heap.size) v3 p1 p2 ((mb_or (hMd.ext e1) (.cells zA 33)).ext (((Ext.refl (v1.alloc (.cells zA 33)))).trans d3)) ((((hp1).more (M' := fun g => M0 g ∨ g = v1.heap.size) (fun g hg => hg.imp id fun (h : g = v1.heap.size) => Nat.le_of_eq h.symm)).ext ea2).ext d3) (hp2)).mono ?_
    rintro e v4 ⟨p3, rfl, hp3, d4⟩
    go_wp2_with (fail)
    have e4 : Ext wd v4 := (e3).trans d4
    have hb4 := (hb3).ext d4
    try clear hSn
    have hSn := hHeld.ext e4
    refine hK.out _ _ (fun _ => hSn) ?_
    clear hK K
    (try simp only [Act.put, xgD, xgE, xgF])
    (refine wpAnyU_one 7 (o := ?_) (by kernel_rfl) ?_ ?_; rotate_left 1; (simp only [xgA, xgB, xgC]; rfl); intro K hK)
    go_simp
    refine (C7.out (fun g => M0 g ∨ g = v1.heap.size) v4 ((mb_or (hMd.ext e1) (.cells zA 33)).ext (((((Ext.refl (v1.alloc (.cells zA 33)))).trans d3)).trans d4)) (fun g hg => hg.imp id fun h => by rw [h]; exact e1.size) e4).mono ?_
    rintro e v5 ⟨p4, rfl, hp4, d5⟩
    go_wp2_with (fail)
    have e5 : Ext wd v5 := (e4).trans d5
    have hb5 := (hb4).ext d5
    try clear hSn
    have hSn := hHeld.ext e5
    refine hK.out _ _ (fun _ => hSn) ?_
    clear hK K
    (try simp only [Act.put, xgD, xgE, xgF])
    (refine wpAnyU_one 8 (o := ?_) (by kernel_rfl) ?_ ?_; rotate_left 1; (simp only [xgA, xgB, xgC]; rfl); intro K hK)
    go_simp
    refine (C8.out (fun g => M0 g ∨ g = v1.heap.size) v5 p3 p4 ((mb_or (hMd.ext e1) (.cells zA 33)).ext (((((((Ext.refl (v1.alloc (.cells zA 33)))).trans d3)).trans d4)).trans d5)) ((hp3).ext d5) (hp4)).mono ?_
    rintro e v6 ⟨v, rfl, hv, d6⟩
    go_wp2_with (fail)
    have e6 : Ext wd v6 := (e5).trans d6
    have hb6 := (hb5).ext d6
    try clear hSn
    have hSn := hHeld.ext e6
    refine hK.out _ _ (fun _ => hSn) ?_
    clear hK K
    (try simp only [Act.put, xgD, xgE, xgF])
    (refine tkB [9, 10, 11] ?_; (iterate 3 (refine tk1 (oi := ?_) (v := ?_) (by kernel_rfl) (by first | exact hSn | exact hHeld) ?_ ?_ ?_ ?_ ?_; rotate_left 2; (simp only [xgA, xgB, xgC]; rfl); rfl; (intro wS hSw; obtain ⟨⟨S1, S2, S3, S4⟩, S5, S6, S7, S8⟩ := hSw; go_simp; try with_reducible rfl); (exact fun _ _ _ h => h); (try simp only [Act.put, xgD, xgE, xgF]))); refine tkE ?_)
    obtain ⟨⟨q0, q1, q2, q3⟩, ⟨f0, f1, f2, f3⟩, hrr, hkp, hext⟩ := fin4 (M' := fun g => M0 g ∨ g = v1.heap.size) (w := wd) (.int .i64 v.lv) (.bool v.b) (.slice v.a v.n v.p) (.slice v.ka v.kn v.kp) (hb6) (.inr rfl) (e1).size (e6)
    simp only [arr] at q0 q1 q2 q3
    (refine wpAnyU_one 13 (o := ?_) (by kernel_rfl) ?_ ?_; rotate_left 1; (simp only [xgA, xgB, xgC]; rfl); intro K hK)
    go_simp
    have hSn3 := hHeld.ext hext
    clear hSn
    refine hK.out _ _ (fun _ => hSn3) ?_
    clear hK K
    (try simp only [Act.put, xgD, xgE, xgF])
    ((refine wpAnyU_one 14 (o := ?_) (by kernel_rfl) ?_ ?_; rotate_left 1; (simp only [xgA, xgB, xgC]; rfl); intro K hK); go_simp; (refine hK.out _ _ (fun h => absurd rfl h) ?_); clear hK K; refine wpAnyU_done (by kernel_rfl) ?_ _)
    go_wp2_with (fail)
    go_meet
    exact ⟨v1.heap.size, v, rfl, rfl, hrr, (hv.kp hkp).more (fun g hg => .inl (.inl hg)), hext⟩
  ·go_simp
   have ea1 : Ext wd (wd.alloc (.cells zA 33)) := (Ext.refl _).alloc _
   have hb1 := Blk.of_arr wd zA 33 4 rfl
   have e1 : Ext wd (wd.alloc (.cells zA 33)) := ((Ext.refl wd)).trans ea1
   try clear hSn
   have hSn := hHeld.ext e1
   refine hK.out _ _ (fun _ => hSn) ?_
   clear hK K
   (try simp only [Act.put, xgD, xgE, xgF])
   (refine wpAnyU_one 1 (o := ?_) (by kernel_rfl) ?_ ?_; rotate_left 1; (simp only [xgA, xgB, xgC]; rfl); intro K hK)
   go_simp
   refine (C1.out (fun g => M0 g ∨ g = wd.heap.size) (wd.alloc (.cells zA 33)) ((mb_or (hMd.ext (Ext.refl wd)) (.cells zA 33)).ext (Ext.refl (wd.alloc (.cells zA 33)))) (fun g hg => hg.imp id fun h => by rw [h]; exact (Ext.refl wd).size) e1).mono ?_
   rintro e v2 ⟨p1, rfl, hp1, d2⟩
   go_wp2_with (fail)
   have e2 : Ext wd v2 := (e1).trans d2
   have hb2 := (hb1).ext d2
   try clear hSn
   have hSn := hHeld.ext e2
   refine hK.out _ _ (fun _ => hSn) ?_
   clear hK K
   (try simp only [Act.put, xgD, xgE, xgF])
   (refine wpAnyU_one 3 (o := ?_) (by kernel_rfl) ?_ ?_; rotate_left 1; (simp only [xgA, xgB, xgC]; rfl); intro K hK)
   go_simp
   refine (C3.out (fun g => M0 g ∨ g = wd.heap.size) v2 ((mb_or (hMd.ext (Ext.refl wd)) (.cells zA 33)).ext (((Ext.refl (wd.alloc (.cells zA 33)))).trans d2)) (fun g hg => hg.imp id fun h => by rw [h]; exact (Ext.refl wd).size) e2).mono ?_
   rintro e v3 ⟨p2, rfl, hp2, d3⟩
   go_wp2_with (fail)
   have e3 : Ext wd v3 := (e2).trans d3
   have hb3 := (hb2).ext d3
   try clear hSn
   have hSn := hHeld.ext e3
   refine hK.out _ _ (fun _ => hSn) ?_
   clear hK K
   (try simp only [Act.put, xgD, xgE, xgF])
   (refine wpAnyU_one 4 (o := ?_) (by kernel_rfl) ?_ ?_; rotate_left 1; (simp only [xgA, xgB, xgC]; rfl); intro K hK)
   go_simp
   refine (C4.out (fun g => M0 g ∨ g = wd.heap.size) v3 p1 p2 ((mb_or (hMd.ext (Ext.refl wd)) (.cells zA 33)).ext (((((Ext.refl (wd.alloc (.cells zA 33)))).trans d2)).trans d3)) ((hp1).ext d3) (hp2)).mono ?_
   rintro e v4 ⟨p3, rfl, hp3, d4⟩
   go_wp2_with (fail)
   have e4 : Ext wd v4 := (e3).trans d4
   have hb4 := (hb3).ext d4
   try clear hSn
   have hSn := hHeld.ext e4
   refine hK.out _ _ (fun _ => hSn) ?_
   clear hK K
   (try simp only [Act.put, xgD, xgE, xgF])
   (refine wpAnyU_one 7 (o := ?_) (by kernel_rfl) ?_ ?_; rotate_left 1; (simp only [xgA, xgB, xgC]; rfl); intro K hK)
   go_simp
   refine (C7.out (fun g => M0 g ∨ g = wd.heap.size) v4 ((mb_or (hMd.ext (Ext.refl wd)) (.cells zA 33)).ext (((((((Ext.refl (wd.alloc (.cells zA 33)))).trans d2)).trans d3)).trans d4)) (fun g hg => hg.imp id fun h => by rw [h]; exact (Ext.refl wd).size) e4).mono ?_
   rintro e v5 ⟨p4, rfl, hp4, d5⟩
   go_wp2_with (fail)
   have e5 : Ext wd v5 := (e4).trans d5
   have hb5 := (hb4).ext d5
   try clear hSn
   have hSn := hHeld.ext e5
   refine hK.out _ _ (fun _ => hSn) ?_
   clear hK K
   (try simp only [Act.put, xgD, xgE, xgF])
   (refine wpAnyU_one 8 (o := ?_) (by kernel_rfl) ?_ ?_; rotate_left 1; (simp only [xgA, xgB, xgC]; rfl); intro K hK)
   go_simp
   refine (C8.out (fun g => M0 g ∨ g = wd.heap.size) v5 p3 p4 ((mb_or (hMd.ext (Ext.refl wd)) (.cells zA 33)).ext (((((((((Ext.refl (wd.alloc (.cells zA 33)))).trans d2)).trans d3)).trans d4)).trans d5)) ((hp3).ext d5) (hp4)).mono ?_
   rintro e v6 ⟨v, rfl, hv, d6⟩
   go_wp2_with (fail)
   have e6 : Ext wd v6 := (e5).trans d6
   have hb6 := (hb5).ext d6
   try clear hSn
   have hSn := hHeld.ext e6
   refine hK.out _ _ (fun _ => hSn) ?_
   clear hK K
   (try simp only [Act.put, xgD, xgE, xgF])
   (refine tkB [9, 10, 11] ?_; (iterate 3 (refine tk1 (oi := ?_) (v := ?_) (by kernel_rfl) (by first | exact hSn | exact hHeld) ?_ ?_ ?_ ?_ ?_; rotate_left 2; (simp only [xgA, xgB, xgC]; rfl); rfl; (intro wS hSw; obtain ⟨⟨S1, S2, S3, S4⟩, S5, S6, S7, S8⟩ := hSw; go_simp; try with_reducible rfl); (exact fun _ _ _ h => h); (try simp only [Act.put, xgD, xgE, xgF]))); refine tkE ?_)
   obtain ⟨⟨q0, q1, q2, q3⟩, ⟨f0, f1, f2, f3⟩, hrr, hkp, hext⟩ := fin4 (M' := fun g => M0 g ∨ g = wd.heap.size) (w := wd) (.int .i64 v.lv) (.bool v.b) (.slice v.a v.n v.p) (.slice v.ka v.kn v.kp) (hb6) (.inr rfl) ((Ext.refl wd)).size (e6)
   simp only [arr] at q0 q1 q2 q3
   (refine wpAnyU_one 13 (o := ?_) (by kernel_rfl) ?_ ?_; rotate_left 1; (simp only [xgA, xgB, xgC]; rfl); intro K hK)
   go_simp
   have hSn3 := hHeld.ext hext
   clear hSn
   refine hK.out _ _ (fun _ => hSn3) ?_
   clear hK K
   (try simp only [Act.put, xgD, xgE, xgF])
   ((refine wpAnyU_one 14 (o := ?_) (by kernel_rfl) ?_ ?_; rotate_left 1; (simp only [xgA, xgB, xgC]; rfl); intro K hK); go_simp; (refine hK.out _ _ (fun h => absurd rfl h) ?_); clear hK K; refine wpAnyU_done (by kernel_rfl) ?_ _)
   go_wp2_with (fail)
   go_meet
   exact ⟨wd.heap.size, v, rfl, rfl, hrr, (hv.kp hkp).more (fun g hg => .inl (.inl hg)), hext⟩
 case rest =>
  obtain ⟨gc, v, rfl, rfl, hv, hc, heC⟩ := hcut
  have he5 : Ext W wc := (Ext.refl W).drew.trans heC
  have HX5 := Lib.hid ((HX.out.ext he5).ext (Ext.refl wc).drew)
  have HY5 := Lib.hid ((HY.out.ext he5).ext (Ext.refl wc).drew)
  have HV5 := Lib.hid (hc.ext (Ext.refl wc).drew)
  have HE5 := Lib.hid ((HE.out.trans he5).trans (Ext.refl wc).drew)
  have HS5 : Hid (SF3 w2.heap.size (w2.heap.size + 1) gc x y v wc.drew) := SF3.ext ⟨HS0.out.1.ext he5, HS0.out.2.ext he5, hv⟩ (Ext.refl wc).drew
  clear hv hc heC he5 HX HY HE HS0
  go_upto_region 3 with (fail)
  refine wp_region_u (SF3 w2.heap.size (w2.heap.size + 1) gc x y v) 22 (by kernel_rfl) HS5.out (fun hHeld => ?_)
  clear HS5
  generalize wc.drew = wd at *
  (refine tkB [0, 1, 2, 3, 4, 5] ?_; (iterate 6 (refine tk1 (oi := ?_) (v := ?_) (by kernel_rfl) (by first | exact hSn | exact hHeld) ?_ ?_ ?_ ?_ ?_; rotate_left 2; (simp only [xgA, xgB, xgC]; rfl); rfl; (intro wS hSw; obtain ⟨⟨S1, S2, S3, S4⟩, ⟨S5, S6, S7, S8⟩, S9, S10, S11, S12⟩ := hSw; go_simp; try with_reducible rfl); (exact fun _ _ _ h => h); (try simp only [Act.put, xgD, xgE, xgF]))); refine tkE ?_)
  ((refine wpAnyU_one 6 (o := ?_) (by kernel_rfl) ?_ ?_; rotate_left 1; (simp only [xgA, xgB, xgC]; rfl); intro K hK); go_simp; (refine (rp_Sub M0 x y (varL 1) (varL 2) 1 wd (mb0 _) HX5.out.pi HY5.out.pi (by decide) (by decide) (deg_var 2) (by decide)).mono ?_); rintro e_ wz ⟨z6, rfl, hz6, he6⟩; go_wp2_with (fail); (try clear hSn); (have hSn := hHeld.ext he6); (refine hK.out _ _ (fun _ => hSn) ?_); clear hK K; (try simp only [Act.put, xgD, xgE, xgF]))
  ((refine wpAnyU_one 7 (o := ?_) (by kernel_rfl) ?_ ?_; rotate_left 1; (simp only [xgA, xgB, xgC]; rfl); intro K hK); go_simp; (refine (rp_Same M0 v z6 fQ fQ _ (mb0 _) (HV5.out.ext he6).pi hz6.pi).mono ?_); rintro e_ wz ⟨b7, rfl, hb7, he7⟩; go_wp2_with (fail); (try clear hSn); (have hSn := hHeld.ext (he6.trans he7)); (refine hK.out _ _ (fun _ => hSn) ?_); clear hK K; (try simp only [Act.put, xgD, xgE, xgF]))
  obtain rfl : b7 = true := hb7.2 (Sim.refl _)
  clear hb7
  (refine tkB [8, 9, 10, 11, 12] ?_; (iterate 5 (refine tk1 (oi := ?_) (v := ?_) (by kernel_rfl) (by first | exact hSn | exact hHeld) ?_ ?_ ?_ ?_ ?_; rotate_left 2; (simp only [xgA, xgB, xgC]; rfl); rfl; (intro wS hSw; obtain ⟨⟨S1, S2, S3, S4⟩, ⟨S5, S6, S7, S8⟩, S9, S10, S11, S12⟩ := hSw; go_simp; try with_reducible rfl); (exact fun _ _ _ h => h); (try simp only [Act.put, xgD, xgE, xgF]))); refine tkE ?_)
  ((refine wpAnyU_one 13 (o := ?_) (by kernel_rfl) ?_ ?_; rotate_left 1; (simp only [xgA, xgB, xgC]; rfl); intro K hK); go_simp; (refine (rp_Mul M0 x y (varL 1) (varL 2) 1 1 _ (mb0 _) (HX5.out.ext (he6.trans he7)).pi (HY5.out.ext (he6.trans he7)).pi (by decide) (deg_var 1) (deg_var 2) (by decide)).mono ?_); rintro e_ wz ⟨z13, rfl, hz13, he13⟩; go_wp2_with (fail); (try clear hSn); (have hSn := hHeld.ext ((he6.trans he7).trans he13)); (refine hK.out _ _ (fun _ => hSn) ?_); clear hK K; (try simp only [Act.put, xgD, xgE, xgF]))
  ((refine wpAnyU_one 14 (o := ?_) (by kernel_rfl) ?_ ?_; rotate_left 1; (simp only [xgA, xgB, xgC]; rfl); intro K hK); go_simp; (refine (ps_Divides 1 2 M0 (pmul (varL 1) (varL 2)) (varL 1) (varL 1) x z13 2 2 _ (mb0 _) (HX5.out.ext ((he6.trans he7).trans he13)).pi hz13.pi (x_sn (HX5.out.ext ((he6.trans he7).trans he13))) id (deg_list (nn_of_all (by decide)) (by decide)) (deg_var 1) (by decide) (by decide) f_ok f_num).mono ?_); rintro e_ wz ⟨b14, rfl, _, hb14, he14⟩; go_wp2_with (fail); (try clear hSn); (have hSn := hHeld.ext (((he6.trans he7).trans he13).trans he14)); (refine hK.out _ _ (fun _ => hSn) ?_); clear hK K; (try simp only [Act.put, xgD, xgE, xgF]))
  obtain rfl : b14 = true := (hb14 x_ne).2 f_xy
  clear hb14
  (refine tkB [15, 16, 17, 18] ?_; (iterate 4 (refine tk1 (oi := ?_) (v := ?_) (by kernel_rfl) (by first | exact hSn | exact hHeld) ?_ ?_ ?_ ?_ ?_; rotate_left 2; (simp only [xgA, xgB, xgC]; rfl); rfl; (intro wS hSw; obtain ⟨⟨S1, S2, S3, S4⟩, ⟨S5, S6, S7, S8⟩, S9, S10, S11, S12⟩ := hSw; go_simp; (try simp only [List.getElem?_cons_zero, List.getElem?_cons_succ, Option.getD_some, Sem.run_pure, Result.andThen_ok, if_true]); try with_reducible rfl); (exact fun _ _ _ h => h); (try simp only [Act.put, xgD, xgE, xgF]))); refine tkE ?_)
  ((refine wpAnyU_one 19 (o := ?_) (by kernel_rfl) ?_ ?_; rotate_left 1; (simp only [xgA, xgB, xgC]; rfl); intro K hK); go_simp; (refine (ps_Divides 1 2 M0 (varL 2) (varL 1) (varL 1) x y 2 2 _ (mb0 _) (HX5.out.ext (((he6.trans he7).trans he13).trans he14)).pi (HY5.out.ext (((he6.trans he7).trans he13).trans he14)).pi (x_sn (HX5.out.ext (((he6.trans he7).trans he13).trans he14))) id ((deg_var 2).mono (by omega)) (deg_var 1) (by decide) (by decide) f_ok f_num).mono ?_); rintro e_ wz ⟨b19, rfl, _, hb19, he19⟩; go_wp2_with (fail); (try clear hSn); (have hSn := hHeld.ext ((((he6.trans he7).trans he13).trans he14).trans he19)); (refine hK.out _ _ (fun _ => hSn) ?_); clear hK K; (try simp only [Act.put, xgD, xgE, xgF]))
  obtain rfl : b19 = false := by
   cases b19 with
   | false => rfl
   | true => exact absurd ((hb19 x_ne).1 rfl) f_not
  clear hb19
  (refine tkB [20, 21] ?_; (iterate 2 (refine tk1 (oi := ?_) (v := ?_) (by kernel_rfl) (by first | exact hSn | exact hHeld) ?_ ?_ ?_ ?_ ?_; rotate_left 2; (simp only [xgA, xgB, xgC]; rfl); rfl; (intro wS hSw; obtain ⟨⟨S1, S2, S3, S4⟩, ⟨S5, S6, S7, S8⟩, S9, S10, S11, S12⟩ := hSw; go_simp; (try simp only [List.getElem?_cons_zero, List.getElem?_cons_succ, Option.getD_some, Sem.run_pure, Result.andThen_ok, if_true]); try with_reducible rfl); (exact fun _ _ _ h => h); (try simp only [Act.put, xgD, xgE, xgF]))); refine tkE ?_)
  ((refine wpAnyU_one 22 (o := ?_) (by kernel_rfl) ?_ ?_; rotate_left 1; (simp only [xgA, xgB, xgC]; rfl); intro K hK); go_simp; (refine hK.out _ _ (fun h => absurd rfl h) ?_); clear hK K; refine wpAnyU_done (by kernel_rfl) ?_ _)
  have HFF := Lib.hid (HE5.out.trans ((((he6.trans he7).trans he13).trans he14).trans he19))
  clear he6 he7 he13 he14 he19 hHeld hSn hz6 hz13 HX5 HY5 HV5 HE5
  go_wp2
  go_ret
  exact ⟨rfl, HFF.out⟩
end Go.Proofs.YtjcceddloogiiaaGreat
