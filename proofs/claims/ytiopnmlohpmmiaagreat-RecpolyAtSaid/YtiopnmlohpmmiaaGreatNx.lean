/- rational.Cmp. -/
import Derived.Test.YtiopnmlohpmmiaaGreatNc
set_option linter.unusedVariables false
set_option linter.unusedSimpArgs false

namespace Go.Proofs.YtiopnmlohpmmiaaGreat
open Go.RowKit

set_option maxRecDepth 100000 in
set_option maxHeartbeats 8000000 in
theorem rat_cmp {M : Nat → Prop} (N K : Nat) (r s : RE) (x y : Rat) (w : World) (hM : Mb M w) (h : RatX M w N r x) (h' : RatX M w K s y) (hN : 1 ≤ N) (hK : 1 ≤ K) (hL : N + K + 2 ≤ 1099511627776) :
    Calls Tryz.prog 40 #[.agg (reA r), .agg (reA s)] w (fun e w' => ∃ c : Int, e = .returned (.int .i64 c) ∧ (c = 0 ↔ x = y) ∧ Ext w w') := by
  have hB0 := ((Blk.of_arr w (reA r) 58 3 rfl).alloc (.cells (reA s) 58))
  have hB1 := (Blk.of_arr (w.alloc (.cells (reA r) 58)) (reA s) 58 3 rfl)
  have hE0 : Ext w ((w.alloc (.cells (reA r) 58)).alloc (.cells (reA s) 58)) := (((Ext.refl w).alloc _).alloc _)
  simp only [World.size_alloc] at hB1
  have hM0 : Mb (Mx M w.heap.size (w.heap.size + 2)) ((w.alloc (.cells (reA r) 58)).alloc (.cells (reA s) 58)) := Mx.mb hM (by simp; omega) (by simp)
  have h0 := (h.more (M' := Mx M w.heap.size (w.heap.size + 2)) (Mx.more (Nat.le_refl _))).ext hE0
  have h0' := (h'.more (M' := Mx M w.heap.size (w.heap.size + 2)) (Mx.more (Nat.le_refl _))).ext hE0
  generalize hW0 : (w.alloc (.cells (reA r) 58)).alloc (.cells (reA s) 58) = W0 at *
  have HW0 := Lib.hid hW0
  have HR0 := Lib.hid hB0.r3
  have HR1 := Lib.hid hB1.r3
  have HE0 := Lib.hid hE0
  have HM0 := Lib.hid hM0
  have HI1 := Lib.hid h0'
  have g0 := hB0.lt
  have g1 := hB1.lt
  obtain ⟨c0, c1, c2⟩ := HR0.out
  have CTR := Lib.hid (rat_parts N r x W0 hM0 h0 hN)
  clear h h' hM hW0 hB0 hB1 hE0 hM0 h0 h0'
  go_enter Tryz.func40, Tryz.ntmps40
  go_upto_region 1 with (fail)
  rw [HW0.out]
  go_wp2_with (fail)
  refine CTR.out.mono ?_
  rintro e w1 ⟨nb, na, nn, np, db, da, dn, dp, z, d, rfl, hz, hd, hd0, hzN, hdN, rfl, he1⟩
  clear CTR c0 c1 c2
  go_upto_region 2 with (fail)
  obtain ⟨G, W1, hG, hW1, hC1, hC2, hE1, hGl⟩ := twoBox (HM0.out.ext he1) ⟨nb, na, nn, np⟩ ⟨db, da, dn, dp⟩
  rw [← hW1, ← hG]
  have HC1 := Lib.hid hC1
  have HC2 := Lib.hid hC2
  have HE1 := Lib.hid (he1.trans hE1)
  have HZ := Lib.hid (hz.ext hE1)
  have HD := Lib.hid (hd.ext hE1)
  have hGn : w.heap.size + 2 ≤ G := by have := he1.size; rw [hG]; omega
  obtain ⟨c0, c1, c2⟩ := HR1.out.ext HE1.out
  have g2 := Nat.lt_of_lt_of_le g1 HE1.out.size
  have CTR := Lib.hid (rat_parts K s y W1 (HM0.out.ext HE1.out) (HI1.out.ext HE1.out) hK)
  clear hz hd he1 hW1 hG hC1 hC2 hE1 g0 g1
  go_wp2_with (fail)
  refine CTR.out.mono ?_
  rintro e w2 ⟨mb, ma, mn, mp, fb, fa, fn, fp, m, f, rfl, hm, hf, hf0, hmK, hfK, rfl, he2⟩
  clear CTR c0 c1 c2
  go_upto_region 3 with (fail)
  obtain ⟨J, W2, hJ, hW2, hC3, hC4, hE2, hJl⟩ := twoBox ((HM0.out.ext HE1.out).ext he2) ⟨mb, ma, mn, mp⟩ ⟨fb, fa, fn, fp⟩
  rw [← hW2, ← hJ]
  have hE2d := (he2.trans hE2).drew
  have HE2 := Lib.hid (HE1.out.trans hE2d)
  have HZ2 := Lib.hid (HZ.out.ext hE2d)
  have HD2 := Lib.hid (HD.out.ext hE2d)
  have HM2 := Lib.hid ((hm.ext hE2).ext (Ext.refl _).drew)
  have HF2 := Lib.hid ((hf.ext hE2).ext (Ext.refl _).drew)
  have HMB := Lib.hid (HM0.out.ext HE2.out)
  have HSS : Hid (S44 G (G + 1) J (J + 1) ⟨nb, na, nn, np⟩ ⟨db, da, dn, dp⟩ ⟨mb, ma, mn, mp⟩ ⟨fb, fa, fn, fp⟩ W2.drew) := ⟨HC1.out.ext hE2d, HC2.out.ext hE2d, hC3.ext (Ext.refl _).drew, hC4.ext (Ext.refl _).drew⟩
  have hJn : w.heap.size + 2 ≤ J := by have := HE1.out.size; have := he2.size; omega
  clear HZ HD hm hf he2 hW2 hJ hC3 hC4 hE2 hE2d HC1 HC2 g2
  have hS1 : dlen z.natAbs + dlen f ≤ 1099511627776 := by omega
  have hS2 : dlen m.natAbs + dlen d ≤ 1099511627776 := by omega
  have hcz : cmpZ (z * f) (m * d) = 0 ↔ mkRat z d = mkRat m f := by
    rw [Rat.mkRat_eq_iff hd0 hf0]
    unfold cmpZ
    constructor
    · intro h; split at h
      · cases h
      · split at h
        · cases h
        · omega
    · intro h; rw [h]; simp
  refine wp_region_u (S44 G (G + 1) J (J + 1) ⟨nb, na, nn, np⟩ ⟨db, da, dn, dp⟩ ⟨mb, ma, mn, mp⟩ ⟨fb, fa, fn, fp⟩) 7 (by kernel_rfl) HSS.out (fun hHeld => ?_)
  ((refine wpAnyU_take 0 (oi := ?_) (v := ?_) (by kernel_rfl) (by kernel_rfl) (by kernel_rfl) (by kernel_rfl) (by first | exact hSn | exact hHeld) ?_ ?_ ?_ ?_ ?_; rotate_left 2; (simp only [List.getElem?_toArray, List.getElem?_cons_succ, List.getElem?_cons_zero]; rfl); rfl; (intro wS hSw; obtain ⟨⟨S1, S2⟩, ⟨S3, S4⟩, ⟨S5, S6⟩, S7, S8⟩ := hSw; go_simp; try with_reducible rfl); (exact fun _ _ _ h => h); (try simp only [Act.put, List.setIfInBounds_toArray, List.set_cons_zero, List.set_cons_succ])); (refine wpAnyU_take 1 (oi := ?_) (v := ?_) (by kernel_rfl) (by kernel_rfl) (by kernel_rfl) (by kernel_rfl) (by first | exact hSn | exact hHeld) ?_ ?_ ?_ ?_ ?_; rotate_left 2; (simp only [List.getElem?_toArray, List.getElem?_cons_succ, List.getElem?_cons_zero]; rfl); rfl; (intro wS hSw; obtain ⟨⟨S1, S2⟩, ⟨S3, S4⟩, ⟨S5, S6⟩, S7, S8⟩ := hSw; go_simp; try with_reducible rfl); (exact fun _ _ _ h => h); (try simp only [Act.put, List.setIfInBounds_toArray, List.set_cons_zero, List.set_cons_succ])); (refine wpAnyU_take 3 (oi := ?_) (v := ?_) (by kernel_rfl) (by kernel_rfl) (by kernel_rfl) (by kernel_rfl) (by first | exact hSn | exact hHeld) ?_ ?_ ?_ ?_ ?_; rotate_left 2; (simp only [List.getElem?_toArray, List.getElem?_cons_succ, List.getElem?_cons_zero]; rfl); rfl; (intro wS hSw; obtain ⟨⟨S1, S2⟩, ⟨S3, S4⟩, ⟨S5, S6⟩, S7, S8⟩ := hSw; go_simp; try with_reducible rfl); (exact fun _ _ _ h => h); (try simp only [Act.put, List.setIfInBounds_toArray, List.set_cons_zero, List.set_cons_succ])); (refine wpAnyU_take 4 (oi := ?_) (v := ?_) (by kernel_rfl) (by kernel_rfl) (by kernel_rfl) (by kernel_rfl) (by first | exact hSn | exact hHeld) ?_ ?_ ?_ ?_ ?_; rotate_left 2; (simp only [List.getElem?_toArray, List.getElem?_cons_succ, List.getElem?_cons_zero]; rfl); rfl; (intro wS hSw; obtain ⟨⟨S1, S2⟩, ⟨S3, S4⟩, ⟨S5, S6⟩, S7, S8⟩ := hSw; go_simp; try with_reducible rfl); (exact fun _ _ _ h => h); (try simp only [Act.put, List.setIfInBounds_toArray, List.set_cons_zero, List.set_cons_succ])))
  ((refine wpAnyU_one 2 (o := ?_) (by kernel_rfl) ?_ ?_; rotate_left 1; (simp only [List.getElem?_toArray, List.getElem?_cons_succ, List.getElem?_cons_zero]; rfl); intro K hK); go_simp; (refine (int_mul _ _ _ _ z (f : Int) _ HMB.out HZ2.out HF2.out (by rw [Int.natAbs_natCast]; exact hS1)).mono ?_); rintro e_ wz ⟨u0, u1, rfl, hc, he1⟩; go_wp2_with (fail); (try clear hSn); (have hSn := hHeld.ext he1); (refine hK.out _ _ (fun _ => hSn) ?_); clear hK K; (try simp only [Act.put, List.setIfInBounds_toArray, List.set_cons_zero, List.set_cons_succ]))
  obtain ⟨b5, a5, n5, p5, rfl, rfl⟩ := hc.form
  ((refine wpAnyU_one 5 (o := ?_) (by kernel_rfl) ?_ ?_; rotate_left 1; (simp only [List.getElem?_toArray, List.getElem?_cons_succ, List.getElem?_cons_zero]; rfl); intro K hK); go_simp; (refine (int_mul _ _ _ _ m (d : Int) _ (HMB.out.ext he1) (HM2.out.ext he1) (HD2.out.ext he1) (by rw [Int.natAbs_natCast]; exact hS2)).mono ?_); rintro e_ wz ⟨u0, u1, rfl, hc2, he2⟩; go_wp2_with (fail); (try clear hSn); (have hSn := hHeld.ext (he1.trans he2)); (refine hK.out _ _ (fun _ => hSn) ?_); clear hK K; (try simp only [Act.put, List.setIfInBounds_toArray, List.set_cons_zero, List.set_cons_succ]))
  obtain ⟨b6, a6, n6, p6, rfl, rfl⟩ := hc2.form
  have he2' := he1.trans he2
  have HCZ := Lib.hid hcz
  clear hcz
  ((refine wpAnyU_one 6 (o := ?_) (by kernel_rfl) ?_ ?_; rotate_left 1; (simp only [List.getElem?_toArray, List.getElem?_cons_succ, List.getElem?_cons_zero]; rfl); intro K hK); go_simp; (refine (int_cmp _ _ _ _ (z * f) (m * d) _ (hc.ext he2).toV hc2.toV).mono ?_); rintro e_ wz ⟨rfl, he3⟩; go_wp2_with (fail); (try clear hSn); (have hSn := hHeld.ext (he2'.trans he3)); (refine hK.out _ _ (fun _ => hSn) ?_); clear hK K; (try simp only [Act.put, List.setIfInBounds_toArray, List.set_cons_zero, List.set_cons_succ]))
  have HEL := Lib.hid (HE0.out.trans (HE2.out.trans (he2'.trans he3)))
  generalize cmpZ (z * f) (m * d) = cc at *
  clear hHeld hSn he1 he2 he3 he2' hc hc2
  ((refine wpAnyU_one 7 (o := ?_) (by kernel_rfl) ?_ ?_; rotate_left 1; (simp only [List.getElem?_toArray, List.getElem?_cons_succ, List.getElem?_cons_zero]; rfl); intro K hK); go_simp; (refine hK.out _ _ (fun h => absurd rfl h) ?_); clear hK K; refine wpAnyU_done (by kernel_rfl) ?_ _)
  go_wp2
  go_ret
  exact ⟨cc, rfl, HCZ.out, HEL.out⟩
end Go.Proofs.YtiopnmlohpmmiaaGreat
