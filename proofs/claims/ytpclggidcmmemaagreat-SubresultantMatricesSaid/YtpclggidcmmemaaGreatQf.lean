/- cylinderlaw25: inner, degrees, equal. -/
import Derived.Test.YtpclggidcmmemaaGreatQe
set_option linter.unusedVariables false
set_option linter.unusedSimpArgs false

namespace Go.Proofs.YtpclggidcmmemaaGreat
open Go.RowKit

set_option maxRecDepth 100000 in
theorem law_inner (L : Int) (b : Bool) (hb : b = true ↔ 1 ≤ L ∧ L ≤ 4) (w : World) : Calls Tryz.prog 12 #[.int .i64 L] w fun e w' => e = .returned (.bool b) ∧ w' = w := by
 go_enter Tryz.func12, Tryz.ntmps12
 by_cases h1 : 1 ≤ L
 ·by_cases h4 : L ≤ 4
  ·obtain rfl : b = true := hb.2 ⟨h1, h4⟩
   clear hb
   go_wp2
   go_ret
   exact ⟨rfl, rfl⟩
  ·obtain rfl : b = false := by
    cases b with
    | false => rfl
    | true => exact absurd (hb.1 rfl).2 h4
   clear hb
   go_wp2
   go_ret
   exact ⟨rfl, rfl⟩
 ·obtain rfl : b = false := by
   cases b with
   | false => rfl
   | true => exact absurd (hb.1 rfl).1 h1
  clear hb
  go_wp2
  go_ret
  exact ⟨rfl, rfl⟩
set_option maxRecDepth 100000 in
set_option maxHeartbeats 8000000 in
theorem law_degrees (w : World) (x y : PE) (L m n : Int)
  (HA : ∀ wk, Ext w wk → Calls Tryz.prog 52 #[.agg (peA x), .int .i64 L] wk fun e w' => e = .returned (.int .i64 m) ∧ Ext wk w')
  (HB : ∀ wk, Ext w wk → Calls Tryz.prog 52 #[.agg (peA y), .int .i64 L] wk fun e w' => e = .returned (.int .i64 n) ∧ Ext wk w') :
  Calls Tryz.prog 16 #[.agg (peA x), .agg (peA y), .int .i64 L] w fun e w' => e = .returned (.agg #[.int .i64 m, .int .i64 n]) ∧ Ext w w' := by
 have hE := ((Ext.refl w).alloc (.cells (peA x) 33)).alloc (.cells (peA y) 33)
 have hBx := new_px2S w x y
 generalize hW : (w.alloc (.cells (peA x) 33)).alloc (.cells (peA y) 33) = W at *
 have hE2 := hE.alloc (.cells #[.int .i64 0, .int .i64 0] 45)
 have hB2 := Blk.of_arr W #[.int .i64 0, .int .i64 0] 45 2 rfl
 have hBy : SBr w.heap.size x y (W.alloc (.cells #[.int .i64 0, .int .i64 0] 45)) := SBr.ext hBx ((Ext.refl W).alloc _)
 have hsz : W.heap.size = w.heap.size + 2 := by rw [← hW]; simp
 rw [hsz] at hB2
 generalize hV : W.alloc (.cells #[.int .i64 0, .int .i64 0] 45) = V at *
 have HV := Lib.hid hV
 have HW := Lib.hid hW
 have HE := Lib.hid hE2
 have HBX := Lib.hid hBy
 have HB2 := Lib.hid hB2
 have CA := Lib.hid HA
 have CB := Lib.hid HB
 clear hE hBx hW hV hE2 hB2 hBy hsz HA HB
 go_enter Tryz.func16, Tryz.ntmps16
 go_upto_region 1 with (fail)
 rw [HW.out, HV.out]
 obtain ⟨g0, hg0⟩ : ∃ g0, g0 = w.heap.size := ⟨_, rfl⟩
 rw [← hg0] at HBX HB2 ⊢
 obtain ⟨g2, hg2⟩ : ∃ g2, g2 = g0 + 1 + 1 := ⟨_, rfl⟩
 rw [show g0 + 2 = g0 + 1 + 1 from rfl, ← hg2] at HB2
 rw [← hg2]
 have HG2 : Hid (w.heap.size ≤ g2) := by show w.heap.size ≤ g2; omega
 clear hg0 hg2 HW HV
 have HPd : Hid (SBr g0 x y V.drew) := HBX.out.ext (Ext.refl _).drew
 have HD0 : Hid (Ext w V.drew) := HE.out.trans (Ext.refl _).drew
 have HBd := Lib.hid (HB2.out.ext (Ext.refl V).drew)
 refine wp_region_u (SBr g0 x y) 7 (by kernel_rfl) HPd.out (fun hHeld => ?_)
 generalize V.drew = wd at *
 (refine tkB [0, 1, 3, 4] ?_; (iterate 4 (refine tk1 (oi := ?_) (v := ?_) (by kernel_rfl) (by first | exact hSn | exact hHeld) ?_ ?_ ?_ ?_ ?_; rotate_left 2; (simp only [xgA, xgB, xgC]; rfl); rfl; (intro wS hSw; obtain ⟨⟨A0, A1, A2, A3⟩, B0, B1, B2, B3⟩ := hSw; go_simp; try with_reducible rfl); (exact fun _ _ _ h => h); (try simp only [Act.put, xgD, xgE, xgF]))); refine tkE ?_)
 ((refine wpAnyU_one 2 (o := ?_) (by kernel_rfl) ?_ ?_; rotate_left 1; (simp only [xgA, xgB, xgC]; rfl); intro K hK); go_simp; (refine (CA.out wd HD0.out).mono ?_); rintro e_ w5 ⟨rfl, e2⟩; go_wp2_with (fail); (try clear hSn); (have hSn := hHeld.ext e2); (refine hK.out _ _ (fun _ => hSn) ?_); clear hK K; (try simp only [Act.put, xgD, xgE, xgF]))
 ((refine wpAnyU_one 5 (o := ?_) (by kernel_rfl) ?_ ?_; rotate_left 1; (simp only [xgA, xgB, xgC]; rfl); intro K hK); go_simp; (refine (CB.out w5 (HD0.out.trans e2)).mono ?_); rintro e_ w6 ⟨rfl, e5⟩; go_wp2_with (fail); (try clear hSn); (have hSn := hHeld.ext (e2.trans e5)); (refine hK.out _ _ (fun _ => hSn) ?_); clear hK K; (try simp only [Act.put, xgD, xgE, xgF]))
 (refine tkB [6] ?_; (iterate 1 (refine tk1 (oi := ?_) (v := ?_) (by kernel_rfl) (by first | exact hSn | exact hHeld) ?_ ?_ ?_ ?_ ?_; rotate_left 2; (simp only [xgA, xgB, xgC]; rfl); rfl; (intro wS hSw; obtain ⟨⟨A0, A1, A2, A3⟩, B0, B1, B2, B3⟩ := hSw; go_simp; try with_reducible rfl); (exact fun _ _ _ h => h); (try simp only [Act.put, xgD, xgE, xgF]))); refine tkE ?_)
 have hB6 := HBd.out.ext (e2.trans e5)
 have q0 : w6.cell? ⟨g2, 0, none⟩ = some (.int .i64 0) := hB6.cell (i := 0) (by omega)
 have q1 : w6.cell? ⟨g2, 1, none⟩ = some (.int .i64 0) := hB6.cell (i := 1) (by omega)
 have f0 := hB6.frozen 0
 have f1 := hB6.frozen 1
 have hB7 := (hB6.set 0 (.int .i64 m)).set 1 (.int .i64 n)
 have r0 : ((w6.setCell ⟨g2, 0, none⟩ (.int .i64 m)).setCell ⟨g2, 1, none⟩ (.int .i64 n)).cell? ⟨g2, 0, none⟩ = some (.int .i64 m) := hB7.cell (i := 0) (by omega)
 have r1 : ((w6.setCell ⟨g2, 0, none⟩ (.int .i64 m)).setCell ⟨g2, 1, none⟩ (.int .i64 n)).cell? ⟨g2, 1, none⟩ = some (.int .i64 n) := hB7.cell (i := 1) (by omega)
 have HE7 : Hid (Ext w ((w6.setCell ⟨g2, 0, none⟩ (.int .i64 m)).setCell ⟨g2, 1, none⟩ (.int .i64 n))) := ((HD0.out.trans (e2.trans e5)).set (p := ⟨g2, 0, none⟩) HG2.out _).set (p := ⟨g2, 1, none⟩) HG2.out _
 clear hHeld hB6 hB7 e2 e5 HPd HD0 HBX HB2 HBd HE CA CB HG2
 ((refine wpAnyU_one 7 (o := ?_) (by kernel_rfl) ?_ ?_; rotate_left 1; (simp only [xgA, xgB, xgC]; rfl); intro K hK); go_simp; (refine hK.out _ _ (fun h => absurd rfl h) ?_); clear hK K; refine wpAnyU_done (by kernel_rfl) ?_ _)
 generalize (w6.setCell ⟨g2, 0, none⟩ (.int .i64 m)).setCell ⟨g2, 1, none⟩ (.int .i64 n) = W9 at *
 clear q0 q1 f0 f1
 go_wp2
 exact bodyPost_ret (v := .agg #[.int .i64 m, .int .i64 n]) (by simp [results, Tryz.results16, go_sem, r0, r1]) rfl ⟨rfl, HE7.out⟩
def MatV (M : Nat → Prop) (w : World) (v : Value) (S N : Nat) (P : Nat → Nat → List Tm) : Prop := ∃ (gs cs : Nat → Nat) (a : Option Addr) (cap : Nat), v = .slice a S cap ∧ S ≤ cap ∧ ∀ k, k < S → ∃ g, a = some ⟨g, 0, none⟩ ∧ g < w.heap.size ∧ w.cell? ⟨g, k, none⟩ = some (.slice (some ⟨gs k, 0, none⟩) N (cs k)) ∧ KidC M w (gs k) N (cs k) (P k)
theorem Mat.read {M : Nat → Prop} {w : World} {base : Nat} {v : Value} {S N : Nat} {P : Nat → Nat → List Tm} (h : Mat M w base v S N P) : MatV M w v S N P := by
 obtain ⟨gs, cs, hO, h0, h2⟩ := h
 rcases hO with ⟨rfl, rfl⟩ | ⟨g, cap, F, rfl, h3, h4, h5, h6, h7⟩
 ·exact ⟨gs, cs, none, 0, rfl, Nat.le_refl _, fun k hk => absurd hk (Nat.not_lt_zero _)⟩
 ·refine ⟨gs, cs, _, cap, rfl, h5, fun k hk => ⟨g, rfl, h4.lt, ?_, (h2 k hk).2.2.more fun b hb => .inl (.inl hb)⟩⟩
  rw [h4.cell (by omega), h7 k (by omega)]; rfl
theorem MatV.ext {M : Nat → Prop} {w w' : World} {v : Value} {S N : Nat} {P : Nat → Nat → List Tm} (h : MatV M w v S N P) (he : Ext w w') : MatV M w' v S N P := by
 obtain ⟨gs, cs, a, cap, rfl, hc, h⟩ := h
 refine ⟨gs, cs, a, cap, rfl, hc, fun k hk => ?_⟩
 obtain ⟨g, h1, h2, h3, h4⟩ := h k hk
 exact ⟨g, h1, Nat.lt_of_lt_of_le h2 he.size, by rw [he.cell h2]; exact h3, h4.ext he⟩
theorem KidC.cel {M : Nat → Prop} {w : World} {g N c : Nat} {P : Nat → List Tm} (h : KidC M w g N c P) (i : Nat) (hi : i < N) : ∃ y : PE, KCell w g (i * 4) y ∧ CRx M w 4 y (P i) := by
 obtain ⟨⟨h0, _⟩, f, h1, h2⟩ := h
 obtain ⟨y, q0, q1, q2, q3, hy, _⟩ := (h2 i hi).pe
 exact ⟨y, ⟨by rw [h1.cell (by omega), q0], by rw [h1.cell (by omega), q1], by rw [h1.cell (by omega), q2], by rw [h1.cell (by omega), q3]⟩, hy⟩
def SE2 (ga gb k : Nat) (u v : Value) (w : World) : Prop := (w.cell? ⟨ga, k, none⟩ = some u ∧ ga < w.heap.size) ∧ w.cell? ⟨gb, k, none⟩ = some v ∧ gb < w.heap.size
theorem SE2.ext {ga gb k : Nat} {u v : Value} {w w' : World} (h : SE2 ga gb k u v w) (he : Ext w w') : SE2 ga gb k u v w' := ⟨⟨by rw [he.cell h.1.2]; exact h.1.1, Nat.lt_of_lt_of_le h.1.2 he.size⟩, by rw [he.cell h.2.2]; exact h.2.1, Nat.lt_of_lt_of_le h.2.2 he.size⟩
def SE4 (ga gb k : Nat) (u v : Value) (g1 g2 o : Nat) (x y : PE) (w : World) : Prop := SE2 ga gb k u v w ∧ (KCell w g1 o x ∧ g1 < w.heap.size) ∧ KCell w g2 o y ∧ g2 < w.heap.size
theorem SE4.ext {ga gb k : Nat} {u v : Value} {g1 g2 o : Nat} {x y : PE} {w w' : World} (h : SE4 ga gb k u v g1 g2 o x y w) (he : Ext w w') : SE4 ga gb k u v g1 g2 o x y w' := ⟨h.1.ext he, ⟨h.2.1.1.ext h.2.1.2 he, Nat.lt_of_lt_of_le h.2.1.2 he.size⟩, h.2.2.1.ext h.2.2.2 he, Nat.lt_of_lt_of_le h.2.2.2 he.size⟩
set_option maxRecDepth 100000 in
set_option maxHeartbeats 16000000 in
theorem law_equal25 (M : Nat → Prop) (w : World) (va vb : Value) (S N : Nat) (P Q : Nat → Nat → List Tm) (hM : Mb M w) (ha : MatV M w va S N P) (hb : MatV M w vb S N Q) (hPQ : ∀ k, k < S → ∀ i, i < N → Sim (P k i) (Q k i)) (hS : S ≤ 10000) (hN : N ≤ 10000) :
  Calls Tryz.prog 14 #[va, vb] w fun e w' => e = .returned (.bool true) ∧ Ext w w' := by
 obtain ⟨gs, cs, aa, ca, rfl, hca, hA⟩ := ha
 obtain ⟨hs, ds, ab, cb, rfl, hcb, hB⟩ := hb
 have HM := Lib.hid hM
 have HA := Lib.hid hA
 have HB := Lib.hid hB
 have HPQ := Lib.hid hPQ
 have HSN : Hid (S ≤ 10000 ∧ N ≤ 10000) := ⟨hS, hN⟩
 clear hM hA hB hPQ hS hN hca hcb
 go_enter Tryz.func14, Tryz.ntmps14
 go_wp2
 go_loopw [14] (fun iv wr => ∃ k : Nat, k ≤ S ∧ iv = .int .i64 (k : Int) ∧ Hid (Ext w wr)) (fun iv _ => S - (intOf iv).toNat)
 case atStart => exact ⟨0, Nat.zero_le _, rfl, Ext.refl _⟩
 case round =>
  obtain ⟨k, hk, rfl, HER⟩ := hrel
  have hSI : (S : Int) ≤ 10000 := by have := HSN.out; omega
  have hk0 : (0 : Int) ≤ (k : Int) := Int.natCast_nonneg _
  by_cases hlt : k < S
  ·obtain ⟨ga, rfl, a1, a2, a3⟩ := HA.out k hlt
   obtain ⟨gb, rfl, b1, b2, b3⟩ := HB.out k hlt
   have hltI : (k : Int) < (S : Int) := by omega
   have HLT := Lib.hid hlt
   have HKA := Lib.hid (a3.ext HER.out)
   have HKB := Lib.hid (b3.ext HER.out)
   have HS2 : Hid (SE2 ga gb k (.slice (some ⟨gs k, 0, none⟩) N (cs k)) (.slice (some ⟨hs k, 0, none⟩) N (ds k)) wr) := SE2.ext ⟨⟨a2, a1⟩, b2, b1⟩ HER.out
   obtain ⟨g1, hg1⟩ : ∃ g1, g1 = gs k := ⟨_, rfl⟩
   obtain ⟨g2, hg2⟩ : ∃ g2, g2 = hs k := ⟨_, rfl⟩
   obtain ⟨c1, hc1⟩ : ∃ c1, c1 = cs k := ⟨_, rfl⟩
   obtain ⟨c2, hc2⟩ : ∃ c2, c2 = ds k := ⟨_, rfl⟩
   rw [← hg1, ← hc1] at HKA HS2
   rw [← hg2, ← hc2] at HKB HS2
   clear a1 a2 a3 b1 b2 b3 hg1 hg2 hc1 hc2 hlt hk
   go_upto_region 6 with (fail)
   have HSd : Hid (SE2 ga gb k (.slice (some ⟨g1, 0, none⟩) N c1) (.slice (some ⟨g2, 0, none⟩) N c2) wr.drew) := HS2.out.ext (Ext.refl _).drew
   have HEd : Hid (Ext wr wr.drew) := (Ext.refl _).drew
   refine wp_region_u (SE2 ga gb k (.slice (some ⟨g1, 0, none⟩) N c1) (.slice (some ⟨g2, 0, none⟩) N c2)) 11 (by kernel_rfl) HSd.out (fun hHeld => ?_)
   generalize wr.drew = wd at *
   (refine tkB [0, 1, 2, 3, 4, 5, 6, 7, 8, 9, 10] ?_; (iterate 11 (refine tk1 (oi := ?_) (v := ?_) (by kernel_rfl) (by first | exact hSn | exact hHeld) ?_ ?_ ?_ ?_ ?_; rotate_left 2; (simp only [xgA, xgB, xgC]; rfl); rfl; (intro wS hSw; obtain ⟨⟨A0, A1⟩, B0, B1⟩ := hSw; go_simp; try with_reducible rfl); (exact fun _ _ _ h => h); (try simp only [Act.put, xgD, xgE, xgF]))); refine tkE ?_)
   refine wpAnyU_done (by kernel_rfl) ?_ _
   have HEW := Lib.hid (HER.out.trans HEd.out)
   have HKA2 := Lib.hid (HKA.out.ext HEd.out)
   have HKB2 := Lib.hid (HKB.out.ext HEd.out)
   clear hHeld HKA HKB HS2 HER HEd
   obtain ⟨⟨A0, A1⟩, B0, B1⟩ := HSd.out
   go_wp2
   clear A0 A1 B0 B1
   obtain ⟨wo, rfl⟩ : ∃ wo, wo = wd := ⟨_, rfl⟩
   have hNI : (N : Int) ≤ 10000 := by have := HSN.out; omega
   go_loopw [33] (fun iv wi => ∃ t : Nat, t ≤ N ∧ iv = .int .i64 (t : Int) ∧ Hid (Ext wo wi)) (fun iv _ => N - (intOf iv).toNat)
   case atStart => exact ⟨0, Nat.zero_le _, rfl, Ext.refl _⟩
   case round =>
    obtain ⟨t, ht, rfl, HEI⟩ := hrel
    have ht0 : (0 : Int) ≤ (t : Int) := Int.natCast_nonneg _
    by_cases htl : t < N
    ·have htI : (t : Int) < (N : Int) := by omega
     obtain ⟨x, hx, hxx⟩ := HKA2.out.cel t htl
     obtain ⟨y, hy, hyy⟩ := HKB2.out.cel t htl
     have HS4 : Hid (SE4 ga gb k (.slice (some ⟨g1, 0, none⟩) N c1) (.slice (some ⟨g2, 0, none⟩) N c2) g1 g2 (t * 4) x y wr) := SE4.ext ⟨HSd.out, ⟨hx, HKA2.out.lt⟩, hy, HKB2.out.lt⟩ HEI.out
     have HXX := Lib.hid (hxx.ext HEI.out)
     have HYY := Lib.hid (hyy.ext HEI.out)
     have HSM := Lib.hid (HPQ.out k HLT.out t htl)
     have HTL := Lib.hid htl
     clear hx hy hxx hyy htl ht
     go_upto_region 11 with (fail)
     have HSe : Hid (SE4 ga gb k (.slice (some ⟨g1, 0, none⟩) N c1) (.slice (some ⟨g2, 0, none⟩) N c2) g1 g2 (t * 4) x y wr.drew) := HS4.out.ext (Ext.refl _).drew
     have HEe : Hid (Ext wr wr.drew) := (Ext.refl _).drew
     refine wp_region_u (SE4 ga gb k (.slice (some ⟨g1, 0, none⟩) N c1) (.slice (some ⟨g2, 0, none⟩) N c2) g1 g2 (t * 4) x y) 28 (by kernel_rfl) HSe.out (fun hHeld => ?_)
     generalize wr.drew = we at *
     have HX2 := Lib.hid (HXX.out.ext HEe.out)
     have HY2 := Lib.hid (HYY.out.ext HEe.out)
     have HME : Hid (Mb M we) := HM.out.ext (HEW.out.trans (HEI.out.trans HEe.out))
     (refine tkB [0, 1, 2, 3, 4, 5, 6, 7, 8, 9, 10, 11, 12, 13] ?_; (iterate 14 (refine tk1 (oi := ?_) (v := ?_) (by kernel_rfl) (by first | exact hSn | exact hHeld) ?_ ?_ ?_ ?_ ?_; rotate_left 2; (simp only [xgA, xgB, xgC]; rfl); rfl; (intro wS hSw; obtain ⟨⟨⟨A0, A1⟩, B0, B1⟩, ⟨⟨C0, C1, C2, C3⟩, C4⟩, ⟨D0, D1, D2, D3⟩, D4⟩ := hSw; go_simp; try with_reducible rfl); (exact fun _ _ _ h => h); (try simp only [Act.put, xgD, xgE, xgF]))); refine tkE ?_)
     ((refine wpAnyU_one 14 (o := ?_) (by kernel_rfl) ?_ ?_; rotate_left 1; (simp only [xgA, xgB, xgC]; rfl); intro K hK); go_simp; (refine (rp_Normal M y _ we HME.out HY2.out.pi).mono ?_); rintro e_ w1 ⟨u, rfl, hu, e1⟩; go_wp2_with (fail); (try clear hSn); (have hSn := hHeld.ext e1); (refine hK.out _ _ (fun _ => hSn) ?_); clear hK K; (try simp only [Act.put, xgD, xgE, xgF]))
     ((refine wpAnyU_one 15 (o := ?_) (by kernel_rfl) ?_ ?_; rotate_left 1; (simp only [xgA, xgB, xgC]; rfl); intro K hK); go_simp; (refine (rf_equal 4 M _ _ x u w1 (HX2.out.ext e1) hu).mono ?_); rintro e_ w2 ⟨rfl, e2⟩; go_wp2_with (fail); (try clear hSn); (have hSn := hHeld.ext (e1.trans e2)); (refine hK.out _ _ (fun _ => hSn) ?_); clear hK K; (try simp only [Act.put, xgD, xgE, xgF]))
     have hsb := simB_true HSM.out
     rw [hsb]
     clear hsb
     (refine tkB [16, 17, 18, 19, 20, 21, 22, 23, 24] ?_; (iterate 9 (refine tk1 (oi := ?_) (v := ?_) (by kernel_rfl) (by first | exact hSn | exact hHeld) ?_ ?_ ?_ ?_ ?_; rotate_left 2; (simp only [xgA, xgB, xgC]; rfl); rfl; (intro wS hSw; obtain ⟨⟨⟨A0, A1⟩, B0, B1⟩, ⟨⟨C0, C1, C2, C3⟩, C4⟩, ⟨D0, D1, D2, D3⟩, D4⟩ := hSw; go_simp; try with_reducible rfl); (exact fun _ _ _ h => h); (try simp only [Act.put, xgD, xgE, xgF]))); refine tkE ?_)
     have CC := Lib.hid (fun W he => rf_canonical 4 M _ x 5 W (HX2.out.ext he) (by have := HX2.out.lev; omega))
     ((refine wpAnyU_one 25 (o := ?_) (by kernel_rfl) ?_ ?_; rotate_left 1; (simp only [xgA, xgB, xgC]; rfl); intro K hK); go_simp; (refine (CC.out w2 (e1.trans e2)).mono ?_); rintro e_ w3 ⟨rfl, e3⟩; go_wp2_with (fail); (try clear hSn); (have hSn := hHeld.ext ((e1.trans e2).trans e3)); (refine hK.out _ _ (fun _ => hSn) ?_); clear hK K; (try simp only [Act.put, xgD, xgE, xgF]))
     (refine tkB [26, 27] ?_; (iterate 2 (refine tk1 (oi := ?_) (v := ?_) (by kernel_rfl) (by first | exact hSn | exact hHeld) ?_ ?_ ?_ ?_ ?_; rotate_left 2; (simp only [xgA, xgB, xgC]; rfl); rfl; (intro wS hSw; obtain ⟨⟨⟨A0, A1⟩, B0, B1⟩, ⟨⟨C0, C1, C2, C3⟩, C4⟩, ⟨D0, D1, D2, D3⟩, D4⟩ := hSw; go_simp; try with_reducible rfl); (exact fun _ _ _ h => h); (try simp only [Act.put, xgD, xgE, xgF]))); refine tkE ?_)
     refine wpAnyU_done (by kernel_rfl) ?_ _
     have HF : Hid (Ext wo w3) := HEI.out.trans (HEe.out.trans ((e1.trans e2).trans e3))
     clear hHeld hSn e1 e2 e3 CC HSe HEe HX2 HY2 HME HXX HYY HS4 HEI
     go_wp2
     go_roundw
     case rel => exact ⟨t + 1, HTL.out, by go_num, HF⟩
     case measure => have := HTL.out; simp [intOf]; omega
    ·obtain rfl : t = N := by omega
     have hge : ¬ (t : Int) < (t : Int) := by omega
     have HF : Hid (Ext w wr) := HEW.out.trans HEI.out
     clear HEI
     go_wp2
     go_roundw
     case rel => exact ⟨k + 1, HLT.out, by go_num, HF⟩
     case measure => have := HLT.out; simp [intOf]; omega
  ·obtain rfl : k = S := by omega
   have hge : ¬ (k : Int) < (k : Int) := by omega
   go_wp2
   go_ret
   exact ⟨rfl, HER.out⟩
end Go.Proofs.YtpclggidcmmemaaGreat
