/- pseudo.divideOut. pseudo.Multiplicity, pseudo.Without; the law's own times. Multiplicities: plain facts; small arguments. -/
import Derived.Test.YtjcceddloogiiaaGreatCb
import Derived.Test.YtjcceddloogiiaaGreatBk
import Derived.Test.YtjcceddloogiiaaGreatCa
set_option linter.unusedVariables false
set_option linter.unusedSimpArgs false

namespace Go.Proofs.YtjcceddloogiiaaGreat
open Go.RowKit

end Go.Proofs.YtjcceddloogiiaaGreat

namespace Go.Proofs.YtjcceddloogiiaaGreat
open Go.RowKit

set_option maxRecDepth 100000 in
set_option maxHeartbeats 4000000 in
theorem law_times (M : Nat → Prop) (x y : PE) (l r : List Tm) (B C : Nat) (n : Nat) (w : World) (hM : Mb M w) (h : PI M w x l) (k : PI M w y r) (hn : n ≤ 1000000) (hB : Deg B l) (hC : Deg C r) (hr : NN r) (hL : dlen (nrm l) + (n * dlen (nrm r) + 1) ≤ 1099511627776) (hL2 : n * dlen (nrm r) + 2 ≤ 1099511627776) (h1 : (n * C + 1) * (n * C + 1) ≤ 1099511627776) (h2 : (B + 1) * (n * C + 1) ≤ 1099511627776) :
  Calls Tryz.prog 62 #[.agg (peA x), .agg (peA y), .int .i64 (n : Int)] w (RetX M w 4 (pmul l (ppow r n))) := by
 obtain ⟨hE0, hX0, hY0, hB0, hM0⟩ := box2 hM x y
 have HE := Lib.hid (hE0.trans (Ext.refl _).drew)
 have HS : Hid (SP2 w.heap.size x y _) := ⟨hX0.ext (Ext.refl _).drew, hY0.ext (Ext.refl _).drew⟩
 have HB := Lib.hid (hB0.ext (Ext.refl _).drew)
 have HM := Lib.hid (hM0.ext (Ext.refl _).drew)
 have HX := Lib.hid ((h.more (M' := Mx M w.heap.size (w.heap.size + 3)) (Mx.more (Nat.le_refl _))).ext HE.out)
 have HY := Lib.hid ((k.more (M' := Mx M w.heap.size (w.heap.size + 3)) (Mx.more (Nat.le_refl _))).ext HE.out)
 have HDB := Lib.hid hB
 have HDC := Lib.hid hC
 have HRN := Lib.hid hr
 have HL : Hid (dlen (nrm l) + dlen (nrm (ppow r n)) ≤ 1099511627776) := by
  have := dlen_ppow r n
  show _ ≤ _
  omega
 have HL2 : Hid ((n : Int).toNat * dlen (nrm r) + 2 ≤ 1099511627776) := by rw [Int.toNat_natCast]; exact hL2
 have H1 : Hid (((n : Int).toNat * C + 1) * ((n : Int).toNat * C + 1) ≤ 1099511627776) := by rw [Int.toNat_natCast]; exact h1
 clear hE0 hX0 hY0 hB0 hM0 h k hB hC hr hL hL2 h1
 go_enter Tryz.func62, Tryz.ntmps62
 go_wp2
 refine wp_region_u (SP2 w.heap.size x y) 5 (by kernel_rfl) HS.out (fun hHeld => ?_)
 (refine tkB [0, 1, 2] ?_; (iterate 3 (refine tk1 (oi := ?_) (v := ?_) (by kernel_rfl) (by first | exact hSn | exact hHeld) ?_ ?_ ?_ ?_ ?_; rotate_left 2; (simp only [xgA, xgB, xgC]; rfl); rfl; (intro wS hSw; obtain ⟨⟨S1, S2, S3, S4⟩, S5, S6, S7, S8⟩ := hSw; go_simp; try with_reducible rfl); (exact fun _ _ _ h => h); (try simp only [Act.put, xgD, xgE, xgF]))); refine tkE ?_)
 ((refine wpAnyU_one 3 (o := ?_) (by kernel_rfl) ?_ ?_; rotate_left 1; (simp only [xgA, xgB, xgC]; rfl); intro K hK); go_simp; (refine (rp_Pow _ y r C (n : Int) _ HM.out HY.out (by omega) HL2.out HDC.out H1.out).mono ?_); rintro e_ wz ⟨p, rfl, hp, he1⟩; go_wp2_with (fail); (try clear hSn); (have hSn := hHeld.ext he1); (refine hK.out _ _ (fun _ => hSn) ?_); clear hK K; (try simp only [Act.put, xgD, xgE, xgF]))
 rw [Int.toNat_natCast] at hp
 ((refine wpAnyU_one 4 (o := ?_) (by kernel_rfl) ?_ ?_; rotate_left 1; (simp only [xgA, xgB, xgC]; rfl); intro K hK); go_simp; (refine (rp_Mul _ x p l (ppow r n) B (n * C) _ (HM.out.ext he1) (HX.out.ext he1) hp.pi HL.out HDB.out (deg_ppow HDC.out HRN.out n) h2).mono ?_); rintro e_ wz ⟨v, rfl, hv, he2⟩; go_wp2_with (fail); (try clear hSn); (have hSn := hHeld.ext (he1.trans he2)); (refine hK.out _ _ (fun _ => hSn) ?_); clear hK K; (try simp only [Act.put, xgD, xgE, xgF]))
 obtain ⟨⟨q0, q1, q2, q3⟩, ⟨f0, f1, f2, f3⟩, ⟨r0, r1, r2, r3⟩, HF⟩ := retX (M := M) (w := w) (HB.out.ext (he1.trans he2)) (Mx.at (by omega)) (by omega) (HE.out.trans (he1.trans he2)) hv Mx.sub
 ((refine wpAnyU_one 5 (o := ?_) (by kernel_rfl) ?_ ?_; rotate_left 1; (simp only [xgA, xgB, xgC]; rfl); intro K hK); go_simp; (refine hK.out _ _ (fun h => absurd rfl h) ?_); clear hK K; refine wpAnyU_done (by kernel_rfl) ?_ _)
 clear he1 he2 hp hv hHeld hSn
 go_wp2
 exact bodyPost_ret (v := .agg (peA v)) (by simp [results, Tryz.results62, go_sem, r0, r1, r2, r3]) rfl HF.out
end Go.Proofs.YtjcceddloogiiaaGreat

namespace Go.Proofs.YtjcceddloogiiaaGreat
open Go.RowKit

end Go.Proofs.YtjcceddloogiiaaGreat
