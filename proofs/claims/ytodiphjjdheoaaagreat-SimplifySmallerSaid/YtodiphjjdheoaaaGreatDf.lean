/- cylinderlaw23.is; mainvar.Compare. MainvarOrder: the walk. -/
import Derived.Test.YtodiphjjdheoaaaGreatDe
import Derived.Test.YtodiphjjdheoaaaGreatMj
set_option linter.unusedVariables false
set_option linter.unusedSimpArgs false

namespace Go.Proofs.YtodiphjjdheoaaaGreat
open Go.RowKit

set_option maxRecDepth 100000 in
set_option maxHeartbeats 4000000 in
theorem mv_Compare (M : Nat → Prop) (d d' : Nat) (t : RT d) (u : RT d') (x y : PE) (w : World) (hM : Mb M w) (h : RR M w d t (.int .i64 x.lv) (.bool x.b) (.slice x.a x.n x.p) (.slice x.ka x.kn x.kp)) (hT : TB d t) (h' : RR M w d' u (.int .i64 y.lv) (.bool y.b) (.slice y.a y.n y.p) (.slice y.ka y.kn y.kp)) (hT' : TB d' u) :
  Calls Tryz.prog 60 #[.agg (peA x), .agg (peA y)] w fun e w' => e = .returned (.int .i64 (cmpP (norm (terms d t)) (norm (terms d' u)))) ∧ Ext w w' := by
 have hE : Ext w ((w.alloc (.cells (peA x) 29)).alloc (.cells (peA y) 29)) := ((Ext.refl w).alloc _).alloc _
 have b1 := Blk.of_arr (w.alloc (.cells (peA x) 29)) (peA y) 29 4 rfl
 simp only [World.size_alloc] at b1
 have hP : SP2 w.heap.size x y ((w.alloc (.cells (peA x) 29)).alloc (.cells (peA y) 29)) := ⟨((Blk.of_arr w (peA x) 29 4 rfl).alloc _).p4, b1.p4⟩
 have HR := Lib.hid h
 have HR' := Lib.hid h'
 have HM := Lib.hid hM
 have HT := Lib.hid hT
 have HT' := Lib.hid hT'
 have HE := Lib.hid hE
 have HP := Lib.hid hP
 clear h h' hM hT hT' hE hP b1
 go_enter Tryz.func60, Tryz.ntmps60
 go_upto_region 1 with (fail)
 generalize (w.alloc (.cells (peA x) 29)).alloc (.cells (peA y) 29) = W at *
 have HE2 := Lib.hid (HE.out.trans (Ext.refl W).drew)
 have hS := HP.out.ext (Ext.refl W).drew
 clear HE HP
 refine wp_region_u (SP2 w.heap.size x y) 6 (by kernel_rfl) hS (fun hHeld => ?_)
 clear hS
 generalize W.drew = wd at *
 (refine tkB [0, 2] ?_; (iterate 2 (refine tk1 (oi := ?_) (v := ?_) (by kernel_rfl) (by first | exact hSn | exact hHeld) ?_ ?_ ?_ ?_ ?_; rotate_left 2; (simp only [xgA, xgB, xgC]; rfl); rfl; (intro wS hSw; obtain ⟨⟨S1, S2, S3, S4⟩, S5, S6, S7, S8⟩ := hSw; go_simp; try with_reducible rfl); (exact fun _ _ _ h => h); (try simp only [Act.put, xgD, xgE, xgF]))); refine tkE ?_)
 ((refine wpAnyU_one 1 (o := ?_) (by kernel_rfl) ?_ ?_; rotate_left 1; (simp only [xgA, xgB, xgC]; rfl); intro K hK); go_simp; (refine (rp_To M d t x _ (HM.out.ext HE2.out) (RR.ext HR.out HE2.out) HT.out).mono ?_); rintro e_ w1 ⟨v1, rfl, hv1, e1⟩; go_wp2_with (fail); (try clear hSn); (have hSn := hHeld.ext e1); (refine hK.out _ _ (fun _ => hSn) ?_); clear hK K; (try simp only [Act.put, xgD, xgE, xgF]))
 ((refine wpAnyU_one 3 (o := ?_) (by kernel_rfl) ?_ ?_; rotate_left 1; (simp only [xgA, xgB, xgC]; rfl); intro K hK); go_simp; (refine (rp_To M d' u y _ (HM.out.ext (HE2.out.trans e1)) (RR.ext HR'.out (HE2.out.trans e1)) HT'.out).mono ?_); rintro e_ w3 ⟨v3, rfl, hv3, e3⟩; go_wp2_with (fail); (try clear hSn); (have hSn := hHeld.ext (e1.trans e3)); (refine hK.out _ _ (fun _ => hSn) ?_); clear hK K; (try simp only [Act.put, xgD, xgE, xgF]))
 ((refine wpAnyU_one 4 (o := ?_) (by kernel_rfl) ?_ ?_; rotate_left 1; (simp only [xgA, xgB, xgC]; rfl); intro K hK); go_simp; (refine (sp_compare M v1 v3 (norm (terms d t)) (norm (terms d' u)) _ (HM.out.ext ((HE2.out.trans e1).trans e3)) (hv1.toV.ext e3) hv3.toV (Nat.le_trans (dlen_mono (norm_nrm _)) HT.out.2.2.1) (Nat.le_trans (dlen_mono (norm_nrm _)) HT'.out.2.2.1)).mono ?_); rintro e_ w4 ⟨rfl, e4⟩; go_wp2_with (fail); (try clear hSn); (have hSn := hHeld.ext ((e1.trans e3).trans e4)); (refine hK.out _ _ (fun _ => hSn) ?_); clear hK K; (try simp only [Act.put, xgD, xgE, xgF]))
 (refine tkB [5] ?_; (iterate 1 (refine tk1 (oi := ?_) (v := ?_) (by kernel_rfl) (by first | exact hSn | exact hHeld) ?_ ?_ ?_ ?_ ?_; rotate_left 2; (simp only [xgA, xgB, xgC]; rfl); rfl; (intro wS hSw; obtain ⟨⟨S1, S2, S3, S4⟩, S5, S6, S7, S8⟩ := hSw; go_simp; try with_reducible rfl); (exact fun _ _ _ h => h); (try simp only [Act.put, xgD, xgE, xgF]))); refine tkE ?_)
 refine wpAnyU_done (by kernel_rfl) ?_ _
 rw [norm_norm, norm_norm]
 have HF := Lib.hid (HE2.out.trans ((e1.trans e3).trans e4))
 clear hHeld hSn hv1 hv3 e1 e3 e4
 go_wp2
 go_ret
 exact ⟨rfl, HF.out⟩
end Go.Proofs.YtodiphjjdheoaaaGreat

namespace Go.Proofs.YtodiphjjdheoaaaGreat
open Go.RowKit

end Go.Proofs.YtodiphjjdheoaaaGreat
