/- subresultant.quotient, remainder, check. subresultant.remainder. subresultant.check. Regions with calls and two allocs in any order, beside mutable blocks. subresultant.descend where the second polynomial has degree 1. subresultant.Chain where the second polynomial has degree 1 and the first one at least that. subresultant.Psc where the second polynomial has degree 1 and the first one at least that. mainvar.Coef at a level from 1 to 4 and an exponent from 0. cylinderlaw25.fit, the plain facts and the calls. cylinderlaw25.fit: the walk. -/
import Derived.Test.YtpclggidcmmemaaGreatEg
import Derived.Test.YtpclggidcmmemaaGreatFb
import Derived.Test.YtpclggidcmmemaaGreatBj
set_option linter.unusedVariables false
set_option linter.unusedSimpArgs false

namespace Go.Proofs.YtpclggidcmmemaaGreat
open Go.RowKit

end Go.Proofs.YtpclggidcmmemaaGreat

namespace Go.Proofs.YtpclggidcmmemaaGreat
open Go.RowKit

theorem DgR.neg {L n : Nat} {l : List Tm} (h : DgR L (negL l) n) : DgR L l n :=
 ⟨fun m hm => h.1 m (by rw [negL_coef]; omega), h.2.imp id fun ⟨m, h1, h2⟩ => ⟨m, by rw [negL_coef] at h1; omega, h2⟩⟩
def RetRn (M : Nat → Prop) (w : World) (f g : List Tm) (J : Nat) (e : Ending) (w' : World) : Prop := ∃ (y : PE) (n V : Nat), e = .returned (.agg (peA y)) ∧ DgR J g n ∧ StR J f n V ∧ CRx M w' 4 y (pdRem J n V f (negL g)) ∧ Ext w w'
def SBr (g : Nat) (x y : PE) (w : World) : Prop := P4 w g x ∧ P4 w (g + 1) y
theorem SBr.ext {g : Nat} {x y : PE} {w w' : World} (h : SBr g x y w) (he : Ext w w') : SBr g x y w' := ⟨h.1.ext he, h.2.ext he⟩
theorem new_z4 (w : World) : Ext w (w.alloc (.cells zA 33)) ∧ Blk (w.alloc (.cells zA 33)) w.heap.size 33 4 (arr zA) := ⟨(Ext.refl _).alloc _, Blk.of_arr w zA 33 4 rfl⟩
theorem blk_peT {w : World} {g : Nat} {t : TypeId} {f : Nat → Value} (h : Blk w g t 4 f) (x : PE) : Blk (set4 w g 0 (.int .i64 x.lv) (.bool x.b) (.slice x.a x.n x.p) (.slice x.ka x.kn x.kp)) g t 4 (arr (peA x)) :=
 (h.set4 0 (.int .i64 x.lv) (.bool x.b) (.slice x.a x.n x.p) (.slice x.ka x.kn x.kp)).congr fun i hi => match i, hi with
  | 0, _ => upd4_0 f 0 _ _ _ _
  | 1, _ => upd4_1 f 0 _ _ _ _
  | 2, _ => upd4_2 f 0 _ _ _ _
  | 3, _ => upd4_3 f 0 _ _ _ _
set_option maxRecDepth 100000 in
set_option maxHeartbeats 16000000 in
theorem sr_remainder (M : Nat → Prop) (f g : List Tm) (x y : PE) (J B C A D : Nat) (w : World) (h1 : 1 ≤ J) (h4 : J ≤ 4) (hM : Mb M w) (h : PI M w x f) (k : PI M w y g) (nf : NN f) (ng : NN g) (hz : ¬ Sim g []) (hB : Deg B f) (hC : Deg C g) (hC2 : C + 1 ≤ 1099511627776) (hA : dlen (nrm f) ≤ A) (hD : dlen (nrm g) ≤ D) (hD2 : D + 1 ≤ 1099511627776) (hN : DvN B C A D) :
  Calls Tryz.prog 92 #[.agg (peA x), .agg (peA y), .int .i64 (J : Int)] w (RetRn M w f g J) := by
 obtain ⟨hE, hX, hY, hBz, hM2⟩ := box2 hM x y
 have h2 := (h.more (M' := Mx M w.heap.size (w.heap.size + 3)) (Mx.more (Nat.le_refl _))).ext hE
 have k2 := (k.more (M' := Mx M w.heap.size (w.heap.size + 3)) (Mx.more (Nat.le_refl _))).ext hE
 have hMg : Mx M w.heap.size (w.heap.size + 3) (w.heap.size + 2) := Mx.at (by omega)
 have hMs : ∀ b, M b → Mx M w.heap.size (w.heap.size + 3) b := Mx.sub
 generalize hW : ((w.alloc (.cells (peA x) 33)).alloc (.cells (peA y) 33)).alloc (.cells zA 33) = W at *
 generalize Mx M w.heap.size (w.heap.size + 3) = M' at *
 have CN : Hid (∀ (Mk : Nat → Prop) (wk : World), Ext W wk → Mb Mk wk → (∀ b, Mk b → M' b ∨ W.heap.size ≤ b) → Calls Tryz.prog 59 #[.agg (peA y)] wk (RetX Mk wk 4 (negL g))) := fun Mk wk he hm hs => rp_Neg Mk y g C wk hm ((k2.more hs).ext he) (by omega) hC hC2
 have CR : Hid (∀ (Mk : Nat → Prop) (wk : World) (u : PE), Ext W wk → Mb Mk wk → (∀ b, Mk b → M' b ∨ W.heap.size ≤ b) → CRx Mk wk 4 u (negL g) → Calls Tryz.prog 114 #[.agg (peA x), .agg (peA u), .int .i64 (J : Int)] wk fun e w' => ∃ (y : PE) (er : Int) (n V : Nat), e = .returned (.tuple #[.agg (peA y), .int .i64 er]) ∧ CRx Mk w' 4 y (pdRem J n V f (negL g)) ∧ DgR J g n ∧ StR J f n V ∧ Ext wk w') := fun Mk wk u he hm hs hu => by
  refine (ps_Rem Mk x u f (negL g) (J : Int) B C A D wk hm ((h2.more hs).ext he) hu.pi nf (negL_nn ng) hB (negL_deg hC) hA (by rw [negL_nrm]; exact hD) hN).mono ?_
  rintro e w' ⟨y', er, rfl, hr, he'⟩
  rcases hr with ⟨h5, _⟩ | ⟨_, h5, _⟩ | ⟨J', n, V, e1, _, _, _, hd, hs', _, hc⟩
  ·exact absurd ⟨by omega, by omega⟩ h5
  ·exact absurd (fun m => by have := h5 m; rw [negL_coef] at this; simp only [coefAt] at this ⊢; omega) hz
  ·have : J' = J := by omega
   subst this
   exact ⟨y', er, n, V, rfl, hc, hd.neg, hs', he'⟩
 have HS : Hid (SBr w.heap.size x y W) := ⟨hX, hY⟩
 have HBZ := Lib.hid hBz
 have HE := Lib.hid hE
 have HM2 := Lib.hid hM2
 have HMG := Lib.hid hMg
 have HMS := Lib.hid hMs
 have HW := Lib.hid hW
 clear hE hX hY hBz hM2 h2 k2 hMg hMs hW hM h k nf ng hz hB hC hC2 hA hD hD2 hN h1 h4
 go_enter Tryz.func92, Tryz.ntmps92
 go_upto_region 1 with (fail)
 rw [HW.out]
 obtain ⟨gz, hgz⟩ : ∃ q, q = w.heap.size := ⟨_, rfl⟩
 have HGZ := Lib.hid hgz
 rw [← hgz] at HS HBZ HMG ⊢
 clear hgz HW
 have hS : SBr gz x y W.drew := HS.out.ext (Ext.refl W).drew
 have hD0 := (Ext.refl W).drew
 have HMB : Hid (Mb M' W.drew) := HM2.out.ext hD0
 have HSUB : Hid (∀ b, M' b → M' b ∨ W.heap.size ≤ b) := fun b h => .inl h
 refine wp_region_u (SBr gz x y) 10 (by kernel_rfl) hS (fun hHeld => ?_)
 clear hS
 generalize W.drew = wd at *
 have HD0 := Lib.hid hD0
 clear hD0
 (refine tkB [0, 1, 3] ?_; (iterate 3 (refine tk1 (oi := ?_) (v := ?_) (by kernel_rfl) (by first | exact hSn | exact hHeld) ?_ ?_ ?_ ?_ ?_; rotate_left 2; (simp only [xgA, xgB, xgC]; rfl); rfl; (intro wS hSw; obtain ⟨⟨A0, A1, A2, A3⟩, B0, B1, B2, B3⟩ := hSw; go_simp; try with_reducible rfl); (exact fun _ _ _ h => h); (try simp only [Act.put, xgD, xgE, xgF]))); refine tkE ?_)
 (refine wpAnyU_two 2 8 (oi := ?_) (oj := ?_) (by kernel_rfl) ?_ ?_ ?_ ?_; rotate_left 2; (simp only [xgA, xgB, xgC]; rfl); (simp only [xgA, xgB, xgC]; rfl); all_goals intro K hK)
 focus
  go_simp
  refine (CN.out M' wd HD0.out HMB.out HSUB.out).mono ?_
  rintro e v1 ⟨u, rfl, hu, d1⟩
  go_wp2_with (fail)
  try clear hSn
  have hSn := hHeld.ext (d1)
  refine hK.out _ _ (fun _ => hSn) ?_
  clear hK K
  (try simp only [Act.put, xgD, xgE, xgF])
  (refine wpAnyU_two 4 8 (oi := ?_) (oj := ?_) (by kernel_rfl) ?_ ?_ ?_ ?_; rotate_left 2; (simp only [xgA, xgB, xgC]; rfl); (simp only [xgA, xgB, xgC]; rfl); all_goals intro K hK)
  focus
   go_simp
   refine (CR.out M' v1 u (HD0.out.trans d1) (HMB.out.ext d1) HSUB.out hu).mono ?_
   rintro e v2 ⟨z, er, n, V, rfl, hz, hdg, hst, d2⟩
   go_wp2_with (fail)
   try clear hSn
   have hSn := hHeld.ext (d1.trans d2)
   refine hK.out _ _ (fun _ => hSn) ?_
   clear hK K
   (try simp only [Act.put, xgD, xgE, xgF])
   (refine tkB [5, 6, 7] ?_; (iterate 3 (refine tk1 (oi := ?_) (v := ?_) (by kernel_rfl) (by first | exact hSn | exact hHeld) ?_ ?_ ?_ ?_ ?_; rotate_left 2; (simp only [xgA, xgB, xgC]; rfl); rfl; (intro wS hSw; obtain ⟨⟨A0, A1, A2, A3⟩, B0, B1, B2, B3⟩ := hSw; go_simp; try with_reducible rfl); (exact fun _ _ _ h => h); (try simp only [Act.put, xgD, xgE, xgF]))); refine tkE ?_)
   (refine wpAnyU_one 8 (o := ?_) (by kernel_rfl) ?_ ?_; rotate_left 1; (simp only [xgA, xgB, xgC]; rfl); intro K hK)
   go_simp
   obtain ⟨dA, hBq⟩ := new_z4 v2
   try clear hSn
   have hSn := hHeld.ext ((d1.trans d2).trans dA)
   refine hK.out _ _ (fun _ => hSn) ?_
   clear hK K
   (try simp only [Act.put, xgD, xgE, xgF])
   have hql := (d1.trans d2).size
   have hqg : v2.heap.size < (v2.alloc (.cells zA 33)).heap.size := hBq.lt
   generalize v2.alloc (.cells zA 33) = vF at *
   have hzq : CRx (fun b => M' b ∨ b = v2.heap.size) vF 4 z (pdRem J n V f (negL g)) := (hz.more (fun b hb => hb.imp id fun h => by omega)).ext dA
   have EF := (d1.trans d2).trans dA
   generalize v2.heap.size = gq at *
   clear hz hu d1 d2 dA hqg
  rotate_left
  focus
   go_simp
   obtain ⟨dA, hBq⟩ := new_z4 v1
   try clear hSn
   have hSn := hHeld.ext ((d1).trans dA)
   refine hK.out _ _ (fun _ => hSn) ?_
   clear hK K
   (try simp only [Act.put, xgD, xgE, xgF])
   have hql := (d1).size
   have hqg : v1.heap.size < (v1.alloc (.cells zA 33)).heap.size := hBq.lt
   generalize v1.alloc (.cells zA 33) = v2 at *
   have hMq : Mb (fun b => M' b ∨ b = v1.heap.size) v2 := fun b hb => hb.elim (fun h => ((HMB.out.ext d1).ext dA) b h) fun h => by rw [h]; exact hqg
   replace hu : CRx (fun b => M' b ∨ b = v1.heap.size) v2 4 u (negL g) := (hu.more (fun b hb => hb.imp id fun h => by omega)).ext dA
   have hsq : ∀ b, (M' b ∨ b = v1.heap.size) → M' b ∨ W.heap.size ≤ b := fun b hb => hb.imp id fun h => by have := HD0.out.size; omega
   generalize v1.heap.size = gq at *
   (refine wpAnyU_one 4 (o := ?_) (by kernel_rfl) ?_ ?_; rotate_left 1; (simp only [xgA, xgB, xgC]; rfl); intro K hK)
   go_simp
   refine (CR.out (fun b => M' b ∨ b = gq) v2 u ((HD0.out.trans d1).trans dA) hMq hsq hu).mono ?_
   rintro e vF ⟨z, er, n, V, rfl, hz, hdg, hst, d2⟩
   go_wp2_with (fail)
   try clear hSn
   have hSn := hHeld.ext ((d1.trans dA).trans d2)
   refine hK.out _ _ (fun _ => hSn) ?_
   clear hK K
   (try simp only [Act.put, xgD, xgE, xgF])
   (refine tkB [5, 6, 7] ?_; (iterate 3 (refine tk1 (oi := ?_) (v := ?_) (by kernel_rfl) (by first | exact hSn | exact hHeld) ?_ ?_ ?_ ?_ ?_; rotate_left 2; (simp only [xgA, xgB, xgC]; rfl); rfl; (intro wS hSw; obtain ⟨⟨A0, A1, A2, A3⟩, B0, B1, B2, B3⟩ := hSw; go_simp; try with_reducible rfl); (exact fun _ _ _ h => h); (try simp only [Act.put, xgD, xgE, xgF]))); refine tkE ?_)
   have hzq := hz
   have EF := (d1.trans dA).trans d2
   replace hBq := hBq.ext d2
   clear hz hu d1 d2 dA hqg hMq hsq
 rotate_left
 rotate_left
 focus
  go_simp
  obtain ⟨dA, hBq⟩ := new_z4 wd
  try clear hSn
  have hSn := hHeld.ext (((Ext.refl wd)).trans dA)
  refine hK.out _ _ (fun _ => hSn) ?_
  clear hK K
  (try simp only [Act.put, xgD, xgE, xgF])
  have hql := ((Ext.refl wd)).size
  have hqg : wd.heap.size < (wd.alloc (.cells zA 33)).heap.size := hBq.lt
  generalize wd.alloc (.cells zA 33) = v0 at *
  have hMq : Mb (fun b => M' b ∨ b = wd.heap.size) v0 := fun b hb => hb.elim (fun h => (HMB.out.ext dA) b h) fun h => by rw [h]; exact hqg
  have hsq : ∀ b, (M' b ∨ b = wd.heap.size) → M' b ∨ W.heap.size ≤ b := fun b hb => hb.imp id fun h => by have := HD0.out.size; omega
  obtain ⟨gq, hgq⟩ : ∃ q, q = wd.heap.size := ⟨_, rfl⟩
  rw [← hgq] at hMq hsq hBq hqg ⊢
  replace hql : wd.heap.size ≤ gq := by omega
  clear hgq
  (refine wpAnyU_one 2 (o := ?_) (by kernel_rfl) ?_ ?_; rotate_left 1; (simp only [xgA, xgB, xgC]; rfl); intro K hK)
  go_simp
  refine (CN.out (fun b => M' b ∨ b = gq) v0 (HD0.out.trans dA) hMq hsq).mono ?_
  rintro e v1 ⟨u, rfl, hu, d1⟩
  go_wp2_with (fail)
  try clear hSn
  have hSn := hHeld.ext (dA.trans d1)
  refine hK.out _ _ (fun _ => hSn) ?_
  clear hK K
  (try simp only [Act.put, xgD, xgE, xgF])
  (refine wpAnyU_one 4 (o := ?_) (by kernel_rfl) ?_ ?_; rotate_left 1; (simp only [xgA, xgB, xgC]; rfl); intro K hK)
  go_simp
  refine (CR.out (fun b => M' b ∨ b = gq) v1 u ((HD0.out.trans dA).trans d1) (hMq.ext d1) hsq hu).mono ?_
  rintro e vF ⟨z, er, n, V, rfl, hz, hdg, hst, d2⟩
  go_wp2_with (fail)
  try clear hSn
  have hSn := hHeld.ext ((dA.trans d1).trans d2)
  refine hK.out _ _ (fun _ => hSn) ?_
  clear hK K
  (try simp only [Act.put, xgD, xgE, xgF])
  (refine tkB [5, 6, 7] ?_; (iterate 3 (refine tk1 (oi := ?_) (v := ?_) (by kernel_rfl) (by first | exact hSn | exact hHeld) ?_ ?_ ?_ ?_ ?_; rotate_left 2; (simp only [xgA, xgB, xgC]; rfl); rfl; (intro wS hSw; obtain ⟨⟨A0, A1, A2, A3⟩, B0, B1, B2, B3⟩ := hSw; go_simp; try with_reducible rfl); (exact fun _ _ _ h => h); (try simp only [Act.put, xgD, xgE, xgF]))); refine tkE ?_)
  have hzq := hz
  have EF := (dA.trans d1).trans d2
  replace hBq := (hBq.ext d1).ext d2
  clear hz hu d1 d2 dA hqg hMq hsq
 all_goals
  have HBK : Hid (Blk vF (gz + 2) 33 4 (arr zA)) := HBZ.out.ext (HD0.out.trans EF)
  have hB1 := blk_peT hBq z
  have hkp : Kp (fun b => M' b ∨ b = gq) vF (set4 vF gq 0 (.int .i64 z.lv) (.bool z.b) (.slice z.a z.n z.p) (.slice z.ka z.kn z.kp)) := Kp.set4 (.inr rfl) _ _ _ _ _
  have hle : wd.heap.size ≤ gq := by omega
  have hEd := EF.set4 hle 0 (.int .i64 z.lv) (.bool z.b) (.slice z.a z.n z.p) (.slice z.ka z.kn z.kp)
  have hz1 := hzq.kp hkp
  obtain ⟨q0, q1, q2, q3⟩ : vF.cell? ⟨gq, 0, none⟩ = some (.int .i64 0) ∧ vF.cell? ⟨gq, 1, none⟩ = some (.bool false) ∧ vF.cell? ⟨gq, 2, none⟩ = some (.slice none 0 0) ∧ vF.cell? ⟨gq, 3, none⟩ = some (.slice none 0 0) := ⟨hBq.cell (i := 0) (by omega), hBq.cell (i := 1) (by omega), hBq.cell (i := 2) (by omega), hBq.cell (i := 3) (by omega)⟩
  obtain ⟨f0, f1, f2, f3⟩ : vF.frozen? ⟨gq, 0, none⟩ = false ∧ vF.frozen? ⟨gq, 1, none⟩ = false ∧ vF.frozen? ⟨gq, 2, none⟩ = false ∧ vF.frozen? ⟨gq, 3, none⟩ = false := ⟨hBq.frozen 0, hBq.frozen 1, hBq.frozen 2, hBq.frozen 3⟩
  obtain ⟨W1, hW1⟩ : ∃ W1, W1 = set4 vF gq 0 (.int .i64 z.lv) (.bool z.b) (.slice z.a z.n z.p) (.slice z.ka z.kn z.kp) := ⟨_, rfl⟩
  rw [← hW1] at hB1 hkp hEd hz1
  unfold set4 at hW1
  have hSn1 := hHeld.ext hEd
  try clear hSn
  (refine wpAnyU_one 9 (o := ?_) (by kernel_rfl) ?_ ?_; rotate_left 1; (simp only [xgA, xgB, xgC]; rfl); intro K hK)
  go_simp
  rw [← hW1]
  clear hW1
  refine hK.out _ _ (fun _ => hSn1) ?_
  clear hK K q0 q1 q2 q3 f0 f1 f2 f3
  (try simp only [Act.put, xgD, xgE, xgF])
  have HB1 := Lib.hid hB1
  have hBK2 : Blk W1 (gz + 2) 33 4 (arr zA) := HBZ.out.ext (HD0.out.trans hEd)
  have hHN : w.heap.size ≤ gz + 2 := by have := HGZ.out; omega
  obtain ⟨⟨q0, q1, q2, q3⟩, ⟨f0, f1, f2, f3⟩, ⟨r0, r1, r2, r3⟩, HF⟩ := retX (M := M) (w := w) hBK2 HMG.out hHN (HE.out.trans (HD0.out.trans hEd)) (hz1.more (M' := M') fun b hb => .inl (.inl hb)) HMS.out
  have HR : Hid (RetRn M w f g J (.returned (.agg (peA z))) _) := ⟨_, n, V, HF.out.choose_spec.1, hdg, hst, HF.out.choose_spec.2.1, HF.out.choose_spec.2.2⟩
  obtain ⟨b0, b1, b2, b3⟩ : W1.cell? ⟨gq, 0, none⟩ = some (.int .i64 z.lv) ∧ W1.cell? ⟨gq, 1, none⟩ = some (.bool z.b) ∧ W1.cell? ⟨gq, 2, none⟩ = some (.slice z.a z.n z.p) ∧ W1.cell? ⟨gq, 3, none⟩ = some (.slice z.ka z.kn z.kp) := ⟨HB1.out.cell (i := 0) (by omega), HB1.out.cell (i := 1) (by omega), HB1.out.cell (i := 2) (by omega), HB1.out.cell (i := 3) (by omega)⟩
  clear hzq hkp hz1 hBq hB1 HB1 hBK2 HBK hEd EF hSn1 hHeld HF hdg hst hle hql hHN
  ((refine wpAnyU_one 10 (o := ?_) (by kernel_rfl) ?_ ?_; rotate_left 1; (simp only [xgA, xgB, xgC]; rfl); intro K hK); go_simp; (refine hK.out _ _ (fun h => absurd rfl h) ?_); clear hK K; refine wpAnyU_done (by kernel_rfl) ?_ _)
  go_wp2
  exact bodyPost_ret (v := .agg (peA z)) (by simp [results, Tryz.results92, go_sem, r0, r1, r2, r3]) rfl HR.out
end Go.Proofs.YtpclggidcmmemaaGreat

namespace Go.Proofs.YtpclggidcmmemaaGreat
open Go.RowKit

def RetCk (f g : List Tm) (L : Int) (w : World) (e : Ending) (w' : World) : Prop := ∃ er : Int, e = .returned (.int .i64 er) ∧ ((¬ (1 ≤ L ∧ L ≤ 4) ∧ er = 4) ∨ ((1 ≤ L ∧ L ≤ 4) ∧ (Sim f [] ∨ Sim g []) ∧ er = 2) ∨ ((1 ≤ L ∧ L ≤ 4) ∧ ¬ Sim f [] ∧ ¬ Sim g [] ∧ er = 0)) ∧ Ext w w'
theorem new_px2S (w : World) (x y : PE) : P4 ((w.alloc (.cells (peA x) 33)).alloc (.cells (peA y) 33)) w.heap.size x ∧ P4 ((w.alloc (.cells (peA x) 33)).alloc (.cells (peA y) 33)) (w.heap.size + 1) y := by
 have h1 := Blk.of_arr (w.alloc (.cells (peA x) 33)) (peA y) 33 4 rfl
 have h2 := (Blk.of_arr w (peA x) 33 4 rfl).alloc (.cells (peA y) 33)
 simp only [World.size_alloc] at h1 h2
 exact ⟨h2.p4, h1.p4⟩
set_option maxRecDepth 100000 in
set_option maxHeartbeats 8000000 in
theorem sr_check (M : Nat → Prop) (f g : List Tm) (x y : PE) (L : Int) (w : World) (hM : Mb M w) (h : PI M w x f) (k : PI M w y g) : Calls Tryz.prog 44 #[.agg (peA x), .agg (peA y), .int .i64 L] w (RetCk f g L w) := by
 have hX := ((Ext.refl w).alloc (.cells (peA x) 33)).alloc (.cells (peA y) 33)
 have hB := new_px2S w x y
 have CF : Hid (∀ W', Ext w W' → Calls Tryz.prog 13 #[.agg (peA x)] W' fun e w' => ∃ b : Bool, e = .returned (.bool b) ∧ (b = true ↔ Sim f []) ∧ Ext W' w') := fun W' he => rp_IsZero M x f W' (hM.ext he) (h.ext he)
 have CG : Hid (∀ W', Ext w W' → Calls Tryz.prog 13 #[.agg (peA y)] W' fun e w' => ∃ b : Bool, e = .returned (.bool b) ∧ (b = true ↔ Sim g []) ∧ Ext W' w') := fun W' he => rp_IsZero M y g W' (hM.ext he) (k.ext he)
 clear hM h k
 generalize hW : (w.alloc (.cells (peA x) 33)).alloc (.cells (peA y) 33) = W at *
 have HW := Lib.hid hW
 have HX := Lib.hid hX
 have HB := Lib.hid hB
 clear hX hB hW
 by_cases l1 : L < 1
 ·have HR : Hid (RetCk f g L w (.returned (.int .i64 4)) W) := ⟨4, rfl, .inl ⟨by omega, rfl⟩, HX.out⟩
  clear CF CG
  go_enter Tryz.func44, Tryz.ntmps44
  go_upto_region 1 with (fail)
  rw [HW.out]
  go_wp2
  go_ret
  exact HR.out
 by_cases l4 : 4 < L
 ·have HR : Hid (RetCk f g L w (.returned (.int .i64 4)) W) := ⟨4, rfl, .inl ⟨by omega, rfl⟩, HX.out⟩
  clear CF CG
  go_enter Tryz.func44, Tryz.ntmps44
  go_upto_region 1 with (fail)
  rw [HW.out]
  go_wp2
  go_ret
  exact HR.out
 have HL : Hid (1 ≤ L ∧ L ≤ 4) := ⟨by omega, by omega⟩
 go_enter Tryz.func44, Tryz.ntmps44
 go_upto_region 1 with (fail)
 rw [HW.out]
 generalize w.heap.size = gz at *
 obtain ⟨⟨x0, x1, x2, x3⟩, y0, y1, y2, y3⟩ := HB.out
 go_wp2_with (fail)
 refine (CF.out _ HX.out).mono ?_
 rintro e w1 ⟨b, rfl, hb, he1⟩
 have HX1 := Lib.hid (HX.out.trans he1)
 have HBF := Lib.hid hb
 obtain ⟨⟨x0, x1, x2, x3⟩, y0, y1, y2, y3⟩ : P4 w1 gz x ∧ P4 w1 (gz + 1) y := ⟨HB.out.1.ext he1, HB.out.2.ext he1⟩
 clear hb he1 CF HB HX
 cases b
 rotate_left
 ·have HR : Hid (RetCk f g L w (.returned (.int .i64 2)) w1) := ⟨2, rfl, .inr (.inl ⟨HL.out, .inl (HBF.out.1 rfl), rfl⟩), HX1.out⟩
  go_wp2
  go_ret
  exact HR.out
 have HNF : Hid (¬ Sim f []) := fun h => absurd (HBF.out.2 h) (by decide)
 clear HBF
 go_wp2_with (fail)
 refine (CG.out _ HX1.out).mono ?_
 rintro e w2 ⟨b, rfl, hb, he2⟩
 have HX2 := Lib.hid (HX1.out.trans he2)
 have HBG := Lib.hid hb
 clear hb he2 CG HX1
 cases b
 ·have HR : Hid (RetCk f g L w (.returned (.int .i64 0)) w2) := ⟨0, rfl, .inr (.inr ⟨HL.out, HNF.out, fun h => absurd (HBG.out.2 h) (by decide), rfl⟩), HX2.out⟩
  go_wp2
  go_ret
  exact HR.out
 ·have HR : Hid (RetCk f g L w (.returned (.int .i64 2)) w2) := ⟨2, rfl, .inr (.inl ⟨HL.out, .inr (HBG.out.1 rfl), rfl⟩), HX2.out⟩
  go_wp2
  go_ret
  exact HR.out
end Go.Proofs.YtpclggidcmmemaaGreat

namespace Go.Proofs.YtpclggidcmmemaaGreat
open Go.RowKit

def M9 (M' : Nat → Prop) (A B : Option Nat) : Nat → Prop := fun g => M' g ∨ A = some g ∨ B = some g
structure S9 (M' : Nat → Prop) (wd wk : World) (A B : Option Nat) : Prop where
 e : Ext wd wk
 m : Mb M' wd
 a : ∀ g, A = some g → Blk wk g 33 4 (arr zA) ∧ wd.heap.size ≤ g
 b : ∀ g, B = some g → Blk wk g 33 4 (arr zA) ∧ wd.heap.size ≤ g
 ne : ∀ g, A = some g → B ≠ some g
theorem S9.lt {M' : Nat → Prop} {wd wk : World} {A B : Option Nat} (h : S9 M' wd wk A B) (g : Nat) (hg : A = some g ∨ B = some g) : wd.heap.size ≤ g ∧ g < wk.heap.size := by
 rcases hg with hg | hg
 ·exact ⟨(h.a g hg).2, (h.a g hg).1.lt⟩
 ·exact ⟨(h.b g hg).2, (h.b g hg).1.lt⟩
theorem S9.mb {M' : Nat → Prop} {wd wk : World} {A B : Option Nat} (h : S9 M' wd wk A B) : Mb (M9 M' A B) wk := fun g hg => hg.elim (fun q => Nat.lt_of_lt_of_le (h.m g q) h.e.size) fun q => (h.lt g q).2
theorem S9.start {M' : Nat → Prop} {wd : World} (hm : Mb M' wd) : S9 M' wd wd none none := ⟨Ext.refl _, hm, (fun g h => by cases h), (fun g h => by cases h), fun g h => by cases h⟩
theorem S9.call {M' : Nat → Prop} {wd wk w' : World} {A B : Option Nat} (h : S9 M' wd wk A B) (d : Ext wk w') : S9 M' wd w' A B := ⟨h.e.trans d, h.m, fun g hg => ⟨(h.a g hg).1.ext d, (h.a g hg).2⟩, fun g hg => ⟨(h.b g hg).1.ext d, (h.b g hg).2⟩, h.ne⟩
theorem S9.sub {M' : Nat → Prop} {wd wk : World} {A B : Option Nat} (h : S9 M' wd wk A B) : ∀ g, M9 M' A B g → M' g ∨ wd.heap.size ≤ g := fun g hg => hg.imp id fun q => (h.lt g q).1
theorem S9.allA {M' : Nat → Prop} {wd wk : World} {B : Option Nat} (h : S9 M' wd wk none B) : S9 M' wd (wk.alloc (.cells zA 33)) (some wk.heap.size) B := by
 have d : Ext wk (wk.alloc (.cells zA 33)) := (Ext.refl wk).alloc _
 refine ⟨h.e.trans d, h.m, fun g hg => ?_, fun g hg => ⟨(h.b g hg).1.ext d, (h.b g hg).2⟩, fun g hg hb => ?_⟩
 ·cases hg; exact ⟨Blk.of_arr wk zA 33 4 rfl, h.e.size⟩
 ·cases hg
  have := (h.b _ hb).1.lt; omega
theorem S9.allB {M' : Nat → Prop} {wd wk : World} {A : Option Nat} (h : S9 M' wd wk A none) : S9 M' wd (wk.alloc (.cells zA 33)) A (some wk.heap.size) := by
 have d : Ext wk (wk.alloc (.cells zA 33)) := (Ext.refl wk).alloc _
 refine ⟨h.e.trans d, h.m, fun g hg => ⟨(h.a g hg).1.ext d, (h.a g hg).2⟩, fun g hg => ?_, fun g hg hb => ?_⟩
 ·cases hg; exact ⟨Blk.of_arr wk zA 33 4 rfl, h.e.size⟩
 ·cases hb
  have := (h.a _ hg).1.lt; omega
theorem S9.keepA {M' : Nat → Prop} {wd wk : World} {B : Option Nat} {x : PE} {l : List Tm} (_ : S9 M' wd wk none B) (hx : CRx (M9 M' none B) wk 4 x l) : CRx (M9 M' (some wk.heap.size) B) (wk.alloc (.cells zA 33)) 4 x l := by
 refine (hx.more (M' := M9 M' (some wk.heap.size) B) fun g hg => ?_).ext ((Ext.refl wk).alloc _)
 rcases hg with hg | hg | hg
 ·exact .inl (.inl hg)
 ·cases hg; exact .inr (Nat.le_refl _)
 ·exact .inl (.inr (.inr hg))
theorem S9.keepB {M' : Nat → Prop} {wd wk : World} {A : Option Nat} {x : PE} {l : List Tm} (_ : S9 M' wd wk A none) (hx : CRx (M9 M' A none) wk 4 x l) : CRx (M9 M' A (some wk.heap.size)) (wk.alloc (.cells zA 33)) 4 x l := by
 refine (hx.more (M' := M9 M' A (some wk.heap.size)) fun g hg => ?_).ext ((Ext.refl wk).alloc _)
 rcases hg with hg | hg | hg
 ·exact .inl (.inl hg)
 ·exact .inl (.inr (.inl hg))
 ·cases hg; exact .inr (Nat.le_refl _)
end Go.Proofs.YtpclggidcmmemaaGreat

namespace Go.Proofs.YtpclggidcmmemaaGreat
open Go.RowKit

structure Put9r (M' : Nat → Prop) (wd W : World) (a b : Nat) (x y : PE) (r : List Tm) : Prop where
 e : Ext wd W
 p : P4 W a x
 q : P4 W b y
 y : CRx M' W 4 y r
 lb : wd.heap.size ≤ b
theorem S9.put2r {M' : Nat → Prop} {wd wk : World} {a b : Nat} {y : PE} {r : List Tm} (h : S9 M' wd wk (some a) (some b)) (x : PE) (hy : CRx (M9 M' (some a) (some b)) wk 4 y r) :
  ∃ W1, W1 = set4 wk a 0 (.int .i64 x.lv) (.bool x.b) (.slice x.a x.n x.p) (.slice x.ka x.kn x.kp) ∧ Z4 wk a ∧ Fz4 wk a ∧ Ext wd W1 ∧ Z4 W1 b ∧ Fz4 W1 b ∧
  ∃ W2, W2 = set4 W1 b 0 (.int .i64 y.lv) (.bool y.b) (.slice y.a y.n y.p) (.slice y.ka y.kn y.kp) ∧ Put9r M' wd W2 a b x y r := by
 obtain ⟨hB, hw⟩ := h.a a rfl
 obtain ⟨hB', hw'⟩ := h.b b rfl
 have hne : b ≠ a := fun e => h.ne a rfl (by rw [e])
 have k1 : Kp (M9 M' (some a) (some b)) wk (set4 wk a 0 (.int .i64 x.lv) (.bool x.b) (.slice x.a x.n x.p) (.slice x.ka x.kn x.kp)) := Kp.set4 (.inr (.inl rfl)) _ _ _ _ _
 have b1 := blk_pe4 hB x
 have b2 := hB'.of_heap (heap_set4 wk a 0 (.int .i64 x.lv) (.bool x.b) (.slice x.a x.n x.p) (.slice x.ka x.kn x.kp) b hne)
 have e1 := h.e.set4 hw 0 (.int .i64 x.lv) (.bool x.b) (.slice x.a x.n x.p) (.slice x.ka x.kn x.kp)
 have hy1 := hy.kp k1
 refine ⟨_, rfl, hB.z4, hB.fz4, e1, b2.z4, b2.fz4, _, rfl, ?_⟩
 generalize set4 wk a 0 (.int .i64 x.lv) (.bool x.b) (.slice x.a x.n x.p) (.slice x.ka x.kn x.kp) = W1 at *
 have k2 : Kp (M9 M' (some a) (some b)) W1 (set4 W1 b 0 (.int .i64 y.lv) (.bool y.b) (.slice y.a y.n y.p) (.slice y.ka y.kn y.kp)) := Kp.set4 (.inr (.inr rfl)) _ _ _ _ _
 exact ⟨e1.set4 hw' _ _ _ _ _, (b1.of_heap (heap_set4 _ _ _ _ _ _ _ _ (fun e => hne e.symm))).p4, (blk_pe4 b2 y).p4, (hy1.kp k2).more (fun g hg => .inl (.inl hg)), hw'⟩
def DsCut (M' : Nat → Prop) (y : PE) (r : List Tm) (wd : World) (s9 s10 : Value) (wx : World) : Prop := ∃ (a b : Nat) (z : PE), s9 = .pointer (some ⟨a, 0, none⟩) ∧ s10 = .pointer (some ⟨b, 0, none⟩) ∧ Put9r M' wd wx a b y z r
def SG9 (a b : Nat) (x y : PE) (w : World) : Prop := P4 w a x ∧ P4 w b y
theorem SG9.ext {a b : Nat} {x y : PE} {w w' : World} (h : SG9 a b x y w) (he : Ext w w') : SG9 a b x y w' := ⟨h.1.ext he, h.2.ext he⟩
structure DsI (M' : Nat → Prop) (W : World) (x y : PE) (J m : Nat) (l s r : List Tm) (z : Int) : Prop where
 ld : ∀ wk, Ext W wk → Calls Tryz.prog 91 #[.agg (peA y), .int .i64 (J : Int)] wk (RetX M' wk 4 l)
 pw : ∀ wk u, Ext W wk → CRx M' wk 4 u l → Calls Tryz.prog 37 #[.agg (peA u), .int .i64 ((m : Int) - 1)] wk (RetX M' wk 4 s)
 rm : ∀ Mk wk, Ext W wk → Mb Mk wk → (∀ b, Mk b → M' b ∨ W.heap.size ≤ b) → Calls Tryz.prog 92 #[.agg (peA x), .agg (peA y), .int .i64 (J : Int)] wk (RetX Mk wk 4 r)
 dy : ∀ wk, Ext W wk → Calls Tryz.prog 52 #[.agg (peA y), .int .i64 (J : Int)] wk fun e w' => e = .returned (.int .i64 1) ∧ Ext wk w'
 dr : ∀ wk u, Ext W wk → CRx M' wk 4 u r → Calls Tryz.prog 52 #[.agg (peA u), .int .i64 (J : Int)] wk fun e w' => e = .returned (.int .i64 z) ∧ Ext wk w'
def RetD1 (M : Nat → Prop) (w : World) (r : List Tm) (e : Ending) (w' : World) : Prop := ∃ gl : Nat, e = .returned (.slice (some ⟨gl, 0, none⟩) 1 1) ∧ w.heap.size ≤ gl ∧ Kids (fun b => M b ∨ b = gl) w' 4 gl 1 (fun _ => r) ∧ Ext w w'
set_option maxRecDepth 100000 in
set_option maxHeartbeats 32000000 in
theorem sr_descend1 (M : Nat → Prop) (x y : PE) (J m : Nat) (l s r : List Tm) (z : Int) (w : World) (hM : Mb M w) (hm : m ≤ 100) (hz : z = -1 ∨ z = 0) (hzr : z = -1 → Sim r [])
  (H : ∀ W, Ext w W → ∀ M', Mb M' W → (∀ b, M' b → M b ∨ w.heap.size ≤ b) → DsI M' W x y J m l s r z) :
  Calls Tryz.prog 62 #[.agg (peA x), .agg (peA y), .int .i64 (J : Int), .int .i64 (m : Int), .int .i64 1] w (RetD1 M w r) := by
 obtain ⟨i0, hi, hz0, hz1, hz2⟩ := info_parts Tryz.info33
 have hE := ((Ext.refl w).alloc (.cells (peA x) 33)).alloc (.cells (peA y) 33)
 have hBx := new_px2S w x y
 have hsz0 : ((w.alloc (.cells (peA x) 33)).alloc (.cells (peA y) 33)).heap.size = w.heap.size + 2 := by simp
 generalize hW : (w.alloc (.cells (peA x) 33)).alloc (.cells (peA y) 33) = W at *
 have HW := Lib.hid hW
 have HE := Lib.hid hE
 have HBX := Lib.hid hBx
 have HSZ := Lib.hid hsz0
 have HM := Lib.hid hM
 have HH := Lib.hid H
 have HMM := Lib.hid hm
 have HZ := Lib.hid hz
 have HZR := Lib.hid hzr
 clear hE hBx hW hsz0 hM H hm hz hzr
 go_enter Tryz.func62, Tryz.ntmps62
 go_upto_region 1 with (fail)
 rw [HW.out]
 go_wp2_with (first | (at_make; refine wpList_makeX _ rfl _ _ _ rfl 33 i0 (.agg #[.int .i64 0, .bool false, .slice none 0 0, .slice none 0 0]) 4 Tryz.underlying31 hi hz0 hz1 .i64 .i64 _ _ 1 rfl rfl ?c4 ?c5 ?c2 ?c3 ?_))
 case c2 => rw [hz2]; omega
 case c3 => unfold maxLen; omega
 case c4 => simp
 case c5 => simp
 have hBk := blk_madeAlloc W 1 33
 have he1 := (Ext.refl W).alloc (.cells (madeCells (Value.agg #[.int .i64 0, .bool false, .slice none 0 0, .slice none 0 0]).cells (1 * 4)) 33)
 intro w1 hw1
 replace hw1 : W.alloc (.cells (madeCells (Value.agg #[.int .i64 0, .bool false, .slice none 0 0, .slice none 0 0]).cells (1 * 4)) 33) = w1 := hw1.out.symm
 rw [hw1] at hBk he1
 obtain ⟨gt, hgt⟩ : ∃ gt, gt = W.heap.size := ⟨_, rfl⟩
 obtain ⟨g0, hg0⟩ : ∃ g0, g0 = w.heap.size := ⟨_, rfl⟩
 rw [← hgt] at hBk ⊢
 rw [← hg0] at HBX ⊢
 have HGT : Hid (gt = w.heap.size + 2) := hgt.trans HSZ.out
 have HG0 : Hid (g0 = w.heap.size) := hg0
 have HM1 : Hid (Mb (fun b => M b ∨ b = gt) w1) := mb_ins (HM.out.ext (HE.out.trans he1)) hBk.lt
 have HT1 : Hid (Kids (fun b => M b ∨ b = gt) w1 4 gt 1 (fun _ => [])) := Kids.fresh hBk
 have HE1 : Hid (Ext w w1) := HE.out.trans he1
 have HI : Hid (DsI (fun b => M b ∨ b = gt) w1 x y J m l s r z) := HH.out w1 HE1.out _ HM1.out fun b hb => hb.imp id fun h => by have := HGT.out; omega
 obtain ⟨⟨x0, x1, x2, x3⟩, y0, y1, y2, y3⟩ : P4 w1 g0 x ∧ P4 w1 (g0 + 1) y := ⟨HBX.out.1.ext he1, HBX.out.2.ext he1⟩
 have HXY : Hid (P4 w1 g0 x ∧ P4 w1 (g0 + 1) y) := ⟨HBX.out.1.ext he1, HBX.out.2.ext he1⟩
 clear hBk he1 hw1 hgt hg0 HBX HH HSZ HM HE HW hi hz0 hz1 hz2
 have HMG : Hid ((fun b => M b ∨ b = gt) gt) := .inr rfl
 have HMQ : Hid (∀ b, M b ∨ b = gt → (fun b => M b ∨ b = gt) b) := fun b h => h
 generalize (fun b => M b ∨ b = gt) = M' at *
 have hmw : IntKind.i64.wrap ((m : Int) - 1) = (m : Int) - 1 := IntWalk.i64_in _ (by have := HMM.out; omega)
 go_wp2_with (fail)
 refine (HI.out.ld _ (Ext.refl w1)).mono ?_
 rintro e w2 ⟨u, rfl, hu, e2⟩
 have HE2 := Lib.hid e2
 have HU := Lib.hid hu
 obtain ⟨⟨x0, x1, x2, x3⟩, y0, y1, y2, y3⟩ : P4 w2 g0 x ∧ P4 w2 (g0 + 1) y := ⟨HXY.out.1.ext e2, HXY.out.2.ext e2⟩
 clear hu e2
 go_wp2_with (fail)
 refine (HI.out.pw _ u HE2.out HU.out).mono ?_
 rintro e w3 ⟨v, rfl, hv, e3⟩
 have hEA := (Ext.refl w3).alloc (.cells (peA v) 33)
 have HE3 := Lib.hid ((HE2.out.trans e3).trans hEA)
 generalize hW4 : w3.alloc (.cells (peA v) 33) = w4 at *
 have HW4 := Lib.hid hW4
 obtain ⟨⟨x0, x1, x2, x3⟩, y0, y1, y2, y3⟩ : P4 w4 g0 x ∧ P4 w4 (g0 + 1) y := ⟨HXY.out.1.ext HE3.out, HXY.out.2.ext HE3.out⟩
 clear hv e3 HU HE2 hmw hW4 hEA
 have HMW : Hid (Mb M' w4.drew) := HM1.out.ext (HE3.out.trans (Ext.refl _).drew)
 have HSZ : Hid (w1.heap.size ≤ w4.drew.heap.size) := (HE3.out.trans (Ext.refl _).drew).size
 have HS0 : Hid (SBr g0 x y w4.drew) := SBr.ext HXY.out (HE3.out.trans (Ext.refl _).drew)
 have HD : Hid (Ext w1 w4.drew) := HE3.out.trans (Ext.refl _).drew
 clear x0 x1 x2 x3 y0 y1 y2 y3
 go_upto_region 3 with (fail)
 rw [HW4.out]
 generalize w3.heap.size = g3 at *
 clear HW4 HXY
 generalize hwD : w4.drew = wD at *
 go_cut [13, 14] (DsCut M' y r wD)
 case first =>
  have C1 : Hid (∀ A B W', S9 M' wD W' A B → Calls Tryz.prog 92 #[.agg (peA x), .agg (peA y), .int .i64 (J : Int)] W' (RetX (M9 M' A B) W' 4 r)) := fun A B W' h => HI.out.rm _ W' (HD.out.trans h.e) h.mb fun b hb => (h.sub b hb).imp id fun h => Nat.le_trans HSZ.out h
  have S0 := S9.start HMW.out
  refine wp_region_u (SBr g0 x y) 9 (by kernel_rfl) (by rw [hwD]; exact HS0.out) (fun hHeld => ?_)
  rw [hwD] at hHeld ⊢
  clear HI HS0 HM1 HT1 HE1 HE3 HD hwD HMW HSZ HMM HZ HZR HGT HG0
  generalize wD = wd at *
  (refine tkB [0, 1, 2, 3] ?_; (iterate 4 (refine tk1 (oi := ?_) (v := ?_) (by kernel_rfl) (by first | exact hSn | exact hHeld) ?_ ?_ ?_ ?_ ?_; rotate_left 2; (simp only [xgA, xgB, xgC]; rfl); rfl; (intro wS hSw; obtain ⟨⟨A0, A1, A2, A3⟩, B0, B1, B2, B3⟩ := hSw; go_simp; try with_reducible rfl); (exact fun _ _ _ h => h); (try simp only [Act.put, xgD, xgE, xgF]))); refine tkE ?_)
  (refine wpAnyU_thr 4 5 6 (oi := ?_) (oj := ?_) (ok := ?_) (by kernel_rfl) ?_ ?_ ?_ ?_ ?_ ?_; rotate_left 3; (simp only [xgA, xgB, xgC]; rfl); (simp only [xgA, xgB, xgC]; rfl); (simp only [xgA, xgB, xgC]; rfl); all_goals intro K hK)
  ·skip
   go_simp
   refine (C1.out _ _ wd S0).mono ?_
   rintro e v1 ⟨z, rfl, hz, D⟩
   go_wp2_with (fail)
   have S1 := S0.call D
   clear D
   try clear hSn
   have hSn := hHeld.ext S1.e
   refine hK.out _ _ (fun _ => hSn) ?_
   clear hK K
   (try simp only [Act.put, xgD, xgE, xgF])
   (refine wpAnyU_two 5 6 (oi := ?_) (oj := ?_) (by kernel_rfl) ?_ ?_ ?_ ?_; rotate_left 2; (simp only [xgA, xgB, xgC]; rfl); (simp only [xgA, xgB, xgC]; rfl); all_goals intro K hK)
   ·skip
    go_simp
    replace hz := S1.keepA hz
    have S2 := S1.allA
    try clear hSn
    have hSn := hHeld.ext S2.e
    refine hK.out _ _ (fun _ => hSn) ?_
    clear hK K
    (try simp only [Act.put, xgD, xgE, xgF])
    generalize v1.alloc (.cells zA 33) = v2 at *
    generalize v1.heap.size = g2 at *
    (refine wpAnyU_one 6 (o := ?_) (by kernel_rfl) ?_ ?_; rotate_left 1; (simp only [xgA, xgB, xgC]; rfl); intro K hK)
    go_simp
    replace hz := S2.keepB hz
    have S3 := S2.allB
    try clear hSn
    have hSn := hHeld.ext S3.e
    refine hK.out _ _ (fun _ => hSn) ?_
    clear hK K
    (try simp only [Act.put, xgD, xgE, xgF])
    generalize v2.alloc (.cells zA 33) = v3 at *
    generalize v2.heap.size = g3 at *
    obtain ⟨W1, hW1, ⟨q0, q1, q2, q3⟩, ⟨f0, f1, f2, f3⟩, E1, ⟨r0, r1, r2, r3⟩, ⟨k0, k1, k2, k3⟩, W2, hW2, HP2⟩ := S3.put2r y hz
    unfold set4 at hW1 hW2
    have hSn1 := hHeld.ext E1
    have hSn2 := hHeld.ext HP2.e
    clear hSn
    (refine wpAnyU_one 7 (o := ?_) (by kernel_rfl) ?_ ?_; rotate_left 1; (simp only [xgA, xgB, xgC]; rfl); intro K hK)
    go_simp
    rw [← hW1]
    clear hW1
    refine hK.out _ _ (fun _ => hSn1) ?_
    clear hK K q0 q1 q2 q3 f0 f1 f2 f3
    (try simp only [Act.put, xgD, xgE, xgF])
    (refine wpAnyU_one 8 (o := ?_) (by kernel_rfl) ?_ ?_; rotate_left 1; (simp only [xgA, xgB, xgC]; rfl); intro K hK)
    go_simp
    rw [← hW2]
    clear hW2
    refine hK.out _ _ (fun _ => hSn2) ?_
    clear hK K r0 r1 r2 r3 k0 k1 k2 k3
    (try simp only [Act.put, xgD, xgE, xgF])
    refine wpAnyU_done (by kernel_rfl) ?_ _
    go_wp2_with (fail)
    go_meet
    exact ⟨_, _, z, rfl, rfl, HP2⟩
   ·skip
    go_simp
    replace hz := S1.keepB hz
    have S4 := S1.allB
    try clear hSn
    have hSn := hHeld.ext S4.e
    refine hK.out _ _ (fun _ => hSn) ?_
    clear hK K
    (try simp only [Act.put, xgD, xgE, xgF])
    generalize v1.alloc (.cells zA 33) = v4 at *
    generalize v1.heap.size = g4 at *
    (refine wpAnyU_one 5 (o := ?_) (by kernel_rfl) ?_ ?_; rotate_left 1; (simp only [xgA, xgB, xgC]; rfl); intro K hK)
    go_simp
    replace hz := S4.keepA hz
    have S5 := S4.allA
    try clear hSn
    have hSn := hHeld.ext S5.e
    refine hK.out _ _ (fun _ => hSn) ?_
    clear hK K
    (try simp only [Act.put, xgD, xgE, xgF])
    generalize v4.alloc (.cells zA 33) = v5 at *
    generalize v4.heap.size = g5 at *
    obtain ⟨W1, hW1, ⟨q0, q1, q2, q3⟩, ⟨f0, f1, f2, f3⟩, E1, ⟨r0, r1, r2, r3⟩, ⟨k0, k1, k2, k3⟩, W2, hW2, HP2⟩ := S5.put2r y hz
    unfold set4 at hW1 hW2
    have hSn1 := hHeld.ext E1
    have hSn2 := hHeld.ext HP2.e
    clear hSn
    (refine wpAnyU_one 7 (o := ?_) (by kernel_rfl) ?_ ?_; rotate_left 1; (simp only [xgA, xgB, xgC]; rfl); intro K hK)
    go_simp
    rw [← hW1]
    clear hW1
    refine hK.out _ _ (fun _ => hSn1) ?_
    clear hK K q0 q1 q2 q3 f0 f1 f2 f3
    (try simp only [Act.put, xgD, xgE, xgF])
    (refine wpAnyU_one 8 (o := ?_) (by kernel_rfl) ?_ ?_; rotate_left 1; (simp only [xgA, xgB, xgC]; rfl); intro K hK)
    go_simp
    rw [← hW2]
    clear hW2
    refine hK.out _ _ (fun _ => hSn2) ?_
    clear hK K r0 r1 r2 r3 k0 k1 k2 k3
    (try simp only [Act.put, xgD, xgE, xgF])
    refine wpAnyU_done (by kernel_rfl) ?_ _
    go_wp2_with (fail)
    go_meet
    exact ⟨_, _, z, rfl, rfl, HP2⟩
  ·skip
   go_simp
   have S6 := S0.allA
   try clear hSn
   have hSn := hHeld.ext S6.e
   refine hK.out _ _ (fun _ => hSn) ?_
   clear hK K
   (try simp only [Act.put, xgD, xgE, xgF])
   generalize wd.alloc (.cells zA 33) = v6 at *
   generalize wd.heap.size = g6 at *
   (refine wpAnyU_two 4 6 (oi := ?_) (oj := ?_) (by kernel_rfl) ?_ ?_ ?_ ?_; rotate_left 2; (simp only [xgA, xgB, xgC]; rfl); (simp only [xgA, xgB, xgC]; rfl); all_goals intro K hK)
   ·skip
    go_simp
    refine (C1.out _ _ v6 S6).mono ?_
    rintro e v7 ⟨z, rfl, hz, D⟩
    go_wp2_with (fail)
    have S7 := S6.call D
    clear D
    try clear hSn
    have hSn := hHeld.ext S7.e
    refine hK.out _ _ (fun _ => hSn) ?_
    clear hK K
    (try simp only [Act.put, xgD, xgE, xgF])
    (refine wpAnyU_one 6 (o := ?_) (by kernel_rfl) ?_ ?_; rotate_left 1; (simp only [xgA, xgB, xgC]; rfl); intro K hK)
    go_simp
    replace hz := S7.keepB hz
    have S8 := S7.allB
    try clear hSn
    have hSn := hHeld.ext S8.e
    refine hK.out _ _ (fun _ => hSn) ?_
    clear hK K
    (try simp only [Act.put, xgD, xgE, xgF])
    generalize v7.alloc (.cells zA 33) = v8 at *
    generalize v7.heap.size = g8 at *
    obtain ⟨W1, hW1, ⟨q0, q1, q2, q3⟩, ⟨f0, f1, f2, f3⟩, E1, ⟨r0, r1, r2, r3⟩, ⟨k0, k1, k2, k3⟩, W2, hW2, HP2⟩ := S8.put2r y hz
    unfold set4 at hW1 hW2
    have hSn1 := hHeld.ext E1
    have hSn2 := hHeld.ext HP2.e
    clear hSn
    (refine wpAnyU_one 7 (o := ?_) (by kernel_rfl) ?_ ?_; rotate_left 1; (simp only [xgA, xgB, xgC]; rfl); intro K hK)
    go_simp
    rw [← hW1]
    clear hW1
    refine hK.out _ _ (fun _ => hSn1) ?_
    clear hK K q0 q1 q2 q3 f0 f1 f2 f3
    (try simp only [Act.put, xgD, xgE, xgF])
    (refine wpAnyU_one 8 (o := ?_) (by kernel_rfl) ?_ ?_; rotate_left 1; (simp only [xgA, xgB, xgC]; rfl); intro K hK)
    go_simp
    rw [← hW2]
    clear hW2
    refine hK.out _ _ (fun _ => hSn2) ?_
    clear hK K r0 r1 r2 r3 k0 k1 k2 k3
    (try simp only [Act.put, xgD, xgE, xgF])
    refine wpAnyU_done (by kernel_rfl) ?_ _
    go_wp2_with (fail)
    go_meet
    exact ⟨_, _, z, rfl, rfl, HP2⟩
   ·skip
    go_simp
    have S9 := S6.allB
    try clear hSn
    have hSn := hHeld.ext S9.e
    refine hK.out _ _ (fun _ => hSn) ?_
    clear hK K
    (try simp only [Act.put, xgD, xgE, xgF])
    generalize v6.alloc (.cells zA 33) = v9 at *
    generalize v6.heap.size = g9 at *
    (refine wpAnyU_one 4 (o := ?_) (by kernel_rfl) ?_ ?_; rotate_left 1; (simp only [xgA, xgB, xgC]; rfl); intro K hK)
    go_simp
    refine (C1.out _ _ v9 S9).mono ?_
    rintro e v10 ⟨z, rfl, hz, D⟩
    go_wp2_with (fail)
    have S10 := S9.call D
    clear D
    try clear hSn
    have hSn := hHeld.ext S10.e
    refine hK.out _ _ (fun _ => hSn) ?_
    clear hK K
    (try simp only [Act.put, xgD, xgE, xgF])
    obtain ⟨W1, hW1, ⟨q0, q1, q2, q3⟩, ⟨f0, f1, f2, f3⟩, E1, ⟨r0, r1, r2, r3⟩, ⟨k0, k1, k2, k3⟩, W2, hW2, HP2⟩ := S10.put2r y hz
    unfold set4 at hW1 hW2
    have hSn1 := hHeld.ext E1
    have hSn2 := hHeld.ext HP2.e
    clear hSn
    (refine wpAnyU_one 7 (o := ?_) (by kernel_rfl) ?_ ?_; rotate_left 1; (simp only [xgA, xgB, xgC]; rfl); intro K hK)
    go_simp
    rw [← hW1]
    clear hW1
    refine hK.out _ _ (fun _ => hSn1) ?_
    clear hK K q0 q1 q2 q3 f0 f1 f2 f3
    (try simp only [Act.put, xgD, xgE, xgF])
    (refine wpAnyU_one 8 (o := ?_) (by kernel_rfl) ?_ ?_; rotate_left 1; (simp only [xgA, xgB, xgC]; rfl); intro K hK)
    go_simp
    rw [← hW2]
    clear hW2
    refine hK.out _ _ (fun _ => hSn2) ?_
    clear hK K r0 r1 r2 r3 k0 k1 k2 k3
    (try simp only [Act.put, xgD, xgE, xgF])
    refine wpAnyU_done (by kernel_rfl) ?_ _
    go_wp2_with (fail)
    go_meet
    exact ⟨_, _, z, rfl, rfl, HP2⟩
  ·skip
   go_simp
   have S11 := S0.allB
   try clear hSn
   have hSn := hHeld.ext S11.e
   refine hK.out _ _ (fun _ => hSn) ?_
   clear hK K
   (try simp only [Act.put, xgD, xgE, xgF])
   generalize wd.alloc (.cells zA 33) = v11 at *
   generalize wd.heap.size = g11 at *
   (refine wpAnyU_two 4 5 (oi := ?_) (oj := ?_) (by kernel_rfl) ?_ ?_ ?_ ?_; rotate_left 2; (simp only [xgA, xgB, xgC]; rfl); (simp only [xgA, xgB, xgC]; rfl); all_goals intro K hK)
   ·skip
    go_simp
    refine (C1.out _ _ v11 S11).mono ?_
    rintro e v12 ⟨z, rfl, hz, D⟩
    go_wp2_with (fail)
    have S12 := S11.call D
    clear D
    try clear hSn
    have hSn := hHeld.ext S12.e
    refine hK.out _ _ (fun _ => hSn) ?_
    clear hK K
    (try simp only [Act.put, xgD, xgE, xgF])
    (refine wpAnyU_one 5 (o := ?_) (by kernel_rfl) ?_ ?_; rotate_left 1; (simp only [xgA, xgB, xgC]; rfl); intro K hK)
    go_simp
    replace hz := S12.keepA hz
    have S13 := S12.allA
    try clear hSn
    have hSn := hHeld.ext S13.e
    refine hK.out _ _ (fun _ => hSn) ?_
    clear hK K
    (try simp only [Act.put, xgD, xgE, xgF])
    generalize v12.alloc (.cells zA 33) = v13 at *
    generalize v12.heap.size = g13 at *
    obtain ⟨W1, hW1, ⟨q0, q1, q2, q3⟩, ⟨f0, f1, f2, f3⟩, E1, ⟨r0, r1, r2, r3⟩, ⟨k0, k1, k2, k3⟩, W2, hW2, HP2⟩ := S13.put2r y hz
    unfold set4 at hW1 hW2
    have hSn1 := hHeld.ext E1
    have hSn2 := hHeld.ext HP2.e
    clear hSn
    (refine wpAnyU_one 7 (o := ?_) (by kernel_rfl) ?_ ?_; rotate_left 1; (simp only [xgA, xgB, xgC]; rfl); intro K hK)
    go_simp
    rw [← hW1]
    clear hW1
    refine hK.out _ _ (fun _ => hSn1) ?_
    clear hK K q0 q1 q2 q3 f0 f1 f2 f3
    (try simp only [Act.put, xgD, xgE, xgF])
    (refine wpAnyU_one 8 (o := ?_) (by kernel_rfl) ?_ ?_; rotate_left 1; (simp only [xgA, xgB, xgC]; rfl); intro K hK)
    go_simp
    rw [← hW2]
    clear hW2
    refine hK.out _ _ (fun _ => hSn2) ?_
    clear hK K r0 r1 r2 r3 k0 k1 k2 k3
    (try simp only [Act.put, xgD, xgE, xgF])
    refine wpAnyU_done (by kernel_rfl) ?_ _
    go_wp2_with (fail)
    go_meet
    exact ⟨_, _, z, rfl, rfl, HP2⟩
   ·skip
    go_simp
    have S14 := S11.allA
    try clear hSn
    have hSn := hHeld.ext S14.e
    refine hK.out _ _ (fun _ => hSn) ?_
    clear hK K
    (try simp only [Act.put, xgD, xgE, xgF])
    generalize v11.alloc (.cells zA 33) = v14 at *
    generalize v11.heap.size = g14 at *
    (refine wpAnyU_one 4 (o := ?_) (by kernel_rfl) ?_ ?_; rotate_left 1; (simp only [xgA, xgB, xgC]; rfl); intro K hK)
    go_simp
    refine (C1.out _ _ v14 S14).mono ?_
    rintro e v15 ⟨z, rfl, hz, D⟩
    go_wp2_with (fail)
    have S15 := S14.call D
    clear D
    try clear hSn
    have hSn := hHeld.ext S15.e
    refine hK.out _ _ (fun _ => hSn) ?_
    clear hK K
    (try simp only [Act.put, xgD, xgE, xgF])
    obtain ⟨W1, hW1, ⟨q0, q1, q2, q3⟩, ⟨f0, f1, f2, f3⟩, E1, ⟨r0, r1, r2, r3⟩, ⟨k0, k1, k2, k3⟩, W2, hW2, HP2⟩ := S15.put2r y hz
    unfold set4 at hW1 hW2
    have hSn1 := hHeld.ext E1
    have hSn2 := hHeld.ext HP2.e
    clear hSn
    (refine wpAnyU_one 7 (o := ?_) (by kernel_rfl) ?_ ?_; rotate_left 1; (simp only [xgA, xgB, xgC]; rfl); intro K hK)
    go_simp
    rw [← hW1]
    clear hW1
    refine hK.out _ _ (fun _ => hSn1) ?_
    clear hK K q0 q1 q2 q3 f0 f1 f2 f3
    (try simp only [Act.put, xgD, xgE, xgF])
    (refine wpAnyU_one 8 (o := ?_) (by kernel_rfl) ?_ ?_; rotate_left 1; (simp only [xgA, xgB, xgC]; rfl); intro K hK)
    go_simp
    rw [← hW2]
    clear hW2
    refine hK.out _ _ (fun _ => hSn2) ?_
    clear hK K r0 r1 r2 r3 k0 k1 k2 k3
    (try simp only [Act.put, xgD, xgE, xgF])
    refine wpAnyU_done (by kernel_rfl) ?_ _
    go_wp2_with (fail)
    go_meet
    exact ⟨_, _, z, rfl, rfl, HP2⟩
 case rest =>
  obtain ⟨ba, bb, zz, rfl, rfl, hput⟩ := hcut
  have HEc := Lib.hid (HD.out.trans hput.e)
  have HP : Hid (SG9 ba bb y zz wc) := ⟨hput.p, hput.q⟩
  have HR := Lib.hid hput.y
  have HNE : Hid (bb ≠ gt) := by have := hput.lb; have := HT1.out.lt; have := HSZ.out; show bb ≠ gt; omega
  have HTc : Hid (Kids M' wc 4 gt 1 (fun _ => [])) := HT1.out.ext HEc.out
  have HMc : Hid (Mb M' wc) := HM1.out.ext HEc.out
  have HEw := Lib.hid (HE1.out.trans HEc.out)
  clear hput HS0 HT1 HM1 HE1 HE3 HD HMW HSZ hwD HMM
  go_wp2
  go_loopw [15] (fun _ wr => wr = wc) (fun _ _ => 0)
  case atStart => rfl
  case round =>
   subst hrel
   go_upto_region 4 with (fail)
   have HPd : Hid (SG9 ba bb y zz wr.drew) := HP.out.ext (Ext.refl _).drew
   have C2 : Hid (∀ wk, Ext wr.drew wk → Calls Tryz.prog 52 #[.agg (peA y), .int .i64 (J : Int)] wk fun e w' => e = .returned (.int .i64 1) ∧ Ext wk w') := fun wk he => HI.out.dy wk ((HEc.out.trans (Ext.refl _).drew).trans he)
   have C5 : Hid (∀ wk, Ext wr.drew wk → Calls Tryz.prog 52 #[.agg (peA zz), .int .i64 (J : Int)] wk fun e w' => e = .returned (.int .i64 z) ∧ Ext wk w') := fun wk he => HI.out.dr wk zz ((HEc.out.trans (Ext.refl _).drew).trans he) ((HR.out.ext (Ext.refl _).drew).ext he)
   have HDR : Hid (Ext wr wr.drew) := (Ext.refl _).drew
   refine wp_region_u (SG9 ba bb y zz) 8 (by kernel_rfl) HPd.out (fun hHeld => ?_)
   generalize wr.drew = wd at *
   (refine tkB [0, 1, 3, 4] ?_; (iterate 4 (refine tk1 (oi := ?_) (v := ?_) (by kernel_rfl) (by first | exact hSn | exact hHeld) ?_ ?_ ?_ ?_ ?_; rotate_left 2; (simp only [xgA, xgB, xgC]; rfl); rfl; (intro wS hSw; obtain ⟨⟨A0, A1, A2, A3⟩, B0, B1, B2, B3⟩ := hSw; go_simp; try with_reducible rfl); (exact fun _ _ _ h => h); (try simp only [Act.put, xgD, xgE, xgF]))); refine tkE ?_)
   ((refine wpAnyU_one 2 (o := ?_) (by kernel_rfl) ?_ ?_; rotate_left 1; (simp only [xgA, xgB, xgC]; rfl); intro K hK); go_simp; (refine (C2.out wd (Ext.refl _)).mono ?_); rintro e_ w5 ⟨rfl, e2⟩; go_wp2_with (fail); (try clear hSn); (have hSn := hHeld.ext e2); (refine hK.out _ _ (fun _ => hSn) ?_); clear hK K; (try simp only [Act.put, xgD, xgE, xgF]))
   ((refine wpAnyU_one 5 (o := ?_) (by kernel_rfl) ?_ ?_; rotate_left 1; (simp only [xgA, xgB, xgC]; rfl); intro K hK); go_simp; (refine (C5.out w5 e2).mono ?_); rintro e_ w6 ⟨rfl, e5⟩; go_wp2_with (fail); (try clear hSn); (have hSn := hHeld.ext (e2.trans e5)); (refine hK.out _ _ (fun _ => hSn) ?_); clear hK K; (try simp only [Act.put, xgD, xgE, xgF]))
   (refine tkB [6, 7] ?_; (iterate 2 (refine tk1 (oi := ?_) (v := ?_) (by kernel_rfl) (by first | exact hSn | exact hHeld) ?_ ?_ ?_ ?_ ?_; rotate_left 2; (simp only [xgA, xgB, xgC]; rfl); rfl; (intro wS hSw; obtain ⟨⟨A0, A1, A2, A3⟩, B0, B1, B2, B3⟩ := hSw; go_simp; try with_reducible rfl); (exact fun _ _ _ h => h); (try simp only [Act.put, xgD, xgE, xgF]))); refine tkE ?_)
   refine wpAnyU_done (by kernel_rfl) ?_ _
   have HE6 := Lib.hid (HDR.out.trans (e2.trans e5))
   obtain ⟨⟨A0, A1, A2, A3⟩, B0, B1, B2, B3⟩ := HP.out.ext HE6.out
   clear hHeld hSn e2 e5 HPd C2 C5 HDR HI HEc
   rcases HZ.out with rfl | rfl
   ·have HF : Hid (RetD1 M w r (.returned (.slice (some ⟨gt, 0, none⟩) 1 1)) w6) := ⟨gt, rfl, by have := HGT.out; omega, ((HTc.out.ext HE6.out).congr fun i _ => (HZR.out rfl).symm).more fun b hb => .inl (HMQ.out b hb), HEw.out.trans HE6.out⟩
    clear HTc HP HR HMc HEw HMG HMQ HZ HZR HE6 HGT HG0
    go_wp2
    go_ret
    exact HF.out
   ·have HT6 := Lib.hid (HTc.out.ext HE6.out)
    obtain ⟨⟨_, q0⟩, ⟨_, q1⟩, ⟨_, q2⟩, ⟨_, q3⟩, hfz, _⟩ := HT6.out.at 0 (by omega)
    simp only [Nat.zero_mul, Nat.zero_add] at q0 q1 q2 q3
    have f0 := hfz 0
    have f1 := hfz 1
    have f2 := hfz 2
    have f3 := hfz 3
    have hr6 := HR.out.ext HE6.out
    have hT7 := HT6.out.set HMG.out 0 (by omega) hr6
    have hE7 := (HEw.out.trans HE6.out).set4 (g := gt) (by have := HGT.out; omega) 0 (.int .i64 zz.lv) (.bool zz.b) (.slice zz.a zz.n zz.p) (.slice zz.ka zz.kn zz.kp)
    have hP7 : P4 (set4 w6 gt 0 (.int .i64 zz.lv) (.bool zz.b) (.slice zz.a zz.n zz.p) (.slice zz.ka zz.kn zz.kp)) bb zz := (HP.out.ext HE6.out).2.of_heap (heap_set4 _ _ _ _ _ _ _ _ HNE.out)
    rw [Nat.zero_mul] at hT7
    obtain ⟨W7, hW7⟩ : ∃ W7, W7 = set4 w6 gt 0 (.int .i64 zz.lv) (.bool zz.b) (.slice zz.a zz.n zz.p) (.slice zz.ka zz.kn zz.kp) := ⟨_, rfl⟩
    rw [← hW7] at hT7 hE7 hP7
    unfold set4 at hW7
    have HW7 := Lib.hid hW7
    have HE7 := Lib.hid hE7
    have HT7 := Lib.hid hT7
    have HP7 := Lib.hid hP7
    clear hT7 hE7 hP7 hW7 hfz hr6 A0 A1 A2 A3 HT6 HTc HP HR HMc HEw HZ HZR HE6 HG0 HMG HNE
    go_upto_region 8 with (fail)
    rw [← HW7.out]
    clear HW7 q0 q1 q2 q3 f0 f1 f2 f3 B0 B1 B2 B3
    obtain ⟨b0, b1, b2, b3⟩ := HP7.out
    have hEA := (Ext.refl W7).alloc (.cells (peA zz) 33)
    generalize hW8 : W7.alloc (.cells (peA zz) 33) = W8 at *
    have HF : Hid (RetD1 M w r (.returned (.slice (some ⟨gt, 0, none⟩) 1 1)) W8) := ⟨gt, rfl, by have := HGT.out; omega, ((HT7.out.ext hEA).congr fun i hi => by rw [if_pos (by omega)]; exact Sim.refl _).more fun b hb => .inl (HMQ.out b hb), HE7.out.trans hEA⟩
    have HW8 := Lib.hid hW8
    clear HT7 HP7 HE7 HMQ HGT hEA hW8
    go_upto_region 13 with (fail)
    rw [HW8.out]
    clear HW8 b0 b1 b2 b3
    go_wp2
    go_ret
    exact HF.out
end Go.Proofs.YtpclggidcmmemaaGreat

namespace Go.Proofs.YtpclggidcmmemaaGreat
open Go.RowKit

structure ChI (M : Nat → Prop) (w : World) (x y : PE) (J m : Nat) (r : List Tm) : Prop where
 ck : ∀ wk, Ext w wk → Calls Tryz.prog 44 #[.agg (peA x), .agg (peA y), .int .i64 (J : Int)] wk fun e w' => e = .returned (.int .i64 0) ∧ Ext wk w'
 dx : ∀ wk, Ext w wk → Calls Tryz.prog 52 #[.agg (peA x), .int .i64 (J : Int)] wk fun e w' => e = .returned (.int .i64 (m : Int)) ∧ Ext wk w'
 dy : ∀ wk, Ext w wk → Calls Tryz.prog 52 #[.agg (peA y), .int .i64 (J : Int)] wk fun e w' => e = .returned (.int .i64 1) ∧ Ext wk w'
 ds : ∀ wk, Ext w wk → Calls Tryz.prog 62 #[.agg (peA x), .agg (peA y), .int .i64 (J : Int), .int .i64 (m : Int), .int .i64 1] wk (RetD1 M wk r)
def RetC1 (M : Nat → Prop) (w : World) (r : List Tm) (e : Ending) (w' : World) : Prop := ∃ gl : Nat, e = .returned (.tuple #[.slice (some ⟨gl, 0, none⟩) 1 1, .int .i64 0]) ∧ w.heap.size ≤ gl ∧ Kids (fun b => M b ∨ b = gl) w' 4 gl 1 (fun _ => r) ∧ Ext w w'
set_option maxRecDepth 100000 in
set_option maxHeartbeats 32000000 in
theorem sr_chain1 (M : Nat → Prop) (x y : PE) (J m : Nat) (r : List Tm) (w : World) (hM : Mb M w) (hm : 1 ≤ m) (H : ChI M w x y J m r) :
  Calls Tryz.prog 22 #[.agg (peA x), .agg (peA y), .int .i64 (J : Int)] w (RetC1 M w r) := by
 have hE := ((Ext.refl w).alloc (.cells (peA x) 33)).alloc (.cells (peA y) 33)
 have hBx := new_px2S w x y
 generalize hW : (w.alloc (.cells (peA x) 33)).alloc (.cells (peA y) 33) = W at *
 have HW := Lib.hid hW
 have HE := Lib.hid hE
 have HBX : Hid (SBr w.heap.size x y W) := hBx
 have HM := Lib.hid hM
 have HH := Lib.hid H
 have HMM := Lib.hid hm
 clear hE hBx hW hM H hm
 go_enter Tryz.func22, Tryz.ntmps22
 go_upto_region 1 with (fail)
 rw [HW.out]
 obtain ⟨g0, hg0⟩ : ∃ g0, g0 = w.heap.size := ⟨_, rfl⟩
 rw [← hg0] at HBX ⊢
 clear hg0 HW
 obtain ⟨⟨x0, x1, x2, x3⟩, y0, y1, y2, y3⟩ := HBX.out
 go_wp2_with (fail)
 refine (HH.out.ck W HE.out).mono ?_
 rintro e w1 ⟨rfl, e1⟩
 have HB1 := Lib.hid (HBX.out.ext e1)
 have HE1 := Lib.hid (HE.out.trans e1)
 clear x0 x1 x2 x3 y0 y1 y2 y3 HBX HE e1
 go_upto_region 4 with (fail)
 have HPd : Hid (SBr g0 x y w1.drew) := HB1.out.ext (Ext.refl _).drew
 have HD0 : Hid (Ext w w1.drew) := HE1.out.trans (Ext.refl _).drew
 refine wp_region_u (SBr g0 x y) 8 (by kernel_rfl) HPd.out (fun hHeld => ?_)
 generalize w1.drew = wd at *
 (refine tkB [0, 1, 3, 4] ?_; (iterate 4 (refine tk1 (oi := ?_) (v := ?_) (by kernel_rfl) (by first | exact hSn | exact hHeld) ?_ ?_ ?_ ?_ ?_; rotate_left 2; (simp only [xgA, xgB, xgC]; rfl); rfl; (intro wS hSw; obtain ⟨⟨A0, A1, A2, A3⟩, B0, B1, B2, B3⟩ := hSw; go_simp; try with_reducible rfl); (exact fun _ _ _ h => h); (try simp only [Act.put, xgD, xgE, xgF]))); refine tkE ?_)
 ((refine wpAnyU_one 2 (o := ?_) (by kernel_rfl) ?_ ?_; rotate_left 1; (simp only [xgA, xgB, xgC]; rfl); intro K hK); go_simp; (refine (HH.out.dx wd HD0.out).mono ?_); rintro e_ w5 ⟨rfl, e2⟩; go_wp2_with (fail); (try clear hSn); (have hSn := hHeld.ext e2); (refine hK.out _ _ (fun _ => hSn) ?_); clear hK K; (try simp only [Act.put, xgD, xgE, xgF]))
 ((refine wpAnyU_one 5 (o := ?_) (by kernel_rfl) ?_ ?_; rotate_left 1; (simp only [xgA, xgB, xgC]; rfl); intro K hK); go_simp; (refine (HH.out.dy w5 (HD0.out.trans e2)).mono ?_); rintro e_ w6 ⟨rfl, e5⟩; go_wp2_with (fail); (try clear hSn); (have hSn := hHeld.ext (e2.trans e5)); (refine hK.out _ _ (fun _ => hSn) ?_); clear hK K; (try simp only [Act.put, xgD, xgE, xgF]))
 (refine tkB [6, 7] ?_; (iterate 2 (refine tk1 (oi := ?_) (v := ?_) (by kernel_rfl) (by first | exact hSn | exact hHeld) ?_ ?_ ?_ ?_ ?_; rotate_left 2; (simp only [xgA, xgB, xgC]; rfl); rfl; (intro wS hSw; obtain ⟨⟨A0, A1, A2, A3⟩, B0, B1, B2, B3⟩ := hSw; go_simp; try with_reducible rfl); (exact fun _ _ _ h => h); (try simp only [Act.put, xgD, xgE, xgF]))); refine tkE ?_)
 refine wpAnyU_done (by kernel_rfl) ?_ _
 have HE6 := Lib.hid (HD0.out.trans (e2.trans e5))
 obtain ⟨⟨x0, x1, x2, x3⟩, y0, y1, y2, y3⟩ := hHeld.ext (e2.trans e5)
 clear hHeld hSn e2 e5 HPd HD0 HB1 HE1
 have hmn : min (m : Int) 1 = 1 := by have := HMM.out; omega
 have hge : (m : Int) ≥ 1 := by have := HMM.out; omega
 have hge' : ¬ (m : Int) < 1 := by have := HMM.out; omega
 go_wp2_with (fail)
 refine (HH.out.ds w6 HE6.out).mono ?_
 rintro e w7 ⟨gl, rfl, hgl, hk, e7⟩
 have hglt := hk.lt
 have HGL : Hid (w.heap.size ≤ gl) := Nat.le_trans HE6.out.size hgl
 have HM7 : Hid (Mb (fun b => M b ∨ b = gl) w7) := mb_ins (HM.out.ext (HE6.out.trans e7)) hglt
 have HK7 := Lib.hid hk
 have HE7 := Lib.hid (HE6.out.trans e7)
 have HMG : Hid ((fun b => M b ∨ b = gl) gl) := .inr rfl
 have HMQ : Hid (∀ b, M b ∨ b = gl → (fun b => M b ∨ b = gl) b) := fun b h => h
 clear hgl hk e7 HE6 HH HM x0 x1 x2 x3 y0 y1 y2 y3 hmn hge hglt
 generalize (fun b => M b ∨ b = gl) = M' at *
 go_wp2
 go_loopw [47] (fun iv wr => ∃ k : Nat, k ≤ 1 ∧ iv = .int .i64 (k : Int) ∧ Hid (Kids M' wr 4 gl 1 (fun _ => r)) ∧ Hid (Mb M' wr) ∧ Hid (Ext w wr)) (fun iv _ => 1 - (intOf iv).toNat)
 case atStart => exact ⟨0, by omega, rfl, HK7, HM7, HE7⟩
 case round =>
  clear HK7 HM7 HE7
  obtain ⟨k, hk1, rfl, HK, HMB, HE⟩ := hrel
  by_cases hk0 : k = 1
  ·subst hk0
   have HF : Hid (RetC1 M w r (.returned (.tuple #[.slice (some ⟨gl, 0, none⟩) 1 1, .int .i64 0])) wr) := ⟨gl, rfl, HGL.out, HK.out.more fun b hb => .inl (HMQ.out b hb), HE.out⟩
   clear HK HMB HE HMG HMQ HGL hge' HMM
   go_wp2
   exact bodyPost_ret (v := .tuple #[.slice (some ⟨gl, 0, none⟩) 1 1, .int .i64 0]) (by simp [results, Tryz.results22, go_sem]) rfl HF.out
  ·obtain rfl : k = 0 := by omega
   clear hk1 hk0
   obtain ⟨z, ⟨z0, z1, z2, z3⟩, hz⟩ := HK.out.cel 0 (by omega)
   simp only [Nat.zero_mul, Nat.zero_add] at z0 z1 z2 z3
   have CN := Lib.hid (rp_Normal M' z r wr HMB.out hz.pi)
   clear hz
   go_wp2_with (fail)
   refine CN.out.mono ?_
   rintro e w8 ⟨u, rfl, hu, e8⟩
   have HK8 := Lib.hid (HK.out.ext e8)
   obtain ⟨⟨_, q0⟩, ⟨_, q1⟩, ⟨_, q2⟩, ⟨_, q3⟩, hfz, _⟩ := HK8.out.at 0 (by omega)
   simp only [Nat.zero_mul, Nat.zero_add] at q0 q1 q2 q3
   have f0 := hfz 0
   have f1 := hfz 1
   have f2 := hfz 2
   have f3 := hfz 3
   have hT9 := HK8.out.set HMG.out 0 (by omega) hu
   have hE9 := (HE.out.trans e8).set4 (g := gl) HGL.out 0 (.int .i64 u.lv) (.bool u.b) (.slice u.a u.n u.p) (.slice u.ka u.kn u.kp)
   have hM9 := (HMB.out.ext e8).size (Kp.set4 (M := M') HMG.out 0 (.int .i64 u.lv) (.bool u.b) (.slice u.a u.n u.p) (.slice u.ka u.kn u.kp)).1
   rw [Nat.zero_mul] at hT9
   obtain ⟨W9, hW9⟩ : ∃ W9, W9 = set4 w8 gl 0 (.int .i64 u.lv) (.bool u.b) (.slice u.a u.n u.p) (.slice u.ka u.kn u.kp) := ⟨_, rfl⟩
   rw [← hW9] at hT9 hE9 hM9
   unfold set4 at hW9
   have HW9 := Lib.hid hW9
   have HF : Hid (Kids M' W9 4 gl 1 (fun _ => r) ∧ Mb M' W9 ∧ Ext w W9) := ⟨hT9.congr fun i hi => by rw [if_pos (by omega)]; exact Sim.refl _, hM9, hE9⟩
   clear hT9 hE9 hM9 hW9 hfz hu e8 HK8 HK HMB HE CN z0 z1 z2 z3
   go_wp2
   rw [← HW9.out]
   clear HW9 q0 q1 q2 q3 f0 f1 f2 f3
   go_roundw
   ·exact ⟨1, by omega, rfl, HF.out.1, HF.out.2.1, HF.out.2.2⟩
   ·decide
end Go.Proofs.YtpclggidcmmemaaGreat

namespace Go.Proofs.YtpclggidcmmemaaGreat
open Go.RowKit

set_option maxRecDepth 100000 in
set_option maxHeartbeats 32000000 in
theorem sr_psc1 (M : Nat → Prop) (x y : PE) (J : Nat) (r c : List Tm) (w : World) (hM : Mb M w) (H : ∀ wk, Ext w wk → Calls Tryz.prog 22 #[.agg (peA x), .agg (peA y), .int .i64 (J : Int)] wk (RetC1 M wk r))
  (hc : ∀ Mk wk z, Mb Mk wk → CRx Mk wk 4 z r → Calls Tryz.prog 76 #[.agg (peA z), .int .i64 (J : Int), .int .i64 0] wk (RetX Mk wk 4 c)) :
  Calls Tryz.prog 35 #[.agg (peA x), .agg (peA y), .int .i64 (J : Int)] w (RetC1 M w c) := by
 have hE := ((Ext.refl w).alloc (.cells (peA x) 33)).alloc (.cells (peA y) 33)
 have hBx := new_px2S w x y
 generalize hW : (w.alloc (.cells (peA x) 33)).alloc (.cells (peA y) 33) = W at *
 have HW := Lib.hid hW
 have HE := Lib.hid hE
 have HBX : Hid (SBr w.heap.size x y W) := hBx
 have HM := Lib.hid hM
 have HH := Lib.hid H
 have HC := Lib.hid hc
 clear hE hBx hW hM H hc
 go_enter Tryz.func35, Tryz.ntmps35
 go_upto_region 1 with (fail)
 rw [HW.out]
 obtain ⟨g0, hg0⟩ : ∃ g0, g0 = w.heap.size := ⟨_, rfl⟩
 rw [← hg0] at HBX ⊢
 clear hg0 HW
 obtain ⟨⟨x0, x1, x2, x3⟩, y0, y1, y2, y3⟩ := HBX.out
 go_wp2_with (fail)
 refine (HH.out W HE.out).mono ?_
 rintro e w7 ⟨gl, rfl, hgl, hk, e7⟩
 have hglt := hk.lt
 have HGL : Hid (w.heap.size ≤ gl) := Nat.le_trans HE.out.size hgl
 have HM7 : Hid (Mb (fun b => M b ∨ b = gl) w7) := mb_ins (HM.out.ext (HE.out.trans e7)) hglt
 have HK7 := Lib.hid hk
 have HE7 := Lib.hid (HE.out.trans e7)
 have HMG : Hid ((fun b => M b ∨ b = gl) gl) := .inr rfl
 have HMQ : Hid (∀ b, M b ∨ b = gl → (fun b => M b ∨ b = gl) b) := fun b h => h
 clear hgl hk e7 HE HH HM x0 x1 x2 x3 y0 y1 y2 y3 hglt HBX
 generalize (fun b => M b ∨ b = gl) = M' at *
 go_wp2
 go_loopw [20] (fun iv wr => ∃ k : Nat, k ≤ 1 ∧ iv = .int .i64 (k : Int) ∧ Hid (Kids M' wr 4 gl 1 (fun _ => if k = 0 then r else c)) ∧ Hid (Mb M' wr) ∧ Hid (Ext w wr)) (fun iv _ => 1 - (intOf iv).toNat)
 case atStart => exact ⟨0, by omega, rfl, HK7, HM7, HE7⟩
 case round =>
  clear HK7 HM7 HE7
  obtain ⟨k, hk1, rfl, HK, HMB, HE⟩ := hrel
  by_cases hk0 : k = 1
  ·subst hk0
   have HF : Hid (RetC1 M w c (.returned (.tuple #[.slice (some ⟨gl, 0, none⟩) 1 1, .int .i64 0])) wr) := ⟨gl, rfl, HGL.out, HK.out.more fun b hb => .inl (HMQ.out b hb), HE.out⟩
   clear HK HMB HE HMG HMQ HGL HC
   go_wp2
   exact bodyPost_ret (v := .tuple #[.slice (some ⟨gl, 0, none⟩) 1 1, .int .i64 0]) (by simp [results, Tryz.results35, go_sem]) rfl HF.out
  ·obtain rfl : k = 0 := by omega
   clear hk1 hk0
   obtain ⟨z, ⟨z0, z1, z2, z3⟩, hz⟩ := HK.out.cel 0 (by omega)
   simp only [Nat.zero_mul, Nat.zero_add] at z0 z1 z2 z3
   have CN := Lib.hid (HC.out M' wr z HMB.out hz)
   clear hz HC
   go_wp2_with (fail)
   refine CN.out.mono ?_
   rintro e w8 ⟨u, rfl, hu, e8⟩
   have HK8 := Lib.hid (HK.out.ext e8)
   obtain ⟨⟨_, q0⟩, ⟨_, q1⟩, ⟨_, q2⟩, ⟨_, q3⟩, hfz, _⟩ := HK8.out.at 0 (by omega)
   simp only [Nat.zero_mul, Nat.zero_add] at q0 q1 q2 q3
   have f0 := hfz 0
   have f1 := hfz 1
   have f2 := hfz 2
   have f3 := hfz 3
   have hT9 := HK8.out.set HMG.out 0 (by omega) hu
   have hE9 := (HE.out.trans e8).set4 (g := gl) HGL.out 0 (.int .i64 u.lv) (.bool u.b) (.slice u.a u.n u.p) (.slice u.ka u.kn u.kp)
   have hM9 := (HMB.out.ext e8).size (Kp.set4 (M := M') HMG.out 0 (.int .i64 u.lv) (.bool u.b) (.slice u.a u.n u.p) (.slice u.ka u.kn u.kp)).1
   rw [Nat.zero_mul] at hT9
   obtain ⟨W9, hW9⟩ : ∃ W9, W9 = set4 w8 gl 0 (.int .i64 u.lv) (.bool u.b) (.slice u.a u.n u.p) (.slice u.ka u.kn u.kp) := ⟨_, rfl⟩
   rw [← hW9] at hT9 hE9 hM9
   unfold set4 at hW9
   have HW9 := Lib.hid hW9
   have HF : Hid (Kids M' W9 4 gl 1 (fun _ => c) ∧ Mb M' W9 ∧ Ext w W9) := ⟨hT9.congr fun i hi => by rw [if_pos (by omega)]; exact Sim.refl _, hM9, hE9⟩
   clear hT9 hE9 hM9 hW9 hfz hu e8 HK8 HK HMB HE CN z0 z1 z2 z3
   go_wp2
   rw [← HW9.out]
   clear HW9 q0 q1 q2 q3 f0 f1 f2 f3
   go_roundw
   ·exact ⟨1, by omega, rfl, HF.out.1, HF.out.2.1, HF.out.2.2⟩
   ·decide
end Go.Proofs.YtpclggidcmmemaaGreat

namespace Go.Proofs.YtpclggidcmmemaaGreat
open Go.RowKit

set_option maxRecDepth 100000 in
set_option maxHeartbeats 8000000 in
theorem mv_CoefV (M : Nat → Prop) (x : PE) (l : List Tm) (J i : Nat) (B : Nat) (w : World) (h1 : 1 ≤ J) (h4 : J ≤ 4) (nl : NN l) (hM : Mb M w) (h : PI M w x l) (hB : Deg B l) (hB4 : (B + 1) ^ 4 ≤ 1099511627776) (hB2 : B + 1 ≤ 1073741824) (hR : dlen (nrm l) ≤ 1099511627776) : Calls Tryz.prog 76 #[.agg (peA x), .int .i64 (J : Int), .int .i64 (i : Int)] w (RetX M w 4 (ck J (i : Int) l)) := by
 obtain ⟨hE0, hX0, hB0, hM0⟩ := box1 hM x
 have CC := Lib.hid (mv_Coefs _ x l (J : Int) B _ hM0 ((h.more (M' := Mx M w.heap.size (w.heap.size + 2)) (Mx.more (Nat.le_refl _))).ext hE0) hB hB4 hB2 hR)
 have HE := Lib.hid hE0
 have HB := Lib.hid hB0
 have HM := Lib.hid hM
 obtain ⟨x0, x1, x2, x3⟩ := hX0
 have hnB : Hid (∀ K n : Nat, DgR K l n → n ≤ B) := fun K n hd => dg_le hd hB
 have HB2 := Lib.hid hB2
 have HJ : Hid (1 ≤ J ∧ J ≤ 4) := ⟨h1, h4⟩
 have HN := Lib.hid nl
 have hi0 : (0 : Int) ≤ (i : Int) := Int.natCast_nonneg _
 have hi1 : ¬ (i : Int) < 0 := by omega
 clear hE0 hB0 hM0 hM h hB hB4 hR hB2 h1 h4 nl
 go_enter Tryz.func76, Tryz.ntmps76
 go_wp2_with (fail)
 refine CC.out.mono ?_
 rintro e w1 ⟨hr, he1⟩
 have HE1 := Lib.hid (HE.out.trans he1)
 have hB1 := HB.out.ext he1
 clear he1 CC x0 x1 x2 x3 HB HE
 rcases hr with ⟨hz, rfl⟩ | ⟨hz, hl, g, rfl, hg, hk⟩ | ⟨hz, K, n, g, hKJ, hK1, hK4, rfl, hg, hd, hk⟩
 ·have hs : Sim [] (ck J (i : Int) l) := (show Sim (ck J (i : Int) l) [] from ck_sim hz).symm
  obtain ⟨⟨q0, q1, q2, q3⟩, ⟨f0, f1, f2, f3⟩, ⟨r0, r1, r2, r3⟩, HF⟩ := retX (M := M) (M' := Mx M w.heap.size (w.heap.size + 2)) (w := w) (L := 4) (l := ck J (i : Int) l) (y := PE.z) hB1 (Mx.at (by omega)) (by omega) HE1.out (CRx.sim (CR.zero _ _ 4) hs) Mx.sub
  simp only [PE.z] at r0 r1 r2 r3 q0 q1 q2 q3
  have HF2 := Lib.hid HF.out
  clear HF hB1 hz hs
  go_wp2
  exact bodyPost_ret (v := .agg (peA PE.z)) (by simp [results, Tryz.results76, go_sem, r0, r1, r2, r3, PE.z]) rfl HF2.out
 ·exact absurd ⟨by have := HJ.out; omega, by have := HJ.out; omega⟩ hl
 ·obtain rfl : J = K := by omega
  have hgl := hk.lt
  have hnI : (n : Int) + 1 ≤ 1099511627776 := by have := hnB.out J n hd; have := HB2.out; omega
  have hn0 : (0 : Int) ≤ (n : Int) := Int.natCast_nonneg _
  have hnN : n + 1 ≤ 1099511627776 := by omega
  have hck : n < i → Sim [] (ck J (i : Int) l) := fun h => (ck_none hK1 hK4 hd.1 h).symm
  clear hnI hn0 hd hnB HB2 hKJ hK1 hK4 HM HN HJ hz
  obtain ⟨N, hN⟩ : ∃ N, n + 1 = N := ⟨_, rfl⟩
  have hck2 : N ≤ i → Sim [] (ck J (i : Int) l) := fun h => hck (by omega)
  rw [hN] at hk hnN ⊢
  clear hck hN
  have hN1 : (N : Int) ≤ 1099511627776 := by omega
  by_cases hin : i < N
  ·obtain ⟨y, ⟨c0, c1, c2, c3⟩, hy⟩ := hk.cel i hin
   have hlt : (i : Int) < (N : Int) := by omega
   have hge : ¬ (N : Int) ≤ (i : Int) := by omega
   obtain ⟨⟨q0, q1, q2, q3⟩, ⟨f0, f1, f2, f3⟩, ⟨r0, r1, r2, r3⟩, HF⟩ := retX (M := M) (w := w) (L := 4) (l := ck J (i : Int) l) (y := y) hB1 (Mx.at (by omega)) (by omega) HE1.out (hy.more (M' := Mx M w.heap.size (w.heap.size + 2)) fun b hb => .inl (.inl hb)) Mx.sub
   have HF2 := Lib.hid HF.out
   clear HF hB1 hk hy hin hnN HE1 hck2
   go_wp2
   exact bodyPost_ret (v := .agg (peA y)) (by simp [results, Tryz.results76, go_sem, r0, r1, r2, r3]) rfl HF2.out
  ·have hs := hck2 (by omega)
   have hlt : ¬ (i : Int) < (N : Int) := by omega
   have hge : (N : Int) ≤ (i : Int) := by omega
   obtain ⟨⟨q0, q1, q2, q3⟩, ⟨f0, f1, f2, f3⟩, ⟨r0, r1, r2, r3⟩, HF⟩ := retX (M := M) (M' := Mx M w.heap.size (w.heap.size + 2)) (w := w) (L := 4) (l := ck J (i : Int) l) (y := PE.z) hB1 (Mx.at (by omega)) (by omega) HE1.out (CRx.sim (CR.zero _ _ 4) hs) Mx.sub
   simp only [PE.z] at r0 r1 r2 r3 q0 q1 q2 q3
   have HF2 := Lib.hid HF.out
   clear HF hB1 hs hk hin hnN HE1 hck2
   go_wp2
   exact bodyPost_ret (v := .agg (peA PE.z)) (by simp [results, Tryz.results76, go_sem, r0, r1, r2, r3, PE.z]) rfl HF2.out
end Go.Proofs.YtpclggidcmmemaaGreat

namespace Go.Proofs.YtpclggidcmmemaaGreat
open Go.RowKit

def qF : List Tm := ppow (varL 1) 2 ++ varL 2
def qG : List Tm := pmul (varL 1) [(2, Mo.zero)]
def qR : List Tm := pdRem 1 1 2 qF (negL qG)
def qY : List Tm := pmul (varL 2) [(4, Mo.zero)]
theorem qF_nn : NN qF := nn_of_all (by decide)
theorem qG_nn : NN qG := nn_of_all (by decide)
theorem qR_nn : NN qR := nn_of_all (by decide)
theorem qF_deg : Deg 2 qF := deg_list qF_nn (by decide)
theorem qG_deg : Deg 1 qG := deg_list qG_nn (by decide)
theorem qR_deg : Deg 2 qR := deg_list qR_nn (by decide)
theorem ne_of_coef {l : List Tm} {m : Mo} (h : coefAt l m ≠ 0) : ¬ Sim l [] := fun hs => h (hs m)
theorem qF_ne : ¬ Sim qF [] := ne_of_coef (m := ⟨0, 1, 0, 0⟩) (by decide)
theorem qG_ne : ¬ Sim qG [] := ne_of_coef (m := ⟨1, 0, 0, 0⟩) (by decide)
theorem qR_ne : ¬ Sim qR [] := ne_of_coef (m := ⟨0, 1, 0, 0⟩) (by decide)
theorem dgr_list {L n : Nat} {l : List Tm} (h : ∀ s ∈ l, s.2.get L ≤ (n : Int)) (m : Mo) (hm : coefAt l m ≠ 0) : m.get L ≤ (n : Int) :=
 Classical.byContradiction fun hc => hm (coefAt_zero fun t ht e => hc (e ▸ h t ht))
theorem qF_dg : DgR 1 qF 2 := ⟨dgr_list (by decide), .inr ⟨⟨2, 0, 0, 0⟩, by decide, by decide⟩⟩
theorem qG_dg : DgR 1 qG 1 := ⟨dgr_list (by decide), .inr ⟨⟨1, 0, 0, 0⟩, by decide, by decide⟩⟩
theorem qR_dg : DgR 1 qR 0 := ⟨dgr_list (by decide), .inl rfl⟩
theorem qR_ck : Sim (ck 1 0 qR) qY := sim_of_norm (nn_of_all (by decide)) (nn_of_all (by decide)) (by decide)
theorem dvn_q : DvN 2 1 2 2 := ⟨by decide, by decide, by decide⟩
theorem qF_dl : dlen (nrm qF) ≤ 2 := by decide
theorem qG_dl : dlen (nrm qG) ≤ 2 := by decide
theorem qR_dl : dlen (nrm qR) ≤ 2 := by decide
theorem q_st {n V : Nat} (h : StR 1 qF n V) (hn : n = 1) : V = 2 := by
 subst hn
 rcases h with ⟨hz, _⟩ | ⟨_, a, ha, rfl⟩
 ·exact absurd hz qF_ne
 ·rw [dgr_uniq qF_nn qF_ne ha qF_dg]
theorem q_dsi (M : Nat → Prop) (w : World) (x y : PE) (hx : PI M w x qF) (hy : PI M w y qG) (W : World) (hE : Ext w W) (M' : Nat → Prop) (hM : Mb M' W) (hs : ∀ b, M' b → M b ∨ w.heap.size ≤ b) : DsI M' W x y 1 2 (ck 1 1 qG) (ppow (ck 1 1 qG) 1) qR 0 where
 ld := fun wk he => mv_LeadV M' y qG 1 1 1 wk (by omega) (by omega) qG_nn qG_ne qG_dg (hM.ext he) (((hy.more hs).ext hE).ext he) qG_deg (by decide) (by decide) (Nat.le_trans qG_dl (by decide))
 pw := fun wk u he hu => rp_Pow M' u (ck 1 1 qG) 1 1 wk (hM.ext he) hu.pi (by decide) (by decide) (ck_deg (by omega) (by omega) qG_deg) (by decide)
 rm := fun Mk wk he hm hk => by
  have hk' : ∀ b, Mk b → M b ∨ w.heap.size ≤ b := fun b hb => (hk b hb).elim (hs b) fun h => .inr (Nat.le_trans hE.size h)
  refine (sr_remainder Mk qF qG x y 1 2 1 2 2 wk (by omega) (by omega) hm (((hx.more hk').ext hE).ext he) (((hy.more hk').ext hE).ext he) qF_nn qG_nn qG_ne qF_deg qG_deg (by decide) qF_dl qG_dl (by decide) dvn_q).mono ?_
  rintro e w' ⟨v, n, V, rfl, hd, hst, hv, he'⟩
  obtain rfl : n = 1 := dgr_uniq qG_nn qG_ne hd qG_dg
  obtain rfl := q_st hst rfl
  exact ⟨v, rfl, hv, he'⟩
 dy := fun wk he => mv_DegreeV M' y qG 1 1 wk (by omega) (by omega) qG_nn (.inr ⟨qG_ne, 1, qG_dg, rfl⟩) (hM.ext he) (((hy.more hs).ext hE).ext he)
 dr := fun wk u he hu => mv_DegreeV M' u qR 1 0 wk (by omega) (by omega) qR_nn (.inr ⟨qR_ne, 0, qR_dg, rfl⟩) (hM.ext he) hu.pi
theorem q_psc (M : Nat → Prop) (w : World) (x y : PE) (hM : Mb M w) (hx : PI M w x qF) (hy : PI M w y qG) : Calls Tryz.prog 35 #[.agg (peA x), .agg (peA y), .int .i64 1] w (RetC1 M w qY) := by
 refine (sr_psc1 M x y 1 qR (ck 1 0 qR) w hM (fun wk he => sr_chain1 M x y 1 2 qR wk (hM.ext he) (by omega) ⟨fun wl hl => ?_, fun wl hl => ?_, fun wl hl => ?_, fun wl hl => ?_⟩) fun Mk wk z hm hz => ?_).mono ?_
 ·refine (sr_check M qF qG x y ((1 : Nat) : Int) wl (hM.ext (he.trans hl)) (hx.ext (he.trans hl)) (hy.ext (he.trans hl))).mono ?_
  rintro e w' ⟨er, rfl, hr, he'⟩
  rcases hr with ⟨h1, _⟩ | ⟨_, h1, _⟩ | ⟨_, _, _, rfl⟩
  ·exact absurd ⟨by decide, by decide⟩ h1
  ·exact (h1.elim qF_ne qG_ne).elim
  ·exact ⟨rfl, he'⟩
 ·exact mv_DegreeV M x qF 1 2 wl (by omega) (by omega) qF_nn (.inr ⟨qF_ne, 2, qF_dg, rfl⟩) (hM.ext (he.trans hl)) (hx.ext (he.trans hl))
 ·exact mv_DegreeV M y qG 1 1 wl (by omega) (by omega) qG_nn (.inr ⟨qG_ne, 1, qG_dg, rfl⟩) (hM.ext (he.trans hl)) (hy.ext (he.trans hl))
 ·exact sr_descend1 M x y 1 2 (ck 1 1 qG) (ppow (ck 1 1 qG) 1) qR 0 wl (hM.ext (he.trans hl)) (by omega) (.inr rfl) (fun h => by omega) fun W hE M' hm hs => q_dsi M wl x y (hx.ext (he.trans hl)) (hy.ext (he.trans hl)) W hE M' hm hs
 ·exact mv_CoefV Mk z qR 1 0 2 wk (by omega) (by omega) qR_nn hm hz.pi qR_deg (by decide) (by decide) (Nat.le_trans qR_dl (by decide))
 ·rintro e w' ⟨gl, rfl, hg, hk, he⟩
  exact ⟨gl, rfl, hg, hk.congr fun i _ => qR_ck, he⟩
end Go.Proofs.YtpclggidcmmemaaGreat

namespace Go.Proofs.YtpclggidcmmemaaGreat
open Go.RowKit

def SJ3 (g1 g2 g3 : Nat) (x y v : PE) (w : World) : Prop := P4 w g1 x ∧ P4 w g2 y ∧ P4 w g3 v
theorem SJ3.ext {g1 g2 g3 : Nat} {x y v : PE} {w w' : World} (h : SJ3 g1 g2 g3 x y v w) (he : Ext w w') : SJ3 g1 g2 g3 x y v w' := ⟨h.1.ext he, h.2.1.ext he, h.2.2.ext he⟩
theorem int_of4 (z : Int) (hz : -100 ≤ z ∧ z ≤ 100) (W' : World) : Calls Tryz.prog 39 #[.int .i64 z] W' fun e w' => ∃ b a n p, e = .returned (.agg #[.bool b, .slice a n p]) ∧ IntV M0 w' (.bool b) (.slice a n p) z ∧ Ext W' w' := by
 refine (int_of z W' (mb0 _) (by omega) (by omega)).mono ?_
 rintro e w' ⟨e0, e1, rfl, hI, he⟩
 obtain ⟨b, a, n, p, rfl, rfl⟩ := hI.form
 exact ⟨b, a, n, p, rfl, hI.toV, he⟩
set_option maxRecDepth 100000 in
set_option maxHeartbeats 16000000 in
theorem law_fit25 (w : World) : Calls Tryz.prog 7 #[] w fun e w' => e = .returned (.bool true) ∧ Ext w w' := by
 go_enter Tryz.func7, Tryz.ntmps7
 go_wp2_with (fail)
 refine (rp_Var M0 1 _ (mb0 _)).mono ?_
 rintro e w1 ⟨x, rfl, hx, he1⟩
 go_wp2_with (fail)
 refine (rp_Var M0 2 _ (mb0 _)).mono ?_
 rintro e w2 ⟨y, rfl, hy, he2⟩
 have hb1 := Blk.of_arr w2 (peA x) 33 4 rfl
 have hb2 := Blk.of_arr (w2.alloc (.cells (peA x) 33)) (peA y) 33 4 rfl
 simp only [World.size_alloc] at hb2
 have hE2 : Ext w2 ((w2.alloc (.cells (peA x) 33)).alloc (.cells (peA y) 33)) := ((Ext.refl w2).alloc _).alloc _
 have HS0 : Hid (SG9 w2.heap.size (w2.heap.size + 1) x y ((w2.alloc (.cells (peA x) 33)).alloc (.cells (peA y) 33))) := ⟨(hb1.alloc _).p4, hb2.p4⟩
 have HX := Lib.hid ((hx.ext he2).ext hE2)
 have HY := Lib.hid (hy.ext hE2)
 have HE := Lib.hid ((he1.trans he2).trans hE2)
 clear hb1 hb2 hE2 hx hy he1 he2
 go_upto_region 2 with (fail)
 generalize (w2.alloc (.cells (peA x) 33)).alloc (.cells (peA y) 33) = W at *
 generalize w2.heap.size = g0 at *
 have HSd : Hid (SG9 g0 (g0 + 1) x y W.drew) := HS0.out.ext (Ext.refl W).drew
 have HXd := Lib.hid (HX.out.ext (Ext.refl W).drew)
 have HYd := Lib.hid (HY.out.ext (Ext.refl W).drew)
 have HEd := Lib.hid (HE.out.trans (Ext.refl W).drew)
 clear HX HY HE HS0
 refine wp_region_u (SG9 g0 (g0 + 1) x y) 13 (by kernel_rfl) HSd.out (fun hHeld => ?_)
 generalize W.drew = wd at *
 have C1 : Hid (∀ W', Ext wd W' → Calls Tryz.prog 37 #[.agg (peA x), .int .i64 2] W' (RetX M0 W' 4 (ppow (varL 1) 2))) := fun W' h => rp_Pow M0 x (varL 1) 1 2 W' (mb0 _) (HXd.out.ext h).pi (by decide) (by decide) (deg_var 1) (by decide)
 have C3 : Hid (∀ W' p, Ext wd W' → CRx M0 W' 4 p (ppow (varL 1) 2) → Calls Tryz.prog 36 #[.agg (peA p), .agg (peA y)] W' (RetX M0 W' 4 qF)) := fun W' p h hp => rp_Add M0 p y _ _ W' (mb0 _) hp.pi (HYd.out.ext h).pi (by decide)
 have C6 : Hid (∀ W' b a n p, Ext wd W' → IntV M0 W' (.bool b) (.slice a n p) 2 → Calls Tryz.prog 38 #[.agg (peA x), .agg #[.bool b, .slice a n p]] W' (RetX M0 W' 4 qG)) := fun W' b a n p h hp => rp_Scale M0 x (varL 1) 1 b a n p 2 W' (mb0 _) (HXd.out.ext h).pi hp (by decide) (deg_var 1) (by decide)
 clear HXd
 (refine tkB [0, 2, 4] ?_; (iterate 3 (refine tk1 (oi := ?_) (v := ?_) (by kernel_rfl) (by first | exact hSn | exact hHeld) ?_ ?_ ?_ ?_ ?_; rotate_left 2; (simp only [xgA, xgB, xgC]; rfl); rfl; (intro wS hSw; obtain ⟨⟨S1, S2, S3, S4⟩, S5, S6, S7, S8⟩ := hSw; go_simp; try with_reducible rfl); (exact fun _ _ _ h => h); (try simp only [Act.put, xgD, xgE, xgF]))); refine tkE ?_)
 ((refine wpAnyU_one 1 (o := ?_) (by kernel_rfl) ?_ ?_; rotate_left 1; (simp only [xgA, xgB, xgC]; rfl); intro K hK); go_simp; (refine (C1.out wd (Ext.refl wd)).mono ?_); rintro e_ v1 ⟨p, rfl, hp, d1⟩; go_wp2_with (fail); (try clear hSn); (have hSn := hHeld.ext d1); (refine hK.out _ _ (fun _ => hSn) ?_); clear hK K; (try simp only [Act.put, xgD, xgE, xgF]))
 ((refine wpAnyU_one 3 (o := ?_) (by kernel_rfl) ?_ ?_; rotate_left 1; (simp only [xgA, xgB, xgC]; rfl); intro K hK); go_simp; (refine (C3.out v1 p d1 hp).mono ?_); rintro e_ v3 ⟨q, rfl, hq, d3⟩; go_wp2_with (fail); (try clear hSn); (have hSn := hHeld.ext (d1.trans d3)); (refine hK.out _ _ (fun _ => hSn) ?_); clear hK K; (try simp only [Act.put, xgD, xgE, xgF]))
 ((refine wpAnyU_one 5 (o := ?_) (by kernel_rfl) ?_ ?_; rotate_left 1; (simp only [xgA, xgB, xgC]; rfl); intro K hK); go_simp; (refine (int_of4 2 (by omega) v3).mono ?_); rintro e_ v5 ⟨ib, ia, ik, ip, rfl, hI, d5⟩; go_wp2_with (fail); (try clear hSn); (have hSn := hHeld.ext ((d1.trans d3).trans d5)); (refine hK.out _ _ (fun _ => hSn) ?_); clear hK K; (try simp only [Act.put, xgD, xgE, xgF]))
 ((refine wpAnyU_one 6 (o := ?_) (by kernel_rfl) ?_ ?_; rotate_left 1; (simp only [xgA, xgB, xgC]; rfl); intro K hK); go_simp; (refine (C6.out v5 ib ia ik ip ((d1.trans d3).trans d5) hI).mono ?_); rintro e_ v6 ⟨r, rfl, hr, d6⟩; go_wp2_with (fail); (try clear hSn); (have hSn := hHeld.ext (((d1.trans d3).trans d5).trans d6)); (refine hK.out _ _ (fun _ => hSn) ?_); clear hK K; (try simp only [Act.put, xgD, xgE, xgF]))
 ((refine wpAnyU_one 7 (o := ?_) (by kernel_rfl) ?_ ?_; rotate_left 1; (simp only [xgA, xgB, xgC]; rfl); intro K hK); go_simp; (refine (q_psc M0 v6 q r (mb0 _) ((hq.ext d5).ext d6).pi hr.pi).mono ?_); rintro e_ v7 ⟨gl, rfl, hg, hk, d7⟩; go_wp2_with (fail); (try clear hSn); (have hSn := hHeld.ext ((((d1.trans d3).trans d5).trans d6).trans d7)); (refine hK.out _ _ (fun _ => hSn) ?_); clear hK K; (try simp only [Act.put, xgD, xgE, xgF]))
 have HE7 := Lib.hid ((((d1.trans d3).trans d5).trans d6).trans d7)
 obtain ⟨z, ⟨z0, z1, z2, z3⟩, hz⟩ := hk.cel 0 (by omega)
 simp only [Nat.zero_mul, Nat.zero_add] at z0 z1 z2 z3
 have HZ := Lib.hid hz
 have HPZ : Hid (P4 v7 gl z) := ⟨z0, z1, z2, z3⟩
 have HSZ : Hid (SG9 g0 (g0 + 1) x y v7) := hSn
 have HL : Hid (gl < v7.heap.size) := hk.lt
 (refine tkB [8, 9, 10, 11, 12] ?_; (iterate 5 (refine tk1 (oi := ?_) (v := ?_) (by kernel_rfl) (by first | exact hSn | exact hHeld) ?_ ?_ ?_ ?_ ?_; rotate_left 2; (simp only [xgA, xgB, xgC]; rfl); rfl; (intro wS hSw; obtain ⟨⟨S1, S2, S3, S4⟩, S5, S6, S7, S8⟩ := hSw; go_simp; try with_reducible rfl); (exact fun _ _ _ h => h); (try simp only [Act.put, xgD, xgE, xgF]))); refine tkE ?_)
 refine wpAnyU_done (by kernel_rfl) ?_ _
 clear hHeld hSn d1 d3 d5 d6 d7 hp hq hI hr hg hk z0 z1 z2 z3 C1 C3 C6 hz
 go_upto_region 3 with (fail)
 have HSJ : Hid (SJ3 g0 (g0 + 1) gl x y z v7.drew) := SJ3.ext ⟨HSZ.out.1, HSZ.out.2, HPZ.out⟩ (Ext.refl _).drew
 have HYe := Lib.hid ((HYd.out.ext HE7.out).ext (Ext.refl v7).drew)
 have HZe := Lib.hid (HZ.out.ext (Ext.refl v7).drew)
 have HEe := Lib.hid ((HEd.out.trans HE7.out).trans (Ext.refl v7).drew)
 clear HYd HZ HE7 HEd HSZ HPZ HSd HL
 refine wp_region_u (SJ3 g0 (g0 + 1) gl x y z) 17 (by kernel_rfl) HSJ.out (fun hHeld => ?_)
 generalize v7.drew = we at *
 have C13 : Hid (∀ W' b a n p, Ext we W' → IntV M0 W' (.bool b) (.slice a n p) 4 → Calls Tryz.prog 38 #[.agg (peA y), .agg #[.bool b, .slice a n p]] W' (RetX M0 W' 4 qY)) := fun W' b a n p h hp => rp_Scale M0 y (varL 2) 1 b a n p 4 W' (mb0 _) (HYe.out.ext h).pi hp (by decide) (deg_var 2) (by decide)
 (refine tkB [0, 1, 2, 3, 4, 5, 6, 7, 8, 9, 10, 11] ?_; (iterate 12 (refine tk1 (oi := ?_) (v := ?_) (by kernel_rfl) (by first | exact hSn | exact hHeld) ?_ ?_ ?_ ?_ ?_; rotate_left 2; (simp only [xgA, xgB, xgC]; rfl); rfl; (intro wS hSw; obtain ⟨⟨S1, S2, S3, S4⟩, ⟨S5, S6, S7, S8⟩, S9, S10, S11, S12⟩ := hSw; go_simp; try with_reducible rfl); (exact fun _ _ _ h => h); (try simp only [Act.put, xgD, xgE, xgF]))); refine tkE ?_)
 ((refine wpAnyU_one 12 (o := ?_) (by kernel_rfl) ?_ ?_; rotate_left 1; (simp only [xgA, xgB, xgC]; rfl); intro K hK); go_simp; (refine (int_of4 4 (by omega) we).mono ?_); rintro e_ v1 ⟨ib, ia, ik, ip, rfl, hI, d1⟩; go_wp2_with (fail); (try clear hSn); (have hSn := hHeld.ext d1); (refine hK.out _ _ (fun _ => hSn) ?_); clear hK K; (try simp only [Act.put, xgD, xgE, xgF]))
 ((refine wpAnyU_one 13 (o := ?_) (by kernel_rfl) ?_ ?_; rotate_left 1; (simp only [xgA, xgB, xgC]; rfl); intro K hK); go_simp; (refine (C13.out v1 ib ia ik ip d1 hI).mono ?_); rintro e_ v2 ⟨q, rfl, hq, d2⟩; go_wp2_with (fail); (try clear hSn); (have hSn := hHeld.ext (d1.trans d2)); (refine hK.out _ _ (fun _ => hSn) ?_); clear hK K; (try simp only [Act.put, xgD, xgE, xgF]))
 have CS := Lib.hid (same_b z q qY qY v2 true ((HZe.out.more (M' := M0) fun b hb => .inl (.inl hb)).ext (d1.trans d2)).pi hq.pi (by simp [Sim.refl]))
 ((refine wpAnyU_one 14 (o := ?_) (by kernel_rfl) ?_ ?_; rotate_left 1; (simp only [xgA, xgB, xgC]; rfl); intro K hK); go_simp; (refine (CS.out).mono ?_); rintro e_ v3 ⟨rfl, d3⟩; go_wp2_with (fail); (try clear hSn); (have hSn := hHeld.ext ((d1.trans d2).trans d3)); (refine hK.out _ _ (fun _ => hSn) ?_); clear hK K; (try simp only [Act.put, xgD, xgE, xgF]))
 (refine tkB [15, 16] ?_; (iterate 2 (refine tk1 (oi := ?_) (v := ?_) (by kernel_rfl) (by first | exact hSn | exact hHeld) ?_ ?_ ?_ ?_ ?_; rotate_left 2; (simp only [xgA, xgB, xgC]; rfl); rfl; (intro wS hSw; obtain ⟨⟨S1, S2, S3, S4⟩, ⟨S5, S6, S7, S8⟩, S9, S10, S11, S12⟩ := hSw; go_simp; try with_reducible rfl); (exact fun _ _ _ h => h); (try simp only [Act.put, xgD, xgE, xgF]))); refine tkE ?_)
 refine wpAnyU_done (by kernel_rfl) ?_ _
 have HF := Lib.hid (HEe.out.trans ((d1.trans d2).trans d3))
 clear hHeld hSn CS C13 HSJ HYe HZe HEe d1 d2 d3 hq hI
 go_wp2
 go_ret
 exact ⟨rfl, HF.out⟩
end Go.Proofs.YtpclggidcmmemaaGreat
