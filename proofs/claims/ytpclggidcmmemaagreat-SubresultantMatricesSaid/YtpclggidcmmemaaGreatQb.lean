/- subresultant.Chain where the second polynomial has degree 1 and the first one at least that. subresultant.Psc where the second polynomial has degree 1 and the first one at least that. mainvar.Coef at a level from 1 to 4 and an exponent from 0. cylinderlaw25.fit, the plain facts and the calls. cylinderlaw25.fit: the walk. -/
import Derived.Test.YtpclggidcmmemaaGreatQa
import Derived.Test.YtpclggidcmmemaaGreatBj
set_option linter.unusedVariables false
set_option linter.unusedSimpArgs false

namespace Go.Proofs.YtpclggidcmmemaaGreat
open Go.RowKit

structure ChI (M : Nat → Prop) (w : World) (x y : PE) (J m : Nat) (r : List Tm) : Prop where
 ck : ∀ wk, Ext w wk → Calls Tryz.prog 44 #[.agg (peA x), .agg (peA y), .int .i64 (J : Int)] wk fun e w' => e = .returned (.int .i64 0) ∧ Ext wk w'
 dx : ∀ wk, Ext w wk → Calls Tryz.prog 52 #[.agg (peA x), .int .i64 (J : Int)] wk fun e w' => e = .returned (.int .i64 (m : Int)) ∧ Ext wk w'
 dy : ∀ wk, Ext w wk → Calls Tryz.prog 52 #[.agg (peA y), .int .i64 (J : Int)] wk fun e w' => e = .returned (.int .i64 1) ∧ Ext wk w'
 ds : ∀ wk, Ext w wk → Calls Tryz.prog 62 #[.agg (peA x), .agg (peA y), .int .i64 (J : Int), .int .i64 (m : Int), .int .i64 1] wk (RetD1 M wk r)
def RetC1 (M : Nat → Prop) (w : World) (r : List Tm) (e : Ending) (w' : World) : Prop := ∃ gl : Nat, e = .returned (.tuple #[.slice (some ⟨gl, 0, none⟩) 1 1, .int .i64 0]) ∧ w.heap.size ≤ gl ∧ Kids (fun b => M b ∨ b = gl) w' 4 gl 1 (fun _ => r) ∧ Ext w w'
set_option maxRecDepth 100000 in
set_option maxHeartbeats 32000000 in
theorem sr_chain1 (M : Nat → Prop) (x y : PE) (J m : Nat) (r : List Tm) (w : World) (hM : Mb M w) (hm : 1 ≤ m) (H : ChI M w x y J m r) :
  Calls Tryz.prog 22 #[.agg (peA x), .agg (peA y), .int .i64 (J : Int)] w (RetC1 M w r) := by
 have hE := ((Ext.refl w).alloc (.cells (peA x) 33)).alloc (.cells (peA y) 33)
 have hBx := new_px2S w x y
 generalize hW : (w.alloc (.cells (peA x) 33)).alloc (.cells (peA y) 33) = W at *
 have HW := Lib.hid hW
 have HE := Lib.hid hE
 have HBX : Hid (SBr w.heap.size x y W) := hBx
 have HM := Lib.hid hM
 have HH := Lib.hid H
 have HMM := Lib.hid hm
 clear hE hBx hW hM H hm
 go_enter Tryz.func22, Tryz.ntmps22
 go_upto_region 1 with (fail)
 rw [HW.out]
 obtain ⟨g0, hg0⟩ : ∃ g0, g0 = w.heap.size := ⟨_, rfl⟩
 rw [← hg0] at HBX ⊢
 clear hg0 HW
 obtain ⟨⟨x0, x1, x2, x3⟩, y0, y1, y2, y3⟩ := HBX.out
 go_wp2_with (fail)
 refine (HH.out.ck W HE.out).mono ?_
 rintro e w1 ⟨rfl, e1⟩
 have HB1 := Lib.hid (HBX.out.ext e1)
 have HE1 := Lib.hid (HE.out.trans e1)
 clear x0 x1 x2 x3 y0 y1 y2 y3 HBX HE e1
 go_upto_region 4 with (fail)
 have HPd : Hid (SBr g0 x y w1.drew) := HB1.out.ext (Ext.refl _).drew
 have HD0 : Hid (Ext w w1.drew) := HE1.out.trans (Ext.refl _).drew
 refine wp_region_u (SBr g0 x y) 8 (by kernel_rfl) HPd.out (fun hHeld => ?_)
 generalize w1.drew = wd at *
 (refine tkB [0, 1, 3, 4] ?_; (iterate 4 (refine tk1 (oi := ?_) (v := ?_) (by kernel_rfl) (by first | exact hSn | exact hHeld) ?_ ?_ ?_ ?_ ?_; rotate_left 2; (simp only [xgA, xgB, xgC]; rfl); rfl; (intro wS hSw; obtain ⟨⟨A0, A1, A2, A3⟩, B0, B1, B2, B3⟩ := hSw; go_simp; try with_reducible rfl); (exact fun _ _ _ h => h); (try simp only [Act.put, xgD, xgE, xgF]))); refine tkE ?_)
 ((refine wpAnyU_one 2 (o := ?_) (by kernel_rfl) ?_ ?_; rotate_left 1; (simp only [xgA, xgB, xgC]; rfl); intro K hK); go_simp; (refine (HH.out.dx wd HD0.out).mono ?_); rintro e_ w5 ⟨rfl, e2⟩; go_wp2_with (fail); (try clear hSn); (have hSn := hHeld.ext e2); (refine hK.out _ _ (fun _ => hSn) ?_); clear hK K; (try simp only [Act.put, xgD, xgE, xgF]))
 ((refine wpAnyU_one 5 (o := ?_) (by kernel_rfl) ?_ ?_; rotate_left 1; (simp only [xgA, xgB, xgC]; rfl); intro K hK); go_simp; (refine (HH.out.dy w5 (HD0.out.trans e2)).mono ?_); rintro e_ w6 ⟨rfl, e5⟩; go_wp2_with (fail); (try clear hSn); (have hSn := hHeld.ext (e2.trans e5)); (refine hK.out _ _ (fun _ => hSn) ?_); clear hK K; (try simp only [Act.put, xgD, xgE, xgF]))
 (refine tkB [6, 7] ?_; (iterate 2 (refine tk1 (oi := ?_) (v := ?_) (by kernel_rfl) (by first | exact hSn | exact hHeld) ?_ ?_ ?_ ?_ ?_; rotate_left 2; (simp only [xgA, xgB, xgC]; rfl); rfl; (intro wS hSw; obtain ⟨⟨A0, A1, A2, A3⟩, B0, B1, B2, B3⟩ := hSw; go_simp; try with_reducible rfl); (exact fun _ _ _ h => h); (try simp only [Act.put, xgD, xgE, xgF]))); refine tkE ?_)
 refine wpAnyU_done (by kernel_rfl) ?_ _
 have HE6 := Lib.hid (HD0.out.trans (e2.trans e5))
 obtain ⟨⟨x0, x1, x2, x3⟩, y0, y1, y2, y3⟩ := hHeld.ext (e2.trans e5)
 clear hHeld hSn e2 e5 HPd HD0 HB1 HE1
 have hmn : min (m : Int) 1 = 1 := by have := HMM.out; omega
 have hge : (m : Int) ≥ 1 := by have := HMM.out; omega
 have hge' : ¬ (m : Int) < 1 := by have := HMM.out; omega
 go_wp2_with (fail)
 refine (HH.out.ds w6 HE6.out).mono ?_
 rintro e w7 ⟨gl, rfl, hgl, hk, e7⟩
 have hglt := hk.lt
 have HGL : Hid (w.heap.size ≤ gl) := Nat.le_trans HE6.out.size hgl
 have HM7 : Hid (Mb (fun b => M b ∨ b = gl) w7) := mb_ins (HM.out.ext (HE6.out.trans e7)) hglt
 have HK7 := Lib.hid hk
 have HE7 := Lib.hid (HE6.out.trans e7)
 have HMG : Hid ((fun b => M b ∨ b = gl) gl) := .inr rfl
 have HMQ : Hid (∀ b, M b ∨ b = gl → (fun b => M b ∨ b = gl) b) := fun b h => h
 clear hgl hk e7 HE6 HH HM x0 x1 x2 x3 y0 y1 y2 y3 hmn hge hglt
 generalize (fun b => M b ∨ b = gl) = M' at *
 go_wp2
 go_loopw [47] (fun iv wr => ∃ k : Nat, k ≤ 1 ∧ iv = .int .i64 (k : Int) ∧ Hid (Kids M' wr 4 gl 1 (fun _ => r)) ∧ Hid (Mb M' wr) ∧ Hid (Ext w wr)) (fun iv _ => 1 - (intOf iv).toNat)
 case atStart => exact ⟨0, by omega, rfl, HK7, HM7, HE7⟩
 case round =>
  clear HK7 HM7 HE7
  obtain ⟨k, hk1, rfl, HK, HMB, HE⟩ := hrel
  by_cases hk0 : k = 1
  ·subst hk0
   have HF : Hid (RetC1 M w r (.returned (.tuple #[.slice (some ⟨gl, 0, none⟩) 1 1, .int .i64 0])) wr) := ⟨gl, rfl, HGL.out, HK.out.more fun b hb => .inl (HMQ.out b hb), HE.out⟩
   clear HK HMB HE HMG HMQ HGL hge' HMM
   go_wp2
   exact bodyPost_ret (v := .tuple #[.slice (some ⟨gl, 0, none⟩) 1 1, .int .i64 0]) (by simp [results, Tryz.results22, go_sem]) rfl HF.out
  ·obtain rfl : k = 0 := by omega
   clear hk1 hk0
   obtain ⟨z, ⟨z0, z1, z2, z3⟩, hz⟩ := HK.out.cel 0 (by omega)
   simp only [Nat.zero_mul, Nat.zero_add] at z0 z1 z2 z3
   have CN := Lib.hid (rp_Normal M' z r wr HMB.out hz.pi)
   clear hz
   go_wp2_with (fail)
   refine CN.out.mono ?_
   rintro e w8 ⟨u, rfl, hu, e8⟩
   have HK8 := Lib.hid (HK.out.ext e8)
   obtain ⟨⟨_, q0⟩, ⟨_, q1⟩, ⟨_, q2⟩, ⟨_, q3⟩, hfz, _⟩ := HK8.out.at 0 (by omega)
   simp only [Nat.zero_mul, Nat.zero_add] at q0 q1 q2 q3
   have f0 := hfz 0
   have f1 := hfz 1
   have f2 := hfz 2
   have f3 := hfz 3
   have hT9 := HK8.out.set HMG.out 0 (by omega) hu
   have hE9 := (HE.out.trans e8).set4 (g := gl) HGL.out 0 (.int .i64 u.lv) (.bool u.b) (.slice u.a u.n u.p) (.slice u.ka u.kn u.kp)
   have hM9 := (HMB.out.ext e8).size (Kp.set4 (M := M') HMG.out 0 (.int .i64 u.lv) (.bool u.b) (.slice u.a u.n u.p) (.slice u.ka u.kn u.kp)).1
   rw [Nat.zero_mul] at hT9
   obtain ⟨W9, hW9⟩ : ∃ W9, W9 = set4 w8 gl 0 (.int .i64 u.lv) (.bool u.b) (.slice u.a u.n u.p) (.slice u.ka u.kn u.kp) := ⟨_, rfl⟩
   rw [← hW9] at hT9 hE9 hM9
   unfold set4 at hW9
   have HW9 := Lib.hid hW9
   have HF : Hid (Kids M' W9 4 gl 1 (fun _ => r) ∧ Mb M' W9 ∧ Ext w W9) := ⟨hT9.congr fun i hi => by rw [if_pos (by omega)]; exact Sim.refl _, hM9, hE9⟩
   clear hT9 hE9 hM9 hW9 hfz hu e8 HK8 HK HMB HE CN z0 z1 z2 z3
   go_wp2
   rw [← HW9.out]
   clear HW9 q0 q1 q2 q3 f0 f1 f2 f3
   go_roundw
   ·exact ⟨1, by omega, rfl, HF.out.1, HF.out.2.1, HF.out.2.2⟩
   ·decide
end Go.Proofs.YtpclggidcmmemaaGreat

namespace Go.Proofs.YtpclggidcmmemaaGreat
open Go.RowKit

set_option maxRecDepth 100000 in
set_option maxHeartbeats 32000000 in
theorem sr_psc1 (M : Nat → Prop) (x y : PE) (J : Nat) (r c : List Tm) (w : World) (hM : Mb M w) (H : ∀ wk, Ext w wk → Calls Tryz.prog 22 #[.agg (peA x), .agg (peA y), .int .i64 (J : Int)] wk (RetC1 M wk r))
  (hc : ∀ Mk wk z, Mb Mk wk → CRx Mk wk 4 z r → Calls Tryz.prog 76 #[.agg (peA z), .int .i64 (J : Int), .int .i64 0] wk (RetX Mk wk 4 c)) :
  Calls Tryz.prog 35 #[.agg (peA x), .agg (peA y), .int .i64 (J : Int)] w (RetC1 M w c) := by
 have hE := ((Ext.refl w).alloc (.cells (peA x) 33)).alloc (.cells (peA y) 33)
 have hBx := new_px2S w x y
 generalize hW : (w.alloc (.cells (peA x) 33)).alloc (.cells (peA y) 33) = W at *
 have HW := Lib.hid hW
 have HE := Lib.hid hE
 have HBX : Hid (SBr w.heap.size x y W) := hBx
 have HM := Lib.hid hM
 have HH := Lib.hid H
 have HC := Lib.hid hc
 clear hE hBx hW hM H hc
 go_enter Tryz.func35, Tryz.ntmps35
 go_upto_region 1 with (fail)
 rw [HW.out]
 obtain ⟨g0, hg0⟩ : ∃ g0, g0 = w.heap.size := ⟨_, rfl⟩
 rw [← hg0] at HBX ⊢
 clear hg0 HW
 obtain ⟨⟨x0, x1, x2, x3⟩, y0, y1, y2, y3⟩ := HBX.out
 go_wp2_with (fail)
 refine (HH.out W HE.out).mono ?_
 rintro e w7 ⟨gl, rfl, hgl, hk, e7⟩
 have hglt := hk.lt
 have HGL : Hid (w.heap.size ≤ gl) := Nat.le_trans HE.out.size hgl
 have HM7 : Hid (Mb (fun b => M b ∨ b = gl) w7) := mb_ins (HM.out.ext (HE.out.trans e7)) hglt
 have HK7 := Lib.hid hk
 have HE7 := Lib.hid (HE.out.trans e7)
 have HMG : Hid ((fun b => M b ∨ b = gl) gl) := .inr rfl
 have HMQ : Hid (∀ b, M b ∨ b = gl → (fun b => M b ∨ b = gl) b) := fun b h => h
 clear hgl hk e7 HE HH HM x0 x1 x2 x3 y0 y1 y2 y3 hglt HBX
 generalize (fun b => M b ∨ b = gl) = M' at *
 go_wp2
 go_loopw [20] (fun iv wr => ∃ k : Nat, k ≤ 1 ∧ iv = .int .i64 (k : Int) ∧ Hid (Kids M' wr 4 gl 1 (fun _ => if k = 0 then r else c)) ∧ Hid (Mb M' wr) ∧ Hid (Ext w wr)) (fun iv _ => 1 - (intOf iv).toNat)
 case atStart => exact ⟨0, by omega, rfl, HK7, HM7, HE7⟩
 case round =>
  clear HK7 HM7 HE7
  obtain ⟨k, hk1, rfl, HK, HMB, HE⟩ := hrel
  by_cases hk0 : k = 1
  ·subst hk0
   have HF : Hid (RetC1 M w c (.returned (.tuple #[.slice (some ⟨gl, 0, none⟩) 1 1, .int .i64 0])) wr) := ⟨gl, rfl, HGL.out, HK.out.more fun b hb => .inl (HMQ.out b hb), HE.out⟩
   clear HK HMB HE HMG HMQ HGL HC
   go_wp2
   exact bodyPost_ret (v := .tuple #[.slice (some ⟨gl, 0, none⟩) 1 1, .int .i64 0]) (by simp [results, Tryz.results35, go_sem]) rfl HF.out
  ·obtain rfl : k = 0 := by omega
   clear hk1 hk0
   obtain ⟨z, ⟨z0, z1, z2, z3⟩, hz⟩ := HK.out.cel 0 (by omega)
   simp only [Nat.zero_mul, Nat.zero_add] at z0 z1 z2 z3
   have CN := Lib.hid (HC.out M' wr z HMB.out hz)
   clear hz HC
   go_wp2_with (fail)
   refine CN.out.mono ?_
   rintro e w8 ⟨u, rfl, hu, e8⟩
   have HK8 := Lib.hid (HK.out.ext e8)
   obtain ⟨⟨_, q0⟩, ⟨_, q1⟩, ⟨_, q2⟩, ⟨_, q3⟩, hfz, _⟩ := HK8.out.at 0 (by omega)
   simp only [Nat.zero_mul, Nat.zero_add] at q0 q1 q2 q3
   have f0 := hfz 0
   have f1 := hfz 1
   have f2 := hfz 2
   have f3 := hfz 3
   have hT9 := HK8.out.set HMG.out 0 (by omega) hu
   have hE9 := (HE.out.trans e8).set4 (g := gl) HGL.out 0 (.int .i64 u.lv) (.bool u.b) (.slice u.a u.n u.p) (.slice u.ka u.kn u.kp)
   have hM9 := (HMB.out.ext e8).size (Kp.set4 (M := M') HMG.out 0 (.int .i64 u.lv) (.bool u.b) (.slice u.a u.n u.p) (.slice u.ka u.kn u.kp)).1
   rw [Nat.zero_mul] at hT9
   obtain ⟨W9, hW9⟩ : ∃ W9, W9 = set4 w8 gl 0 (.int .i64 u.lv) (.bool u.b) (.slice u.a u.n u.p) (.slice u.ka u.kn u.kp) := ⟨_, rfl⟩
   rw [← hW9] at hT9 hE9 hM9
   unfold set4 at hW9
   have HW9 := Lib.hid hW9
   have HF : Hid (Kids M' W9 4 gl 1 (fun _ => c) ∧ Mb M' W9 ∧ Ext w W9) := ⟨hT9.congr fun i hi => by rw [if_pos (by omega)]; exact Sim.refl _, hM9, hE9⟩
   clear hT9 hE9 hM9 hW9 hfz hu e8 HK8 HK HMB HE CN z0 z1 z2 z3
   go_wp2
   rw [← HW9.out]
   clear HW9 q0 q1 q2 q3 f0 f1 f2 f3
   go_roundw
   ·exact ⟨1, by omega, rfl, HF.out.1, HF.out.2.1, HF.out.2.2⟩
   ·decide
end Go.Proofs.YtpclggidcmmemaaGreat

namespace Go.Proofs.YtpclggidcmmemaaGreat
open Go.RowKit

set_option maxRecDepth 100000 in
set_option maxHeartbeats 8000000 in
theorem mv_CoefV (M : Nat → Prop) (x : PE) (l : List Tm) (J i : Nat) (B : Nat) (w : World) (h1 : 1 ≤ J) (h4 : J ≤ 4) (nl : NN l) (hM : Mb M w) (h : PI M w x l) (hB : Deg B l) (hB4 : (B + 1) ^ 4 ≤ 1099511627776) (hB2 : B + 1 ≤ 1073741824) (hR : dlen (nrm l) ≤ 1099511627776) : Calls Tryz.prog 76 #[.agg (peA x), .int .i64 (J : Int), .int .i64 (i : Int)] w (RetX M w 4 (ck J (i : Int) l)) := by
 obtain ⟨hE0, hX0, hB0, hM0⟩ := box1 hM x
 have CC := Lib.hid (mv_Coefs _ x l (J : Int) B _ hM0 ((h.more (M' := Mx M w.heap.size (w.heap.size + 2)) (Mx.more (Nat.le_refl _))).ext hE0) hB hB4 hB2 hR)
 have HE := Lib.hid hE0
 have HB := Lib.hid hB0
 have HM := Lib.hid hM
 obtain ⟨x0, x1, x2, x3⟩ := hX0
 have hnB : Hid (∀ K n : Nat, DgR K l n → n ≤ B) := fun K n hd => dg_le hd hB
 have HB2 := Lib.hid hB2
 have HJ : Hid (1 ≤ J ∧ J ≤ 4) := ⟨h1, h4⟩
 have HN := Lib.hid nl
 have hi0 : (0 : Int) ≤ (i : Int) := Int.natCast_nonneg _
 have hi1 : ¬ (i : Int) < 0 := by omega
 clear hE0 hB0 hM0 hM h hB hB4 hR hB2 h1 h4 nl
 go_enter Tryz.func76, Tryz.ntmps76
 go_wp2_with (fail)
 refine CC.out.mono ?_
 rintro e w1 ⟨hr, he1⟩
 have HE1 := Lib.hid (HE.out.trans he1)
 have hB1 := HB.out.ext he1
 clear he1 CC x0 x1 x2 x3 HB HE
 rcases hr with ⟨hz, rfl⟩ | ⟨hz, hl, g, rfl, hg, hk⟩ | ⟨hz, K, n, g, hKJ, hK1, hK4, rfl, hg, hd, hk⟩
 ·have hs : Sim [] (ck J (i : Int) l) := (show Sim (ck J (i : Int) l) [] from ck_sim hz).symm
  obtain ⟨⟨q0, q1, q2, q3⟩, ⟨f0, f1, f2, f3⟩, ⟨r0, r1, r2, r3⟩, HF⟩ := retX (M := M) (M' := Mx M w.heap.size (w.heap.size + 2)) (w := w) (L := 4) (l := ck J (i : Int) l) (y := PE.z) hB1 (Mx.at (by omega)) (by omega) HE1.out (CRx.sim (CR.zero _ _ 4) hs) Mx.sub
  simp only [PE.z] at r0 r1 r2 r3 q0 q1 q2 q3
  have HF2 := Lib.hid HF.out
  clear HF hB1 hz hs
  go_wp2
  exact bodyPost_ret (v := .agg (peA PE.z)) (by simp [results, Tryz.results76, go_sem, r0, r1, r2, r3, PE.z]) rfl HF2.out
 ·exact absurd ⟨by have := HJ.out; omega, by have := HJ.out; omega⟩ hl
 ·obtain rfl : J = K := by omega
  have hgl := hk.lt
  have hnI : (n : Int) + 1 ≤ 1099511627776 := by have := hnB.out J n hd; have := HB2.out; omega
  have hn0 : (0 : Int) ≤ (n : Int) := Int.natCast_nonneg _
  have hnN : n + 1 ≤ 1099511627776 := by omega
  have hck : n < i → Sim [] (ck J (i : Int) l) := fun h => (ck_none hK1 hK4 hd.1 h).symm
  clear hnI hn0 hd hnB HB2 hKJ hK1 hK4 HM HN HJ hz
  obtain ⟨N, hN⟩ : ∃ N, n + 1 = N := ⟨_, rfl⟩
  have hck2 : N ≤ i → Sim [] (ck J (i : Int) l) := fun h => hck (by omega)
  rw [hN] at hk hnN ⊢
  clear hck hN
  have hN1 : (N : Int) ≤ 1099511627776 := by omega
  by_cases hin : i < N
  ·obtain ⟨y, ⟨c0, c1, c2, c3⟩, hy⟩ := hk.cel i hin
   have hlt : (i : Int) < (N : Int) := by omega
   have hge : ¬ (N : Int) ≤ (i : Int) := by omega
   obtain ⟨⟨q0, q1, q2, q3⟩, ⟨f0, f1, f2, f3⟩, ⟨r0, r1, r2, r3⟩, HF⟩ := retX (M := M) (w := w) (L := 4) (l := ck J (i : Int) l) (y := y) hB1 (Mx.at (by omega)) (by omega) HE1.out (hy.more (M' := Mx M w.heap.size (w.heap.size + 2)) fun b hb => .inl (.inl hb)) Mx.sub
   have HF2 := Lib.hid HF.out
   clear HF hB1 hk hy hin hnN HE1 hck2
   go_wp2
   exact bodyPost_ret (v := .agg (peA y)) (by simp [results, Tryz.results76, go_sem, r0, r1, r2, r3]) rfl HF2.out
  ·have hs := hck2 (by omega)
   have hlt : ¬ (i : Int) < (N : Int) := by omega
   have hge : (N : Int) ≤ (i : Int) := by omega
   obtain ⟨⟨q0, q1, q2, q3⟩, ⟨f0, f1, f2, f3⟩, ⟨r0, r1, r2, r3⟩, HF⟩ := retX (M := M) (M' := Mx M w.heap.size (w.heap.size + 2)) (w := w) (L := 4) (l := ck J (i : Int) l) (y := PE.z) hB1 (Mx.at (by omega)) (by omega) HE1.out (CRx.sim (CR.zero _ _ 4) hs) Mx.sub
   simp only [PE.z] at r0 r1 r2 r3 q0 q1 q2 q3
   have HF2 := Lib.hid HF.out
   clear HF hB1 hs hk hin hnN HE1 hck2
   go_wp2
   exact bodyPost_ret (v := .agg (peA PE.z)) (by simp [results, Tryz.results76, go_sem, r0, r1, r2, r3, PE.z]) rfl HF2.out
end Go.Proofs.YtpclggidcmmemaaGreat

namespace Go.Proofs.YtpclggidcmmemaaGreat
open Go.RowKit

def qF : List Tm := ppow (varL 1) 2 ++ varL 2
def qG : List Tm := pmul (varL 1) [(2, Mo.zero)]
def qR : List Tm := pdRem 1 1 2 qF (negL qG)
def qY : List Tm := pmul (varL 2) [(4, Mo.zero)]
theorem qF_nn : NN qF := nn_of_all (by decide)
theorem qG_nn : NN qG := nn_of_all (by decide)
theorem qR_nn : NN qR := nn_of_all (by decide)
theorem qF_deg : Deg 2 qF := deg_list qF_nn (by decide)
theorem qG_deg : Deg 1 qG := deg_list qG_nn (by decide)
theorem qR_deg : Deg 2 qR := deg_list qR_nn (by decide)
theorem ne_of_coef {l : List Tm} {m : Mo} (h : coefAt l m ≠ 0) : ¬ Sim l [] := fun hs => h (hs m)
theorem qF_ne : ¬ Sim qF [] := ne_of_coef (m := ⟨0, 1, 0, 0⟩) (by decide)
theorem qG_ne : ¬ Sim qG [] := ne_of_coef (m := ⟨1, 0, 0, 0⟩) (by decide)
theorem qR_ne : ¬ Sim qR [] := ne_of_coef (m := ⟨0, 1, 0, 0⟩) (by decide)
theorem dgr_list {L n : Nat} {l : List Tm} (h : ∀ s ∈ l, s.2.get L ≤ (n : Int)) (m : Mo) (hm : coefAt l m ≠ 0) : m.get L ≤ (n : Int) :=
 Classical.byContradiction fun hc => hm (coefAt_zero fun t ht e => hc (e ▸ h t ht))
theorem qF_dg : DgR 1 qF 2 := ⟨dgr_list (by decide), .inr ⟨⟨2, 0, 0, 0⟩, by decide, by decide⟩⟩
theorem qG_dg : DgR 1 qG 1 := ⟨dgr_list (by decide), .inr ⟨⟨1, 0, 0, 0⟩, by decide, by decide⟩⟩
theorem qR_dg : DgR 1 qR 0 := ⟨dgr_list (by decide), .inl rfl⟩
theorem qR_ck : Sim (ck 1 0 qR) qY := sim_of_norm (nn_of_all (by decide)) (nn_of_all (by decide)) (by decide)
theorem dvn_q : DvN 2 1 2 2 := ⟨by decide, by decide, by decide⟩
theorem qF_dl : dlen (nrm qF) ≤ 2 := by decide
theorem qG_dl : dlen (nrm qG) ≤ 2 := by decide
theorem qR_dl : dlen (nrm qR) ≤ 2 := by decide
theorem q_st {n V : Nat} (h : StR 1 qF n V) (hn : n = 1) : V = 2 := by
 subst hn
 rcases h with ⟨hz, _⟩ | ⟨_, a, ha, rfl⟩
 ·exact absurd hz qF_ne
 ·rw [dgr_uniq qF_nn qF_ne ha qF_dg]
theorem q_dsi (M : Nat → Prop) (w : World) (x y : PE) (hx : PI M w x qF) (hy : PI M w y qG) (W : World) (hE : Ext w W) (M' : Nat → Prop) (hM : Mb M' W) (hs : ∀ b, M' b → M b ∨ w.heap.size ≤ b) : DsI M' W x y 1 2 (ck 1 1 qG) (ppow (ck 1 1 qG) 1) qR 0 where
 ld := fun wk he => mv_LeadV M' y qG 1 1 1 wk (by omega) (by omega) qG_nn qG_ne qG_dg (hM.ext he) (((hy.more hs).ext hE).ext he) qG_deg (by decide) (by decide) (Nat.le_trans qG_dl (by decide))
 pw := fun wk u he hu => rp_Pow M' u (ck 1 1 qG) 1 1 wk (hM.ext he) hu.pi (by decide) (by decide) (ck_deg (by omega) (by omega) qG_deg) (by decide)
 rm := fun Mk wk he hm hk => by
  have hk' : ∀ b, Mk b → M b ∨ w.heap.size ≤ b := fun b hb => (hk b hb).elim (hs b) fun h => .inr (Nat.le_trans hE.size h)
  refine (sr_remainder Mk qF qG x y 1 2 1 2 2 wk (by omega) (by omega) hm (((hx.more hk').ext hE).ext he) (((hy.more hk').ext hE).ext he) qF_nn qG_nn qG_ne qF_deg qG_deg (by decide) qF_dl qG_dl (by decide) dvn_q).mono ?_
  rintro e w' ⟨v, n, V, rfl, hd, hst, hv, he'⟩
  obtain rfl : n = 1 := dgr_uniq qG_nn qG_ne hd qG_dg
  obtain rfl := q_st hst rfl
  exact ⟨v, rfl, hv, he'⟩
 dy := fun wk he => mv_DegreeV M' y qG 1 1 wk (by omega) (by omega) qG_nn (.inr ⟨qG_ne, 1, qG_dg, rfl⟩) (hM.ext he) (((hy.more hs).ext hE).ext he)
 dr := fun wk u he hu => mv_DegreeV M' u qR 1 0 wk (by omega) (by omega) qR_nn (.inr ⟨qR_ne, 0, qR_dg, rfl⟩) (hM.ext he) hu.pi
theorem q_psc (M : Nat → Prop) (w : World) (x y : PE) (hM : Mb M w) (hx : PI M w x qF) (hy : PI M w y qG) : Calls Tryz.prog 35 #[.agg (peA x), .agg (peA y), .int .i64 1] w (RetC1 M w qY) := by
 refine (sr_psc1 M x y 1 qR (ck 1 0 qR) w hM (fun wk he => sr_chain1 M x y 1 2 qR wk (hM.ext he) (by omega) ⟨fun wl hl => ?_, fun wl hl => ?_, fun wl hl => ?_, fun wl hl => ?_⟩) fun Mk wk z hm hz => ?_).mono ?_
 ·refine (sr_check M qF qG x y ((1 : Nat) : Int) wl (hM.ext (he.trans hl)) (hx.ext (he.trans hl)) (hy.ext (he.trans hl))).mono ?_
  rintro e w' ⟨er, rfl, hr, he'⟩
  rcases hr with ⟨h1, _⟩ | ⟨_, h1, _⟩ | ⟨_, _, _, rfl⟩
  ·exact absurd ⟨by decide, by decide⟩ h1
  ·exact (h1.elim qF_ne qG_ne).elim
  ·exact ⟨rfl, he'⟩
 ·exact mv_DegreeV M x qF 1 2 wl (by omega) (by omega) qF_nn (.inr ⟨qF_ne, 2, qF_dg, rfl⟩) (hM.ext (he.trans hl)) (hx.ext (he.trans hl))
 ·exact mv_DegreeV M y qG 1 1 wl (by omega) (by omega) qG_nn (.inr ⟨qG_ne, 1, qG_dg, rfl⟩) (hM.ext (he.trans hl)) (hy.ext (he.trans hl))
 ·exact sr_descend1 M x y 1 2 (ck 1 1 qG) (ppow (ck 1 1 qG) 1) qR 0 wl (hM.ext (he.trans hl)) (by omega) (.inr rfl) (fun h => by omega) fun W hE M' hm hs => q_dsi M wl x y (hx.ext (he.trans hl)) (hy.ext (he.trans hl)) W hE M' hm hs
 ·exact mv_CoefV Mk z qR 1 0 2 wk (by omega) (by omega) qR_nn hm hz.pi qR_deg (by decide) (by decide) (Nat.le_trans qR_dl (by decide))
 ·rintro e w' ⟨gl, rfl, hg, hk, he⟩
  exact ⟨gl, rfl, hg, hk.congr fun i _ => qR_ck, he⟩
end Go.Proofs.YtpclggidcmmemaaGreat

namespace Go.Proofs.YtpclggidcmmemaaGreat
open Go.RowKit

def SJ3 (g1 g2 g3 : Nat) (x y v : PE) (w : World) : Prop := P4 w g1 x ∧ P4 w g2 y ∧ P4 w g3 v
theorem SJ3.ext {g1 g2 g3 : Nat} {x y v : PE} {w w' : World} (h : SJ3 g1 g2 g3 x y v w) (he : Ext w w') : SJ3 g1 g2 g3 x y v w' := ⟨h.1.ext he, h.2.1.ext he, h.2.2.ext he⟩
theorem int_of4 (z : Int) (hz : -100 ≤ z ∧ z ≤ 100) (W' : World) : Calls Tryz.prog 39 #[.int .i64 z] W' fun e w' => ∃ b a n p, e = .returned (.agg #[.bool b, .slice a n p]) ∧ IntV M0 w' (.bool b) (.slice a n p) z ∧ Ext W' w' := by
 refine (int_of z W' (mb0 _) (by omega) (by omega)).mono ?_
 rintro e w' ⟨e0, e1, rfl, hI, he⟩
 obtain ⟨b, a, n, p, rfl, rfl⟩ := hI.form
 exact ⟨b, a, n, p, rfl, hI.toV, he⟩
set_option maxRecDepth 100000 in
set_option maxHeartbeats 16000000 in
theorem law_fit25 (w : World) : Calls Tryz.prog 7 #[] w fun e w' => e = .returned (.bool true) ∧ Ext w w' := by
 go_enter Tryz.func7, Tryz.ntmps7
 go_wp2_with (fail)
 refine (rp_Var M0 1 _ (mb0 _)).mono ?_
 rintro e w1 ⟨x, rfl, hx, he1⟩
 go_wp2_with (fail)
 refine (rp_Var M0 2 _ (mb0 _)).mono ?_
 rintro e w2 ⟨y, rfl, hy, he2⟩
 have hb1 := Blk.of_arr w2 (peA x) 33 4 rfl
 have hb2 := Blk.of_arr (w2.alloc (.cells (peA x) 33)) (peA y) 33 4 rfl
 simp only [World.size_alloc] at hb2
 have hE2 : Ext w2 ((w2.alloc (.cells (peA x) 33)).alloc (.cells (peA y) 33)) := ((Ext.refl w2).alloc _).alloc _
 have HS0 : Hid (SG9 w2.heap.size (w2.heap.size + 1) x y ((w2.alloc (.cells (peA x) 33)).alloc (.cells (peA y) 33))) := ⟨(hb1.alloc _).p4, hb2.p4⟩
 have HX := Lib.hid ((hx.ext he2).ext hE2)
 have HY := Lib.hid (hy.ext hE2)
 have HE := Lib.hid ((he1.trans he2).trans hE2)
 clear hb1 hb2 hE2 hx hy he1 he2
 go_upto_region 2 with (fail)
 generalize (w2.alloc (.cells (peA x) 33)).alloc (.cells (peA y) 33) = W at *
 generalize w2.heap.size = g0 at *
 have HSd : Hid (SG9 g0 (g0 + 1) x y W.drew) := HS0.out.ext (Ext.refl W).drew
 have HXd := Lib.hid (HX.out.ext (Ext.refl W).drew)
 have HYd := Lib.hid (HY.out.ext (Ext.refl W).drew)
 have HEd := Lib.hid (HE.out.trans (Ext.refl W).drew)
 clear HX HY HE HS0
 refine wp_region_u (SG9 g0 (g0 + 1) x y) 13 (by kernel_rfl) HSd.out (fun hHeld => ?_)
 generalize W.drew = wd at *
 have C1 : Hid (∀ W', Ext wd W' → Calls Tryz.prog 37 #[.agg (peA x), .int .i64 2] W' (RetX M0 W' 4 (ppow (varL 1) 2))) := fun W' h => rp_Pow M0 x (varL 1) 1 2 W' (mb0 _) (HXd.out.ext h).pi (by decide) (by decide) (deg_var 1) (by decide)
 have C3 : Hid (∀ W' p, Ext wd W' → CRx M0 W' 4 p (ppow (varL 1) 2) → Calls Tryz.prog 36 #[.agg (peA p), .agg (peA y)] W' (RetX M0 W' 4 qF)) := fun W' p h hp => rp_Add M0 p y _ _ W' (mb0 _) hp.pi (HYd.out.ext h).pi (by decide)
 have C6 : Hid (∀ W' b a n p, Ext wd W' → IntV M0 W' (.bool b) (.slice a n p) 2 → Calls Tryz.prog 38 #[.agg (peA x), .agg #[.bool b, .slice a n p]] W' (RetX M0 W' 4 qG)) := fun W' b a n p h hp => rp_Scale M0 x (varL 1) 1 b a n p 2 W' (mb0 _) (HXd.out.ext h).pi hp (by decide) (deg_var 1) (by decide)
 clear HXd
 (refine tkB [0, 2, 4] ?_; (iterate 3 (refine tk1 (oi := ?_) (v := ?_) (by kernel_rfl) (by first | exact hSn | exact hHeld) ?_ ?_ ?_ ?_ ?_; rotate_left 2; (simp only [xgA, xgB, xgC]; rfl); rfl; (intro wS hSw; obtain ⟨⟨S1, S2, S3, S4⟩, S5, S6, S7, S8⟩ := hSw; go_simp; try with_reducible rfl); (exact fun _ _ _ h => h); (try simp only [Act.put, xgD, xgE, xgF]))); refine tkE ?_)
 ((refine wpAnyU_one 1 (o := ?_) (by kernel_rfl) ?_ ?_; rotate_left 1; (simp only [xgA, xgB, xgC]; rfl); intro K hK); go_simp; (refine (C1.out wd (Ext.refl wd)).mono ?_); rintro e_ v1 ⟨p, rfl, hp, d1⟩; go_wp2_with (fail); (try clear hSn); (have hSn := hHeld.ext d1); (refine hK.out _ _ (fun _ => hSn) ?_); clear hK K; (try simp only [Act.put, xgD, xgE, xgF]))
 ((refine wpAnyU_one 3 (o := ?_) (by kernel_rfl) ?_ ?_; rotate_left 1; (simp only [xgA, xgB, xgC]; rfl); intro K hK); go_simp; (refine (C3.out v1 p d1 hp).mono ?_); rintro e_ v3 ⟨q, rfl, hq, d3⟩; go_wp2_with (fail); (try clear hSn); (have hSn := hHeld.ext (d1.trans d3)); (refine hK.out _ _ (fun _ => hSn) ?_); clear hK K; (try simp only [Act.put, xgD, xgE, xgF]))
 ((refine wpAnyU_one 5 (o := ?_) (by kernel_rfl) ?_ ?_; rotate_left 1; (simp only [xgA, xgB, xgC]; rfl); intro K hK); go_simp; (refine (int_of4 2 (by omega) v3).mono ?_); rintro e_ v5 ⟨ib, ia, ik, ip, rfl, hI, d5⟩; go_wp2_with (fail); (try clear hSn); (have hSn := hHeld.ext ((d1.trans d3).trans d5)); (refine hK.out _ _ (fun _ => hSn) ?_); clear hK K; (try simp only [Act.put, xgD, xgE, xgF]))
 ((refine wpAnyU_one 6 (o := ?_) (by kernel_rfl) ?_ ?_; rotate_left 1; (simp only [xgA, xgB, xgC]; rfl); intro K hK); go_simp; (refine (C6.out v5 ib ia ik ip ((d1.trans d3).trans d5) hI).mono ?_); rintro e_ v6 ⟨r, rfl, hr, d6⟩; go_wp2_with (fail); (try clear hSn); (have hSn := hHeld.ext (((d1.trans d3).trans d5).trans d6)); (refine hK.out _ _ (fun _ => hSn) ?_); clear hK K; (try simp only [Act.put, xgD, xgE, xgF]))
 ((refine wpAnyU_one 7 (o := ?_) (by kernel_rfl) ?_ ?_; rotate_left 1; (simp only [xgA, xgB, xgC]; rfl); intro K hK); go_simp; (refine (q_psc M0 v6 q r (mb0 _) ((hq.ext d5).ext d6).pi hr.pi).mono ?_); rintro e_ v7 ⟨gl, rfl, hg, hk, d7⟩; go_wp2_with (fail); (try clear hSn); (have hSn := hHeld.ext ((((d1.trans d3).trans d5).trans d6).trans d7)); (refine hK.out _ _ (fun _ => hSn) ?_); clear hK K; (try simp only [Act.put, xgD, xgE, xgF]))
 have HE7 := Lib.hid ((((d1.trans d3).trans d5).trans d6).trans d7)
 obtain ⟨z, ⟨z0, z1, z2, z3⟩, hz⟩ := hk.cel 0 (by omega)
 simp only [Nat.zero_mul, Nat.zero_add] at z0 z1 z2 z3
 have HZ := Lib.hid hz
 have HPZ : Hid (P4 v7 gl z) := ⟨z0, z1, z2, z3⟩
 have HSZ : Hid (SG9 g0 (g0 + 1) x y v7) := hSn
 have HL : Hid (gl < v7.heap.size) := hk.lt
 (refine tkB [8, 9, 10, 11, 12] ?_; (iterate 5 (refine tk1 (oi := ?_) (v := ?_) (by kernel_rfl) (by first | exact hSn | exact hHeld) ?_ ?_ ?_ ?_ ?_; rotate_left 2; (simp only [xgA, xgB, xgC]; rfl); rfl; (intro wS hSw; obtain ⟨⟨S1, S2, S3, S4⟩, S5, S6, S7, S8⟩ := hSw; go_simp; try with_reducible rfl); (exact fun _ _ _ h => h); (try simp only [Act.put, xgD, xgE, xgF]))); refine tkE ?_)
 refine wpAnyU_done (by kernel_rfl) ?_ _
 clear hHeld hSn d1 d3 d5 d6 d7 hp hq hI hr hg hk z0 z1 z2 z3 C1 C3 C6 hz
 go_upto_region 3 with (fail)
 have HSJ : Hid (SJ3 g0 (g0 + 1) gl x y z v7.drew) := SJ3.ext ⟨HSZ.out.1, HSZ.out.2, HPZ.out⟩ (Ext.refl _).drew
 have HYe := Lib.hid ((HYd.out.ext HE7.out).ext (Ext.refl v7).drew)
 have HZe := Lib.hid (HZ.out.ext (Ext.refl v7).drew)
 have HEe := Lib.hid ((HEd.out.trans HE7.out).trans (Ext.refl v7).drew)
 clear HYd HZ HE7 HEd HSZ HPZ HSd HL
 refine wp_region_u (SJ3 g0 (g0 + 1) gl x y z) 17 (by kernel_rfl) HSJ.out (fun hHeld => ?_)
 generalize v7.drew = we at *
 have C13 : Hid (∀ W' b a n p, Ext we W' → IntV M0 W' (.bool b) (.slice a n p) 4 → Calls Tryz.prog 38 #[.agg (peA y), .agg #[.bool b, .slice a n p]] W' (RetX M0 W' 4 qY)) := fun W' b a n p h hp => rp_Scale M0 y (varL 2) 1 b a n p 4 W' (mb0 _) (HYe.out.ext h).pi hp (by decide) (deg_var 2) (by decide)
 (refine tkB [0, 1, 2, 3, 4, 5, 6, 7, 8, 9, 10, 11] ?_; (iterate 12 (refine tk1 (oi := ?_) (v := ?_) (by kernel_rfl) (by first | exact hSn | exact hHeld) ?_ ?_ ?_ ?_ ?_; rotate_left 2; (simp only [xgA, xgB, xgC]; rfl); rfl; (intro wS hSw; obtain ⟨⟨S1, S2, S3, S4⟩, ⟨S5, S6, S7, S8⟩, S9, S10, S11, S12⟩ := hSw; go_simp; try with_reducible rfl); (exact fun _ _ _ h => h); (try simp only [Act.put, xgD, xgE, xgF]))); refine tkE ?_)
 ((refine wpAnyU_one 12 (o := ?_) (by kernel_rfl) ?_ ?_; rotate_left 1; (simp only [xgA, xgB, xgC]; rfl); intro K hK); go_simp; (refine (int_of4 4 (by omega) we).mono ?_); rintro e_ v1 ⟨ib, ia, ik, ip, rfl, hI, d1⟩; go_wp2_with (fail); (try clear hSn); (have hSn := hHeld.ext d1); (refine hK.out _ _ (fun _ => hSn) ?_); clear hK K; (try simp only [Act.put, xgD, xgE, xgF]))
 ((refine wpAnyU_one 13 (o := ?_) (by kernel_rfl) ?_ ?_; rotate_left 1; (simp only [xgA, xgB, xgC]; rfl); intro K hK); go_simp; (refine (C13.out v1 ib ia ik ip d1 hI).mono ?_); rintro e_ v2 ⟨q, rfl, hq, d2⟩; go_wp2_with (fail); (try clear hSn); (have hSn := hHeld.ext (d1.trans d2)); (refine hK.out _ _ (fun _ => hSn) ?_); clear hK K; (try simp only [Act.put, xgD, xgE, xgF]))
 have CS := Lib.hid (same_b z q qY qY v2 true ((HZe.out.more (M' := M0) fun b hb => .inl (.inl hb)).ext (d1.trans d2)).pi hq.pi (by simp [Sim.refl]))
 ((refine wpAnyU_one 14 (o := ?_) (by kernel_rfl) ?_ ?_; rotate_left 1; (simp only [xgA, xgB, xgC]; rfl); intro K hK); go_simp; (refine (CS.out).mono ?_); rintro e_ v3 ⟨rfl, d3⟩; go_wp2_with (fail); (try clear hSn); (have hSn := hHeld.ext ((d1.trans d2).trans d3)); (refine hK.out _ _ (fun _ => hSn) ?_); clear hK K; (try simp only [Act.put, xgD, xgE, xgF]))
 (refine tkB [15, 16] ?_; (iterate 2 (refine tk1 (oi := ?_) (v := ?_) (by kernel_rfl) (by first | exact hSn | exact hHeld) ?_ ?_ ?_ ?_ ?_; rotate_left 2; (simp only [xgA, xgB, xgC]; rfl); rfl; (intro wS hSw; obtain ⟨⟨S1, S2, S3, S4⟩, ⟨S5, S6, S7, S8⟩, S9, S10, S11, S12⟩ := hSw; go_simp; try with_reducible rfl); (exact fun _ _ _ h => h); (try simp only [Act.put, xgD, xgE, xgF]))); refine tkE ?_)
 refine wpAnyU_done (by kernel_rfl) ?_ _
 have HF := Lib.hid (HEe.out.trans ((d1.trans d2).trans d3))
 clear hHeld hSn CS C13 HSJ HYe HZe HEe d1 d2 d3 hq hI
 go_wp2
 go_ret
 exact ⟨rfl, HF.out⟩
end Go.Proofs.YtpclggidcmmemaaGreat
