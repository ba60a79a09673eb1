/- cylinderlaw23.fit: the fixed example. -/
import Derived.Test.YtjcceddloogiiaaGreatDd
set_option linter.unusedVariables false
set_option linter.unusedSimpArgs false

namespace Go.Proofs.YtjcceddloogiiaaGreat
open Go.RowKit

def f23 : List Tm := [(1, ⟨1, 1, 0, 0⟩), (3, ⟨0, 0, 0, 0⟩)]
theorem mem_coef {l : List Tm} {m : Mo} (h : coefAt l m ≠ 0) : ∃ t ∈ l, t.2 = m := Classical.byContradiction fun hc => h (coefAt_zero fun t ht e => hc ⟨t, ht, e⟩)
theorem f23_eq : pmul (varL 1) (varL 2) ++ [(3, Mo.zero)] = f23 := by decide
theorem f23_mem {m : Mo} (h : coefAt f23 m ≠ 0) : m = ⟨1, 1, 0, 0⟩ ∨ m = ⟨0, 0, 0, 0⟩ := by
 obtain ⟨t, ht, rfl⟩ := mem_coef h
 simp only [f23, List.mem_cons, List.not_mem_nil, or_false] at ht
 rcases ht with rfl | rfl
 ·exact .inl rfl
 ·exact .inr rfl
theorem f23_c : coefAt f23 ⟨1, 1, 0, 0⟩ ≠ 0 := by decide
theorem f23_ne : ¬ Sim f23 [] := fun h => f23_c (h _)
theorem f23_deg : Deg 1 f23 := fun m hm k => by
 rcases f23_mem hm with rfl | rfl
 ·simp only [Mo.get]; repeat' split
  all_goals omega
 ·simp only [Mo.get]; repeat' split
  all_goals omega
theorem f23_lv {k : Nat} (h : LvR f23 k) : k = 2 := by
 obtain ⟨h1, h2, h3⟩ := h
 have h4 : ¬ k < 2 := fun hk => by
  have := h2 _ f23_c 2 hk (by omega)
  simp [Mo.get] at this
 rcases h3 with h3 | ⟨m, hm, hp⟩
 ·omega
 ·have : k = 2 ∨ k = 3 ∨ k = 4 := by omega
  rcases f23_mem hm with rfl | rfl <;> rcases this with rfl | rfl | rfl <;> first | rfl | (simp [Mo.get] at hp)
theorem f23_dg {n : Nat} (h : DgR 1 f23 n) : n = 1 := by
 have h1 := h.1 _ f23_c
 simp [Mo.get] at h1
 rcases h.2 with h2 | ⟨m, hm, hp⟩
 ·omega
 ·rcases f23_mem hm with rfl | rfl <;> simp [Mo.get] at hp <;> omega
theorem sim_of_nrm3 {l r : List Tm} (hl : ∀ t ∈ l, t.2.nn = true) (hr : ∀ t ∈ r, t.2.nn = true) (h : norm l = norm r) : Sim l r := (sim_norm hl).symm.trans (by rw [h]; exact sim_norm hr)
theorem f23_ck : Sim (ck 1 ((1 : Nat) : Int) f23) (varL 2) := sim_of_nrm3 (by decide) (by decide) (by decide)
theorem f23_sn : lvM ((snorm f23).map (·.2)) ≠ 0 := by decide
theorem f23_fam {c : Nat} {F : Nat → List Tm} (h : FamL 2 (fun _ => f23) c F) : c = 1 := by
 obtain ⟨h1, h2, h3⟩ := h
 obtain ⟨i, hi, _⟩ := h2 0 (by omega) f23_sn
 refine Classical.byContradiction fun hc => ?_
 obtain ⟨_, _, e0, _⟩ := h1 0 (by omega)
 obtain ⟨_, _, e1, _⟩ := h1 1 (by omega)
 have := h3 0 1 (by omega) (by omega)
 rw [e0, e1, (cmpP_zero _ _).2 rfl] at this
 omega
theorem Kids.cel {M : Nat → Prop} {w : World} {D g N : Nat} {P : Nat → List Tm} (h : Kids M w D g N P) (i : Nat) (hi : i < N) : ∃ y : PE, KCell w g (i * 4) y ∧ CRx M w D y (P i) := by
 obtain ⟨f, hB, hc⟩ := h
 obtain ⟨x, e0, e1, e2, e3, hx, _⟩ := (hc i hi).pe
 refine ⟨x, ⟨?_, ?_, ?_, ?_⟩, hx⟩
 ·rw [hB.cell (by omega), e0]
 ·rw [hB.cell (by omega), e1]
 ·rw [hB.cell (by omega), e2]
 ·rw [hB.cell (by omega), e3]
theorem Kids.lt {M : Nat → Prop} {w : World} {D g N : Nat} {P : Nat → List Tm} (h : Kids M w D g N P) : g < w.heap.size := by
 obtain ⟨f, hB, _⟩ := h; exact hB.lt
def S23 (g b : Nat) (z p : PE) (w : World) : Prop := KCell w g 4 z ∧ P4 w b p
theorem S23.ext {g b : Nat} {z p : PE} {w w' : World} (h : S23 g b z p w) (he : Ext w w') : S23 g b z p w' := ⟨h.1.ext (World.block_lt_of_cell? _ _ h.1.1) he, h.2.ext he⟩
set_option maxRecDepth 100000 in
set_option maxHeartbeats 8000000 in
theorem law_fit23 (w : World) : Calls Tryz.prog 15 #[] w fun e w' => e = .returned (.bool true) ∧ Ext w w' := by
 go_enter Tryz.func15, Tryz.ntmps15
 go_wp2_with (fail)
 refine (rp_Var M0 1 _ (mb0 _)).mono ?_
 rintro e w1 ⟨x, rfl, hx, he1⟩
 go_wp2_with (fail)
 refine (rp_Var M0 2 _ (mb0 _)).mono ?_
 rintro e w2 ⟨y, rfl, hy, he2⟩
 go_wp2_with (fail)
 refine (rp_Mul M0 x y (varL 1) (varL 2) 1 1 _ (mb0 _) (hx.ext he2).pi hy.pi (by decide) (deg_var 1) (deg_var 2) (by decide)).mono ?_
 rintro e w3 ⟨m, rfl, hm, he3⟩
 go_wp2_with (fail)
 refine (int_of 3 _ (mb0 _) (by decide) (by decide)).mono ?_
 rintro e w4 ⟨d0, d1, rfl, hc, he4⟩
 obtain ⟨b2, a2, n2, p2, rfl, rfl⟩ := hc.form
 go_wp2_with (fail)
 refine (rp_Const M0 _ _ _ _ 3 _ (mb0 _) hc.toV).mono ?_
 rintro e w5 ⟨q, rfl, hq, he5⟩
 go_wp2_with (fail)
 refine (rp_Add M0 m q (pmul (varL 1) (varL 2)) [(3, Mo.zero)] _ (mb0 _) ((hm.ext he4).ext he5).pi hq.pi (by decide)).mono ?_
 rintro e w6 ⟨p, rfl, hp, he6⟩
 rw [f23_eq] at hp
 have hEa := (Ext.refl w6).alloc (.cells (peA p) 33)
 have HP0 : Hid (P4 (w6.alloc (.cells (peA p) 33)) w6.heap.size p) := (Blk.of_arr w6 (peA p) 33 4 rfl).p4
 have HX := Lib.hid (hp.ext hEa)
 have HE := Lib.hid ((((((he1.trans he2).trans he3).trans he4).trans he5).trans he6).trans hEa)
 clear hx hy hm hc hq hp he1 he2 he3 he4 he5 he6 hEa
 go_upto_region 2 with (fail)
 generalize hb6 : w6.heap.size = b6 at *
 generalize w6.alloc (.cells (peA p) 33) = W at *
 clear hb6
 have CC := Lib.hid (mv_Coefs M0 p f23 1 1 W (mb0 _) HX.out.pi f23_deg (by decide) (by decide) (by decide))
 obtain ⟨x0, x1, x2, x3⟩ := HP0.out
 go_wp2_with (fail)
 refine CC.out.mono ?_
 rintro e w7 ⟨hr, he7⟩
 obtain ⟨n, g, rfl, hgs, hdg, hkd⟩ : ∃ n g : Nat, e = .returned (.slice (some ⟨g, 0, none⟩) (n + 1) (n + 1)) ∧ W.heap.size ≤ g ∧ DgR 1 f23 n ∧ Kids (fun b => M0 b ∨ b = g) w7 4 g (n + 1) (fun i => ck 1 (i : Int) f23) := by
  rcases hr with ⟨hz, _⟩ | ⟨_, hl, _⟩ | ⟨_, K, n, g, hK, _, _, h1, h2, h3, h4⟩
  ·exact absurd hz f23_ne
  ·exact absurd ⟨by omega, by omega⟩ hl
  ·obtain rfl : K = 1 := by omega
   exact ⟨n, g, h1, h2, h3, h4⟩
 obtain rfl := f23_dg hdg
 obtain ⟨z, hz, hzc⟩ := hkd.cel 1 (by omega)
 have HZ : Hid (CRx M0 w7.drew 4 z (ck 1 ((1 : Nat) : Int) f23)) := (hzc.more fun b hb => .inl (.inl hb)).ext (Ext.refl w7).drew
 have HX7 := Lib.hid ((HX.out.ext he7).ext (Ext.refl w7).drew)
 have HE7 := Lib.hid ((HE.out.trans he7).trans (Ext.refl w7).drew)
 have hS7 : S23 g b6 z p w7.drew := ⟨hz.ext hkd.lt (Ext.refl w7).drew, (HP0.out.ext he7).ext (Ext.refl w7).drew⟩
 clear hr hdg hkd hz hzc he7 hgs CC HX HE HP0 x0 x1 x2 x3
 go_upto_region 3 with (fail)
 refine wp_region_u (S23 g b6 z p) 29 (by kernel_rfl) hS7 (fun hHeld => ?_)
 clear hS7
 generalize w7.drew = wd at *
 (refine tkB [0, 1, 2, 3, 4, 5, 6] ?_; (iterate 7 (refine tk1 (oi := ?_) (v := ?_) (by kernel_rfl) (by first | exact hSn | exact hHeld) ?_ ?_ ?_ ?_ ?_; rotate_left 2; (simp only [xgA, xgB, xgC]; rfl); rfl; (intro wS hSw; obtain ⟨⟨S1, S2, S3, S4⟩, T1, T2, T3, T4⟩ := hSw; go_simp; try with_reducible rfl); (exact fun _ _ _ h => h); (try simp only [Act.put, xgD, xgE, xgF]))); refine tkE ?_)
 ((refine wpAnyU_one 7 (o := ?_) (by kernel_rfl) ?_ ?_; rotate_left 1; (simp only [xgA, xgB, xgC]; rfl); intro K hK); go_simp; (refine (rp_Var M0 2 _ (mb0 _)).mono ?_); rintro e_ v7 ⟨y, rfl, hy, e1⟩; go_wp2_with (fail); (try clear hSn); (have hSn := hHeld.ext e1); (refine hK.out _ _ (fun _ => hSn) ?_); clear hK K; (try simp only [Act.put, xgD, xgE, xgF]))
 ((refine wpAnyU_one 8 (o := ?_) (by kernel_rfl) ?_ ?_; rotate_left 1; (simp only [xgA, xgB, xgC]; rfl); intro K hK); go_simp; (refine (rp_Same M0 z y _ (varL 2) _ (mb0 _) (HZ.out.ext e1).pi hy.pi).mono ?_); rintro e_ v8 ⟨b8, rfl, hb8, e2⟩; go_wp2_with (fail); (try clear hSn); (have hSn := hHeld.ext (e1.trans e2)); (refine hK.out _ _ (fun _ => hSn) ?_); clear hK K; (try simp only [Act.put, xgD, xgE, xgF]))
 obtain rfl : b8 = true := hb8.2 f23_ck
 clear hb8 hy
 (refine tkB [9, 10, 11] ?_; (iterate 3 (refine tk1 (oi := ?_) (v := ?_) (by kernel_rfl) (by first | exact hSn | exact hHeld) ?_ ?_ ?_ ?_ ?_; rotate_left 2; (simp only [xgA, xgB, xgC]; rfl); rfl; (intro wS hSw; obtain ⟨⟨S1, S2, S3, S4⟩, T1, T2, T3, T4⟩ := hSw; go_simp; try with_reducible rfl); (exact fun _ _ _ h => h); (try simp only [Act.put, xgD, xgE, xgF]))); refine tkE ?_)
 ((refine wpAnyU_one 12 (o := ?_) (by kernel_rfl) ?_ ?_; rotate_left 1; (simp only [xgA, xgB, xgC]; rfl); intro K hK); go_simp; (refine (mv_Level M0 p f23 _ (mb0 _) (HX7.out.ext (e1.trans e2)).pi).mono ?_); rintro e_ v12 ⟨k, rfl, hk, e3⟩; go_wp2_with (fail); (try clear hSn); (have hSn := hHeld.ext ((e1.trans e2).trans e3)); (refine hK.out _ _ (fun _ => hSn) ?_); clear hK K; (try simp only [Act.put, xgD, xgE, xgF]))
 obtain rfl := f23_lv hk
 clear hk
 (refine tkB [13, 14, 15, 16] ?_; (iterate 4 (refine tk1 (oi := ?_) (v := ?_) (by kernel_rfl) (by first | exact hSn | exact hHeld) ?_ ?_ ?_ ?_ ?_; rotate_left 2; (simp only [xgA, xgB, xgC]; rfl); rfl; (intro wS hSw; obtain ⟨⟨S1, S2, S3, S4⟩, T1, T2, T3, T4⟩ := hSw; go_simp; try with_reducible rfl); (exact fun _ _ _ h => h); (try simp only [Act.put, xgD, xgE, xgF]))); refine tkE ?_)
 have EE := Lib.hid ((e1.trans e2).trans e3)
 clear e1 e2 e3
 (refine wpAnyU_one 17 (o := ?_) (by kernel_rfl) ?_ ?_; rotate_left 1; (simp only [xgA, xgB, xgC]; rfl); intro K hK)
 go_simp
 refine (mv_Degree M0 p f23 1 _ (mb0 _) (HX7.out.ext EE.out).pi).mono ?_
 rintro e_ v17 ⟨zz, rfl, hzz, e4⟩
 obtain rfl : zz = 1 := by
  rcases hzz with ⟨h1, _⟩ | ⟨_, h1, _⟩ | ⟨_, K, n, hK, _, _, h1, h2, _⟩
  ·exact absurd h1 f23_ne
  ·exact absurd ⟨by omega, by omega⟩ h1
  ·obtain rfl : K = 1 := by omega
   rw [h1, f23_dg h2]; rfl
 clear hzz
 go_wp2_with (fail)
 try clear hSn
 have hSn := hHeld.ext (EE.out.trans e4)
 refine hK.out _ _ (fun _ => hSn) ?_
 clear hK K
 (try simp only [Act.put, xgD, xgE, xgF])
 have EF := Lib.hid (EE.out.trans e4)
 clear e4 EE
 (refine tkB [18, 19, 20, 21, 22] ?_; (iterate 5 (refine tk1 (oi := ?_) (v := ?_) (by kernel_rfl) (by first | exact hSn | exact hHeld) ?_ ?_ ?_ ?_ ?_; rotate_left 2; (simp only [xgA, xgB, xgC]; rfl); rfl; (intro wS hSw; obtain ⟨⟨S1, S2, S3, S4⟩, T1, T2, T3, T4⟩ := hSw; go_simp; try with_reducible rfl); (exact fun _ _ _ h => h); (try simp only [Act.put, xgD, xgE, xgF]))); refine tkE ?_)
 (refine wpAnyU_one 23 (o := ?_) (by kernel_rfl) ?_ ?_; rotate_left 1; (simp only [xgA, xgB, xgC]; rfl); intro K hK)
 go_simp
 have hBk := Blk.of_arr v17 #[.int .i64 p.lv, .bool p.b, .slice p.a p.n p.p, .slice p.ka p.kn p.kp, .int .i64 p.lv, .bool p.b, .slice p.a p.n p.p, .slice p.ka p.kn p.kp] 33 8 rfl
 have hEb := (Ext.refl v17).alloc (.cells #[.int .i64 p.lv, .bool p.b, .slice p.a p.n p.p, .slice p.ka p.kn p.kp, .int .i64 p.lv, .bool p.b, .slice p.a p.n p.p, .slice p.ka p.kn p.kp] 33)
 generalize v17.alloc (.cells #[.int .i64 p.lv, .bool p.b, .slice p.a p.n p.p, .slice p.ka p.kn p.kp, .int .i64 p.lv, .bool p.b, .slice p.a p.n p.p, .slice p.ka p.kn p.kp] 33) = W8 at *
 have HX8 : CRx M0 W8 4 p f23 := HX7.out.ext (EF.out.trans hEb)
 have hKR : KRow M0 W8 4 (.slice (some ⟨v17.heap.size, 0, none⟩) 2 2) 2 (fun _ => f23) := KRow.of_kids ⟨_, hBk, fun i hi => by
  have h2 : i = 0 ∨ i = 1 := by omega
  rcases h2 with rfl | rfl
  ·exact HX8
  ·exact HX8⟩ (fun h => h) (by decide)
 have CF := Lib.hid (mv_Family (fun l => norm l = snorm f23) M0 _ 2 2 1 (fun _ => f23) W8 (mb0 _) hKR (fun _ _ => f23_deg) (by decide) (by decide) (fun _ _ => by decide) (fun _ _ => norm_snorm _) (fun n hn => sort_eq _ n hn))
 have EG := Lib.hid (EF.out.trans hEb)
 try clear hSn
 have hSn := hHeld.ext EG.out
 refine hK.out _ _ (fun _ => hSn) ?_
 clear hK K hBk hEb hKR HX8 EF
 (try simp only [Act.put, xgD, xgE, xgF])
 (refine wpAnyU_one 24 (o := ?_) (by kernel_rfl) ?_ ?_; rotate_left 1; (simp only [xgA, xgB, xgC]; rfl); intro K hK)
 go_simp
 refine CF.out.mono ?_
 rintro e_ v24 ⟨fa, c, fp, F, rfl, _, hfl, e5⟩
 obtain rfl := f23_fam hfl
 clear hfl CF
 go_wp2_with (fail)
 try clear hSn
 have hSn := hHeld.ext (EG.out.trans e5)
 refine hK.out _ _ (fun _ => hSn) ?_
 clear hK K
 (try simp only [Act.put, xgD, xgE, xgF])
 have HF := Lib.hid (HE7.out.trans (EG.out.trans e5))
 clear e5 EG
 (refine tkB [25, 26, 27, 28] ?_; (iterate 4 (refine tk1 (oi := ?_) (v := ?_) (by kernel_rfl) (by first | exact hSn | exact hHeld) ?_ ?_ ?_ ?_ ?_; rotate_left 2; (simp only [xgA, xgB, xgC]; rfl); rfl; (intro wS hSw; obtain ⟨⟨S1, S2, S3, S4⟩, T1, T2, T3, T4⟩ := hSw; go_simp; try with_reducible rfl); (exact fun _ _ _ h => h); (try simp only [Act.put, xgD, xgE, xgF]))); refine tkE ?_)
 refine wpAnyU_done (by kernel_rfl) ?_ _
 clear hHeld hSn HX7 HE7 HZ
 go_wp2
 go_ret
 exact ⟨rfl, HF.out⟩
end Go.Proofs.YtjcceddloogiiaaGreat
