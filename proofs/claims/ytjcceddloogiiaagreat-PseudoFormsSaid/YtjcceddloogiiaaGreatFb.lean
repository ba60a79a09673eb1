/- PseudoForms: plain facts. PseudoForms: the walk. -/
import Derived.Test.YtjcceddloogiiaaGreatFa
import Derived.Test.YtjcceddloogiiaaGreatEc
import Derived.Test.YtjcceddloogiiaaGreatBh
set_option linter.unusedVariables false
set_option linter.unusedSimpArgs false

namespace Go.Proofs.YtjcceddloogiiaaGreat
open Go.RowKit

theorem bt_deg {n c : Nat} {M : Nat → Prop} {w : World} {x : PE} {l : List Tm} (h : BT2 n M w x l) (hn : n ≤ c + 1) : Deg c l := (h.2.le hn).deg
theorem BT2.ext {n : Nat} {M : Nat → Prop} {w w' : World} {x : PE} {l : List Tm} (h : BT2 n M w x l) (he : Ext w w') : BT2 n M w' x l := ⟨h.1.ext he, h.2⟩
theorem pmul_sub (a b r : List Tm) (m : Mo) : coefAt (pmul (a ++ smul (-1) b) r) m = coefAt (pmul a r) m - coefAt (pmul b r) m := by
 rw [pmul_append_left, coefAt_append]
 have : ∀ C : List Tm, coefAt (pmul (smul (-1) C) r) m = - coefAt (pmul C r) m := by
  intro C
  induction C with
  | nil => rfl
  | cons s C ih =>
   show coefAt (pmul ((-1 * s.1, s.2) :: smul (-1) C) r) m = _
   rw [coefAt_pmul_cons, coefAt_pmul_cons, ih]
   simp only
   rw [Int.mul_assoc]
   omega
 rw [this]; omega
theorem pmul_cancel {a b r : List Tm} (ha : NN a) (hb : NN b) (hr : NN r) (hz : ¬ Sim r []) (h : Sim (pmul a r) (pmul b r)) : Sim a b := fun m => by
 refine Classical.byContradiction fun hc => ?_
 have hn : NN (a ++ smul (-1) b) := fun q hq => by rw [coefAt_append, coefAt_smul, ha q hq, hb q hq]; rfl
 refine pmul_ne hn hr (fun hs => hc ?_) hz fun q => ?_
 ·have := hs m
  rw [coefAt_append, coefAt_smul] at this
  have h0 : coefAt ([] : List Tm) m = 0 := rfl
  omega
 ·rw [pmul_sub, h q]
  show _ = (0 : Int)
  omega
def DvSm (W : World) (q r s t : PE) (er xr : Int) : Prop := er = xr ∧ ∃ ql rl, CRx M0 W 4 q ql ∧ CRx M0 W 4 r rl ∧ CRx M0 W 4 s ql ∧ CRx M0 W 4 t rl
theorem DvSm.ext {W W' : World} {q r s t : PE} {er xr : Int} (h : DvSm W q r s t er xr) (he : Ext W W') : DvSm W' q r s t er xr := by
 obtain ⟨h1, ql, rl, h2, h3, h4, h5⟩ := h
 exact ⟨h1, ql, rl, h2.ext he, h3.ext he, h4.ext he, h5.ext he⟩
theorem dvs_of {W W' : World} {f g : List Tm} {L : Int} {q r s t : PE} {er xr : Int} (hf : NN f) (hg : NN g) (h : DvO M0 W f g L q r er) (he : Ext W W') (k : DvO M0 W' f g L s t xr) : DvSm W' q r s t er xr := by
 have hz : CRx M0 W' 4 PE.z [] := CR.zero _ _ 4
 rcases h with ⟨h1, rfl, rfl, rfl⟩ | ⟨h1, h2, rfl, rfl, rfl⟩ | ⟨J, n, V, rfl, h1, h4, hgz, hd, hs, rfl, hq, hr⟩
 ·rcases k with ⟨_, rfl, rfl, rfl⟩ | ⟨k1, _⟩ | ⟨J, n, V, k0, k1, k4, _⟩
  ·exact ⟨rfl, [], [], hz, hz, hz, hz⟩
  ·exact absurd k1 h1
  ·exact absurd ⟨by omega, by omega⟩ h1
 ·rcases k with ⟨k1, _⟩ | ⟨_, _, rfl, rfl, rfl⟩ | ⟨J, n, V, _, _, _, k1, _⟩
  ·exact absurd h1 k1
  ·exact ⟨rfl, [], [], hz, hz, hz, hz⟩
  ·exact absurd h2 k1
 ·rcases k with ⟨k1, _⟩ | ⟨_, k1, _⟩ | ⟨J', n', V', k0, _, _, _, kd, ks, rfl, kq, kr⟩
  ·exact absurd ⟨by omega, by omega⟩ k1
  ·exact absurd k1 hgz
  ·obtain rfl : J = J' := by omega
   obtain rfl := dgr_uniq hg hgz hd kd
   obtain rfl := StR.uniq hf hs ks
   exact ⟨rfl, _, _, hq.ext he, hr.ext he, kq, kr⟩
def ExO2 (W : World) (l r : List Tm) (v : PE) (er : Int) : Prop := (er = 2 ∧ Sim r [] ∧ v = PE.z) ∨ (er = 0 ∧ ¬ Sim r [] ∧ ∃ q, CRx M0 W 4 v q ∧ Sim (pmul q r) l) ∨ (er = 3 ∧ v = PE.z ∧ ¬ Sim r [] ∧ ¬ Dv r l)
def ExS (W : World) (u v : PE) (er xr : Int) : Prop := er = xr ∧ ∃ ul vl, CRx M0 W 4 u ul ∧ CRx M0 W 4 v vl ∧ Sim ul vl
theorem ExS.ext {W W' : World} {u v : PE} {er xr : Int} (h : ExS W u v er xr) (he : Ext W W') : ExS W' u v er xr := by
 obtain ⟨h1, ul, vl, h2, h3, h4⟩ := h
 exact ⟨h1, ul, vl, h2.ext he, h3.ext he, h4⟩
theorem exs_of {W W' : World} {l r : List Tm} {u v : PE} {er xr : Int} (hr : NN r) (h : ExO2 W l r u er) (he : Ext W W') (k : ExO2 W' l r v xr) : ExS W' u v er xr := by
 have hz : CRx M0 W' 4 PE.z [] := CR.zero _ _ 4
 rcases h with ⟨rfl, h1, rfl⟩ | ⟨rfl, h1, q, h2, h3⟩ | ⟨rfl, rfl, h1, h2⟩
 ·rcases k with ⟨rfl, _, rfl⟩ | ⟨_, k1, _⟩ | ⟨_, _, k1, _⟩
  ·exact ⟨rfl, [], [], hz, hz, Sim.refl _⟩
  ·exact absurd h1 k1
  ·exact absurd h1 k1
 ·rcases k with ⟨_, k1, _⟩ | ⟨rfl, _, q', k2, k3⟩ | ⟨_, _, _, k2⟩
  ·exact absurd k1 h1
  ·exact ⟨rfl, q, q', h2.ext he, k2, pmul_cancel h2.nn k2.nn hr h1 (h3.trans k3.symm)⟩
  ·exact absurd ⟨q, h2.nn, h3⟩ k2
 ·rcases k with ⟨_, k1, _⟩ | ⟨_, _, q', k2, k3⟩ | ⟨rfl, rfl, _, _⟩
  ·exact absurd k1 h1
  ·exact absurd ⟨q', k2.nn, k3⟩ h2
  ·exact ⟨rfl, [], [], hz, hz, Sim.refl _⟩
theorem retD_eq {w W w1 W1 : World} {l r s : List Tm} {a b : Bool} (h : RetD w l r s (.returned (.bool a)) W) (k : RetD w1 l r s (.returned (.bool b)) W1) : a = b := by
 obtain ⟨a', ea, h1, h2, _⟩ := h
 obtain ⟨b', eb, k1, k2, _⟩ := k
 cases ea
 cases eb
 by_cases hz : Sim r []
 ·exact Bool.eq_iff_iff.2 ((h1 hz).trans (k1 hz).symm)
 ·exact Bool.eq_iff_iff.2 ((h2 hz).trans (k2 hz).symm)
theorem dvn_forms : DvN 11 7 1 1 := ⟨by decide, by decide, by decide⟩
theorem okb_forms : OkB 7 4 11 := by unfold OkB OkB OkB OkB OkB inB; decide
theorem qx_forms : 1 + qX 7 4 11 * (1 + 2) ≤ 549755813888 := by decide
theorem sn_bt {n : Nat} {w : World} {x : PE} {l : List Tm} (h : BT2 n M0 w x l) (M' : Nat → Prop) (W' : World) (h1 : Mb M' W') (h2 : ∀ g, M' g → M0 g ∨ w.heap.size ≤ g) (h3 : Ext w W') : Calls Tryz.prog 98 #[.agg (peA x)] W' (RetX M' W' 4 (snorm l)) := by
 have hd := h.1.nrm
 obtain ⟨t, hR, hS, rfl⟩ := h.1
 exact mv_snorm M' 7 t x W' h1 (RR.ext (RR.more h2 hR) h3) (hS.tb (Nat.le_refl _)) (by omega)
theorem sn_cr {w : World} {x : PE} {l : List Tm} (hx : CRx M0 w 4 x l) (hB : Deg 11 l) (hL : dlen (nrm l) ≤ 1) (M' : Nat → Prop) (W' : World) (h1 : Mb M' W') (h2 : ∀ g, M' g → M0 g ∨ w.heap.size ≤ g) (h3 : Ext w W') : Calls Tryz.prog 98 #[.agg (peA x)] W' (RetX M' W' 4 (snorm l)) := by
 obtain ⟨t, hR, hT, hS, hN⟩ := hx.tbN (B := 11) (Nat.le_refl _) (by omega) hB (by decide)
 rw [← hS.snorm]
 refine mv_snorm M' (4 + 1) t x W' h1 (RR.ext (RR.more h2 hR) h3) hT ?_
 have h5 := dlen_mono hN
 omega
theorem snorm_deg2 {l : List Tm} {B : Nat} (hl : NN l) (h : Deg B l) : Deg B (snorm l) := fun m hm k => by
 refine h m (fun h0 => ?_) k
 have h1 : coefAt (norm l) m = 0 := by rw [nn_norm_sim hl m]; exact h0
 rw [← smul_snorm l, coefAt_smul] at h1
 rcases Int.mul_eq_zero.1 h1 with h2 | h2
 ·have hz : Sim l [] := (nn_norm_sim hl).symm.trans fun m => by
   rw [← smul_snorm l, coefAt_smul, h2, Int.zero_mul]; rfl
  have hn : norm l = [] := hz.norm
  have h3 : snorm l = [] := by unfold snorm; rw [hn]; rfl
  rw [h3] at hm; exact hm rfl
 ·exact hm h2
end Go.Proofs.YtjcceddloogiiaaGreat

namespace Go.Proofs.YtjcceddloogiiaaGreat
open Go.RowKit

def PfCut (f g : List Tm) (wd : World) (s9 s10 : Value) (wx : World) : Prop := ∃ (a b : Nat) (xa xb : PE), s9 = .pointer (some ⟨a, 0, none⟩) ∧ s10 = .pointer (some ⟨b, 0, none⟩) ∧ Put2 wd wx a b xa xb f g
def SG5 (a b c d e : Nat) (x y q r v : PE) (w : World) : Prop := P4 w a x ∧ P4 w b y ∧ P4 w c q ∧ P4 w d r ∧ P4 w e v
theorem SG5.ext {a b c d e : Nat} {x y q r v : PE} {w w' : World} (h : SG5 a b c d e x y q r v w) (he : Ext w w') : SG5 a b c d e x y q r v w' := ⟨h.1.ext he, h.2.1.ext he, h.2.2.1.ext he, h.2.2.2.1.ext he, h.2.2.2.2.ext he⟩
def SG4 (a b c d : Nat) (x y q r : PE) (w : World) : Prop := P4 w a x ∧ P4 w b y ∧ P4 w c q ∧ P4 w d r
theorem SG4.ext {a b c d : Nat} {x y q r : PE} {w w' : World} (h : SG4 a b c d x y q r w) (he : Ext w w') : SG4 a b c d x y q r w' := ⟨h.1.ext he, h.2.1.ext he, h.2.2.1.ext he, h.2.2.2.ext he⟩
def SF10 (b1 b2 b3 b4 b5 b6 b7 b8 b9 b10 : Nat) (x1 x2 x3 x4 x5 x6 x7 x8 x9 x10 : PE) (w : World) : Prop := SG5 b1 b2 b3 b4 b5 x1 x2 x3 x4 x5 w ∧ SG5 b6 b7 b8 b9 b10 x6 x7 x8 x9 x10 w
theorem SF10.ext {b1 b2 b3 b4 b5 b6 b7 b8 b9 b10 : Nat} {x1 x2 x3 x4 x5 x6 x7 x8 x9 x10 : PE} {w w' : World} (h : SF10 b1 b2 b3 b4 b5 b6 b7 b8 b9 b10 x1 x2 x3 x4 x5 x6 x7 x8 x9 x10 w) (he : Ext w w') : SF10 b1 b2 b3 b4 b5 b6 b7 b8 b9 b10 x1 x2 x3 x4 x5 x6 x7 x8 x9 x10 w' := ⟨h.1.ext he, h.2.ext he⟩
set_option maxRecDepth 100000 in
set_option maxHeartbeats 16000000 in
theorem law_forms (a1 a2 : Option Addr) (n1 p1 n2 p2 : Nat) (L : Int) (w : World) (h1 : n1 ≤ 24 → ∃ L C K, NodesR M0 w (.slice a1 n1 p1) n1 L C K) (h2 : n2 ≤ 24 → ∃ L C K, NodesR M0 w (.slice a2 n2 p2) n2 L C K) :
  Calls Tryz.prog 5 #[.slice a1 n1 p1, .slice a2 n2 p2, .int .i64 L] w fun e w' => e = .returned (.bool true) ∧ Ext w w' := by
 have HR1 := Lib.hid h1
 have HR2 := Lib.hid h2
 clear h1 h2
 go_enter Tryz.func5, Tryz.ntmps5
 go_wp2_with (fail)
 refine (law_fit24 _).mono ?_
 rintro e w1 ⟨rfl, he1⟩
 have HE1 := Lib.hid he1
 clear he1
 by_cases hg1 : 12 < n1
 ·have hg1I : (12 : Int) < (n1 : Int) := by omega
  clear hg1 HR1 HR2
  go_wp2
  go_ret
  exact ⟨rfl, HE1.out⟩
 by_cases hg2 : 8 < n2
 ·have hg1I : ¬ (12 : Int) < (n1 : Int) := by omega
  have hg2I : (8 : Int) < (n2 : Int) := by omega
  clear hg1 hg2 HR1 HR2
  go_wp2
  go_ret
  exact ⟨rfl, HE1.out⟩
 have hg1I : ¬ (12 : Int) < (n1 : Int) := by omega
 have hg2I : ¬ (8 : Int) < (n2 : Int) := by omega
 obtain ⟨L1, C1, K1, hn1⟩ := HR1.out (by omega)
 obtain ⟨L2, C2, K2, hn2⟩ := HR2.out (by omega)
 have HN12 : Hid (n1 ≤ 12 ∧ n2 ≤ 8) := ⟨by omega, by omega⟩
 have CB1 := Lib.hid (fun W (he : Ext w W) => rf_build2 M0 _ n1 _ _ _ W (mb0 _) (hn1.ext he))
 have CB2 := Lib.hid (fun W (he : Ext w W) => rf_build2 M0 _ n2 _ _ _ W (mb0 _) (hn2.ext he))
 clear hg1 hg2 hn1 hn2 HR1 HR2
 go_wp2_with (fail)
 refine (CB1.out _ HE1.out).mono ?_
 rintro e w2 ⟨x, f, rfl, hx, he2⟩
 have HE2 := Lib.hid (HE1.out.trans he2)
 go_wp2_with (fail)
 refine (CB2.out _ HE2.out).mono ?_
 rintro e w3 ⟨y, g, rfl, hy, he3⟩
 have hb1 := Blk.of_arr w3 (peA x) 33 4 rfl
 have hb2 := Blk.of_arr (w3.alloc (.cells (peA x) 33)) (peA y) 33 4 rfl
 simp only [World.size_alloc] at hb2
 have hEa : Ext w3 ((w3.alloc (.cells (peA x) 33)).alloc (.cells (peA y) 33)) := ((Ext.refl w3).alloc _).alloc _
 have HP0 : Hid (SP2 w3.heap.size x y ((w3.alloc (.cells (peA x) 33)).alloc (.cells (peA y) 33)).drew) := SP2.ext ⟨(hb1.alloc _).p4, hb2.p4⟩ (Ext.refl _).drew
 have HX : Hid (BT2 n1 M0 _ x f) := ((hx.ext he3).ext hEa).ext (Ext.refl _).drew
 have HY : Hid (BT2 n2 M0 _ y g) := (hy.ext hEa).ext (Ext.refl _).drew
 have HE := Lib.hid (((HE2.out.trans he3).trans hEa).trans (Ext.refl _).drew)
 clear hb1 hb2 hEa hx hy he2 he3 CB1 CB2 HE1 HE2 hg1I hg2I
 go_upto_region 6 with (fail)
 generalize (w3.alloc (.cells (peA x) 33)).alloc (.cells (peA y) 33) = W at *
 go_cut [9, 10] (PfCut f g W.drew)
 case first =>
  have C1 : Hid (∀ A B W', S7 W.drew W' A B → Calls Tryz.prog 36 #[.agg (peA x)] W' (RetX (M7 A B) W' 4 f)) := fun A B W' h => rp_Normal _ x f W' h.mb ((HX.out.1.pi.more (M' := M7 A B) (fun q hq => .inr (h.lt q hq).1)).ext h.e)
  have C3 : Hid (∀ A B W', S7 W.drew W' A B → Calls Tryz.prog 36 #[.agg (peA y)] W' (RetX (M7 A B) W' 4 g)) := fun A B W' h => rp_Normal _ y g W' h.mb ((HY.out.1.pi.more (M' := M7 A B) (fun q hq => .inr (h.lt q hq).1)).ext h.e)
  have S0 := S7.start W.drew
  refine wp_region_u (SP2 w3.heap.size x y) 8 (by kernel_rfl) HP0.out (fun hHeld => ?_)
  clear HP0 HX HY HE HN12
  generalize W.drew = wd at *
  (refine tkB [0, 2] ?_; (iterate 2 (refine tk1 (oi := ?_) (v := ?_) (by kernel_rfl) (by first | exact hSn | exact hHeld) ?_ ?_ ?_ ?_ ?_; rotate_left 2; (simp only [xgA, xgB, xgC]; rfl); rfl; (intro wS hSw; obtain ⟨⟨S1, S2, S3, S4⟩, S5, S6, S7, S8⟩ := hSw; go_simp; try with_reducible rfl); (exact fun _ _ _ h => h); (try simp only [Act.put, xgD, xgE, xgF]))); refine tkE ?_)
  (refine wpAnyU_thr 1 4 5 (oi := ?_) (oj := ?_) (ok := ?_) (by kernel_rfl) ?_ ?_ ?_ ?_ ?_ ?_; rotate_left 3; (simp only [xgA, xgB, xgC]; rfl); (simp only [xgA, xgB, xgC]; rfl); (simp only [xgA, xgB, xgC]; rfl); all_goals intro K hK)
  ·go_simp
   refine (C1.out _ _ wd S0).mono ?_
   rintro e v1 ⟨xa, rfl, ha, D⟩
   go_wp2_with (fail)
   have S1 := S0.call D
   clear D
   try clear hSn
   have hSn := hHeld.ext S1.e
   refine hK.out _ _ (fun _ => hSn) ?_
   clear hK K
   (try simp only [Act.put, xgD, xgE, xgF])
   (refine wpAnyU_thr 3 4 5 (oi := ?_) (oj := ?_) (ok := ?_) (by kernel_rfl) ?_ ?_ ?_ ?_ ?_ ?_; rotate_left 3; (simp only [xgA, xgB, xgC]; rfl); (simp only [xgA, xgB, xgC]; rfl); (simp only [xgA, xgB, xgC]; rfl); all_goals intro K hK)
   ·go_simp
    refine (C3.out _ _ v1 S1).mono ?_
    rintro e v2 ⟨xb, rfl, hb, D⟩
    go_wp2_with (fail)
    have S2 := S1.call D
    replace ha := ha.ext D
    clear D
    try clear hSn
    have hSn := hHeld.ext S2.e
    refine hK.out _ _ (fun _ => hSn) ?_
    clear hK K
    (try simp only [Act.put, xgD, xgE, xgF])
    (refine wpAnyU_two 4 5 (oi := ?_) (oj := ?_) (by kernel_rfl) ?_ ?_ ?_ ?_; rotate_left 2; (simp only [xgA, xgB, xgC]; rfl); (simp only [xgA, xgB, xgC]; rfl); all_goals intro K hK)
    ·go_simp
     have S3 := S2.allA
     replace ha := S2.keepA ha
     replace hb := S2.keepA hb
     try clear hSn
     have hSn := hHeld.ext S3.e
     refine hK.out _ _ (fun _ => hSn) ?_
     clear hK K
     (try simp only [Act.put, xgD, xgE, xgF])
     generalize v2.alloc (.cells zA 33) = v3 at *
     generalize v2.heap.size = g3 at *
     (refine wpAnyU_one 5 (o := ?_) (by kernel_rfl) ?_ ?_; rotate_left 1; (simp only [xgA, xgB, xgC]; rfl); intro K hK)
     go_simp
     have S4 := S3.allB
     replace ha := S3.keepB ha
     replace hb := S3.keepB hb
     try clear hSn
     have hSn := hHeld.ext S4.e
     refine hK.out _ _ (fun _ => hSn) ?_
     clear hK K
     (try simp only [Act.put, xgD, xgE, xgF])
     generalize v3.alloc (.cells zA 33) = v4 at *
     generalize v3.heap.size = g4 at *
     obtain ⟨W1, hW1, ⟨q0, q1, q2, q3⟩, ⟨f0, f1, f2, f3⟩, E1, ⟨r0, r1, r2, r3⟩, ⟨k0, k1, k2, k3⟩, W2, hW2, HP2⟩ := S4.put2 ha hb
     unfold set4 at hW1 hW2
     have hSn1 := hHeld.ext E1
     have hSn2 := hHeld.ext HP2.e
     clear hSn
     (refine wpAnyU_one 6 (o := ?_) (by kernel_rfl) ?_ ?_; rotate_left 1; (simp only [xgA, xgB, xgC]; rfl); intro K hK)
     go_simp
     rw [← hW1]
     clear hW1
     refine hK.out _ _ (fun _ => hSn1) ?_
     clear hK K q0 q1 q2 q3 f0 f1 f2 f3
     (try simp only [Act.put, xgD, xgE, xgF])
     (refine wpAnyU_one 7 (o := ?_) (by kernel_rfl) ?_ ?_; rotate_left 1; (simp only [xgA, xgB, xgC]; rfl); intro K hK)
     go_simp
     rw [← hW2]
     clear hW2
     refine hK.out _ _ (fun _ => hSn2) ?_
     clear hK K r0 r1 r2 r3 k0 k1 k2 k3
     (try simp only [Act.put, xgD, xgE, xgF])
     refine wpAnyU_done (by kernel_rfl) ?_ _
     go_wp2_with (fail)
     go_meet
     exact ⟨_, _, xa, xb, rfl, rfl, HP2⟩
    ·go_simp
     have S5 := S2.allB
     replace ha := S2.keepB ha
     replace hb := S2.keepB hb
     try clear hSn
     have hSn := hHeld.ext S5.e
     refine hK.out _ _ (fun _ => hSn) ?_
     clear hK K
     (try simp only [Act.put, xgD, xgE, xgF])
     generalize v2.alloc (.cells zA 33) = v5 at *
     generalize v2.heap.size = g5 at *
     (refine wpAnyU_one 4 (o := ?_) (by kernel_rfl) ?_ ?_; rotate_left 1; (simp only [xgA, xgB, xgC]; rfl); intro K hK)
     go_simp
     have S6 := S5.allA
     replace ha := S5.keepA ha
     replace hb := S5.keepA hb
     try clear hSn
     have hSn := hHeld.ext S6.e
     refine hK.out _ _ (fun _ => hSn) ?_
     clear hK K
     (try simp only [Act.put, xgD, xgE, xgF])
     generalize v5.alloc (.cells zA 33) = v6 at *
     generalize v5.heap.size = g6 at *
     obtain ⟨W1, hW1, ⟨q0, q1, q2, q3⟩, ⟨f0, f1, f2, f3⟩, E1, ⟨r0, r1, r2, r3⟩, ⟨k0, k1, k2, k3⟩, W2, hW2, HP2⟩ := S6.put2 ha hb
     unfold set4 at hW1 hW2
     have hSn1 := hHeld.ext E1
     have hSn2 := hHeld.ext HP2.e
     clear hSn
     (refine wpAnyU_one 6 (o := ?_) (by kernel_rfl) ?_ ?_; rotate_left 1; (simp only [xgA, xgB, xgC]; rfl); intro K hK)
     go_simp
     rw [← hW1]
     clear hW1
     refine hK.out _ _ (fun _ => hSn1) ?_
     clear hK K q0 q1 q2 q3 f0 f1 f2 f3
     (try simp only [Act.put, xgD, xgE, xgF])
     (refine wpAnyU_one 7 (o := ?_) (by kernel_rfl) ?_ ?_; rotate_left 1; (simp only [xgA, xgB, xgC]; rfl); intro K hK)
     go_simp
     rw [← hW2]
     clear hW2
     refine hK.out _ _ (fun _ => hSn2) ?_
     clear hK K r0 r1 r2 r3 k0 k1 k2 k3
     (try simp only [Act.put, xgD, xgE, xgF])
     refine wpAnyU_done (by kernel_rfl) ?_ _
     go_wp2_with (fail)
     go_meet
     exact ⟨_, _, xa, xb, rfl, rfl, HP2⟩
   ·go_simp
    have S7 := S1.allA
    replace ha := S1.keepA ha
    try clear hSn
    have hSn := hHeld.ext S7.e
    refine hK.out _ _ (fun _ => hSn) ?_
    clear hK K
    (try simp only [Act.put, xgD, xgE, xgF])
    generalize v1.alloc (.cells zA 33) = v7 at *
    generalize v1.heap.size = g7 at *
    (refine wpAnyU_two 3 5 (oi := ?_) (oj := ?_) (by kernel_rfl) ?_ ?_ ?_ ?_; rotate_left 2; (simp only [xgA, xgB, xgC]; rfl); (simp only [xgA, xgB, xgC]; rfl); all_goals intro K hK)
    ·go_simp
     refine (C3.out _ _ v7 S7).mono ?_
     rintro e v8 ⟨xb, rfl, hb, D⟩
     go_wp2_with (fail)
     have S8 := S7.call D
     replace ha := ha.ext D
     clear D
     try clear hSn
     have hSn := hHeld.ext S8.e
     refine hK.out _ _ (fun _ => hSn) ?_
     clear hK K
     (try simp only [Act.put, xgD, xgE, xgF])
     (refine wpAnyU_one 5 (o := ?_) (by kernel_rfl) ?_ ?_; rotate_left 1; (simp only [xgA, xgB, xgC]; rfl); intro K hK)
     go_simp
     have S9 := S8.allB
     replace ha := S8.keepB ha
     replace hb := S8.keepB hb
     try clear hSn
     have hSn := hHeld.ext S9.e
     refine hK.out _ _ (fun _ => hSn) ?_
     clear hK K
     (try simp only [Act.put, xgD, xgE, xgF])
     generalize v8.alloc (.cells zA 33) = v9 at *
     generalize v8.heap.size = g9 at *
     obtain ⟨W1, hW1, ⟨q0, q1, q2, q3⟩, ⟨f0, f1, f2, f3⟩, E1, ⟨r0, r1, r2, r3⟩, ⟨k0, k1, k2, k3⟩, W2, hW2, HP2⟩ := S9.put2 ha hb
     unfold set4 at hW1 hW2
     have hSn1 := hHeld.ext E1
     have hSn2 := hHeld.ext HP2.e
     clear hSn
     (refine wpAnyU_one 6 (o := ?_) (by kernel_rfl) ?_ ?_; rotate_left 1; (simp only [xgA, xgB, xgC]; rfl); intro K hK)
     go_simp
     rw [← hW1]
     clear hW1
     refine hK.out _ _ (fun _ => hSn1) ?_
     clear hK K q0 q1 q2 q3 f0 f1 f2 f3
     (try simp only [Act.put, xgD, xgE, xgF])
     (refine wpAnyU_one 7 (o := ?_) (by kernel_rfl) ?_ ?_; rotate_left 1; (simp only [xgA, xgB, xgC]; rfl); intro K hK)
     go_simp
     rw [← hW2]
     clear hW2
     refine hK.out _ _ (fun _ => hSn2) ?_
     clear hK K r0 r1 r2 r3 k0 k1 k2 k3
     (try simp only [Act.put, xgD, xgE, xgF])
     refine wpAnyU_done (by kernel_rfl) ?_ _
     go_wp2_with (fail)
     go_meet
     exact ⟨_, _, xa, xb, rfl, rfl, HP2⟩
    ·go_simp
     have S10 := S7.allB
     replace ha := S7.keepB ha
     try clear hSn
     have hSn := hHeld.ext S10.e
     refine hK.out _ _ (fun _ => hSn) ?_
     clear hK K
     (try simp only [Act.put, xgD, xgE, xgF])
     generalize v7.alloc (.cells zA 33) = v10 at *
     generalize v7.heap.size = g10 at *
     (refine wpAnyU_one 3 (o := ?_) (by kernel_rfl) ?_ ?_; rotate_left 1; (simp only [xgA, xgB, xgC]; rfl); intro K hK)
     go_simp
     refine (C3.out _ _ v10 S10).mono ?_
     rintro e v11 ⟨xb, rfl, hb, D⟩
     go_wp2_with (fail)
     have S11 := S10.call D
     replace ha := ha.ext D
     clear D
     try clear hSn
     have hSn := hHeld.ext S11.e
     refine hK.out _ _ (fun _ => hSn) ?_
     clear hK K
     (try simp only [Act.put, xgD, xgE, xgF])
     obtain ⟨W1, hW1, ⟨q0, q1, q2, q3⟩, ⟨f0, f1, f2, f3⟩, E1, ⟨r0, r1, r2, r3⟩, ⟨k0, k1, k2, k3⟩, W2, hW2, HP2⟩ := S11.put2 ha hb
     unfold set4 at hW1 hW2
     have hSn1 := hHeld.ext E1
     have hSn2 := hHeld.ext HP2.e
     clear hSn
     (refine wpAnyU_one 6 (o := ?_) (by kernel_rfl) ?_ ?_; rotate_left 1; (simp only [xgA, xgB, xgC]; rfl); intro K hK)
     go_simp
     rw [← hW1]
     clear hW1
     refine hK.out _ _ (fun _ => hSn1) ?_
     clear hK K q0 q1 q2 q3 f0 f1 f2 f3
     (try simp only [Act.put, xgD, xgE, xgF])
     (refine wpAnyU_one 7 (o := ?_) (by kernel_rfl) ?_ ?_; rotate_left 1; (simp only [xgA, xgB, xgC]; rfl); intro K hK)
     go_simp
     rw [← hW2]
     clear hW2
     refine hK.out _ _ (fun _ => hSn2) ?_
     clear hK K r0 r1 r2 r3 k0 k1 k2 k3
     (try simp only [Act.put, xgD, xgE, xgF])
     refine wpAnyU_done (by kernel_rfl) ?_ _
     go_wp2_with (fail)
     go_meet
     exact ⟨_, _, xa, xb, rfl, rfl, HP2⟩
   ·go_simp
    have S12 := S1.allB
    replace ha := S1.keepB ha
    try clear hSn
    have hSn := hHeld.ext S12.e
    refine hK.out _ _ (fun _ => hSn) ?_
    clear hK K
    (try simp only [Act.put, xgD, xgE, xgF])
    generalize v1.alloc (.cells zA 33) = v12 at *
    generalize v1.heap.size = g12 at *
    (refine wpAnyU_two 3 4 (oi := ?_) (oj := ?_) (by kernel_rfl) ?_ ?_ ?_ ?_; rotate_left 2; (simp only [xgA, xgB, xgC]; rfl); (simp only [xgA, xgB, xgC]; rfl); all_goals intro K hK)
    ·go_simp
     refine (C3.out _ _ v12 S12).mono ?_
     rintro e v13 ⟨xb, rfl, hb, D⟩
     go_wp2_with (fail)
     have S13 := S12.call D
     replace ha := ha.ext D
     clear D
     try clear hSn
     have hSn := hHeld.ext S13.e
     refine hK.out _ _ (fun _ => hSn) ?_
     clear hK K
     (try simp only [Act.put, xgD, xgE, xgF])
     (refine wpAnyU_one 4 (o := ?_) (by kernel_rfl) ?_ ?_; rotate_left 1; (simp only [xgA, xgB, xgC]; rfl); intro K hK)
     go_simp
     have S14 := S13.allA
     replace ha := S13.keepA ha
     replace hb := S13.keepA hb
     try clear hSn
     have hSn := hHeld.ext S14.e
     refine hK.out _ _ (fun _ => hSn) ?_
     clear hK K
     (try simp only [Act.put, xgD, xgE, xgF])
     generalize v13.alloc (.cells zA 33) = v14 at *
     generalize v13.heap.size = g14 at *
     obtain ⟨W1, hW1, ⟨q0, q1, q2, q3⟩, ⟨f0, f1, f2, f3⟩, E1, ⟨r0, r1, r2, r3⟩, ⟨k0, k1, k2, k3⟩, W2, hW2, HP2⟩ := S14.put2 ha hb
     unfold set4 at hW1 hW2
     have hSn1 := hHeld.ext E1
     have hSn2 := hHeld.ext HP2.e
     clear hSn
     (refine wpAnyU_one 6 (o := ?_) (by kernel_rfl) ?_ ?_; rotate_left 1; (simp only [xgA, xgB, xgC]; rfl); intro K hK)
     go_simp
     rw [← hW1]
     clear hW1
     refine hK.out _ _ (fun _ => hSn1) ?_
     clear hK K q0 q1 q2 q3 f0 f1 f2 f3
     (try simp only [Act.put, xgD, xgE, xgF])
     (refine wpAnyU_one 7 (o := ?_) (by kernel_rfl) ?_ ?_; rotate_left 1; (simp only [xgA, xgB, xgC]; rfl); intro K hK)
     go_simp
     rw [← hW2]
     clear hW2
     refine hK.out _ _ (fun _ => hSn2) ?_
     clear hK K r0 r1 r2 r3 k0 k1 k2 k3
     (try simp only [Act.put, xgD, xgE, xgF])
     refine wpAnyU_done (by kernel_rfl) ?_ _
     go_wp2_with (fail)
     go_meet
     exact ⟨_, _, xa, xb, rfl, rfl, HP2⟩
    ·go_simp
     have S15 := S12.allA
     replace ha := S12.keepA ha
     try clear hSn
     have hSn := hHeld.ext S15.e
     refine hK.out _ _ (fun _ => hSn) ?_
     clear hK K
     (try simp only [Act.put, xgD, xgE, xgF])
     generalize v12.alloc (.cells zA 33) = v15 at *
     generalize v12.heap.size = g15 at *
     (refine wpAnyU_one 3 (o := ?_) (by kernel_rfl) ?_ ?_; rotate_left 1; (simp only [xgA, xgB, xgC]; rfl); intro K hK)
     go_simp
     refine (C3.out _ _ v15 S15).mono ?_
     rintro e v16 ⟨xb, rfl, hb, D⟩
     go_wp2_with (fail)
     have S16 := S15.call D
     replace ha := ha.ext D
     clear D
     try clear hSn
     have hSn := hHeld.ext S16.e
     refine hK.out _ _ (fun _ => hSn) ?_
     clear hK K
     (try simp only [Act.put, xgD, xgE, xgF])
     obtain ⟨W1, hW1, ⟨q0, q1, q2, q3⟩, ⟨f0, f1, f2, f3⟩, E1, ⟨r0, r1, r2, r3⟩, ⟨k0, k1, k2, k3⟩, W2, hW2, HP2⟩ := S16.put2 ha hb
     unfold set4 at hW1 hW2
     have hSn1 := hHeld.ext E1
     have hSn2 := hHeld.ext HP2.e
     clear hSn
     (refine wpAnyU_one 6 (o := ?_) (by kernel_rfl) ?_ ?_; rotate_left 1; (simp only [xgA, xgB, xgC]; rfl); intro K hK)
     go_simp
     rw [← hW1]
     clear hW1
     refine hK.out _ _ (fun _ => hSn1) ?_
     clear hK K q0 q1 q2 q3 f0 f1 f2 f3
     (try simp only [Act.put, xgD, xgE, xgF])
     (refine wpAnyU_one 7 (o := ?_) (by kernel_rfl) ?_ ?_; rotate_left 1; (simp only [xgA, xgB, xgC]; rfl); intro K hK)
     go_simp
     rw [← hW2]
     clear hW2
     refine hK.out _ _ (fun _ => hSn2) ?_
     clear hK K r0 r1 r2 r3 k0 k1 k2 k3
     (try simp only [Act.put, xgD, xgE, xgF])
     refine wpAnyU_done (by kernel_rfl) ?_ _
     go_wp2_with (fail)
     go_meet
     exact ⟨_, _, xa, xb, rfl, rfl, HP2⟩
  ·go_simp
   have S17 := S0.allA
   try clear hSn
   have hSn := hHeld.ext S17.e
   refine hK.out _ _ (fun _ => hSn) ?_
   clear hK K
   (try simp only [Act.put, xgD, xgE, xgF])
   generalize wd.alloc (.cells zA 33) = v17 at *
   generalize wd.heap.size = g17 at *
   (refine wpAnyU_two 1 5 (oi := ?_) (oj := ?_) (by kernel_rfl) ?_ ?_ ?_ ?_; rotate_left 2; (simp only [xgA, xgB, xgC]; rfl); (simp only [xgA, xgB, xgC]; rfl); all_goals intro K hK)
   ·go_simp
    refine (C1.out _ _ v17 S17).mono ?_
    rintro e v18 ⟨xa, rfl, ha, D⟩
    go_wp2_with (fail)
    have S18 := S17.call D
    clear D
    try clear hSn
    have hSn := hHeld.ext S18.e
    refine hK.out _ _ (fun _ => hSn) ?_
    clear hK K
    (try simp only [Act.put, xgD, xgE, xgF])
    (refine wpAnyU_two 3 5 (oi := ?_) (oj := ?_) (by kernel_rfl) ?_ ?_ ?_ ?_; rotate_left 2; (simp only [xgA, xgB, xgC]; rfl); (simp only [xgA, xgB, xgC]; rfl); all_goals intro K hK)
    ·go_simp
     refine (C3.out _ _ v18 S18).mono ?_
     rintro e v19 ⟨xb, rfl, hb, D⟩
     go_wp2_with (fail)
     have S19 := S18.call D
     replace ha := ha.ext D
     clear D
     try clear hSn
     have hSn := hHeld.ext S19.e
     refine hK.out _ _ (fun _ => hSn) ?_
     clear hK K
     (try simp only [Act.put, xgD, xgE, xgF])
     (refine wpAnyU_one 5 (o := ?_) (by kernel_rfl) ?_ ?_; rotate_left 1; (simp only [xgA, xgB, xgC]; rfl); intro K hK)
     go_simp
     have S20 := S19.allB
     replace ha := S19.keepB ha
     replace hb := S19.keepB hb
     try clear hSn
     have hSn := hHeld.ext S20.e
     refine hK.out _ _ (fun _ => hSn) ?_
     clear hK K
     (try simp only [Act.put, xgD, xgE, xgF])
     generalize v19.alloc (.cells zA 33) = v20 at *
     generalize v19.heap.size = g20 at *
     obtain ⟨W1, hW1, ⟨q0, q1, q2, q3⟩, ⟨f0, f1, f2, f3⟩, E1, ⟨r0, r1, r2, r3⟩, ⟨k0, k1, k2, k3⟩, W2, hW2, HP2⟩ := S20.put2 ha hb
     unfold set4 at hW1 hW2
     have hSn1 := hHeld.ext E1
     have hSn2 := hHeld.ext HP2.e
     clear hSn
     (refine wpAnyU_one 6 (o := ?_) (by kernel_rfl) ?_ ?_; rotate_left 1; (simp only [xgA, xgB, xgC]; rfl); intro K hK)
     go_simp
     rw [← hW1]
     clear hW1
     refine hK.out _ _ (fun _ => hSn1) ?_
     clear hK K q0 q1 q2 q3 f0 f1 f2 f3
     (try simp only [Act.put, xgD, xgE, xgF])
     (refine wpAnyU_one 7 (o := ?_) (by kernel_rfl) ?_ ?_; rotate_left 1; (simp only [xgA, xgB, xgC]; rfl); intro K hK)
     go_simp
     rw [← hW2]
     clear hW2
     refine hK.out _ _ (fun _ => hSn2) ?_
     clear hK K r0 r1 r2 r3 k0 k1 k2 k3
     (try simp only [Act.put, xgD, xgE, xgF])
     refine wpAnyU_done (by kernel_rfl) ?_ _
     go_wp2_with (fail)
     go_meet
     exact ⟨_, _, xa, xb, rfl, rfl, HP2⟩
    ·go_simp
     have S21 := S18.allB
     replace ha := S18.keepB ha
     try clear hSn
     have hSn := hHeld.ext S21.e
     refine hK.out _ _ (fun _ => hSn) ?_
     clear hK K
     (try simp only [Act.put, xgD, xgE, xgF])
     generalize v18.alloc (.cells zA 33) = v21 at *
     generalize v18.heap.size = g21 at *
     (refine wpAnyU_one 3 (o := ?_) (by kernel_rfl) ?_ ?_; rotate_left 1; (simp only [xgA, xgB, xgC]; rfl); intro K hK)
     go_simp
     refine (C3.out _ _ v21 S21).mono ?_
     rintro e v22 ⟨xb, rfl, hb, D⟩
     go_wp2_with (fail)
     have S22 := S21.call D
     replace ha := ha.ext D
     clear D
     try clear hSn
     have hSn := hHeld.ext S22.e
     refine hK.out _ _ (fun _ => hSn) ?_
     clear hK K
     (try simp only [Act.put, xgD, xgE, xgF])
     obtain ⟨W1, hW1, ⟨q0, q1, q2, q3⟩, ⟨f0, f1, f2, f3⟩, E1, ⟨r0, r1, r2, r3⟩, ⟨k0, k1, k2, k3⟩, W2, hW2, HP2⟩ := S22.put2 ha hb
     unfold set4 at hW1 hW2
     have hSn1 := hHeld.ext E1
     have hSn2 := hHeld.ext HP2.e
     clear hSn
     (refine wpAnyU_one 6 (o := ?_) (by kernel_rfl) ?_ ?_; rotate_left 1; (simp only [xgA, xgB, xgC]; rfl); intro K hK)
     go_simp
     rw [← hW1]
     clear hW1
     refine hK.out _ _ (fun _ => hSn1) ?_
     clear hK K q0 q1 q2 q3 f0 f1 f2 f3
     (try simp only [Act.put, xgD, xgE, xgF])
     (refine wpAnyU_one 7 (o := ?_) (by kernel_rfl) ?_ ?_; rotate_left 1; (simp only [xgA, xgB, xgC]; rfl); intro K hK)
     go_simp
     rw [← hW2]
     clear hW2
     refine hK.out _ _ (fun _ => hSn2) ?_
     clear hK K r0 r1 r2 r3 k0 k1 k2 k3
     (try simp only [Act.put, xgD, xgE, xgF])
     refine wpAnyU_done (by kernel_rfl) ?_ _
     go_wp2_with (fail)
     go_meet
     exact ⟨_, _, xa, xb, rfl, rfl, HP2⟩
   ·go_simp
    have S23 := S17.allB
    try clear hSn
    have hSn := hHeld.ext S23.e
    refine hK.out _ _ (fun _ => hSn) ?_
    clear hK K
    (try simp only [Act.put, xgD, xgE, xgF])
    generalize v17.alloc (.cells zA 33) = v23 at *
    generalize v17.heap.size = g23 at *
    (refine wpAnyU_one 1 (o := ?_) (by kernel_rfl) ?_ ?_; rotate_left 1; (simp only [xgA, xgB, xgC]; rfl); intro K hK)
    go_simp
    refine (C1.out _ _ v23 S23).mono ?_
    rintro e v24 ⟨xa, rfl, ha, D⟩
    go_wp2_with (fail)
    have S24 := S23.call D
    clear D
    try clear hSn
    have hSn := hHeld.ext S24.e
    refine hK.out _ _ (fun _ => hSn) ?_
    clear hK K
    (try simp only [Act.put, xgD, xgE, xgF])
    (refine wpAnyU_one 3 (o := ?_) (by kernel_rfl) ?_ ?_; rotate_left 1; (simp only [xgA, xgB, xgC]; rfl); intro K hK)
    go_simp
    refine (C3.out _ _ v24 S24).mono ?_
    rintro e v25 ⟨xb, rfl, hb, D⟩
    go_wp2_with (fail)
    have S25 := S24.call D
    replace ha := ha.ext D
    clear D
    try clear hSn
    have hSn := hHeld.ext S25.e
    refine hK.out _ _ (fun _ => hSn) ?_
    clear hK K
    (try simp only [Act.put, xgD, xgE, xgF])
    obtain ⟨W1, hW1, ⟨q0, q1, q2, q3⟩, ⟨f0, f1, f2, f3⟩, E1, ⟨r0, r1, r2, r3⟩, ⟨k0, k1, k2, k3⟩, W2, hW2, HP2⟩ := S25.put2 ha hb
    unfold set4 at hW1 hW2
    have hSn1 := hHeld.ext E1
    have hSn2 := hHeld.ext HP2.e
    clear hSn
    (refine wpAnyU_one 6 (o := ?_) (by kernel_rfl) ?_ ?_; rotate_left 1; (simp only [xgA, xgB, xgC]; rfl); intro K hK)
    go_simp
    rw [← hW1]
    clear hW1
    refine hK.out _ _ (fun _ => hSn1) ?_
    clear hK K q0 q1 q2 q3 f0 f1 f2 f3
    (try simp only [Act.put, xgD, xgE, xgF])
    (refine wpAnyU_one 7 (o := ?_) (by kernel_rfl) ?_ ?_; rotate_left 1; (simp only [xgA, xgB, xgC]; rfl); intro K hK)
    go_simp
    rw [← hW2]
    clear hW2
    refine hK.out _ _ (fun _ => hSn2) ?_
    clear hK K r0 r1 r2 r3 k0 k1 k2 k3
    (try simp only [Act.put, xgD, xgE, xgF])
    refine wpAnyU_done (by kernel_rfl) ?_ _
    go_wp2_with (fail)
    go_meet
    exact ⟨_, _, xa, xb, rfl, rfl, HP2⟩
  ·go_simp
   have S26 := S0.allB
   try clear hSn
   have hSn := hHeld.ext S26.e
   refine hK.out _ _ (fun _ => hSn) ?_
   clear hK K
   (try simp only [Act.put, xgD, xgE, xgF])
   generalize wd.alloc (.cells zA 33) = v26 at *
   generalize wd.heap.size = g26 at *
   (refine wpAnyU_two 1 4 (oi := ?_) (oj := ?_) (by kernel_rfl) ?_ ?_ ?_ ?_; rotate_left 2; (simp only [xgA, xgB, xgC]; rfl); (simp only [xgA, xgB, xgC]; rfl); all_goals intro K hK)
   ·go_simp
    refine (C1.out _ _ v26 S26).mono ?_
    rintro e v27 ⟨xa, rfl, ha, D⟩
    go_wp2_with (fail)
    have S27 := S26.call D
    clear D
    try clear hSn
    have hSn := hHeld.ext S27.e
    refine hK.out _ _ (fun _ => hSn) ?_
    clear hK K
    (try simp only [Act.put, xgD, xgE, xgF])
    (refine wpAnyU_two 3 4 (oi := ?_) (oj := ?_) (by kernel_rfl) ?_ ?_ ?_ ?_; rotate_left 2; (simp only [xgA, xgB, xgC]; rfl); (simp only [xgA, xgB, xgC]; rfl); all_goals intro K hK)
    ·go_simp
     refine (C3.out _ _ v27 S27).mono ?_
     rintro e v28 ⟨xb, rfl, hb, D⟩
     go_wp2_with (fail)
     have S28 := S27.call D
     replace ha := ha.ext D
     clear D
     try clear hSn
     have hSn := hHeld.ext S28.e
     refine hK.out _ _ (fun _ => hSn) ?_
     clear hK K
     (try simp only [Act.put, xgD, xgE, xgF])
     (refine wpAnyU_one 4 (o := ?_) (by kernel_rfl) ?_ ?_; rotate_left 1; (simp only [xgA, xgB, xgC]; rfl); intro K hK)
     go_simp
     have S29 := S28.allA
     replace ha := S28.keepA ha
     replace hb := S28.keepA hb
     try clear hSn
     have hSn := hHeld.ext S29.e
     refine hK.out _ _ (fun _ => hSn) ?_
     clear hK K
     (try simp only [Act.put, xgD, xgE, xgF])
     generalize v28.alloc (.cells zA 33) = v29 at *
     generalize v28.heap.size = g29 at *
     obtain ⟨W1, hW1, ⟨q0, q1, q2, q3⟩, ⟨f0, f1, f2, f3⟩, E1, ⟨r0, r1, r2, r3⟩, ⟨k0, k1, k2, k3⟩, W2, hW2, HP2⟩ := S29.put2 ha hb
     unfold set4 at hW1 hW2
     have hSn1 := hHeld.ext E1
     have hSn2 := hHeld.ext HP2.e
     clear hSn
     (refine wpAnyU_one 6 (o := ?_) (by kernel_rfl) ?_ ?_; rotate_left 1; (simp only [xgA, xgB, xgC]; rfl); intro K hK)
     go_simp
     rw [← hW1]
     clear hW1
     refine hK.out _ _ (fun _ => hSn1) ?_
     clear hK K q0 q1 q2 q3 f0 f1 f2 f3
     (try simp only [Act.put, xgD, xgE, xgF])
     (refine wpAnyU_one 7 (o := ?_) (by kernel_rfl) ?_ ?_; rotate_left 1; (simp only [xgA, xgB, xgC]; rfl); intro K hK)
     go_simp
     rw [← hW2]
     clear hW2
     refine hK.out _ _ (fun _ => hSn2) ?_
     clear hK K r0 r1 r2 r3 k0 k1 k2 k3
     (try simp only [Act.put, xgD, xgE, xgF])
     refine wpAnyU_done (by kernel_rfl) ?_ _
     go_wp2_with (fail)
     go_meet
     exact ⟨_, _, xa, xb, rfl, rfl, HP2⟩
    ·go_simp
     have S30 := S27.allA
     replace ha := S27.keepA ha
     try clear hSn
     have hSn := hHeld.ext S30.e
     refine hK.out _ _ (fun _ => hSn) ?_
     clear hK K
     (try simp only [Act.put, xgD, xgE, xgF])
     generalize v27.alloc (.cells zA 33) = v30 at *
     generalize v27.heap.size = g30 at *
     (refine wpAnyU_one 3 (o := ?_) (by kernel_rfl) ?_ ?_; rotate_left 1; (simp only [xgA, xgB, xgC]; rfl); intro K hK)
     go_simp
     refine (C3.out _ _ v30 S30).mono ?_
     rintro e v31 ⟨xb, rfl, hb, D⟩
     go_wp2_with (fail)
     have S31 := S30.call D
     replace ha := ha.ext D
     clear D
     try clear hSn
     have hSn := hHeld.ext S31.e
     refine hK.out _ _ (fun _ => hSn) ?_
     clear hK K
     (try simp only [Act.put, xgD, xgE, xgF])
     obtain ⟨W1, hW1, ⟨q0, q1, q2, q3⟩, ⟨f0, f1, f2, f3⟩, E1, ⟨r0, r1, r2, r3⟩, ⟨k0, k1, k2, k3⟩, W2, hW2, HP2⟩ := S31.put2 ha hb
     unfold set4 at hW1 hW2
     have hSn1 := hHeld.ext E1
     have hSn2 := hHeld.ext HP2.e
     clear hSn
     (refine wpAnyU_one 6 (o := ?_) (by kernel_rfl) ?_ ?_; rotate_left 1; (simp only [xgA, xgB, xgC]; rfl); intro K hK)
     go_simp
     rw [← hW1]
     clear hW1
     refine hK.out _ _ (fun _ => hSn1) ?_
     clear hK K q0 q1 q2 q3 f0 f1 f2 f3
     (try simp only [Act.put, xgD, xgE, xgF])
     (refine wpAnyU_one 7 (o := ?_) (by kernel_rfl) ?_ ?_; rotate_left 1; (simp only [xgA, xgB, xgC]; rfl); intro K hK)
     go_simp
     rw [← hW2]
     clear hW2
     refine hK.out _ _ (fun _ => hSn2) ?_
     clear hK K r0 r1 r2 r3 k0 k1 k2 k3
     (try simp only [Act.put, xgD, xgE, xgF])
     refine wpAnyU_done (by kernel_rfl) ?_ _
     go_wp2_with (fail)
     go_meet
     exact ⟨_, _, xa, xb, rfl, rfl, HP2⟩
   ·go_simp
    have S32 := S26.allA
    try clear hSn
    have hSn := hHeld.ext S32.e
    refine hK.out _ _ (fun _ => hSn) ?_
    clear hK K
    (try simp only [Act.put, xgD, xgE, xgF])
    generalize v26.alloc (.cells zA 33) = v32 at *
    generalize v26.heap.size = g32 at *
    (refine wpAnyU_one 1 (o := ?_) (by kernel_rfl) ?_ ?_; rotate_left 1; (simp only [xgA, xgB, xgC]; rfl); intro K hK)
    go_simp
    refine (C1.out _ _ v32 S32).mono ?_
    rintro e v33 ⟨xa, rfl, ha, D⟩
    go_wp2_with (fail)
    have S33 := S32.call D
    clear D
    try clear hSn
    have hSn := hHeld.ext S33.e
    refine hK.out _ _ (fun _ => hSn) ?_
    clear hK K
    (try simp only [Act.put, xgD, xgE, xgF])
    (refine wpAnyU_one 3 (o := ?_) (by kernel_rfl) ?_ ?_; rotate_left 1; (simp only [xgA, xgB, xgC]; rfl); intro K hK)
    go_simp
    refine (C3.out _ _ v33 S33).mono ?_
    rintro e v34 ⟨xb, rfl, hb, D⟩
    go_wp2_with (fail)
    have S34 := S33.call D
    replace ha := ha.ext D
    clear D
    try clear hSn
    have hSn := hHeld.ext S34.e
    refine hK.out _ _ (fun _ => hSn) ?_
    clear hK K
    (try simp only [Act.put, xgD, xgE, xgF])
    obtain ⟨W1, hW1, ⟨q0, q1, q2, q3⟩, ⟨f0, f1, f2, f3⟩, E1, ⟨r0, r1, r2, r3⟩, ⟨k0, k1, k2, k3⟩, W2, hW2, HP2⟩ := S34.put2 ha hb
    unfold set4 at hW1 hW2
    have hSn1 := hHeld.ext E1
    have hSn2 := hHeld.ext HP2.e
    clear hSn
    (refine wpAnyU_one 6 (o := ?_) (by kernel_rfl) ?_ ?_; rotate_left 1; (simp only [xgA, xgB, xgC]; rfl); intro K hK)
    go_simp
    rw [← hW1]
    clear hW1
    refine hK.out _ _ (fun _ => hSn1) ?_
    clear hK K q0 q1 q2 q3 f0 f1 f2 f3
    (try simp only [Act.put, xgD, xgE, xgF])
    (refine wpAnyU_one 7 (o := ?_) (by kernel_rfl) ?_ ?_; rotate_left 1; (simp only [xgA, xgB, xgC]; rfl); intro K hK)
    go_simp
    rw [← hW2]
    clear hW2
    refine hK.out _ _ (fun _ => hSn2) ?_
    clear hK K r0 r1 r2 r3 k0 k1 k2 k3
    (try simp only [Act.put, xgD, xgE, xgF])
    refine wpAnyU_done (by kernel_rfl) ?_ _
    go_wp2_with (fail)
    go_meet
    exact ⟨_, _, xa, xb, rfl, rfl, HP2⟩
 case rest =>
  obtain ⟨ba, bb, xa, xb, rfl, rfl, hput⟩ := hcut
  have hEw := hput.e
  have HXc := Lib.hid (HX.out.ext hEw)
  have HYc := Lib.hid (HY.out.ext hEw)
  have HAc : Hid (CRx M0 wc 4 xa f) := hput.x
  have HBc : Hid (CRx M0 wc 4 xb g) := hput.y
  have HEc := Lib.hid (HE.out.trans hEw)
  have HPc : Hid (SG4 w3.heap.size (w3.heap.size + 1) ba bb x y xa xb wc) := ⟨HP0.out.1.ext hEw, HP0.out.2.ext hEw, hput.p, hput.q⟩
  have HFn : Hid (NN f ∧ Deg 11 f ∧ dlen (nrm f) ≤ 1) := ⟨HX.out.1.nn, bt_deg HX.out (by have := HN12.out; omega), HX.out.1.nrm⟩
  have HGn : Hid (NN g ∧ Deg 7 g ∧ dlen (nrm g) ≤ 1) := ⟨HY.out.1.nn, bt_deg HY.out (by have := HN12.out; omega), HY.out.1.nrm⟩
  have CD := Lib.hid (ps_Divide M0 x y f g L 11 7 1 1 wc (mb0 _) HXc.out.1.pi HYc.out.1.pi HFn.out.1 HGn.out.1 HFn.out.2.1 HGn.out.2.1 HFn.out.2.2 HGn.out.2.2 dvn_forms)
  clear hEw hput HX HY HE HP0 HN12
  obtain ⟨⟨x0, x1, x2, x3⟩, ⟨y0, y1, y2, y3⟩, ⟨a0, a1, a2, a3⟩, b0, b1, b2, b3⟩ := HPc.out
  go_wp2_with (fail)
  refine CD.out.mono ?_
  rintro e w5 ⟨q, r, er, rfl, ho, he5⟩
  have hb3 := Blk.of_arr w5 (peA q) 33 4 rfl
  have hb4 := Blk.of_arr (w5.alloc (.cells (peA q) 33)) (peA r) 33 4 rfl
  simp only [World.size_alloc] at hb4
  have hEb : Ext w5 ((w5.alloc (.cells (peA q) 33)).alloc (.cells (peA r) 33)) := ((Ext.refl w5).alloc _).alloc _
  have HO := Lib.hid ho
  have HEO := Lib.hid hEb
  have HX5 := Lib.hid ((HXc.out.ext he5).ext hEb)
  have HY5 := Lib.hid ((HYc.out.ext he5).ext hEb)
  have HA5 := Lib.hid ((HAc.out.ext he5).ext hEb)
  have HB5 := Lib.hid ((HBc.out.ext he5).ext hEb)
  have HE5 := Lib.hid ((HEc.out.trans he5).trans hEb)
  have HP5 := Lib.hid ((HPc.out.ext he5).ext hEb)
  have HQ5 : Hid (SP2 w5.heap.size q r ((w5.alloc (.cells (peA q) 33)).alloc (.cells (peA r) 33))) := ⟨(hb3.alloc _).p4, hb4.p4⟩
  clear ho he5 hb3 hb4 hEb CD HXc HYc HAc HBc HEc HPc x0 x1 x2 x3 y0 y1 y2 y3 a0 a1 a2 a3 b0 b1 b2 b3
  go_upto_region 8 with (fail)
  generalize hgq : w5.heap.size = bq at *
  generalize (w5.alloc (.cells (peA q) 33)).alloc (.cells (peA r) 33) = W5 at *
  clear hgq
  have CD := Lib.hid (ps_Divide M0 xa xb f g L 11 7 1 1 W5 (mb0 _) HA5.out.pi HB5.out.pi HFn.out.1 HGn.out.1 HFn.out.2.1 HGn.out.2.1 HFn.out.2.2 HGn.out.2.2 dvn_forms)
  obtain ⟨⟨x0, x1, x2, x3⟩, ⟨y0, y1, y2, y3⟩, ⟨a0, a1, a2, a3⟩, b0, b1, b2, b3⟩ := HP5.out
  go_wp2_with (fail)
  refine CD.out.mono ?_
  rintro e w6 ⟨s, t, xr, rfl, hm, he6⟩
  have hb3 := Blk.of_arr w6 (peA s) 33 4 rfl
  have hb4 := Blk.of_arr (w6.alloc (.cells (peA s) 33)) (peA t) 33 4 rfl
  simp only [World.size_alloc] at hb4
  have hEb : Ext w6 ((w6.alloc (.cells (peA s) 33)).alloc (.cells (peA t) 33)) := ((Ext.refl w6).alloc _).alloc _
  have HDV := Lib.hid ((dvs_of HFn.out.1 HGn.out.1 HO.out (HEO.out.trans he6) hm).ext hEb)
  have HX6 := Lib.hid ((HX5.out.ext he6).ext hEb)
  have HY6 := Lib.hid ((HY5.out.ext he6).ext hEb)
  have HA6 := Lib.hid ((HA5.out.ext he6).ext hEb)
  have HB6 := Lib.hid ((HB5.out.ext he6).ext hEb)
  have HE6 := Lib.hid ((HE5.out.trans he6).trans hEb)
  have HP6 := Lib.hid ((HP5.out.ext he6).ext hEb)
  have HQ6 := Lib.hid ((HQ5.out.ext he6).ext hEb)
  have HS6 : Hid (SP2 w6.heap.size s t ((w6.alloc (.cells (peA s) 33)).alloc (.cells (peA t) 33))) := ⟨(hb3.alloc _).p4, hb4.p4⟩
  clear hm he6 hb3 hb4 hEb CD HO HEO HX5 HY5 HA5 HB5 HE5 HP5 HQ5 x0 x1 x2 x3 y0 y1 y2 y3 a0 a1 a2 a3 b0 b1 b2 b3
  go_upto_region 9 with (fail)
  generalize hgs : w6.heap.size = bs at *
  generalize (w6.alloc (.cells (peA s) 33)).alloc (.cells (peA t) 33) = W6 at *
  clear hgs
  have CX := Lib.hid (ps_Exact 7 1 M0 f g x y 11 1 W6 (mb0 _) HX6.out.1.pi HY6.out.1.pi HFn.out.2.1 HGn.out.2.1 HFn.out.2.2 HGn.out.2.2 okb_forms qx_forms)
  obtain ⟨⟨x0, x1, x2, x3⟩, ⟨y0, y1, y2, y3⟩, ⟨a0, a1, a2, a3⟩, b0, b1, b2, b3⟩ := HP6.out
  go_wp2_with (fail)
  refine CX.out.mono ?_
  rintro e w7 ⟨u, eu, rfl, hu, he7⟩
  have hb3 := Blk.of_arr w7 (peA u) 33 4 rfl
  have hEb := (Ext.refl w7).alloc (.cells (peA u) 33)
  have HU : Hid (ExO2 w7 f g u eu) := hu.imp id (Or.imp (fun ⟨a, b, q, c, d, _⟩ => ⟨a, b, q, c, d⟩) id)
  have HEO := Lib.hid hEb
  have HX7 := Lib.hid ((HX6.out.ext he7).ext hEb)
  have HY7 := Lib.hid ((HY6.out.ext he7).ext hEb)
  have HA7 := Lib.hid ((HA6.out.ext he7).ext hEb)
  have HB7 := Lib.hid ((HB6.out.ext he7).ext hEb)
  have HE7 := Lib.hid ((HE6.out.trans he7).trans hEb)
  have HP7 := Lib.hid ((HP6.out.ext he7).ext hEb)
  have HQ7 := Lib.hid ((HQ6.out.ext he7).ext hEb)
  have HS7 := Lib.hid ((HS6.out.ext he7).ext hEb)
  have HDV7 := Lib.hid ((HDV.out.ext he7).ext hEb)
  have HU7 : Hid (P4 (w7.alloc (.cells (peA u) 33)) w7.heap.size u) := hb3.p4
  clear hu he7 hb3 hEb CX HDV HX6 HY6 HA6 HB6 HE6 HP6 HQ6 HS6 x0 x1 x2 x3 y0 y1 y2 y3 a0 a1 a2 a3 b0 b1 b2 b3
  go_upto_region 10 with (fail)
  generalize hgu : w7.heap.size = bu at *
  generalize w7.alloc (.cells (peA u) 33) = W7 at *
  clear hgu
  have CX := Lib.hid (ps_Exact 7 1 M0 f g xa xb 11 1 W7 (mb0 _) HA7.out.pi HB7.out.pi HFn.out.2.1 HGn.out.2.1 HFn.out.2.2 HGn.out.2.2 okb_forms qx_forms)
  obtain ⟨⟨x0, x1, x2, x3⟩, ⟨y0, y1, y2, y3⟩, ⟨a0, a1, a2, a3⟩, b0, b1, b2, b3⟩ := HP7.out
  go_wp2_with (fail)
  refine CX.out.mono ?_
  rintro e w8 ⟨v, ev, rfl, hv, he8⟩
  have hb3 := Blk.of_arr w8 (peA v) 33 4 rfl
  have hEb := ((Ext.refl w8).alloc (.cells (peA v) 33)).drew
  have he8b := he8.trans hEb
  have HEX := Lib.hid ((exs_of HGn.out.1 HU.out (HEO.out.trans he8) (show ExO2 w8 f g v ev from hv.imp id (Or.imp (fun ⟨a, b, q, c, d, _⟩ => ⟨a, b, q, c, d⟩) id))).ext hEb)
  have HX8 := Lib.hid (HX7.out.ext he8b)
  have HY8 := Lib.hid (HY7.out.ext he8b)
  have HA8 := Lib.hid (HA7.out.ext he8b)
  have HB8 := Lib.hid (HB7.out.ext he8b)
  have HE8 := Lib.hid (HE7.out.trans he8b)
  have HDV8 := Lib.hid (HDV7.out.ext he8b)
  have hS10 : SF10 bq bs (bq + 1) (bs + 1) bu w8.heap.size (w3.heap.size + 1) w3.heap.size bb ba q s r t u v y x xb xa (w8.alloc (.cells (peA v) 33)).drew := by
   have hp := HP7.out.ext he8b
   have hq := HQ7.out.ext he8b
   have hs := HS7.out.ext he8b
   exact ⟨⟨hq.1, hs.1, hq.2, hs.2, HU7.out.ext he8b⟩, hb3.p4.ext (Ext.refl _).drew, hp.2.1, hp.1, hp.2.2.2, hp.2.2.1⟩
  have HS10 := Lib.hid hS10
  clear hS10 hv he8 he8b hb3 hEb CX HU HEO HX7 HY7 HA7 HB7 HE7 HP7 HQ7 HS7 HDV7 HU7 x0 x1 x2 x3 y0 y1 y2 y3 a0 a1 a2 a3 b0 b1 b2 b3
  go_upto_region 11 with (fail)
  generalize hgv : w8.heap.size = bv at *
  generalize w8.alloc (.cells (peA v) 33) = W8 at *
  clear hgv
  obtain ⟨rfl, ql, rl, hq, hr, hs, ht⟩ := HDV8.out
  obtain ⟨rfl, ul, vl, hu, hv, huv⟩ := HEX.out
  refine wp_region_u (SF10 bq bs (bq + 1) (bs + 1) bu bv (w3.heap.size + 1) w3.heap.size bb ba q s r t u v y x xb xa) 33 (by kernel_rfl) HS10.out (fun hHeld => ?_)
  clear HS10 HDV8 HEX
  generalize W8.drew = wd at *
  have HQ := Lib.hid hq
  have HR := Lib.hid hr
  have HS := Lib.hid hs
  have HT := Lib.hid ht
  have HU := Lib.hid hu
  have HV := Lib.hid hv
  have HUV := Lib.hid huv
  clear hq hr hs ht hu hv huv
  have CE1 : Hid (∀ W', Ext wd W' → Calls Tryz.prog 39 #[.agg (peA q), .agg (peA s)] W' fun e w' => e = .returned (.bool true) ∧ Ext W' w') := fun W' he => by
   have := rf_equal 4 M0 ql ql q s W' (HQ.out.ext he) (HS.out.ext he)
   rw [simB_true (Sim.refl ql)] at this
   exact this
  have CE2 : Hid (∀ W', Ext wd W' → Calls Tryz.prog 39 #[.agg (peA r), .agg (peA t)] W' fun e w' => e = .returned (.bool true) ∧ Ext W' w') := fun W' he => by
   have := rf_equal 4 M0 rl rl r t W' (HR.out.ext he) (HT.out.ext he)
   rw [simB_true (Sim.refl rl)] at this
   exact this
  have CE3 : Hid (∀ W', Ext wd W' → Calls Tryz.prog 39 #[.agg (peA u), .agg (peA v)] W' fun e w' => e = .returned (.bool true) ∧ Ext W' w') := fun W' he => by
   have := rf_equal 4 M0 ul vl u v W' (HU.out.ext he) (HV.out.ext he)
   rw [simB_true HUV.out] at this
   exact this
  have HSD : Hid (Deg 7 (snorm g) ∧ dlen (nrm (snorm g)) ≤ 1) := ⟨snorm_deg2 HGn.out.1 HGn.out.2.1, Nat.le_trans (dlen_mono (snorm_nrm g)) HGn.out.2.2⟩
  have CD1 : Hid (∀ W', Ext wd W' → Calls Tryz.prog 40 #[.agg (peA y), .agg (peA x)] W' (RetD W' f g (snorm g))) := fun W' he => ps_Divides 7 1 M0 f g (snorm g) y x 11 1 W' (mb0 _) (HY8.out.ext he).1.pi (HX8.out.ext he).1.pi (fun M' W'' h1 h2 h3 => sn_bt (HY8.out.ext he) M' W'' h1 h2 h3) (snorm_ne HGn.out.1) HFn.out.2.1 HSD.out.1 HFn.out.2.2 HSD.out.2 okb_forms qx_forms
  have CD2 : Hid (∀ W', Ext wd W' → Calls Tryz.prog 40 #[.agg (peA xb), .agg (peA xa)] W' (RetD W' f g (snorm g))) := fun W' he => ps_Divides 7 1 M0 f g (snorm g) xb xa 11 1 W' (mb0 _) (HB8.out.ext he).pi (HA8.out.ext he).pi (fun M' W'' h1 h2 h3 => sn_cr (HB8.out.ext he) (HGn.out.2.1.mono (by omega)) HGn.out.2.2 M' W'' h1 h2 h3) (snorm_ne HGn.out.1) HFn.out.2.1 HSD.out.1 HFn.out.2.2 HSD.out.2 okb_forms qx_forms
  (refine tkB [0, 1, 2, 3, 4, 5, 6, 7, 8, 9, 10] ?_; (iterate 11 (refine tk1 (oi := ?_) (v := ?_) (by kernel_rfl) (by first | exact hSn | exact hHeld) ?_ ?_ ?_ ?_ ?_; rotate_left 2; (simp only [xgA, xgB, xgC]; rfl); rfl; (intro wS hSw; obtain ⟨⟨⟨S1, S2, S3, S4⟩, ⟨S5, S6, S7, S8⟩, ⟨S9, S10, S11, S12⟩, ⟨S13, S14, S15, S16⟩, S17, S18, S19, S20⟩, ⟨T1, T2, T3, T4⟩, ⟨T5, T6, T7, T8⟩, ⟨T9, T10, T11, T12⟩, ⟨T13, T14, T15, T16⟩, T17, T18, T19, T20⟩ := hSw; go_simp; try with_reducible rfl); (exact fun _ _ _ h => h); (try simp only [Act.put, xgD, xgE, xgF]))); refine tkE ?_)
  ((refine wpAnyU_one 11 (o := ?_) (by kernel_rfl) ?_ ?_; rotate_left 1; (simp only [xgA, xgB, xgC]; rfl); intro K hK); go_simp; (refine (CE1.out _ (Ext.refl _)).mono ?_); rintro e_ u1 ⟨rfl, e1⟩; go_wp2_with (fail); (try clear hSn); (have hSn := hHeld.ext e1); (refine hK.out _ _ (fun _ => hSn) ?_); clear hK K; (try simp only [Act.put, xgD, xgE, xgF]))
  (refine tkB [12, 13, 14, 15] ?_; (iterate 4 (refine tk1 (oi := ?_) (v := ?_) (by kernel_rfl) (by first | exact hSn | exact hHeld) ?_ ?_ ?_ ?_ ?_; rotate_left 2; (simp only [xgA, xgB, xgC]; rfl); rfl; (intro wS hSw; obtain ⟨⟨⟨S1, S2, S3, S4⟩, ⟨S5, S6, S7, S8⟩, ⟨S9, S10, S11, S12⟩, ⟨S13, S14, S15, S16⟩, S17, S18, S19, S20⟩, ⟨T1, T2, T3, T4⟩, ⟨T5, T6, T7, T8⟩, ⟨T9, T10, T11, T12⟩, ⟨T13, T14, T15, T16⟩, T17, T18, T19, T20⟩ := hSw; go_simp; try with_reducible rfl); (exact fun _ _ _ h => h); (try simp only [Act.put, xgD, xgE, xgF]))); refine tkE ?_)
  ((refine wpAnyU_one 16 (o := ?_) (by kernel_rfl) ?_ ?_; rotate_left 1; (simp only [xgA, xgB, xgC]; rfl); intro K hK); go_simp; (refine (CE2.out _ e1).mono ?_); rintro e_ u2 ⟨rfl, e2⟩; go_wp2_with (fail); (try clear hSn); (have hSn := hHeld.ext (e1.trans e2)); (refine hK.out _ _ (fun _ => hSn) ?_); clear hK K; (try simp only [Act.put, xgD, xgE, xgF]))
  (refine tkB [17, 18, 19, 20] ?_; (iterate 4 (refine tk1 (oi := ?_) (v := ?_) (by kernel_rfl) (by first | exact hSn | exact hHeld) ?_ ?_ ?_ ?_ ?_; rotate_left 2; (simp only [xgA, xgB, xgC]; rfl); rfl; (intro wS hSw; obtain ⟨⟨⟨S1, S2, S3, S4⟩, ⟨S5, S6, S7, S8⟩, ⟨S9, S10, S11, S12⟩, ⟨S13, S14, S15, S16⟩, S17, S18, S19, S20⟩, ⟨T1, T2, T3, T4⟩, ⟨T5, T6, T7, T8⟩, ⟨T9, T10, T11, T12⟩, ⟨T13, T14, T15, T16⟩, T17, T18, T19, T20⟩ := hSw; go_simp; try with_reducible rfl); (exact fun _ _ _ h => h); (try simp only [Act.put, xgD, xgE, xgF]))); refine tkE ?_)
  have E2 := e1.trans e2
  clear e1 e2
  ((refine wpAnyU_one 21 (o := ?_) (by kernel_rfl) ?_ ?_; rotate_left 1; (simp only [xgA, xgB, xgC]; rfl); intro K hK); go_simp; (refine (CE3.out _ E2).mono ?_); rintro e_ u3 ⟨rfl, e3⟩; go_wp2_with (fail); (try clear hSn); (have hSn := hHeld.ext (E2.trans e3)); (refine hK.out _ _ (fun _ => hSn) ?_); clear hK K; (try simp only [Act.put, xgD, xgE, xgF]))
  (refine tkB [22, 23, 24, 25, 27, 28] ?_; (iterate 6 (refine tk1 (oi := ?_) (v := ?_) (by kernel_rfl) (by first | exact hSn | exact hHeld) ?_ ?_ ?_ ?_ ?_; rotate_left 2; (simp only [xgA, xgB, xgC]; rfl); rfl; (intro wS hSw; obtain ⟨⟨⟨S1, S2, S3, S4⟩, ⟨S5, S6, S7, S8⟩, ⟨S9, S10, S11, S12⟩, ⟨S13, S14, S15, S16⟩, S17, S18, S19, S20⟩, ⟨T1, T2, T3, T4⟩, ⟨T5, T6, T7, T8⟩, ⟨T9, T10, T11, T12⟩, ⟨T13, T14, T15, T16⟩, T17, T18, T19, T20⟩ := hSw; go_simp; try with_reducible rfl); (exact fun _ _ _ h => h); (try simp only [Act.put, xgD, xgE, xgF]))); refine tkE ?_)
  have E3 := E2.trans e3
  clear E2 e3
  ((refine wpAnyU_one 26 (o := ?_) (by kernel_rfl) ?_ ?_; rotate_left 1; (simp only [xgA, xgB, xgC]; rfl); intro K hK); go_simp; (refine (CD1.out _ E3).mono ?_); rintro e_ u4 ⟨d1, rfl, hd1, hd1', e4⟩; go_wp2_with (fail); (try clear hSn); (have hSn := hHeld.ext (E3.trans e4)); (refine hK.out _ _ (fun _ => hSn) ?_); clear hK K; (try simp only [Act.put, xgD, xgE, xgF]))
  have E4 := E3.trans e4
  clear E3 e4
  ((refine wpAnyU_one 29 (o := ?_) (by kernel_rfl) ?_ ?_; rotate_left 1; (simp only [xgA, xgB, xgC]; rfl); intro K hK); go_simp; (refine (CD2.out _ E4).mono ?_); rintro e_ u5 ⟨d2, rfl, hd2, hd2', e5⟩; go_wp2_with (fail); (try clear hSn); (have hSn := hHeld.ext (E4.trans e5)); (refine hK.out _ _ (fun _ => hSn) ?_); clear hK K; (try simp only [Act.put, xgD, xgE, xgF]))
  obtain rfl : d1 = d2 := by
   by_cases hz : Sim g []
   ·exact Bool.eq_iff_iff.2 ((hd1 hz).trans (hd2 hz).symm)
   ·exact Bool.eq_iff_iff.2 ((hd1' hz).trans (hd2' hz).symm)
  have HF := Lib.hid (HE8.out.trans (E4.trans e5))
  clear hd1 hd1' hd2 hd2' E4 e5
  (refine tkB [30, 31, 32] ?_; (iterate 3 (refine tk1 (oi := ?_) (v := ?_) (by kernel_rfl) (by first | exact hSn | exact hHeld) ?_ ?_ ?_ ?_ ?_; rotate_left 2; (simp only [xgA, xgB, xgC]; rfl); rfl; (intro wS hSw; obtain ⟨⟨⟨S1, S2, S3, S4⟩, ⟨S5, S6, S7, S8⟩, ⟨S9, S10, S11, S12⟩, ⟨S13, S14, S15, S16⟩, S17, S18, S19, S20⟩, ⟨T1, T2, T3, T4⟩, ⟨T5, T6, T7, T8⟩, ⟨T9, T10, T11, T12⟩, ⟨T13, T14, T15, T16⟩, T17, T18, T19, T20⟩ := hSw; go_simp; try with_reducible rfl); (exact fun _ _ _ h => h); (try simp only [Act.put, xgD, xgE, xgF]))); refine tkE ?_)
  refine wpAnyU_done (by kernel_rfl) ?_ _
  clear hHeld hSn HX8 HY8 HA8 HB8 HE8 HQ HR HS HT HU HV HUV CE1 CE2 CE3 CD1 CD2 HSD HFn HGn
  go_wp2
  go_ret
  exact ⟨rfl, HF.out⟩
end Go.Proofs.YtjcceddloogiiaaGreat
