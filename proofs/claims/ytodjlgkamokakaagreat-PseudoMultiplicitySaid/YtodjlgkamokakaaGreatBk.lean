/- the small functions of cylinderlaw24; plain facts of PseudoExact. PseudoExact: the walk. -/
import Derived.Test.YtodjlgkamokakaaGreatBj
import Derived.Test.YtodjlgkamokakaaGreatMr
set_option linter.unusedVariables false
set_option linter.unusedSimpArgs false

namespace Go.Proofs.YtodjlgkamokakaaGreat
open Go.RowKit

theorem law_few24 (a : Option Addr) (n cap : Nat) (X : Nat → TE) (T E : Nat) (w : World) (h : TRaw w a n cap X) (hX : ∀ i, i < n → (X i).n ≤ 9223372036854775807) : Calls Tryz.prog 16 #[.slice a n cap, .int .i64 (T : Int), .int .i64 (E : Int)] w (RetB (FewP n X T 4 E) w) := by
  have ctr := rf_fewp a n cap X T 4 E w h hX
  rw [show ((4 : Nat) : Int) = 4 from rfl] at ctr
  have CTR := Lib.hid ctr
  clear ctr h hX
  go_enter Tryz.func16, Tryz.ntmps16
  go_wp2_with (fail)
  refine CTR.out.mono ?_
  rintro e w1 ⟨b, rfl, hb, rfl⟩
  have HB := Lib.hid hb
  clear hb
  go_wp2
  go_ret
  exact ⟨b, rfl, HB.out, rfl⟩
theorem law_canonical24 (M : Nat → Prop) (l : List Tm) (x : PE) (w : World) (h : CRx M w 4 x l) : Calls Tryz.prog 22 #[.agg (peA x)] w fun e w' => e = .returned (.bool true) ∧ Ext w w' := by
  have hEa := (Ext.refl w).alloc (.cells (peA x) 32)
  have CTR := Lib.hid (fun W he => rf_canonical 4 M l x 5 W (h.ext he) (by have := h.lev; omega))
  clear h
  go_enter Tryz.func22, Tryz.ntmps22
  go_wp2_with (fail)
  refine (CTR.out _ ?h1).mono ?_
  case h1 => first | exact hEa | exact Ext.refl w
  rintro e w1 ⟨rfl, he1⟩
  have HF := Lib.hid he1
  go_wp2
  go_ret
  first | exact ⟨rfl, hEa.trans HF.out⟩ | exact ⟨rfl, HF.out⟩
theorem law_ok : OkB 3 4 6 := by
  simp only [OkB, inB]
  decide
theorem law_num : 100 + qX 3 4 6 * (50 + 2) ≤ 549755813888 := by
  simp only [qX, inB]
  decide
theorem OkB.less {C L B B' : Nat} (h : OkB C L B') (hB : B ≤ B') : OkB C L B := h.mono hB
theorem ex_prod {M : Nat → Prop} {w w' : World} {e : Ending} {A : Nat} {p r : List Tm} (hp : NN p) (hr : NN r) (h : RetQ M w (pmul p r) r A e w') :
    ∃ (v : PE) (er : Int), e = .returned (.tuple #[.agg (peA v), .int .i64 er]) ∧ ((er = 2 ∧ Sim r [] ∧ v = PE.z) ∨ (er = 0 ∧ ¬ Sim r [] ∧ CRx M w' 4 v p)) ∧ Ext w w' := by
  obtain ⟨v, er, h1, h2, h3⟩ := h
  refine ⟨v, er, h1, ?_, h3⟩
  rcases h2 with h4 | ⟨rfl, hz, q, q1, q2, _⟩ | ⟨_, _, _, h4⟩
  · exact .inl h4
  · exact .inr ⟨rfl, hz, q1.sim (cancel q1.nn hp hr hz q2)⟩
  · exact absurd ⟨p, hp, Sim.refl _⟩ h4
theorem dv_snorm {r l : List Tm} (hr : NN r) (h : Dv r l) : Dv (snorm r) l := by
  obtain ⟨q, hq, hs⟩ := h
  refine ⟨pmul q [(sgnN (norm r), Mo.zero)], nn_pmul hq (nn_of_all fun t ht => by
    simp only [List.mem_singleton] at ht; subst ht; rfl), ?_⟩
  refine (Sim.pmul_assoc _ _ _).trans (Sim.trans (Sim.pmul_right ?_ q) hs)
  refine (Sim.pmul_comm _ _).trans ((pmul_single _ _).trans ?_)
  rw [shift_zero, smul_snorm]
  exact nn_norm_sim hr
theorem snorm_ne {r : List Tm} (hr : NN r) (h : ¬ Sim r []) : ¬ Sim (snorm r) [] := fun hh => h ((nn_norm_sim hr).symm.trans (by
  have h1 := hh.smul (sgnN (norm r))
  rw [smul_snorm] at h1
  exact h1))
end Go.Proofs.YtodjlgkamokakaaGreat

namespace Go.Proofs.YtodjlgkamokakaaGreat
open Go.RowKit

theorem sn_ctr {M : Nat → Prop} {w : World} {x : PE} {l : List Tm} (hx : CRx M w 4 x l) (hB : Deg 3 l) (hL : dlen (nrm l) ≤ 5) (M' : Nat → Prop) (W' : World) (h1 : Mb M' W') (h2 : ∀ g, M' g → M g ∨ w.heap.size ≤ g) (h3 : Ext w W') : Calls Tryz.prog 35 #[.agg (peA x)] W' (RetX M' W' 4 (snorm l)) := by
  obtain ⟨t, hR, hT, hS, hN⟩ := hx.tbN (B := 3) (Nat.le_refl _) (by omega) hB (by decide)
  rw [← hS.snorm]
  refine mv_snorm M' (4 + 1) t x W' h1 (RR.ext (RR.more h2 hR) h3) hT ?_
  have h5 := dlen_mono hN
  omega
theorem snorm_deg {l : List Tm} {B : Nat} (hl : NN l) (hz : ¬ Sim l []) (h : Deg B l) : Deg B (snorm l) := fun m hm k => by
  refine h m (fun h0 => ?_) k
  have h1 : coefAt (norm l) m = 0 := by rw [nn_norm_sim hl m]; exact h0
  rw [← smul_snorm l, coefAt_smul] at h1
  rcases Int.mul_eq_zero.1 h1 with h2 | h2
  · refine hz ((nn_norm_sim hl).symm.trans fun m => ?_)
    rw [← smul_snorm l, coefAt_smul, h2, Int.zero_mul]; rfl
  · exact hm h2
structure Sm (l : List Tm) : Prop where
  nn : NN l
  deg : Deg 3 l
  dl : dlen (nrm l) ≤ 5
theorem PRaw.sm {W : World} {a : Option Addr} {n cap : Nat} {X : Nat → TE} (h : PRaw W a n cap X) (hf : FewP n X 6 4 ((3 : Nat) : Int)) : ∃ l, PolyV M0 W (.slice a n cap) l ∧ Sm (norm l) ∧ dlen (nrm l) ≤ 1099511627776 ∧ ∀ s ∈ l, ∀ k, s.2.get k ≤ 1073741824 := by
  obtain ⟨l, h1, h2, h3, h4⟩ := h.poly hf (by omega) (by omega)
  refine ⟨l, h1, ⟨nn_of_all (all_nn_norm l), deg_of_exp fun s hs k => (h4 s hs k).1, Nat.le_trans (dlen_mono (norm_nrm l)) h3⟩, Nat.le_trans h3 (by omega), fun s hs k => by have := (h4 s hs k).1; omega⟩
def EP (M : Nat → Prop) (w : World) (r p : List Tm) (er : Int) (v : PE) : Prop := (er = 2 ∧ Sim r [] ∧ v = PE.z) ∨ (er = 0 ∧ ¬ Sim r [] ∧ CRx M w 4 v p)
theorem EP.ext {M : Nat → Prop} {w w' : World} {r p : List Tm} {er : Int} {v : PE} (h : EP M w r p er v) (he : Ext w w') : EP M w' r p er v := h.imp id fun ⟨a, b, c⟩ => ⟨a, b, c.ext he⟩
theorem EP.kp {M : Nat → Prop} {w w' : World} {r p : List Tm} {er : Int} {v : PE} (h : EP M w r p er v) (he : Kp M w w') : EP M w' r p er v := h.imp id fun ⟨a, b, c⟩ => ⟨a, b, c.kp he⟩
theorem EP.more {M M' : Nat → Prop} {w : World} {r p : List Tm} {er : Int} {v : PE} (h : EP M w r p er v) (hm : ∀ g, M' g → M g ∨ w.heap.size ≤ g) : EP M' w r p er v := h.imp id fun ⟨a, b, c⟩ => ⟨a, b, c.more hm⟩
def ECut (r p : List Tm) (W : World) (s10 s11 : Value) (wx : World) : Prop := ∃ (g : Nat) (v : PE) (er : Int), s10 = .pointer (some ⟨g, 0, none⟩) ∧ s11 = .int .i64 er ∧ P4 wx g v ∧ EP M0 wx r p er v ∧ Ext W wx
set_option maxRecDepth 100000 in
set_option maxHeartbeats 16000000 in
theorem law_exact (a1 a2 a3 : Option Addr) (n1 p1 n2 p2 n3 p3 : Nat) (X1 X2 X3 : Nat → TE) (w : World) (h1 : PRaw w a1 n1 p1 X1) (h2 : PRaw w a2 n2 p2 X2) (h3 : PRaw w a3 n3 p3 X3) :
    Calls Tryz.prog 3 #[.slice a1 n1 p1, .slice a2 n2 p2, .slice a3 n3 p3] w fun e w' => e = .returned (.bool true) ∧ Ext w w' := by
  have HR1 := Lib.hid h1
  have HR2 := Lib.hid h2
  have HR3 := Lib.hid h3
  clear h1 h2 h3
  go_enter Tryz.func3, Tryz.ntmps3
  go_wp2_with (fail)
  refine (law_fit24 _).mono ?_
  rintro e w1 ⟨rfl, he1⟩
  have HE1 := Lib.hid he1
  have CF1 := Lib.hid (law_few24 a1 n1 p1 X1 6 3 w1 (HR1.out.1.ext he1) HR1.out.2.1)
  have CF2 := Lib.hid (law_few24 a2 n2 p2 X2 6 3 w1 (HR2.out.1.ext he1) HR2.out.2.1)
  have CF3 := Lib.hid (law_few24 a3 n3 p3 X3 6 3 w1 (HR3.out.1.ext he1) HR3.out.2.1)
  rw [show ((6 : Nat) : Int) = 6 from rfl, show ((3 : Nat) : Int) = 3 from rfl] at CF1 CF2 CF3
  clear he1
  go_wp2_with (fail)
  refine CF1.out.mono ?_
  rintro e w2 ⟨b, rfl, hb1, rfl⟩
  cases b with
  | false =>
    clear hb1 CF1 CF2 CF3
    go_wp2
    go_ret
    exact ⟨rfl, HE1.out⟩
  | true =>
  have HF1 := Lib.hid (hb1.1 rfl)
  clear hb1 CF1
  go_wp2_with (fail)
  refine CF2.out.mono ?_
  rintro e w2 ⟨b, rfl, hb2, rfl⟩
  cases b with
  | false =>
    clear hb2 CF2 CF3
    go_wp2
    go_ret
    exact ⟨rfl, HE1.out⟩
  | true =>
  have HF2 := Lib.hid (hb2.1 rfl)
  clear hb2 CF2
  go_wp2_with (fail)
  refine CF3.out.mono ?_
  rintro e w2 ⟨b, rfl, hb3, rfl⟩
  cases b with
  | false =>
    clear hb3 CF3
    go_wp2
    go_ret
    exact ⟨rfl, HE1.out⟩
  | true =>
  have HF3 := Lib.hid (hb3.1 rfl)
  clear hb3 CF3
  obtain ⟨l1, hl1, HS1, hd1, hx1⟩ := HR1.out.sm HF1.out
  obtain ⟨l2, hl2, HS2, hd2, hx2⟩ := HR2.out.sm HF2.out
  obtain ⟨l3, hl3, HS3, hd3, hx3⟩ := HR3.out.sm HF3.out
  have CO1 := Lib.hid (fun W he => rp_Of M0 _ l1 W (mb0 _) (hl1.ext he) hd1 hx1)
  have CO2 := Lib.hid (fun W he => rp_Of M0 _ l2 W (mb0 _) (hl2.ext he) hd2 hx2)
  have CO3 := Lib.hid (fun W he => rp_Of M0 _ l3 W (mb0 _) (hl3.ext he) hd3 hx3)
  have HS1 := Lib.hid HS1
  have HS2 := Lib.hid HS2
  have HS3 := Lib.hid HS3
  clear hl1 hd1 hx1 hl2 hd2 hx2 hl3 hd3 hx3 HF1 HF2 HF3 HR1 HR2 HR3
  go_wp2_with (fail)
  refine (CO1.out _ HE1.out).mono ?_
  rintro e w2 ⟨x, rfl, hx, he2⟩
  have HE2 := Lib.hid (HE1.out.trans he2)
  go_wp2_with (fail)
  refine (CO2.out _ HE2.out).mono ?_
  rintro e w3 ⟨y, rfl, hy, he3⟩
  have HE3 := Lib.hid (HE2.out.trans he3)
  go_wp2_with (fail)
  refine (CO3.out _ HE3.out).mono ?_
  rintro e w4 ⟨z, rfl, hz, he4⟩
  have hb1 := Blk.of_arr w4 (peA x) 32 4 rfl
  have hb2 := Blk.of_arr (w4.alloc (.cells (peA x) 32)) (peA y) 32 4 rfl
  have hb3 := Blk.of_arr ((w4.alloc (.cells (peA x) 32)).alloc (.cells (peA y) 32)) (peA z) 32 4 rfl
  simp only [World.size_alloc] at hb2 hb3
  have hEa : Ext w4 (((w4.alloc (.cells (peA x) 32)).alloc (.cells (peA y) 32)).alloc (.cells (peA z) 32)) := (((Ext.refl w4).alloc _).alloc _).alloc _
  have HS0 : Hid (SF3 w4.heap.size (w4.heap.size + 1) (w4.heap.size + 1 + 1) x y z (((w4.alloc (.cells (peA x) 32)).alloc (.cells (peA y) 32)).alloc (.cells (peA z) 32))) := ⟨((hb1.alloc _).alloc _).p4, (hb2.alloc _).p4, hb3.p4⟩
  have HX := Lib.hid (((hx.ext he3).ext he4).ext hEa)
  have HY := Lib.hid ((hy.ext he4).ext hEa)
  have HZ := Lib.hid (hz.ext hEa)
  have HE := Lib.hid ((HE3.out.trans he4).trans hEa)
  clear hb1 hb2 hb3 hEa hx hy hz he2 he3 he4 CO1 CO2 CO3 HE1 HE2 HE3
  go_upto_region 6 with (fail)
  generalize ((w4.alloc (.cells (peA x) 32)).alloc (.cells (peA y) 32)).alloc (.cells (peA z) 32) = W at *
  have HNB : Hid (Deg 6 (pmul (norm l1) (norm l2)) ∧ dlen (nrm (pmul (norm l1) (norm l2))) ≤ 10) := ⟨(Deg.pmul HS1.out.deg HS2.out.deg HS1.out.nn).mono (by omega), by rw [nrm_pmul]; exact Nat.le_trans (dlen_mul _ _) (by have := HS1.out.dl; have := HS2.out.dl; omega)⟩
  have hnum : ∀ A G, A ≤ 100 → G ≤ 50 → A + qX 3 4 6 * (G + 2) ≤ 549755813888 := fun A G hA hG => Nat.le_trans (Nat.add_le_add hA (Nat.mul_le_mul_left _ (by omega))) law_num
  have HNU := Lib.hid hnum
  clear hnum
  go_cut [10, 11] (ECut (norm l2) (norm l1) W.drew)
  case first =>
    have hEd : Ext W W.drew := (Ext.refl W).drew
    have HS2' : Hid (SF3 w4.heap.size (w4.heap.size + 1) (w4.heap.size + 1 + 1) x y z W.drew) := HS0.out.ext hEd
    have hMd : Mb M0 W.drew := mb0 _
    have C2 : Hid (∀ (M' : Nat → Prop) (W' : World), Mb M' W' → (∀ g, M' g → M0 g ∨ W.drew.heap.size ≤ g) → Ext W.drew W' → Calls Tryz.prog 19 #[.agg (peA x), .agg (peA y)] W' (RetX M' W' 4 (pmul (norm l1) (norm l2)))) := fun M' W' h1 h2 h3 => rp_Mul M' x y _ _ 3 3 W' h1 (((HX.out.ext hEd).more h2).ext h3).pi (((HY.out.ext hEd).more h2).ext h3).pi (by have := HS1.out.dl; have := HS2.out.dl; omega) HS1.out.deg HS2.out.deg (by decide)
    have C4 : Hid (∀ (M' : Nat → Prop) (W' : World) (p : PE), Mb M' W' → (∀ g, M' g → M0 g ∨ W.drew.heap.size ≤ g) → Ext W.drew W' → CRx M' W' 4 p (pmul (norm l1) (norm l2)) → Calls Tryz.prog 18 #[.agg (peA p), .agg (peA y)] W' (fun e w' => ∃ (v : PE) (er : Int), e = .returned (.tuple #[.agg (peA v), .int .i64 er]) ∧ EP M' w' (norm l2) (norm l1) er v ∧ Ext W' w')) := fun M' W' p h1 h2 h3 h4 => (ps_Exact 3 5 M' _ _ p y 6 10 W' h1 h4.pi (((HY.out.ext hEd).more h2).ext h3).pi HNB.out.1 HS2.out.deg HNB.out.2 HS2.out.dl law_ok (HNU.out 10 5 (by omega) (by omega))).mono fun e w' hp => ex_prod HS1.out.nn HS2.out.nn hp
    refine wp_region_u (SF3 w4.heap.size (w4.heap.size + 1) (w4.heap.size + 1 + 1) x y z) 10 (by kernel_rfl) HS2'.out (fun hHeld => ?_)
    clear HX HY HZ HE HS0 HS2' hEd HNB HNU HS1 HS2 HS3
    generalize W.drew = wd at *
    (refine tkB [0, 1, 3] ?_; (iterate 3 (refine tk1 (oi := ?_) (v := ?_) (by kernel_rfl) (by first | exact hSn | exact hHeld) ?_ ?_ ?_ ?_ ?_; rotate_left 2; (simp only [List.getElem?_toArray, List.getElem?_cons_succ, List.getElem?_cons_zero]; rfl); rfl; (intro wS hSw; obtain ⟨⟨S1, S2, S3, S4⟩, ⟨S5, S6, S7, S8⟩, S9, S10, S11, S12⟩ := hSw; go_simp; try with_reducible rfl); (exact fun _ _ _ h => h); (try simp only [Act.put, List.setIfInBounds_toArray, List.set_cons_zero, List.set_cons_succ]))); refine tkE ?_)
    (refine wpAnyU_two 2 8 (oi := ?_) (oj := ?_) (by kernel_rfl) ?_ ?_ ?_ ?_; rotate_left 2; (simp only [List.getElem?_toArray, List.getElem?_cons_succ, List.getElem?_cons_zero]; rfl); (simp only [List.getElem?_toArray, List.getElem?_cons_succ, List.getElem?_cons_zero]; rfl); all_goals intro K hK)
    · go_simp
      refine (C2.out M0 wd (hMd.ext (Ext.refl wd)) (fun g hg => .inl hg) (Ext.refl wd)).mono ?_
      rintro e v1 ⟨p1, rfl, hp1, d1⟩
      go_wp2_with (fail)
      have e1 : Ext wd v1 := ((Ext.refl wd)).trans d1
      try clear hSn
      have hSn := hHeld.ext e1
      refine hK.out _ _ (fun _ => hSn) ?_
      clear hK K
      (try simp only [Act.put, List.setIfInBounds_toArray, List.set_cons_zero, List.set_cons_succ])
      (refine wpAnyU_two 4 8 (oi := ?_) (oj := ?_) (by kernel_rfl) ?_ ?_ ?_ ?_; rotate_left 2; (simp only [List.getElem?_toArray, List.getElem?_cons_succ, List.getElem?_cons_zero]; rfl); (simp only [List.getElem?_toArray, List.getElem?_cons_succ, List.getElem?_cons_zero]; rfl); all_goals intro K hK)
      · go_simp
        refine (C4.out M0 v1 p1 (hMd.ext e1) (fun g hg => .inl hg) e1 (hp1)).mono ?_
        rintro e v2 ⟨v, er, rfl, hv, d2⟩
        go_wp2_with (fail)
        have e2 : Ext wd v2 := (e1).trans d2
        try clear hSn
        have hSn := hHeld.ext e2
        refine hK.out _ _ (fun _ => hSn) ?_
        clear hK K
        (try simp only [Act.put, List.setIfInBounds_toArray, List.set_cons_zero, List.set_cons_succ])
        (refine tkB [5, 6, 7] ?_; (iterate 3 (refine tk1 (oi := ?_) (v := ?_) (by kernel_rfl) (by first | exact hSn | exact hHeld) ?_ ?_ ?_ ?_ ?_; rotate_left 2; (simp only [List.getElem?_toArray, List.getElem?_cons_succ, List.getElem?_cons_zero]; rfl); rfl; (intro wS hSw; obtain ⟨⟨S1, S2, S3, S4⟩, ⟨S5, S6, S7, S8⟩, S9, S10, S11, S12⟩ := hSw; go_simp; try with_reducible rfl); (exact fun _ _ _ h => h); (try simp only [Act.put, List.setIfInBounds_toArray, List.set_cons_zero, List.set_cons_succ]))); refine tkE ?_)
        (refine wpAnyU_one 8 (o := ?_) (by kernel_rfl) ?_ ?_; rotate_left 1; (simp only [List.getElem?_toArray, List.getElem?_cons_succ, List.getElem?_cons_zero]; rfl); intro K hK)
        go_simp
        have hSn2 := hSn.ext ((Ext.refl v2).alloc (.cells zA 32))
        have hSn3 := hSn.ext ((Ext.refl v2).alloc (.cells (peA v) 32))
        clear hSn
        refine hK.out _ _ (fun _ => hSn2) ?_
        clear hK K
        (try simp only [Act.put, List.setIfInBounds_toArray, List.set_cons_zero, List.set_cons_succ])
        (refine wpAnyU_one 9 (o := ?_) (by kernel_rfl) ?_ ?_; rotate_left 1; (simp only [List.getElem?_toArray, List.getElem?_cons_succ, List.getElem?_cons_zero]; rfl); intro K hK)
        go_simp
        refine hK.out _ _ (fun _ => hSn3) ?_
        clear hK K
        (try simp only [Act.put, List.setIfInBounds_toArray, List.set_cons_zero, List.set_cons_succ])
        ((refine wpAnyU_one 10 (o := ?_) (by kernel_rfl) ?_ ?_; rotate_left 1; (simp only [List.getElem?_toArray, List.getElem?_cons_succ, List.getElem?_cons_zero]; rfl); intro K hK); go_simp; (refine hK.out _ _ (fun h => absurd rfl h) ?_); clear hK K; refine wpAnyU_done (by kernel_rfl) ?_ _)
        go_wp2_with (fail)
        go_meet
        exact ⟨v2.heap.size, v, er, rfl, rfl, (Blk.of_arr v2 (peA v) 32 4 rfl).p4, hv.ext ((Ext.refl v2).alloc _), (e2).alloc _⟩
      · go_simp
        have ea2 : Ext v1 (v1.alloc (.cells zA 32)) := (Ext.refl _).alloc _
        have hb2 := Blk.of_arr v1 zA 32 4 rfl
        have e2 : Ext wd (v1.alloc (.cells zA 32)) := (e1).trans ea2
        try clear hSn
        have hSn := hHeld.ext e2
        refine hK.out _ _ (fun _ => hSn) ?_
        clear hK K
        (try simp only [Act.put, List.setIfInBounds_toArray, List.set_cons_zero, List.set_cons_succ])
        (refine wpAnyU_one 4 (o := ?_) (by kernel_rfl) ?_ ?_; rotate_left 1; (simp only [List.getElem?_toArray, List.getElem?_cons_succ, List.getElem?_cons_zero]; rfl); intro K hK)
        go_simp
        refine (C4.out (fun g => M0 g ∨ g = v1.heap.size) (v1.alloc (.cells zA 32)) p1 ((mb_or (hMd.ext e1) (.cells zA 32)).ext (Ext.refl (v1.alloc (.cells zA 32)))) (fun g hg => hg.imp id fun h => by rw [h]; exact e1.size) e2 (((hp1).more (M' := fun g => M0 g ∨ g = v1.heap.size) (fun g hg => hg.imp id fun (h : g = v1.heap.size) => Nat.le_of_eq h.symm)).ext ea2)).mono ?_
        rintro e v3 ⟨v, er, rfl, hv, d3⟩
        go_wp2_with (fail)
        have e3 : Ext wd v3 := (e2).trans d3
        have hb3 := (hb2).ext d3
        try clear hSn
        have hSn := hHeld.ext e3
        refine hK.out _ _ (fun _ => hSn) ?_
        clear hK K
        (try simp only [Act.put, List.setIfInBounds_toArray, List.set_cons_zero, List.set_cons_succ])
        (refine tkB [5, 6, 7] ?_; (iterate 3 (refine tk1 (oi := ?_) (v := ?_) (by kernel_rfl) (by first | exact hSn | exact hHeld) ?_ ?_ ?_ ?_ ?_; rotate_left 2; (simp only [List.getElem?_toArray, List.getElem?_cons_succ, List.getElem?_cons_zero]; rfl); rfl; (intro wS hSw; obtain ⟨⟨S1, S2, S3, S4⟩, ⟨S5, S6, S7, S8⟩, S9, S10, S11, S12⟩ := hSw; go_simp; try with_reducible rfl); (exact fun _ _ _ h => h); (try simp only [Act.put, List.setIfInBounds_toArray, List.set_cons_zero, List.set_cons_succ]))); refine tkE ?_)
        obtain ⟨⟨q0, q1, q2, q3⟩, ⟨f0, f1, f2, f3⟩, hrr, hkp, hext⟩ := fin4 (M' := fun g => M0 g ∨ g = v1.heap.size) (w := wd) (.int .i64 v.lv) (.bool v.b) (.slice v.a v.n v.p) (.slice v.ka v.kn v.kp) (hb3) (.inr rfl) (e1).size (e3)
        simp only [arr] at q0 q1 q2 q3
        (refine wpAnyU_one 9 (o := ?_) (by kernel_rfl) ?_ ?_; rotate_left 1; (simp only [List.getElem?_toArray, List.getElem?_cons_succ, List.getElem?_cons_zero]; rfl); intro K hK)
        go_simp
        have hSn3 := hHeld.ext hext
        clear hSn
        refine hK.out _ _ (fun _ => hSn3) ?_
        clear hK K
        (try simp only [Act.put, List.setIfInBounds_toArray, List.set_cons_zero, List.set_cons_succ])
        ((refine wpAnyU_one 10 (o := ?_) (by kernel_rfl) ?_ ?_; rotate_left 1; (simp only [List.getElem?_toArray, List.getElem?_cons_succ, List.getElem?_cons_zero]; rfl); intro K hK); go_simp; (refine hK.out _ _ (fun h => absurd rfl h) ?_); clear hK K; refine wpAnyU_done (by kernel_rfl) ?_ _)
        go_wp2_with (fail)
        go_meet
        exact ⟨v1.heap.size, v, er, rfl, rfl, hrr, (hv.kp hkp).more (fun g hg => .inl (.inl hg)), hext⟩
    · go_simp
      have ea1 : Ext wd (wd.alloc (.cells zA 32)) := (Ext.refl _).alloc _
      have hb1 := Blk.of_arr wd zA 32 4 rfl
      have e1 : Ext wd (wd.alloc (.cells zA 32)) := ((Ext.refl wd)).trans ea1
      try clear hSn
      have hSn := hHeld.ext e1
      refine hK.out _ _ (fun _ => hSn) ?_
      clear hK K
      (try simp only [Act.put, List.setIfInBounds_toArray, List.set_cons_zero, List.set_cons_succ])
      (refine wpAnyU_one 2 (o := ?_) (by kernel_rfl) ?_ ?_; rotate_left 1; (simp only [List.getElem?_toArray, List.getElem?_cons_succ, List.getElem?_cons_zero]; rfl); intro K hK)
      go_simp
      refine (C2.out (fun g => M0 g ∨ g = wd.heap.size) (wd.alloc (.cells zA 32)) ((mb_or (hMd.ext (Ext.refl wd)) (.cells zA 32)).ext (Ext.refl (wd.alloc (.cells zA 32)))) (fun g hg => hg.imp id fun h => by rw [h]; exact (Ext.refl wd).size) e1).mono ?_
      rintro e v2 ⟨p1, rfl, hp1, d2⟩
      go_wp2_with (fail)
      have e2 : Ext wd v2 := (e1).trans d2
      have hb2 := (hb1).ext d2
      try clear hSn
      have hSn := hHeld.ext e2
      refine hK.out _ _ (fun _ => hSn) ?_
      clear hK K
      (try simp only [Act.put, List.setIfInBounds_toArray, List.set_cons_zero, List.set_cons_succ])
      (refine wpAnyU_one 4 (o := ?_) (by kernel_rfl) ?_ ?_; rotate_left 1; (simp only [List.getElem?_toArray, List.getElem?_cons_succ, List.getElem?_cons_zero]; rfl); intro K hK)
      go_simp
      refine (C4.out (fun g => M0 g ∨ g = wd.heap.size) v2 p1 ((mb_or (hMd.ext (Ext.refl wd)) (.cells zA 32)).ext (((Ext.refl (wd.alloc (.cells zA 32)))).trans d2)) (fun g hg => hg.imp id fun h => by rw [h]; exact (Ext.refl wd).size) e2 (hp1)).mono ?_
      rintro e v3 ⟨v, er, rfl, hv, d3⟩
      go_wp2_with (fail)
      have e3 : Ext wd v3 := (e2).trans d3
      have hb3 := (hb2).ext d3
      try clear hSn
      have hSn := hHeld.ext e3
      refine hK.out _ _ (fun _ => hSn) ?_
      clear hK K
      (try simp only [Act.put, List.setIfInBounds_toArray, List.set_cons_zero, List.set_cons_succ])
      (refine tkB [5, 6, 7] ?_; (iterate 3 (refine tk1 (oi := ?_) (v := ?_) (by kernel_rfl) (by first | exact hSn | exact hHeld) ?_ ?_ ?_ ?_ ?_; rotate_left 2; (simp only [List.getElem?_toArray, List.getElem?_cons_succ, List.getElem?_cons_zero]; rfl); rfl; (intro wS hSw; obtain ⟨⟨S1, S2, S3, S4⟩, ⟨S5, S6, S7, S8⟩, S9, S10, S11, S12⟩ := hSw; go_simp; try with_reducible rfl); (exact fun _ _ _ h => h); (try simp only [Act.put, List.setIfInBounds_toArray, List.set_cons_zero, List.set_cons_succ]))); refine tkE ?_)
      obtain ⟨⟨q0, q1, q2, q3⟩, ⟨f0, f1, f2, f3⟩, hrr, hkp, hext⟩ := fin4 (M' := fun g => M0 g ∨ g = wd.heap.size) (w := wd) (.int .i64 v.lv) (.bool v.b) (.slice v.a v.n v.p) (.slice v.ka v.kn v.kp) (hb3) (.inr rfl) ((Ext.refl wd)).size (e3)
      simp only [arr] at q0 q1 q2 q3
      (refine wpAnyU_one 9 (o := ?_) (by kernel_rfl) ?_ ?_; rotate_left 1; (simp only [List.getElem?_toArray, List.getElem?_cons_succ, List.getElem?_cons_zero]; rfl); intro K hK)
      go_simp
      have hSn3 := hHeld.ext hext
      clear hSn
      refine hK.out _ _ (fun _ => hSn3) ?_
      clear hK K
      (try simp only [Act.put, List.setIfInBounds_toArray, List.set_cons_zero, List.set_cons_succ])
      ((refine wpAnyU_one 10 (o := ?_) (by kernel_rfl) ?_ ?_; rotate_left 1; (simp only [List.getElem?_toArray, List.getElem?_cons_succ, List.getElem?_cons_zero]; rfl); intro K hK); go_simp; (refine hK.out _ _ (fun h => absurd rfl h) ?_); clear hK K; refine wpAnyU_done (by kernel_rfl) ?_ _)
      go_wp2_with (fail)
      go_meet
      exact ⟨wd.heap.size, v, er, rfl, rfl, hrr, (hv.kp hkp).more (fun g hg => .inl (.inl hg)), hext⟩
  case rest =>
    obtain ⟨g10, v1, er1, rfl, rfl, hv1, hep, heC⟩ := hcut
    have he5 : Ext W wc := (Ext.refl W).drew.trans heC
    have HX5 := Lib.hid (HX.out.ext he5)
    have HY5 := Lib.hid (HY.out.ext he5)
    have HZ5 := Lib.hid (HZ.out.ext he5)
    have HE5 := Lib.hid (HE.out.trans he5)
    have HP5 := Lib.hid (HS0.out.ext he5)
    have HV5 := Lib.hid hv1
    have HQ5 := Lib.hid hep
    have CE2 := Lib.hid (ps_Exact 3 5 M0 (norm l3) (norm l2) z y 6 10 wc (mb0 _) HZ5.out.pi HY5.out.pi (HS3.out.deg.mono (by omega)) HS2.out.deg (Nat.le_trans HS3.out.dl (by omega)) HS2.out.dl law_ok (HNU.out 10 5 (by omega) (by omega)))
    clear hv1 hep heC he5 HX HY HZ HE HS0
    obtain ⟨⟨x0, x1, x2, x3⟩, ⟨y0, y1, y2, y3⟩, z0, z1, z2, z3⟩ := HP5.out
    go_wp2_with (fail)
    refine CE2.out.mono ?_
    rintro e w6 ⟨v2, er2, rfl, hq2, he6⟩
    have hEb := (Ext.refl w6).alloc (.cells (peA v2) 32)
    have hE6 := he6.trans hEb
    have HX6 := Lib.hid (HX5.out.ext hE6)
    have HY6 := Lib.hid (HY5.out.ext hE6)
    have HZ6 := Lib.hid (HZ5.out.ext hE6)
    have HE6 := Lib.hid (HE5.out.trans hE6)
    have HP6 := Lib.hid (HP5.out.ext hE6)
    have HV6 := Lib.hid (HV5.out.ext hE6)
    have HQ6 := Lib.hid (HQ5.out.ext hE6)
    have HB6 : Hid (P4 (w6.alloc (.cells (peA v2) 32)) w6.heap.size v2) := (Blk.of_arr w6 (peA v2) 32 4 rfl).p4
    have HR6 : Hid ((er2 = 2 ∧ Sim (norm l2) [] ∧ v2 = PE.z) ∨ (er2 = 0 ∧ ¬ Sim (norm l2) [] ∧ ∃ q, CRx M0 (w6.alloc (.cells (peA v2) 32)) 4 v2 q ∧ Sim (pmul q (norm l2)) (norm l3) ∧ dlen (nrm q) ≤ 10 + qX 3 4 6 * (5 + 2)) ∨ (er2 = 3 ∧ v2 = PE.z ∧ ¬ Sim (norm l2) [] ∧ ¬ Dv (norm l2) (norm l3))) := by
      rcases hq2 with h | ⟨h1, h2, q, h3, h4, h5⟩ | h
      · exact .inl h
      · exact .inr (.inl ⟨h1, h2, q, h3.ext hEb, h4, h5⟩)
      · exact .inr (.inr h)
    clear hq2 he6 hEb hE6 CE2 HX5 HY5 HZ5 HE5 HP5 HV5 HQ5 x0 x1 x2 x3 y0 y1 y2 y3 z0 z1 z2 z3
    go_upto_region 8 with (fail)
    generalize hs12 : w6.heap.size = g12 at *
    generalize w6.alloc (.cells (peA v2) 32) = W7 at *
    clear hs12
    obtain ⟨⟨x0, x1, x2, x3⟩, ⟨y0, y1, y2, y3⟩, z0, z1, z2, z3⟩ := HP6.out
    have CZ := Lib.hid (rp_IsZero M0 y (norm l2) W7 (mb0 _) HY6.out.pi)
    go_wp2_with (fail)
    refine CZ.out.mono ?_
    rintro e w8 ⟨bz, rfl, hbz, he8⟩
    have HX8 := Lib.hid (HX6.out.ext he8)
    have HY8 := Lib.hid (HY6.out.ext he8)
    have HZ8 := Lib.hid (HZ6.out.ext he8)
    have HE8 := Lib.hid (HE6.out.trans he8)
    have HP8 := Lib.hid (HP6.out.ext he8)
    have HV8 := Lib.hid (HV6.out.ext he8)
    have HQ8 := Lib.hid (HQ6.out.ext he8)
    have HB8 := Lib.hid (HB6.out.ext he8)
    have HBZ := Lib.hid hbz
    have HR8 : Hid ((er2 = 2 ∧ Sim (norm l2) [] ∧ v2 = PE.z) ∨ (er2 = 0 ∧ ¬ Sim (norm l2) [] ∧ ∃ q, CRx M0 w8 4 v2 q ∧ Sim (pmul q (norm l2)) (norm l3) ∧ dlen (nrm q) ≤ 10 + qX 3 4 6 * (5 + 2)) ∨ (er2 = 3 ∧ v2 = PE.z ∧ ¬ Sim (norm l2) [] ∧ ¬ Dv (norm l2) (norm l3))) := by
      rcases HR6.out with h | ⟨h1, h2, q, h3, h4, h5⟩ | h
      · exact .inl h
      · exact .inr (.inl ⟨h1, h2, q, h3.ext he8, h4, h5⟩)
      · exact .inr (.inr h)
    clear hbz he8 CZ HX6 HY6 HZ6 HE6 HP6 HV6 HQ6 HB6 HR6 x0 x1 x2 x3 y0 y1 y2 y3 z0 z1 z2 z3
    obtain ⟨⟨x0, x1, x2, x3⟩, ⟨y0, y1, y2, y3⟩, z0, z1, z2, z3⟩ := HP8.out
    obtain ⟨v10, v11, v12, v13⟩ := HV8.out
    obtain ⟨u0, u1, u2, u3⟩ := HB8.out
    cases bz with
    | true =>
      have HZR : Hid (Sim (norm l2) []) := HBZ.out.1 rfl
      obtain ⟨rfl, rfl⟩ : er1 = 2 ∧ v1 = PE.z := by
        rcases HQ8.out with ⟨h1, _, h2⟩ | ⟨_, h1, _⟩
        · exact ⟨h1, h2⟩
        · exact absurd HZR.out h1
      obtain ⟨rfl, rfl⟩ : er2 = 2 ∧ v2 = PE.z := by
        rcases HR8.out with ⟨h1, _, h2⟩ | ⟨_, h1, _⟩ | ⟨_, _, h1, _⟩
        · exact ⟨h1, h2⟩
        · exact absurd HZR.out h1
        · exact absurd HZR.out h1
      simp only [PE.z] at v10 v11 v12 v13 u0 u1 u2 u3
      have CZ1 := Lib.hid (fun W => rp_IsZero M0 PE.z [] W (mb0 _) (CRx.pi (L := 4) (CR.zero M0 W 4)))
      clear HQ8 HR8 HBZ HX8 HY8 HZ8 HP8 HNB HNU HS1 HS2 HS3 HZR x0 x1 x2 x3 y0 y1 y2 y3 z0 z1 z2 z3
      go_wp2_with (fail)
      refine (CZ1.out w8).mono ?_
      rintro e w9 ⟨b9, rfl, hb9, he9⟩
      obtain rfl : b9 = true := hb9.2 (Sim.refl _)
      clear hb9
      obtain ⟨u0, u1, u2, u3⟩ := HB8.out.ext he9
      simp only [PE.z] at u0 u1 u2 u3
      have HE9 := Lib.hid (HE8.out.trans he9)
      clear he9 HB8 HV8 HE8 v10 v11 v12 v13
      go_wp2_with (fail)
      refine (CZ1.out w9).mono ?_
      rintro e w10 ⟨b10, rfl, hb10, he10⟩
      obtain rfl : b10 = true := hb10.2 (Sim.refl _)
      clear hb10
      have HF := Lib.hid (HE9.out.trans he10)
      clear he10 HE9 CZ1 u0 u1 u2 u3
      go_wp2
      go_ret
      exact ⟨rfl, HF.out⟩
    | false =>
      have HZR : Hid (¬ Sim (norm l2) []) := fun hh => by have := HBZ.out.2 hh; cases this
      have hq8 : er1 = 0 ∧ CRx M0 w8 4 v1 (norm l1) := by
        rcases HQ8.out with ⟨_, h1, _⟩ | ⟨h1, _, h2⟩
        · exact absurd h1 HZR.out
        · exact ⟨h1, h2⟩
      obtain ⟨rfl, hv18⟩ := hq8
      have HV18 := Lib.hid hv18
      obtain ⟨lq, hlq⟩ : ∃ lq, CRx M0 w8 4 v2 lq := by
        rcases HR8.out with ⟨_, h1, _⟩ | ⟨_, _, q, h1, _⟩ | ⟨_, h1, _⟩
        · exact absurd h1 HZR.out
        · exact ⟨q, h1⟩
        · exact ⟨[], by rw [h1]; exact CR.zero _ _ 4⟩
      have HLQ := Lib.hid hlq
      have CS := Lib.hid (rp_Same M0 v1 x (norm l1) (norm l1) w8 (mb0 _) hv18.pi HX8.out.pi)
      clear hv18 hlq HQ8 HBZ
      go_wp2_with (fail)
      refine CS.out.mono ?_
      rintro e w9 ⟨b9, rfl, hb9, he9⟩
      obtain rfl : b9 = true := hb9.2 (Sim.refl _)
      have HV9 := Lib.hid he9
      have CC1 := Lib.hid (law_canonical24 M0 (norm l1) v1 w9 (HV18.out.ext he9))
      clear hb9 CS v10 v11 v12 v13
      obtain ⟨v10, v11, v12, v13⟩ := HV8.out.ext he9
      clear he9
      go_wp2_with (fail)
      refine CC1.out.mono ?_
      rintro e w10 ⟨rfl, he10⟩
      have HV10 := Lib.hid (HV9.out.trans he10)
      have CC2 := Lib.hid (law_canonical24 M0 lq v2 w10 (HLQ.out.ext HV10.out))
      clear u0 u1 u2 u3 CC1 he10 HV9
      obtain ⟨u0, u1, u2, u3⟩ := HB8.out.ext HV10.out
      go_wp2_with (fail)
      refine CC2.out.mono ?_
      rintro e w11 ⟨rfl, he11⟩
      have HV11 := Lib.hid (HV10.out.trans he11)
      clear CC2 he11 HV10 HLQ HV18 HV8 HX8 x0 x1 x2 x3 y0 y1 y2 y3 z0 z1 z2 z3 v10 v11 v12 v13 u0 u1 u2 u3
      rcases HR8.out with ⟨_, h1, _⟩ | ⟨rfl, _, q, hq1, hq2, hq3⟩ | ⟨rfl, rfl, _, hnd⟩
      · exact absurd h1 HZR.out
      · have HQ1 := Lib.hid hq1
        have HQ2 := Lib.hid hq2
        have HQ3 := Lib.hid hq3
        clear hq1 hq2 hq3 HR8
        have HS13 : Hid (SF3 g12 (w4.heap.size + 1) (w4.heap.size + 1 + 1) v2 y z w11.drew) := SF3.ext ⟨HB8.out, HP8.out.2.1, HP8.out.2.2⟩ (HV11.out.trans (Ext.refl w11).drew)
        have HQ13 := Lib.hid (HQ1.out.ext (HV11.out.trans (Ext.refl w11).drew))
        have HY13 := Lib.hid (HY8.out.ext (HV11.out.trans (Ext.refl w11).drew))
        have HZ13 := Lib.hid (HZ8.out.ext (HV11.out.trans (Ext.refl w11).drew))
        have HE13 := Lib.hid (HE8.out.trans (HV11.out.trans (Ext.refl w11).drew))
        have HQD : Hid (Deg 3 q) := deg_factor HQ1.out.nn HS2.out.nn HZR.out HQ2.out HS3.out.deg
        have HQL : Hid (dlen (nrm q) + dlen (nrm (norm l2)) ≤ 1099511627776) := by
          have h1 := HNU.out 10 5 (by omega) (by omega)
          have h2 := HQ3.out
          have h3 := HS2.out.dl
          show _ ≤ _
          omega
        have HDV : Hid (Dv (snorm (norm l2)) (norm l3)) := dv_snorm HS2.out.nn ⟨q, HQ1.out.nn, HQ2.out⟩
        have HSD : Hid (Deg 3 (snorm (norm l2))) := snorm_deg HS2.out.nn HZR.out HS2.out.deg
        have HSL : Hid (dlen (nrm (snorm (norm l2))) ≤ 5) := Nat.le_trans (dlen_mono (Nat.le_trans (snorm_nrm _) (norm_nrm l2 |> fun _ => Nat.le_refl _))) HS2.out.dl
        have hnz := snorm_ne HS2.out.nn HZR.out
        have HNZ := Lib.hid hnz
        clear hnz HB8 HP8 HQ1 HY8 HZ8 HE8 HV11
        go_upto_region 13 with (fail)
        refine wp_region_u (SF3 g12 (w4.heap.size + 1) (w4.heap.size + 1 + 1) v2 y z) 10 (by kernel_rfl) HS13.out (fun hHeld => ?_)
        clear HS13
        generalize w11.drew = wd at *
        (refine tkB [0, 1, 3] ?_; (iterate 3 (refine tk1 (oi := ?_) (v := ?_) (by kernel_rfl) (by first | exact hSn | exact hHeld) ?_ ?_ ?_ ?_ ?_; rotate_left 2; (simp only [List.getElem?_toArray, List.getElem?_cons_succ, List.getElem?_cons_zero]; rfl); rfl; (intro wS hSw; obtain ⟨⟨S1, S2, S3, S4⟩, ⟨S5, S6, S7, S8⟩, S9, S10, S11, S12⟩ := hSw; go_simp; try with_reducible rfl); (exact fun _ _ _ h => h); (try simp only [Act.put, List.setIfInBounds_toArray, List.set_cons_zero, List.set_cons_succ]))); refine tkE ?_)
        ((refine wpAnyU_one 2 (o := ?_) (by kernel_rfl) ?_ ?_; rotate_left 1; (simp only [List.getElem?_toArray, List.getElem?_cons_succ, List.getElem?_cons_zero]; rfl); intro K hK); go_simp; (refine (rp_Mul M0 v2 y q (norm l2) 3 3 wd (mb0 _) HQ13.out.pi HY13.out.pi HQL.out HQD.out HS2.out.deg (by decide)).mono ?_); rintro e_ wz ⟨m2, rfl, hm2, hc2⟩; go_wp2_with (fail); (try clear hSn); (have hSn := hHeld.ext hc2); (refine hK.out _ _ (fun _ => hSn) ?_); clear hK K; (try simp only [Act.put, List.setIfInBounds_toArray, List.set_cons_zero, List.set_cons_succ]))
        ((refine wpAnyU_one 4 (o := ?_) (by kernel_rfl) ?_ ?_; rotate_left 1; (simp only [List.getElem?_toArray, List.getElem?_cons_succ, List.getElem?_cons_zero]; rfl); intro K hK); go_simp; (refine (rp_Same M0 m2 z (pmul q (norm l2)) (norm l3) _ (mb0 _) hm2.pi (HZ13.out.ext hc2).pi).mono ?_); rintro e_ wz ⟨b4, rfl, hb4, hc4⟩; go_wp2_with (fail); (try clear hSn); (have hSn := hHeld.ext (hc2.trans hc4)); (refine hK.out _ _ (fun _ => hSn) ?_); clear hK K; (try simp only [Act.put, List.setIfInBounds_toArray, List.set_cons_zero, List.set_cons_succ]))
        obtain rfl : b4 = true := hb4.2 HQ2.out
        clear hb4
        (refine tkB [5, 6, 7] ?_; (iterate 3 (refine tk1 (oi := ?_) (v := ?_) (by kernel_rfl) (by first | exact hSn | exact hHeld) ?_ ?_ ?_ ?_ ?_; rotate_left 2; (simp only [List.getElem?_toArray, List.getElem?_cons_succ, List.getElem?_cons_zero]; rfl); rfl; (intro wS hSw; obtain ⟨⟨S1, S2, S3, S4⟩, ⟨S5, S6, S7, S8⟩, S9, S10, S11, S12⟩ := hSw; go_simp; (try simp only [List.getElem?_cons_zero, List.getElem?_cons_succ, Option.getD_some, Sem.run_pure, Result.andThen_ok, if_true]); try with_reducible rfl); (exact fun _ _ _ h => h); (try simp only [Act.put, List.setIfInBounds_toArray, List.set_cons_zero, List.set_cons_succ]))); refine tkE ?_)
        ((refine wpAnyU_one 8 (o := ?_) (by kernel_rfl) ?_ ?_; rotate_left 1; (simp only [List.getElem?_toArray, List.getElem?_cons_succ, List.getElem?_cons_zero]; rfl); intro K hK); go_simp; (refine (ps_Divides 3 5 M0 (norm l3) (norm l2) (snorm (norm l2)) y z 6 10 _ (mb0 _) (HY13.out.ext (hc2.trans hc4)).pi (HZ13.out.ext (hc2.trans hc4)).pi (sn_ctr (HY13.out.ext (hc2.trans hc4)) HS2.out.deg HS2.out.dl) (fun _ => HNZ.out) (HS3.out.deg.mono (by omega)) HSD.out (Nat.le_trans HS3.out.dl (by omega)) HSL.out law_ok (HNU.out 10 5 (by omega) (by omega))).mono ?_); rintro e_ wz ⟨b8, rfl, _, hb8, hc8⟩; go_wp2_with (fail); (try clear hSn); (have hSn := hHeld.ext ((hc2.trans hc4).trans hc8)); (refine hK.out _ _ (fun _ => hSn) ?_); clear hK K; (try simp only [Act.put, List.setIfInBounds_toArray, List.set_cons_zero, List.set_cons_succ]))
        obtain rfl : b8 = true := (hb8 HZR.out).2 HDV.out
        clear hb8
        (refine tkB [9] ?_; (iterate 1 (refine tk1 (oi := ?_) (v := ?_) (by kernel_rfl) (by first | exact hSn | exact hHeld) ?_ ?_ ?_ ?_ ?_; rotate_left 2; (simp only [List.getElem?_toArray, List.getElem?_cons_succ, List.getElem?_cons_zero]; rfl); rfl; (intro wS hSw; obtain ⟨⟨S1, S2, S3, S4⟩, ⟨S5, S6, S7, S8⟩, S9, S10, S11, S12⟩ := hSw; go_simp; (try simp only [List.getElem?_cons_zero, List.getElem?_cons_succ, Option.getD_some, Sem.run_pure, Result.andThen_ok, if_true]); try with_reducible rfl); (exact fun _ _ _ h => h); (try simp only [Act.put, List.setIfInBounds_toArray, List.set_cons_zero, List.set_cons_succ]))); refine tkE ?_)
        ((refine wpAnyU_one 10 (o := ?_) (by kernel_rfl) ?_ ?_; rotate_left 1; (simp only [List.getElem?_toArray, List.getElem?_cons_succ, List.getElem?_cons_zero]; rfl); intro K hK); go_simp; (refine hK.out _ _ (fun h => absurd rfl h) ?_); clear hK K; refine wpAnyU_done (by kernel_rfl) ?_ _)
        have HF := Lib.hid (HE13.out.trans ((hc2.trans hc4).trans hc8))
        clear hc2 hc4 hc8 hHeld hSn hm2 HQ13 HY13 HZ13 HE13
        go_wp2
        go_ret
        exact ⟨rfl, HF.out⟩
      · have HND := Lib.hid hnd
        clear hnd HR8
        have HLZ : Hid (¬ Sim (norm l3) []) := fun hh => HND.out ⟨[], NN.nil, hh.symm⟩
        obtain ⟨u0, u1, u2, u3⟩ := HB8.out.ext HV11.out
        simp only [PE.z] at u0 u1 u2 u3
        have CZ1 := Lib.hid (rp_IsZero M0 PE.z [] w11 (mb0 _) (CRx.pi (L := 4) (CR.zero M0 w11 4)))
        go_wp2_with (fail)
        refine CZ1.out.mono ?_
        rintro e w12 ⟨b12, rfl, hb12, he12⟩
        obtain rfl : b12 = true := hb12.2 (Sim.refl _)
        clear hb12
        have HV12 := Lib.hid (HV11.out.trans he12)
        obtain ⟨_, _, z0, z1, z2, z3⟩ := HP8.out.ext HV12.out
        have CZ2 := Lib.hid (rp_IsZero M0 z (norm l3) w12 (mb0 _) (HZ8.out.ext HV12.out).pi)
        clear he12 CZ1 u0 u1 u2 u3
        go_wp2_with (fail)
        refine CZ2.out.mono ?_
        rintro e w13 ⟨b13, rfl, hb13, he13⟩
        obtain rfl : b13 = false := by
          cases b13 with
          | false => rfl
          | true => exact absurd (hb13.1 rfl) HLZ.out
        have HF := Lib.hid ((HE8.out.trans HV12.out).trans he13)
        clear hb13 he13 CZ2 HV12 HV11 HLZ HND z0 z1 z2 z3
        go_wp2
        go_ret
        exact ⟨rfl, HF.out⟩
end Go.Proofs.YtodjlgkamokakaaGreat
