/- PseudoDivides: the arguments and the walk. -/
import Derived.Test.YtodjlgkamokakaaGreatCc
set_option linter.unusedVariables false
set_option linter.unusedSimpArgs false

namespace Go.Proofs.YtodjlgkamokakaaGreat
open Go.ChangeShapes Go.WideShapes Go.ChangeAt Go.RowKit Go.Deep

section
variable {H : Type} {enc : TypeId × Value → H} {W : World}
set_option linter.constructorNameAsVariable false in
set_option maxRecDepth 10000 in
theorem open_ints2 {base : Nat} {v : Value} {d : DataW H} {ps : List MemPlace} (hv : Value.okWide Tryz.prog W .any base 41 v) (h : DataW.Trod enc Tryz.prog W 0 (fun _ => true) true 41 v d ps) : ∃ x y : I4, v = .agg #[.bool x.b, .slice x.a x.n x.p, .bool y.b, .slice y.a y.n y.p] ∧ IRaw W x.a x.n x.p ∧ IRaw W y.a y.n y.p := by
  obtain ⟨fuel, h⟩ := h
  have hu := Tryz.underlying41
  unfold Value.okWide at hv
  rw [hu] at hv
  obtain ⟨cs, rfl, hcs, _⟩ := hv
  rw [show Tryz.prog.cellsOf 41 = 4 by kernel_rfl] at hcs
  obtain ⟨v0, v1, v2, v3, rfl⟩ : ∃ v0 v1 v2 v3, cs = #[v0, v1, v2, v3] := by
    obtain ⟨l⟩ := cs
    match l, hcs with
    | [v0, v1, v2, v3], _ => exact ⟨v0, v1, v2, v3, rfl⟩
  have h' : DataW.trod enc Tryz.prog W 0 (fun _ => true) true fuel 41 [v0, v1, v2, v3] = some (d, ps) := h
  obtain ⟨xs, q, _, _, _, hxl, hx⟩ := DataW.trod_array hu h'
  have hce : Tryz.prog.cellsOf 29 = 2 := by kernel_rfl
  rw [hce] at hx
  have key : ∀ i, i < 2 → ∃ y, DataW.trod enc Tryz.prog W 0 (fun _ => true) true q 29 (([v0, v1, v2, v3].drop (i * 2)).take 2) = some y := fun i hi => by
    rw [hx i hi, List.getElem?_eq_getElem (by omega)]; exact ⟨_, rfl⟩
  obtain ⟨y0, e0⟩ := key 0 (by omega)
  obtain ⟨y1, e1⟩ := key 1 (by omega)
  obtain ⟨b, a, n, c, rfl, rfl, h1, h2⟩ := open_int (v0 := v0) (v1 := v1) e0
  obtain ⟨b', a', n', c', rfl, rfl, h1', h2'⟩ := open_int (v0 := v2) (v1 := v3) e1
  exact ⟨⟨b, a, n, c⟩, ⟨b', a', n', c'⟩, rfl, ⟨h1, h2⟩, ⟨h1', h2'⟩⟩
end
theorem IRaw.val {W : World} {x : I4} (h : IRaw W x.a x.n x.p) {k : Nat} (hk : x.n ≤ k) (hL : k ≤ 1099511627776) : ∃ z : Int, IntV M0 W (.bool x.b) (.slice x.a x.n x.p) z ∧ dlen z.natAbs ≤ k := by
  obtain ⟨d, hd⟩ := h.2 (by omega)
  refine ⟨sgn x.b (nv d x.n), ⟨x.b, nv d x.n, rfl, ⟨_, d, hd, rfl⟩, rfl⟩, ?_⟩
  rw [sgn_natAbs, dlen_le_iff]
  exact Nat.lt_of_lt_of_le (nv_lt d _ hd.2.1) (Nat.pow_le_pow_right (by omega) hk)
theorem snB_ctr {M : Nat → Prop} {w : World} {x : PE} {l : List Tm} {L : Nat} (hx : CRx M w L x l) (hL4 : L ≤ 4) (hB : Deg 3 l) (hL : dlen (nrm l) ≤ 1000) (M' : Nat → Prop) (W' : World) (h1 : Mb M' W') (h2 : ∀ g, M' g → M g ∨ w.heap.size ≤ g) (h3 : Ext w W') : Calls Tryz.prog 35 #[.agg (peA x)] W' (RetX M' W' 4 (snorm l)) := by
  obtain ⟨t, hR, hT, hS, hN⟩ := (hx.up hL4).tbN (B := 3) (Nat.le_refl _) (by omega) hB (by decide)
  rw [← hS.snorm]
  refine mv_snorm M' (4 + 1) t x W' h1 (RR.ext (RR.more h2 hR) h3) hT ?_
  have h5 := dlen_mono hN
  omega
def CC (g : Nat) (x y : I4) (w : World) : Prop := (w.cell? ⟨g, 0, none⟩ = some (.bool x.b) ∧ w.cell? ⟨g, 1, none⟩ = some (.slice x.a x.n x.p)) ∧ w.cell? ⟨g, 2, none⟩ = some (.bool y.b) ∧ w.cell? ⟨g, 3, none⟩ = some (.slice y.a y.n y.p)
theorem CC.ext {g : Nat} {x y : I4} {w w' : World} (h : CC g x y w) (hg : g < w.heap.size) (he : Ext w w') : CC g x y w' := ⟨⟨by rw [he.cell hg]; exact h.1.1, by rw [he.cell hg]; exact h.1.2⟩, by rw [he.cell hg]; exact h.2.1, by rw [he.cell hg]; exact h.2.2⟩
def SDv (g g1 g2 : Nat) (u0 u1 : I4) (x y : PE) (w : World) : Prop := g < w.heap.size ∧ CC g u0 u1 w ∧ P4 w g1 x ∧ P4 w g2 y
theorem SDv.ext {g g1 g2 : Nat} {u0 u1 : I4} {x y : PE} {w w' : World} (h : SDv g g1 g2 u0 u1 x y w) (he : Ext w w') : SDv g g1 g2 u0 u1 x y w' := ⟨Nat.lt_of_lt_of_le h.1 he.size, h.2.1.ext h.1 he, h.2.2.1.ext he, h.2.2.2.ext he⟩
def SD3 (g g1 g2 : Nat) (u0 u1 : I4) (x y : PE) (g3 : Nat) (v : PE) (w : World) : Prop := SDv g g1 g2 u0 u1 x y w ∧ P4 w g3 v
theorem SD3.ext {g g1 g2 : Nat} {u0 u1 : I4} {x y : PE} {g3 : Nat} {v : PE} {w w' : World} (h : SD3 g g1 g2 u0 u1 x y g3 v w) (he : Ext w w') : SD3 g g1 g2 u0 u1 x y g3 v w' := ⟨h.1.ext he, h.2.ext he⟩
theorem dv_scaled {p r : List Tm} (hp : NN p) (hr : NN r) {z1 : Int} (h1 : z1 ≠ 0) (z0 : Int) : Dv (snorm (pmul r [(z1, Mo.zero)])) (pmul (pmul p r) [(z0, Mo.zero)]) := by
  rw [(pmul_const z1 r).snorm, snorm_smul h1]
  refine ⟨smul (z0 * sgnN (norm r)) p, smul_nn hp, ?_⟩
  refine (pmul_smul_left _ _ _).trans (Sim.trans ?_ (pmul_const z0 _).symm)
  rw [← smul_smul]
  refine Sim.smul ?_ z0
  exact (pmul_smul_right _ _ _).symm.trans ((sim_smul_snorm hr).pmul_right p)
theorem snorm_const {z : Int} (h : z ≠ 0) : snorm [(z, Mo.zero)] = [(1, Mo.zero)] := by
  have := snorm_smul h [(1, Mo.zero)]
  simp only [smul, List.map_cons, List.map_nil, Int.mul_one] at this
  rw [this]; decide
theorem const_sim {z : Int} : Sim [(z, Mo.zero)] [] ↔ z = 0 := ⟨fun h => by
  have := h Mo.zero
  simpa [coefAt] using this, fun h => by rw [h]; exact sim_zero_const⟩
theorem sn0 : snorm [(0, Mo.zero)] = [] := by decide
theorem sn0_deg : Deg 3 (snorm [(0, Mo.zero)]) := by rw [sn0]; exact fun m hm => absurd rfl hm
theorem sn0_dl : dlen (nrm (snorm [(0, Mo.zero)])) ≤ 10 := by rw [sn0]; decide
theorem dv_nil (s : List Tm) : Dv s [(0, Mo.zero)] := ⟨[], NN.nil, sim_zero_const.symm⟩
theorem dv_one (p : List Tm) (hp : NN p) : Dv [(1, Mo.zero)] p := ⟨p, hp, (pmul_const 1 p).trans (by rw [smul_one]; exact Sim.refl _)⟩
def QCut (l : List Tm) (W : World) (s12 s13 : Value) (wx : World) : Prop := ∃ (g : Nat) (v : PE), s12 = .pointer (some ⟨g, 0, none⟩) ∧ s13 = .int .i64 0 ∧ P4 wx g v ∧ CRx M0 wx 4 v l ∧ Ext W wx
theorem deg_scl {B : Nat} {l : List Tm} (h : Deg B l) (z : Int) : Deg B (pmul l [(z, Mo.zero)]) := Deg.sim (l := smul z l) (fun m hm k => h m (fun e => hm (by rw [coefAt_smul, e]; exact Int.mul_zero z)) k) (pmul_const z l).symm
theorem const_nn (z : Int) : NN [(z, Mo.zero)] := nn_of_all fun t ht => by
  simp only [List.mem_singleton] at ht; subst ht; rfl
set_option maxRecDepth 100000 in
set_option maxHeartbeats 16000000 in
theorem law_divides (a1 a2 : Option Addr) (n1 p1 n2 p2 : Nat) (X1 X2 : Nat → TE) (u0 u1 : I4) (w : World) (h1 : PRaw w a1 n1 p1 X1) (h2 : PRaw w a2 n2 p2 X2) (h3 : IRaw w u0.a u0.n u0.p) (h4 : IRaw w u1.a u1.n u1.p) :
    Calls Tryz.prog 4 #[.slice a1 n1 p1, .slice a2 n2 p2, .agg #[.bool u0.b, .slice u0.a u0.n u0.p, .bool u1.b, .slice u1.a u1.n u1.p]] w fun e w' => e = .returned (.bool true) ∧ Ext w w' := by
  have HR1 := Lib.hid h1
  have HR2 := Lib.hid h2
  have HR3 := Lib.hid h3
  have HR4 := Lib.hid h4
  have hE0 := (Ext.refl w).alloc (.cells #[.bool u0.b, .slice u0.a u0.n u0.p, .bool u1.b, .slice u1.a u1.n u1.p] 41)
  have hBc := Blk.of_arr w #[.bool u0.b, .slice u0.a u0.n u0.p, .bool u1.b, .slice u1.a u1.n u1.p] 41 4 rfl
  have HC0 : Hid (CC w.heap.size u0 u1 (w.alloc (.cells #[.bool u0.b, .slice u0.a u0.n u0.p, .bool u1.b, .slice u1.a u1.n u1.p] 41))) := ⟨⟨hBc.cell (i := 0) (by omega), hBc.cell (i := 1) (by omega)⟩, hBc.cell (i := 2) (by omega), hBc.cell (i := 3) (by omega)⟩
  have hlt0 := hBc.lt
  clear h1 h2 h3 h4 hBc
  go_enter Tryz.func4, Tryz.ntmps4
  go_upto_region 1 with (fail)
  generalize w.alloc (.cells #[.bool u0.b, .slice u0.a u0.n u0.p, .bool u1.b, .slice u1.a u1.n u1.p] 41) = W0 at *
  go_wp2_with (fail)
  refine (law_fit24 _).mono ?_
  rintro e w1 ⟨rfl, he1⟩
  have HE1 := Lib.hid (hE0.trans he1)
  have HC1 := Lib.hid (HC0.out.ext hlt0 he1)
  have hlt1 : w.heap.size < w1.heap.size := Nat.lt_of_lt_of_le hlt0 he1.size
  have CF1 := Lib.hid (law_few24 a1 n1 p1 X1 6 3 w1 (HR1.out.1.ext HE1.out) HR1.out.2.1)
  have CF2 := Lib.hid (law_few24 a2 n2 p2 X2 6 3 w1 (HR2.out.1.ext HE1.out) HR2.out.2.1)
  rw [show ((6 : Nat) : Int) = 6 from rfl, show ((3 : Nat) : Int) = 3 from rfl] at CF1 CF2
  clear he1 hE0 HC0 hlt0
  go_wp2_with (fail)
  refine CF1.out.mono ?_
  rintro e w2 ⟨b, rfl, hb1, rfl⟩
  cases b with
  | false =>
    clear hb1 CF1 CF2
    go_wp2
    go_ret
    exact ⟨rfl, HE1.out⟩
  | true =>
  have HF1 := Lib.hid (hb1.1 rfl)
  clear hb1 CF1
  go_wp2_with (fail)
  refine CF2.out.mono ?_
  rintro e w2 ⟨b, rfl, hb2, rfl⟩
  cases b with
  | false =>
    clear hb2 CF2
    go_wp2
    go_ret
    exact ⟨rfl, HE1.out⟩
  | true =>
  have HF2 := Lib.hid (hb2.1 rfl)
  clear hb2 CF2
  obtain ⟨⟨c0, c1⟩, c2, c3⟩ := HC1.out
  by_cases hn0 : (4 : Int) < u0.n
  · go_wp2
    go_ret
    exact ⟨rfl, HE1.out⟩
  by_cases hn1 : (4 : Int) < u1.n
  · go_wp2
    go_ret
    exact ⟨rfl, HE1.out⟩
  obtain ⟨l1, hl1, HS1, hd1, hx1⟩ := HR1.out.sm HF1.out
  obtain ⟨l2, hl2, HS2, hd2, hx2⟩ := HR2.out.sm HF2.out
  obtain ⟨z0, hz0, hv0⟩ := HR3.out.val (k := 4) (by omega) (by omega)
  obtain ⟨z1, hz1, hv1⟩ := HR4.out.val (k := 4) (by omega) (by omega)
  have CO1 := Lib.hid (fun W he => rp_Of M0 _ l1 W (mb0 _) (hl1.ext he) hd1 hx1)
  have CO2 := Lib.hid (fun W he => rp_Of M0 _ l2 W (mb0 _) (hl2.ext he) hd2 hx2)
  have HS1 := Lib.hid HS1
  have HS2 := Lib.hid HS2
  have HI0 := Lib.hid hz0
  have HI1 := Lib.hid hz1
  have HV0 := Lib.hid hv0
  have HV1 := Lib.hid hv1
  clear hl1 hd1 hx1 hl2 hd2 hx2 HF1 HF2 HR1 HR2 HR3 HR4 hz0 hz1 hv0 hv1
  go_wp2_with (fail)
  refine (CO1.out _ HE1.out).mono ?_
  rintro e w2 ⟨x, rfl, hx, he2⟩
  have HE2 := Lib.hid (HE1.out.trans he2)
  clear c0 c1 c2 c3 hn0 hn1
  go_wp2_with (fail)
  refine (CO2.out _ HE2.out).mono ?_
  rintro e w3 ⟨y, rfl, hy, he3⟩
  have hb1 := Blk.of_arr w3 (peA x) 32 4 rfl
  have hb2 := Blk.of_arr (w3.alloc (.cells (peA x) 32)) (peA y) 32 4 rfl
  simp only [World.size_alloc] at hb2
  have hEa : Ext w3 ((w3.alloc (.cells (peA x) 32)).alloc (.cells (peA y) 32)) := ((Ext.refl w3).alloc _).alloc _
  have hE13 := (he2.trans he3).trans hEa
  have HS0 : Hid (SDv w.heap.size w3.heap.size (w3.heap.size + 1) u0 u1 x y ((w3.alloc (.cells (peA x) 32)).alloc (.cells (peA y) 32))) := ⟨Nat.lt_of_lt_of_le hlt1 hE13.size, HC1.out.ext hlt1 hE13, (hb1.alloc _).p4, hb2.p4⟩
  have HX := Lib.hid ((hx.ext he3).ext hEa)
  have HY := Lib.hid (hy.ext hEa)
  have HE := Lib.hid (HE1.out.trans hE13)
  clear hb1 hb2 hEa hE13 hx hy he2 he3 CO1 CO2 HE1 HE2 HC1 hlt1
  go_upto_region 6 with (fail)
  generalize (w3.alloc (.cells (peA x) 32)).alloc (.cells (peA y) 32) = W at *
  generalize hmL : pmul (pmul (norm l1) (norm l2)) [(z0, Mo.zero)] = mL
  have HM : Hid (Deg 6 mL ∧ dlen (nrm mL) ≤ 14 ∧ pmul (pmul (norm l1) (norm l2)) [(z0, Mo.zero)] = mL) := ⟨by
    rw [← hmL]; exact deg_scl ((Deg.pmul HS1.out.deg HS2.out.deg HS1.out.nn).mono (by omega)) z0, by
    rw [← hmL, nrm_pmul, nrm_pmul, nrm_one]
    have g1 := dlen_mul (nrm (norm l1) * nrm (norm l2)) z0.natAbs
    have g2 := dlen_mul (nrm (norm l1)) (nrm (norm l2))
    have := HS1.out.dl
    have := HS2.out.dl
    have := HV0.out
    omega, hmL⟩
  clear hmL
  have hnum : ∀ A G, A ≤ 100 → G ≤ 50 → A + qX 3 4 6 * (G + 2) ≤ 549755813888 := fun A G hA hG => Nat.le_trans (Nat.add_le_add hA (Nat.mul_le_mul_left _ (by omega))) law_num
  have HNU := Lib.hid hnum
  clear hnum
  go_cut [9] (PCut mL W.drew)
  case first =>
    have hEd : Ext W W.drew := (Ext.refl W).drew
    have HS8' := Lib.hid (HS0.out.ext hEd)
    have hMd : Mb M0 W.drew := mb0 _
    have C2 : Hid (∀ (M' : Nat → Prop) (W' : World), Mb M' W' → (∀ g, M' g → M0 g ∨ W.drew.heap.size ≤ g) → Ext W.drew W' → Calls Tryz.prog 19 #[.agg (peA x), .agg (peA y)] W' (RetX M' W' 4 (pmul (norm l1) (norm l2)))) := fun M' W' h1 h2 h3 => rp_Mul M' x y _ _ 3 3 W' h1 (((HX.out.ext hEd).more h2).ext h3).pi (((HY.out.ext hEd).more h2).ext h3).pi (by have := HS1.out.dl; have := HS2.out.dl; omega) HS1.out.deg HS2.out.deg (by decide)
    have C5 : Hid (∀ (M' : Nat → Prop) (W' : World) (p : PE), Mb M' W' → (∀ g, M' g → M0 g ∨ W.drew.heap.size ≤ g) → Ext W.drew W' → CRx M' W' 4 p (pmul (norm l1) (norm l2)) → Calls Tryz.prog 24 #[.agg (peA p), .agg #[.bool u0.b, .slice u0.a u0.n u0.p]] W' (RetX M' W' 4 mL)) := fun M' W' p h1 h2 h3 h4 => by
      rw [← HM.out.2.2]
      exact rp_Scale M' p _ 6 u0.b u0.a u0.n u0.p z0 W' h1 h4.pi ((((HI0.out.ext HE.out).ext hEd).more h2).ext h3) (by
        rw [nrm_pmul]
        have g2 := dlen_mul (nrm (norm l1)) (nrm (norm l2))
        have := HS1.out.dl
        have := HS2.out.dl
        have := HV0.out
        omega) ((Deg.pmul HS1.out.deg HS2.out.deg HS1.out.nn).mono (by omega)) (by decide)
    refine wp_region_u (SDv w.heap.size w3.heap.size (w3.heap.size + 1) u0 u1 x y) 7 (by kernel_rfl) HS8'.out (fun hHeld => ?_)
    clear HX HY HE HS0 HS8' hEd HM HS1 HS2 HNU HI0 HI1 HV0 HV1
    generalize W.drew = wd at *
    (refine tkB [0, 1, 3, 4] ?_; (iterate 4 (refine tk1 (oi := ?_) (v := ?_) (by kernel_rfl) (by first | exact hSn | exact hHeld) ?_ ?_ ?_ ?_ ?_; rotate_left 2; (simp only [List.getElem?_toArray, List.getElem?_cons_succ, List.getElem?_cons_zero]; rfl); rfl; (intro wS hSw; obtain ⟨_, ⟨⟨C0, C1⟩, C2, C3⟩, ⟨S1, S2, S3, S4⟩, S5, S6, S7, S8⟩ := hSw; go_simp; try with_reducible rfl); (exact fun _ _ _ h => h); (try simp only [Act.put, List.setIfInBounds_toArray, List.set_cons_zero, List.set_cons_succ]))); refine tkE ?_)
    (refine wpAnyU_two 2 6 (oi := ?_) (oj := ?_) (by kernel_rfl) ?_ ?_ ?_ ?_; rotate_left 2; (simp only [List.getElem?_toArray, List.getElem?_cons_succ, List.getElem?_cons_zero]; rfl); (simp only [List.getElem?_toArray, List.getElem?_cons_succ, List.getElem?_cons_zero]; rfl); all_goals intro K hK)
    · go_simp
      refine (C2.out M0 wd  (hMd.ext (Ext.refl wd)) (fun g hg => .inl hg) (Ext.refl wd) ).mono ?_
      rintro e v1 ⟨p1, rfl, hp1, d1⟩
      go_wp2_with (fail)
      have e1 : Ext wd v1 := ((Ext.refl wd)).trans d1
      try clear hSn
      have hSn := hHeld.ext e1
      refine hK.out _ _ (fun _ => hSn) ?_
      clear hK K
      (try simp only [Act.put, List.setIfInBounds_toArray, List.set_cons_zero, List.set_cons_succ])
      (refine wpAnyU_two 5 6 (oi := ?_) (oj := ?_) (by kernel_rfl) ?_ ?_ ?_ ?_; rotate_left 2; (simp only [List.getElem?_toArray, List.getElem?_cons_succ, List.getElem?_cons_zero]; rfl); (simp only [List.getElem?_toArray, List.getElem?_cons_succ, List.getElem?_cons_zero]; rfl); all_goals intro K hK)
      · go_simp
        refine (C5.out M0 v1 p1 (hMd.ext e1) (fun g hg => .inl hg) e1 (hp1)).mono ?_
        rintro e v2 ⟨v, rfl, hv, d2⟩
        go_wp2_with (fail)
        have e2 : Ext wd v2 := (e1).trans d2
        try clear hSn
        have hSn := hHeld.ext e2
        refine hK.out _ _ (fun _ => hSn) ?_
        clear hK K
        (try simp only [Act.put, List.setIfInBounds_toArray, List.set_cons_zero, List.set_cons_succ])
        (refine wpAnyU_one 6 (o := ?_) (by kernel_rfl) ?_ ?_; rotate_left 1; (simp only [List.getElem?_toArray, List.getElem?_cons_succ, List.getElem?_cons_zero]; rfl); intro K hK)
        go_simp
        have hSn2 := hSn.ext ((Ext.refl v2).alloc (.cells zA 32))
        have hSn3 := hSn.ext ((Ext.refl v2).alloc (.cells (peA v) 32))
        clear hSn
        refine hK.out _ _ (fun _ => hSn2) ?_
        clear hK K
        (try simp only [Act.put, List.setIfInBounds_toArray, List.set_cons_zero, List.set_cons_succ])
        (refine wpAnyU_one 7 (o := ?_) (by kernel_rfl) ?_ ?_; rotate_left 1; (simp only [List.getElem?_toArray, List.getElem?_cons_succ, List.getElem?_cons_zero]; rfl); intro K hK)
        go_simp
        refine hK.out _ _ (fun h => absurd rfl h) ?_
        clear hK K
        refine wpAnyU_done (by kernel_rfl) ?_ _
        go_wp2_with (fail)
        go_meet
        exact ⟨v2.heap.size, v, rfl, (Blk.of_arr v2 (peA v) 32 4 rfl).p4, hv.ext ((Ext.refl v2).alloc _), (e2).alloc _⟩
      · go_simp
        have ea2 : Ext v1 (v1.alloc (.cells zA 32)) := (Ext.refl _).alloc _
        have hb2 := Blk.of_arr v1 zA 32 4 rfl
        have e2 : Ext wd (v1.alloc (.cells zA 32)) := (e1).trans ea2
        try clear hSn
        have hSn := hHeld.ext e2
        refine hK.out _ _ (fun _ => hSn) ?_
        clear hK K
        (try simp only [Act.put, List.setIfInBounds_toArray, List.set_cons_zero, List.set_cons_succ])
        (refine wpAnyU_one 5 (o := ?_) (by kernel_rfl) ?_ ?_; rotate_left 1; (simp only [List.getElem?_toArray, List.getElem?_cons_succ, List.getElem?_cons_zero]; rfl); intro K hK)
        go_simp
        refine (C5.out (fun g => M0 g ∨ g = v1.heap.size) (v1.alloc (.cells zA 32)) p1 ((mb_or (hMd.ext e1) (.cells zA 32)).ext (Ext.refl (v1.alloc (.cells zA 32)))) (fun g hg => hg.imp id fun h => by rw [h]; exact e1.size) e2 (((hp1).more (M' := fun g => M0 g ∨ g = v1.heap.size) (fun g hg => hg.imp id fun (h : g = v1.heap.size) => Nat.le_of_eq h.symm)).ext ea2)).mono ?_
        rintro e v3 ⟨v, rfl, hv, d3⟩
        go_wp2_with (fail)
        have e3 : Ext wd v3 := (e2).trans d3
        have hb3 := (hb2).ext d3
        try clear hSn
        have hSn := hHeld.ext e3
        refine hK.out _ _ (fun _ => hSn) ?_
        clear hK K
        (try simp only [Act.put, List.setIfInBounds_toArray, List.set_cons_zero, List.set_cons_succ])
        obtain ⟨⟨q0, q1, q2, q3⟩, ⟨f0, f1, f2, f3⟩, hrr, hkp, hext⟩ := fin4 (M' := fun g => M0 g ∨ g = v1.heap.size) (w := wd) (.int .i64 v.lv) (.bool v.b) (.slice v.a v.n v.p) (.slice v.ka v.kn v.kp) (hb3) (.inr rfl) (e1).size (e3)
        simp only [arr] at q0 q1 q2 q3
        (refine wpAnyU_one 7 (o := ?_) (by kernel_rfl) ?_ ?_; rotate_left 1; (simp only [List.getElem?_toArray, List.getElem?_cons_succ, List.getElem?_cons_zero]; rfl); intro K hK)
        have hSn3 := hHeld.ext hext
        clear hSn
        go_simp
        refine hK.out _ _ (fun h => absurd rfl h) ?_
        clear hK K
        refine wpAnyU_done (by kernel_rfl) ?_ _
        go_wp2_with (fail)
        go_meet
        exact ⟨v1.heap.size, v, rfl, hrr, (hv.kp hkp).more (fun g hg => .inl (.inl hg)), hext⟩
    · go_simp
      have ea1 : Ext wd (wd.alloc (.cells zA 32)) := (Ext.refl _).alloc _
      have hb1 := Blk.of_arr wd zA 32 4 rfl
      have e1 : Ext wd (wd.alloc (.cells zA 32)) := ((Ext.refl wd)).trans ea1
      try clear hSn
      have hSn := hHeld.ext e1
      refine hK.out _ _ (fun _ => hSn) ?_
      clear hK K
      (try simp only [Act.put, List.setIfInBounds_toArray, List.set_cons_zero, List.set_cons_succ])
      (refine wpAnyU_one 2 (o := ?_) (by kernel_rfl) ?_ ?_; rotate_left 1; (simp only [List.getElem?_toArray, List.getElem?_cons_succ, List.getElem?_cons_zero]; rfl); intro K hK)
      go_simp
      refine (C2.out (fun g => M0 g ∨ g = wd.heap.size) (wd.alloc (.cells zA 32))  ((mb_or (hMd.ext (Ext.refl wd)) (.cells zA 32)).ext (Ext.refl (wd.alloc (.cells zA 32)))) (fun g hg => hg.imp id fun h => by rw [h]; exact (Ext.refl wd).size) e1 ).mono ?_
      rintro e v2 ⟨p1, rfl, hp1, d2⟩
      go_wp2_with (fail)
      have e2 : Ext wd v2 := (e1).trans d2
      have hb2 := (hb1).ext d2
      try clear hSn
      have hSn := hHeld.ext e2
      refine hK.out _ _ (fun _ => hSn) ?_
      clear hK K
      (try simp only [Act.put, List.setIfInBounds_toArray, List.set_cons_zero, List.set_cons_succ])
      (refine wpAnyU_one 5 (o := ?_) (by kernel_rfl) ?_ ?_; rotate_left 1; (simp only [List.getElem?_toArray, List.getElem?_cons_succ, List.getElem?_cons_zero]; rfl); intro K hK)
      go_simp
      refine (C5.out (fun g => M0 g ∨ g = wd.heap.size) v2 p1 ((mb_or (hMd.ext (Ext.refl wd)) (.cells zA 32)).ext (((Ext.refl (wd.alloc (.cells zA 32)))).trans d2)) (fun g hg => hg.imp id fun h => by rw [h]; exact (Ext.refl wd).size) e2 (hp1)).mono ?_
      rintro e v3 ⟨v, rfl, hv, d3⟩
      go_wp2_with (fail)
      have e3 : Ext wd v3 := (e2).trans d3
      have hb3 := (hb2).ext d3
      try clear hSn
      have hSn := hHeld.ext e3
      refine hK.out _ _ (fun _ => hSn) ?_
      clear hK K
      (try simp only [Act.put, List.setIfInBounds_toArray, List.set_cons_zero, List.set_cons_succ])
      obtain ⟨⟨q0, q1, q2, q3⟩, ⟨f0, f1, f2, f3⟩, hrr, hkp, hext⟩ := fin4 (M' := fun g => M0 g ∨ g = wd.heap.size) (w := wd) (.int .i64 v.lv) (.bool v.b) (.slice v.a v.n v.p) (.slice v.ka v.kn v.kp) (hb3) (.inr rfl) ((Ext.refl wd)).size (e3)
      simp only [arr] at q0 q1 q2 q3
      (refine wpAnyU_one 7 (o := ?_) (by kernel_rfl) ?_ ?_; rotate_left 1; (simp only [List.getElem?_toArray, List.getElem?_cons_succ, List.getElem?_cons_zero]; rfl); intro K hK)
      have hSn3 := hHeld.ext hext
      clear hSn
      go_simp
      refine hK.out _ _ (fun h => absurd rfl h) ?_
      clear hK K
      refine wpAnyU_done (by kernel_rfl) ?_ _
      go_wp2_with (fail)
      go_meet
      exact ⟨wd.heap.size, v, rfl, hrr, (hv.kp hkp).more (fun g hg => .inl (.inl hg)), hext⟩
  case rest =>
    obtain ⟨g9, v, rfl, hv, hs, heC⟩ := hcut
    have he5 : Ext W wc := (Ext.refl W).drew.trans heC
    have he6 := (Ext.refl wc).drew
    have HX5 := Lib.hid ((HX.out.ext he5).ext he6)
    have HY5 := Lib.hid ((HY.out.ext he5).ext he6)
    have HE5 := Lib.hid ((HE.out.trans he5).trans he6)
    have HP5 : Hid (SD3 w.heap.size w3.heap.size (w3.heap.size + 1) u0 u1 x y g9 v wc.drew) := ⟨(HS0.out.ext he5).ext he6, hv.ext he6⟩
    have HQ5 := Lib.hid (hs.ext he6)
    clear hv hs heC he5 he6 HX HY HE HS0
    go_upto_region 7 with (fail)
    obtain ⟨W5, hW5⟩ : ∃ W5, W5 = wc := ⟨_, rfl⟩
    subst hW5
    have HRS : Hid (dlen (nrm (pmul (norm l2) [(z1, Mo.zero)])) ≤ 9 ∧ Deg 3 (pmul (norm l2) [(z1, Mo.zero)])) := ⟨by
      rw [nrm_pmul, nrm_one]
      have g1 := dlen_mul (nrm (norm l2)) z1.natAbs
      have := HS2.out.dl
      have := HV1.out
      omega, deg_scl HS2.out.deg z1⟩
    go_cut [65] (fun s65 wx => s65 = .bool false ∧ Ext W5.drew wx)
    case first =>
      refine wp_region_u (SD3 w.heap.size w3.heap.size (w3.heap.size + 1) u0 u1 x y g9 v) 18 (by kernel_rfl) HP5.out (fun hHeld => ?_)
      generalize W5.drew = wd at *
      by_cases hz1 : z1 = 0
      · have hsg : (z1.sign != 0) = false := by rw [hz1]; rfl
        (refine tkB [0, 1] ?_; (iterate 2 (refine tk1 (oi := ?_) (v := ?_) (by kernel_rfl) (by first | exact hSn | exact hHeld) ?_ ?_ ?_ ?_ ?_; rotate_left 2; (simp only [List.getElem?_toArray, List.getElem?_cons_succ, List.getElem?_cons_zero]; rfl); rfl; (intro wS hSw; obtain ⟨⟨_, ⟨⟨C0, C1⟩, C2, C3⟩, ⟨S1, S2, S3, S4⟩, S5, S6, S7, S8⟩, T1, T2, T3, T4⟩ := hSw; go_simp; try with_reducible rfl); (exact fun _ _ _ h => h); (try simp only [Act.put, List.setIfInBounds_toArray, List.set_cons_zero, List.set_cons_succ]))); refine tkE ?_)
        ((refine wpAnyU_one 2 (o := ?_) (by kernel_rfl) ?_ ?_; rotate_left 1; (simp only [List.getElem?_toArray, List.getElem?_cons_succ, List.getElem?_cons_zero]; rfl); intro K hK); go_simp; (refine (int_sign (.bool u1.b) (.slice u1.a u1.n u1.p) z1 wd (HI1.out.ext HE5.out)).mono ?_); rintro e_ w6 ⟨rfl, h2⟩; go_wp2_with (fail); (try clear hSn); (have hSn := hHeld.ext h2); (refine hK.out _ _ (fun _ => hSn) ?_); clear hK K; (try simp only [Act.put, List.setIfInBounds_toArray, List.set_cons_zero, List.set_cons_succ]))
        (refine tkB [3, 4] ?_; (iterate 2 (refine tk1 (oi := ?_) (v := ?_) (by kernel_rfl) (by first | exact hSn | exact hHeld) ?_ ?_ ?_ ?_ ?_; rotate_left 2; (simp only [List.getElem?_toArray, List.getElem?_cons_succ, List.getElem?_cons_zero]; rfl); rfl; (intro wS hSw; obtain ⟨⟨_, ⟨⟨C0, C1⟩, C2, C3⟩, ⟨S1, S2, S3, S4⟩, S5, S6, S7, S8⟩, T1, T2, T3, T4⟩ := hSw; go_simp; try with_reducible rfl); (exact fun _ _ _ h => h); (try simp only [Act.put, List.setIfInBounds_toArray, List.set_cons_zero, List.set_cons_succ]))); refine tkE ?_)
        (refine tkB [5, 6, 7] ?_; (iterate 3 (refine ts1 (oi := ?_) (by kernel_rfl) (by first | exact hSn | exact hHeld) ?_ ?_ ?_ ?_; rotate_left 1; (simp only [List.getElem?_toArray, List.getElem?_cons_succ, List.getElem?_cons_zero]; rfl); rfl; (exact fun _ _ _ h => h); (try simp only [Act.put, List.setIfInBounds_toArray, List.set_cons_zero, List.set_cons_succ]))); refine tkE ?_)
        (refine tkB [8, 9] ?_; (iterate 2 (refine tk1 (oi := ?_) (v := ?_) (by kernel_rfl) (by first | exact hSn | exact hHeld) ?_ ?_ ?_ ?_ ?_; rotate_left 2; (simp only [List.getElem?_toArray, List.getElem?_cons_succ, List.getElem?_cons_zero]; rfl); rfl; (intro wS hSw; obtain ⟨⟨_, ⟨⟨C0, C1⟩, C2, C3⟩, ⟨S1, S2, S3, S4⟩, S5, S6, S7, S8⟩, T1, T2, T3, T4⟩ := hSw; go_simp; try with_reducible rfl); (exact fun _ _ _ h => h); (try simp only [Act.put, List.setIfInBounds_toArray, List.set_cons_zero, List.set_cons_succ]))); refine tkE ?_)
        (refine tkB [10, 11, 12, 13, 14, 15, 16] ?_; (iterate 7 (refine ts1 (oi := ?_) (by kernel_rfl) (by first | exact hSn | exact hHeld) ?_ ?_ ?_ ?_; rotate_left 1; (simp only [List.getElem?_toArray, List.getElem?_cons_succ, List.getElem?_cons_zero]; rfl); rfl; (exact fun _ _ _ h => h); (try simp only [Act.put, List.setIfInBounds_toArray, List.set_cons_zero, List.set_cons_succ]))); refine tkE ?_)
        (refine tkB [17] ?_; (iterate 1 (refine tk1 (oi := ?_) (v := ?_) (by kernel_rfl) (by first | exact hSn | exact hHeld) ?_ ?_ ?_ ?_ ?_; rotate_left 2; (simp only [List.getElem?_toArray, List.getElem?_cons_succ, List.getElem?_cons_zero]; rfl); rfl; (intro wS hSw; obtain ⟨⟨_, ⟨⟨C0, C1⟩, C2, C3⟩, ⟨S1, S2, S3, S4⟩, S5, S6, S7, S8⟩, T1, T2, T3, T4⟩ := hSw; go_simp; try with_reducible rfl); (exact fun _ _ _ h => h); (try simp only [Act.put, List.setIfInBounds_toArray, List.set_cons_zero, List.set_cons_succ]))); refine tkE ?_)
        refine wpAnyU_done (by kernel_rfl) ?_ _
        go_wp2_with (fail)
        go_meet
        exact ⟨rfl, h2⟩
      have hsg : (z1.sign != 0) = true := by simp [hz1]
      (refine tkB [0, 1] ?_; (iterate 2 (refine tk1 (oi := ?_) (v := ?_) (by kernel_rfl) (by first | exact hSn | exact hHeld) ?_ ?_ ?_ ?_ ?_; rotate_left 2; (simp only [List.getElem?_toArray, List.getElem?_cons_succ, List.getElem?_cons_zero]; rfl); rfl; (intro wS hSw; obtain ⟨⟨_, ⟨⟨C0, C1⟩, C2, C3⟩, ⟨S1, S2, S3, S4⟩, S5, S6, S7, S8⟩, T1, T2, T3, T4⟩ := hSw; go_simp; try with_reducible rfl); (exact fun _ _ _ h => h); (try simp only [Act.put, List.setIfInBounds_toArray, List.set_cons_zero, List.set_cons_succ]))); refine tkE ?_)
      ((refine wpAnyU_one 2 (o := ?_) (by kernel_rfl) ?_ ?_; rotate_left 1; (simp only [List.getElem?_toArray, List.getElem?_cons_succ, List.getElem?_cons_zero]; rfl); intro K hK); go_simp; (refine (int_sign (.bool u1.b) (.slice u1.a u1.n u1.p) z1 wd (HI1.out.ext HE5.out)).mono ?_); rintro e_ w6 ⟨rfl, h2⟩; go_wp2_with (fail); (try clear hSn); (have hSn := hHeld.ext h2); (refine hK.out _ _ (fun _ => hSn) ?_); clear hK K; (try simp only [Act.put, List.setIfInBounds_toArray, List.set_cons_zero, List.set_cons_succ]))
      (refine tkB [3, 4, 5] ?_; (iterate 3 (refine tk1 (oi := ?_) (v := ?_) (by kernel_rfl) (by first | exact hSn | exact hHeld) ?_ ?_ ?_ ?_ ?_; rotate_left 2; (simp only [List.getElem?_toArray, List.getElem?_cons_succ, List.getElem?_cons_zero]; rfl); rfl; (intro wS hSw; obtain ⟨⟨_, ⟨⟨C0, C1⟩, C2, C3⟩, ⟨S1, S2, S3, S4⟩, S5, S6, S7, S8⟩, T1, T2, T3, T4⟩ := hSw; go_simp; try with_reducible rfl); (exact fun _ _ _ h => h); (try simp only [Act.put, List.setIfInBounds_toArray, List.set_cons_zero, List.set_cons_succ]))); refine tkE ?_)
      ((refine wpAnyU_one 6 (o := ?_) (by kernel_rfl) ?_ ?_; rotate_left 1; (simp only [List.getElem?_toArray, List.getElem?_cons_succ, List.getElem?_cons_zero]; rfl); intro K hK); go_simp; (refine (rp_IsZero M0 y (norm l2) _ (mb0 _) (HY5.out.ext h2).pi).mono ?_); rintro e_ w7 ⟨bz, rfl, hbz, h6⟩; go_wp2_with (fail); (try clear hSn); (have hSn := hHeld.ext (h2.trans h6)); (refine hK.out _ _ (fun _ => hSn) ?_); clear hK K; (try simp only [Act.put, List.setIfInBounds_toArray, List.set_cons_zero, List.set_cons_succ]))
      have HBZ := Lib.hid hbz
      clear hbz
      cases bz with
      | true =>
        (refine tkB [7, 8, 9] ?_; (iterate 3 (refine tk1 (oi := ?_) (v := ?_) (by kernel_rfl) (by first | exact hSn | exact hHeld) ?_ ?_ ?_ ?_ ?_; rotate_left 2; (simp only [List.getElem?_toArray, List.getElem?_cons_succ, List.getElem?_cons_zero]; rfl); rfl; (intro wS hSw; obtain ⟨⟨_, ⟨⟨C0, C1⟩, C2, C3⟩, ⟨S1, S2, S3, S4⟩, S5, S6, S7, S8⟩, T1, T2, T3, T4⟩ := hSw; go_simp; try with_reducible rfl); (exact fun _ _ _ h => h); (try simp only [Act.put, List.setIfInBounds_toArray, List.set_cons_zero, List.set_cons_succ]))); refine tkE ?_)
        (refine tkB [10, 11, 12, 13, 14, 15, 16] ?_; (iterate 7 (refine ts1 (oi := ?_) (by kernel_rfl) (by first | exact hSn | exact hHeld) ?_ ?_ ?_ ?_; rotate_left 1; (simp only [List.getElem?_toArray, List.getElem?_cons_succ, List.getElem?_cons_zero]; rfl); rfl; (exact fun _ _ _ h => h); (try simp only [Act.put, List.setIfInBounds_toArray, List.set_cons_zero, List.set_cons_succ]))); refine tkE ?_)
        (refine tkB [17] ?_; (iterate 1 (refine tk1 (oi := ?_) (v := ?_) (by kernel_rfl) (by first | exact hSn | exact hHeld) ?_ ?_ ?_ ?_ ?_; rotate_left 2; (simp only [List.getElem?_toArray, List.getElem?_cons_succ, List.getElem?_cons_zero]; rfl); rfl; (intro wS hSw; obtain ⟨⟨_, ⟨⟨C0, C1⟩, C2, C3⟩, ⟨S1, S2, S3, S4⟩, S5, S6, S7, S8⟩, T1, T2, T3, T4⟩ := hSw; go_simp; try with_reducible rfl); (exact fun _ _ _ h => h); (try simp only [Act.put, List.setIfInBounds_toArray, List.set_cons_zero, List.set_cons_succ]))); refine tkE ?_)
        refine wpAnyU_done (by kernel_rfl) ?_ _
        go_wp2_with (fail)
        go_meet
        exact ⟨rfl, h2.trans h6⟩
      | false =>
        have HRZ : Hid (¬ Sim (pmul (norm l2) [(z1, Mo.zero)]) []) := pmul_ne HS2.out.nn (const_nn z1) (fun hh => by have := HBZ.out.2 hh; cases this) (fun hh => hz1 (const_sim.1 hh))
        have HRN : Hid (NN (pmul (norm l2) [(z1, Mo.zero)])) := nn_pmul HS2.out.nn (const_nn z1)
        have HDV : Hid (Dv (snorm (pmul (norm l2) [(z1, Mo.zero)])) mL) := by
          rw [← HM.out.2.2]
          exact dv_scaled HS1.out.nn HS2.out.nn hz1 z0
        (refine tkB [7, 8, 9, 10, 11, 12, 14] ?_; (iterate 7 (refine tk1 (oi := ?_) (v := ?_) (by kernel_rfl) (by first | exact hSn | exact hHeld) ?_ ?_ ?_ ?_ ?_; rotate_left 2; (simp only [List.getElem?_toArray, List.getElem?_cons_succ, List.getElem?_cons_zero]; rfl); rfl; (intro wS hSw; obtain ⟨⟨_, ⟨⟨C0, C1⟩, C2, C3⟩, ⟨S1, S2, S3, S4⟩, S5, S6, S7, S8⟩, T1, T2, T3, T4⟩ := hSw; go_simp; try with_reducible rfl); (exact fun _ _ _ h => h); (try simp only [Act.put, List.setIfInBounds_toArray, List.set_cons_zero, List.set_cons_succ]))); refine tkE ?_)
        ((refine wpAnyU_one 13 (o := ?_) (by kernel_rfl) ?_ ?_; rotate_left 1; (simp only [List.getElem?_toArray, List.getElem?_cons_succ, List.getElem?_cons_zero]; rfl); intro K hK); go_simp; (refine (rp_Scale M0 y (norm l2) 3 u1.b u1.a u1.n u1.p z1 _ (mb0 _) (HY5.out.ext (h2.trans h6)).pi ((HI1.out.ext HE5.out).ext (h2.trans h6)) (by have := HS2.out.dl; have := HV1.out; omega) HS2.out.deg (by decide)).mono ?_); rintro e_ w8 ⟨q, rfl, hq, h13⟩; go_wp2_with (fail); (try clear hSn); (have hSn := hHeld.ext ((h2.trans h6).trans h13)); (refine hK.out _ _ (fun _ => hSn) ?_); clear hK K; (try simp only [Act.put, List.setIfInBounds_toArray, List.set_cons_zero, List.set_cons_succ]))
        ((refine wpAnyU_one 15 (o := ?_) (by kernel_rfl) ?_ ?_; rotate_left 1; (simp only [List.getElem?_toArray, List.getElem?_cons_succ, List.getElem?_cons_zero]; rfl); intro K hK); go_simp; (refine (ps_Divides 3 10 M0 mL (pmul (norm l2) [(z1, Mo.zero)]) (snorm (pmul (norm l2) [(z1, Mo.zero)])) q v 6 14 _ (mb0 _) hq.pi (HQ5.out.ext ((h2.trans h6).trans h13)).pi (snB_ctr hq (Nat.le_refl _) HRS.out.2 (by have := HRS.out.1; omega)) (fun _ => snorm_ne HRN.out HRZ.out) HM.out.1 (snorm_deg HRN.out HRZ.out HRS.out.2) HM.out.2.1 (Nat.le_trans (dlen_mono (snorm_nrm _)) (Nat.le_trans HRS.out.1 (by omega))) law_ok (HNU.out 14 10 (by omega) (by omega))).mono ?_); rintro e_ w9 ⟨bd, rfl, _, hbd, h15⟩; go_wp2_with (fail); (try clear hSn); (have hSn := hHeld.ext (((h2.trans h6).trans h13).trans h15)); (refine hK.out _ _ (fun _ => hSn) ?_); clear hK K; (try simp only [Act.put, List.setIfInBounds_toArray, List.set_cons_zero, List.set_cons_succ]))
        obtain rfl : bd = true := (hbd HRZ.out).2 HDV.out
        (refine tkB [16, 17] ?_; (iterate 2 (refine tk1 (oi := ?_) (v := ?_) (by kernel_rfl) (by first | exact hSn | exact hHeld) ?_ ?_ ?_ ?_ ?_; rotate_left 2; (simp only [List.getElem?_toArray, List.getElem?_cons_succ, List.getElem?_cons_zero]; rfl); rfl; (intro wS hSw; obtain ⟨⟨_, ⟨⟨C0, C1⟩, C2, C3⟩, ⟨S1, S2, S3, S4⟩, S5, S6, S7, S8⟩, T1, T2, T3, T4⟩ := hSw; go_simp; try with_reducible rfl); (exact fun _ _ _ h => h); (try simp only [Act.put, List.setIfInBounds_toArray, List.set_cons_zero, List.set_cons_succ]))); refine tkE ?_)
        refine wpAnyU_done (by kernel_rfl) ?_ _
        go_wp2_with (fail)
        go_meet
        exact ⟨rfl, ((h2.trans h6).trans h13).trans h15⟩
    case rest =>
      obtain ⟨rfl, heD⟩ := hcut
      obtain ⟨W6, hW6⟩ : ∃ W6, W6 = wc := ⟨_, rfl⟩
      subst hW6
      have HX6 := Lib.hid (HX5.out.ext heD)
      have HY6 := Lib.hid (HY5.out.ext heD)
      have HE6 := Lib.hid (HE5.out.trans heD)
      have HP6 := Lib.hid (HP5.out.1.ext heD)
      clear HX5 HY5 HE5 HP5 HQ5 heD HM HRS
      go_wp2_with (fail)
      refine (int_of (M := M0) 0 W6 (mb0 _) (by omega) (by omega)).mono ?_
      rintro e w7 ⟨d0, d1, rfl, hc, he7⟩
      obtain ⟨b2, a2', n2', p2', rfl, rfl⟩ := hc.form
      go_wp2_with (fail)
      refine (rp_Const M0 b2 a2' n2' p2' 0 _ (mb0 _) hc.toV).mono ?_
      rintro e w8 ⟨zp, rfl, hzp, he8⟩
      have hEb := (Ext.refl w8).alloc (.cells (peA zp) 32)
      have hE8 := (he7.trans he8).trans hEb
      have HX9 := Lib.hid (HX6.out.ext hE8)
      have HY9 := Lib.hid (HY6.out.ext hE8)
      have HE9 := Lib.hid (HE6.out.trans hE8)
      have HP9 := Lib.hid (HP6.out.ext hE8)
      have HZ9 := Lib.hid ((hzp.up (show 0 ≤ 4 by omega)).ext hEb)
      have HB9 : Hid (P4 (w8.alloc (.cells (peA zp) 32)) w8.heap.size zp) := (Blk.of_arr w8 (peA zp) 32 4 rfl).p4
      clear hzp he7 he8 hc hEb hE8 HX6 HY6 HE6 HP6
      go_upto_region 10 with (fail)
      generalize hs12 : w8.heap.size = g10 at *
      generalize w8.alloc (.cells (peA zp) 32) = W9 at *
      clear hs12
      go_cut [92] (fun s92 wx => s92 = .bool false ∧ Ext W9 wx)
      case first =>
        obtain ⟨_, _, ⟨x0, x1, x2, x3⟩, y0, y1, y2, y3⟩ := HP9.out
        obtain ⟨q0, q1, q2, q3⟩ := HB9.out
        have CD1 := Lib.hid (fun W he => ps_Divides 3 10 M0 [(0, Mo.zero)] [(0, Mo.zero)] (snorm [(0, Mo.zero)]) zp zp 6 14 W (mb0 _) (HZ9.out.ext he).pi (HZ9.out.ext he).pi (snB_ctr (HZ9.out.ext he) (Nat.le_refl _) ((deg_const 0).mono (by omega)) (by decide)) (fun h => absurd sim_zero_const h) ((deg_const 0).mono (by omega)) sn0_deg (by decide) sn0_dl law_ok (HNU.out 14 10 (by omega) (by omega)))
        have CD2 := Lib.hid (fun W he => ps_Divides 3 10 M0 (norm l1) [(0, Mo.zero)] (snorm [(0, Mo.zero)]) zp x 6 14 W (mb0 _) (HZ9.out.ext he).pi (HX9.out.ext he).pi (snB_ctr (HZ9.out.ext he) (Nat.le_refl _) ((deg_const 0).mono (by omega)) (by decide)) (fun h => absurd sim_zero_const h) (HS1.out.deg.mono (by omega)) sn0_deg (Nat.le_trans HS1.out.dl (by omega)) sn0_dl law_ok (HNU.out 14 10 (by omega) (by omega)))
        go_wp2_with (fail)
        refine (CD1.out _ (Ext.refl _)).mono ?_
        rintro e w11 ⟨b11, rfl, hb11, _, he11⟩
        obtain rfl : b11 = true := (hb11 sim_zero_const).2 sim_zero_const
        clear hb11 CD1 x0 x1 x2 x3 y0 y1 y2 y3 q0 q1 q2 q3
        obtain ⟨_, _, ⟨x0, x1, x2, x3⟩, _⟩ := HP9.out.ext he11
        have CZ := Lib.hid (rp_IsZero M0 x (norm l1) w11 (mb0 _) (HX9.out.ext he11).pi)
        go_wp2_with (fail)
        refine CZ.out.mono ?_
        rintro e w12 ⟨b12, rfl, hb12, he12⟩
        have HB12 := Lib.hid hb12
        have HE12 := Lib.hid (he11.trans he12)
        clear hb12 he11 he12 CZ x0 x1 x2 x3
        cases b12
        case' false =>
          obtain ⟨_, _, ⟨x0, x1, x2, x3⟩, _⟩ := HP9.out.ext HE12.out
          obtain ⟨q0, q1, q2, q3⟩ := HB9.out.ext HE12.out
          go_wp2_with (fail)
          refine (CD2.out _ HE12.out).mono ?_
          rintro e w13 ⟨b13, rfl, hb13, _, he13⟩
          obtain rfl : b13 = false := by
            cases b13 with
            | false => rfl
            | true => exact absurd (HB12.out.2 ((hb13 sim_zero_const).1 rfl)) (by decide)
          have HEa := Lib.hid (HE12.out.trans he13)
          clear hb13 he13 x0 x1 x2 x3 q0 q1 q2 q3
          obtain ⟨wa, hwa⟩ : ∃ wa, wa = w13 := ⟨_, rfl⟩
          subst hwa
        case' true =>
          have HEa := Lib.hid HE12.out
          obtain ⟨wa, hwa⟩ : ∃ wa, wa = w12 := ⟨_, rfl⟩
          subst hwa
        all_goals
          obtain ⟨_, _, _, y0, y1, y2, y3⟩ := HP9.out.ext HEa.out
          have CZ := Lib.hid (rp_IsZero M0 y (norm l2) wa (mb0 _) (HY9.out.ext HEa.out).pi)
          go_wp2_with (fail)
          refine CZ.out.mono ?_
          rintro e w14 ⟨b14, rfl, hb14, he14⟩
          have HE14 := Lib.hid (HEa.out.trans he14)
          clear he14 CZ y0 y1 y2 y3
          cases b14 with
          | true =>
            clear hb14
            go_wp2_with (fail)
            go_meet
            exact ⟨rfl, HE14.out⟩
          | false =>
            have HZ2 : Hid (¬ Sim (norm l2) []) := fun hh => by have := hb14.2 hh; cases this
            have CD3 := Lib.hid (ps_Divides 3 10 M0 [(0, Mo.zero)] (norm l2) (snorm (norm l2)) y zp 6 14 w14 (mb0 _) (HY9.out.ext HE14.out).pi (HZ9.out.ext HE14.out).pi (snB_ctr (HY9.out.ext HE14.out) (Nat.le_refl _) HS2.out.deg (by have := HS2.out.dl; omega)) (fun _ => snorm_ne HS2.out.nn HZ2.out) ((deg_const 0).mono (by omega)) (snorm_deg HS2.out.nn HZ2.out HS2.out.deg) (by decide) (Nat.le_trans (dlen_mono (snorm_nrm _)) (Nat.le_trans HS2.out.dl (by omega))) law_ok (HNU.out 14 10 (by omega) (by omega)))
            clear hb14
            obtain ⟨_, _, _, y0, y1, y2, y3⟩ := HP9.out.ext HE14.out
            obtain ⟨q0, q1, q2, q3⟩ := HB9.out.ext HE14.out
            go_wp2_with (fail)
            refine CD3.out.mono ?_
            rintro e w15 ⟨b15, rfl, _, hb15, he15⟩
            obtain rfl : b15 = true := (hb15 HZ2.out).2 (dv_nil _)
            have HE15 := Lib.hid (HE14.out.trans he15)
            clear hb15 he15 CD3 y0 y1 y2 y3 q0 q1 q2 q3
            go_wp2_with (fail)
            go_meet
            exact ⟨rfl, HE15.out⟩
      case rest =>
        obtain ⟨rfl, heD⟩ := hcut
        obtain ⟨W10, hW10⟩ : ∃ W10, W10 = wc := ⟨_, rfl⟩
        subst hW10
        have HX10 := Lib.hid (HX9.out.ext heD)
        have HE10 := Lib.hid (HE9.out.trans heD)
        have HP10 := Lib.hid (HP9.out.ext heD)
        clear HX9 HY9 HE9 HP9 HZ9 HB9 heD
        obtain ⟨_, ⟨_, c2, c3⟩, _, _⟩ := HP10.out
        have CK := Lib.hid (rp_Const M0 u1.b u1.a u1.n u1.p z1 W10 (mb0 _) (HI1.out.ext HE10.out))
        go_wp2_with (fail)
        refine CK.out.mono ?_
        rintro e w11 ⟨kp, rfl, hkp, he11⟩
        have hEb := (Ext.refl w11).alloc (.cells (peA kp) 32)
        have hE11 := he11.trans hEb
        have HX11 := Lib.hid (HX10.out.ext hE11)
        have HE11 := Lib.hid (HE10.out.trans hE11)
        have HP11 := Lib.hid (HP10.out.ext hE11)
        have HK11 := Lib.hid ((hkp.up (show 0 ≤ 4 by omega)).ext hEb)
        have HB11 : Hid (P4 (w11.alloc (.cells (peA kp) 32)) w11.heap.size kp) := (Blk.of_arr w11 (peA kp) 32 4 rfl).p4
        clear hkp he11 hEb hE11 HX10 HE10 HP10 CK c2 c3
        go_upto_region 13 with (fail)
        generalize hs12 : w11.heap.size = g11 at *
        generalize w11.alloc (.cells (peA kp) 32) = W11 at *
        clear hs12
        obtain ⟨_, ⟨_, c2, c3⟩, _, _⟩ := HP11.out
        have CS := Lib.hid (int_sign (.bool u1.b) (.slice u1.a u1.n u1.p) z1 W11 (HI1.out.ext HE11.out))
        go_wp2_with (fail)
        refine CS.out.mono ?_
        rintro e w12 ⟨rfl, he12⟩
        have HX12 := Lib.hid (HX11.out.ext he12)
        have HE12 := Lib.hid (HE11.out.trans he12)
        have HK12 := Lib.hid (HK11.out.ext he12)
        have HP12 : Hid (SD3 w.heap.size w3.heap.size (w3.heap.size + 1) u0 u1 x y g11 kp w12) := ⟨HP11.out.ext he12, HB11.out.ext he12⟩
        clear he12 CS c2 c3 HX11 HE11 HK11 HP11 HB11
        have HKD : Hid (dlen (nrm [(z1, Mo.zero)]) ≤ 4) := by
          show dlen _ ≤ 4
          rw [nrm_one]; exact HV1.out
        by_cases hz1 : z1 = 0
        · have hsg : (z1.sign == 0) = true := by rw [hz1]; rfl
          have HZK : Hid (Sim [(z1, Mo.zero)] []) := const_sim.2 hz1
          have hsn0 : snorm [(z1, Mo.zero)] = [] := by rw [hz1]; exact sn0
          have CD4 := Lib.hid (ps_Divides 3 10 M0 (norm l1) [(z1, Mo.zero)] (snorm [(z1, Mo.zero)]) kp x 6 14 w12 (mb0 _) HK12.out.pi HX12.out.pi (snB_ctr HK12.out (Nat.le_refl _) ((deg_const z1).mono (by omega)) (by have := HKD.out; omega)) (fun h => absurd HZK.out h) (HS1.out.deg.mono (by omega)) (by rw [hsn0]; exact fun m hm => absurd rfl hm) (Nat.le_trans HS1.out.dl (by omega)) (by rw [hsn0]; decide) law_ok (HNU.out 14 10 (by omega) (by omega)))
          clear hsn0 hz1
          obtain ⟨⟨_, _, ⟨x0, x1, x2, x3⟩, _⟩, q0, q1, q2, q3⟩ := HP12.out
          go_wp2_with (fail)
          refine CD4.out.mono ?_
          rintro e w13 ⟨b13, rfl, hb13, _, he13⟩
          have HB13 := Lib.hid (hb13 HZK.out)
          have HE13 := Lib.hid (HE12.out.trans he13)
          clear x0 x1 x2 x3 q0 q1 q2 q3 hb13 CD4
          cases b13 with
          | false =>
            clear he13
            go_wp2
            go_ret
            exact ⟨rfl, HE13.out⟩
          | true =>
            obtain ⟨⟨_, _, ⟨x0, x1, x2, x3⟩, _⟩, _⟩ := HP12.out.ext he13
            have CZ := Lib.hid (rp_IsZero M0 x (norm l1) w13 (mb0 _) (HX12.out.ext he13).pi)
            clear he13
            go_wp2_with (fail)
            refine CZ.out.mono ?_
            rintro e w14 ⟨b14, rfl, hb14, he14⟩
            obtain rfl : b14 = true := hb14.2 (HB13.out.1 trivial)
            have HE14 := Lib.hid (HE13.out.trans he14)
            clear hb14 he14 CZ x0 x1 x2 x3
            go_wp2
            go_ret
            exact ⟨rfl, HE14.out⟩
        have hsg : (z1.sign == 0) = false := by simp [hz1]
        have HZ1 := Lib.hid hz1
        have HZK : Hid (¬ Sim [(z1, Mo.zero)] []) := fun hh => hz1 (const_sim.1 hh)
        clear hz1
        go_upto_region 15 with (fail)
        go_cut [12, 13] (QCut (norm l1) w12.drew)
        case first =>
          have hEd : Ext w12 w12.drew := (Ext.refl w12).drew
          have HP12d := Lib.hid (HP12.out.ext hEd)
          have hMd : Mb M0 w12.drew := mb0 _
          have C3 : Hid (∀ (M' : Nat → Prop) (W' : World), Mb M' W' → (∀ g, M' g → M0 g ∨ w12.drew.heap.size ≤ g) → Ext w12.drew W' → Calls Tryz.prog 24 #[.agg (peA x), .agg #[.bool u1.b, .slice u1.a u1.n u1.p]] W' (RetX M' W' 4 (pmul (norm l1) [(z1, Mo.zero)]))) := fun M' W' h1 h2 h3 => rp_Scale M' x _ 3 u1.b u1.a u1.n u1.p z1 W' h1 (((HX12.out.ext hEd).more h2).ext h3).pi ((((HI1.out.ext HE12.out).ext hEd).more h2).ext h3) (by have := HS1.out.dl; have := HV1.out; omega) HS1.out.deg (by decide)
          have C5 : Hid (∀ (M' : Nat → Prop) (W' : World) (p : PE), Mb M' W' → (∀ g, M' g → M0 g ∨ w12.drew.heap.size ≤ g) → Ext w12.drew W' → CRx M' W' 4 p (pmul (norm l1) [(z1, Mo.zero)]) → Calls Tryz.prog 18 #[.agg (peA p), .agg (peA kp)] W' (fun e w' => ∃ v : PE, e = .returned (.tuple #[.agg (peA v), .int .i64 0]) ∧ CRx M' w' 4 v (norm l1) ∧ Ext W' w')) := fun M' W' p h1 h2 h3 h4 => (ps_Exact 3 5 M' _ _ p kp 6 10 W' h1 h4.pi (((HK12.out.ext hEd).more h2).ext h3).pi ((deg_scl HS1.out.deg z1).mono (by omega)) ((deg_const z1).mono (by omega)) (by
            rw [nrm_pmul]
            have g1 := dlen_mul (nrm (norm l1)) (nrm [(z1, Mo.zero)])
            have := HS1.out.dl
            have := HKD.out
            omega) (by have := HKD.out; omega) law_ok (HNU.out 10 5 (by omega) (by omega))).mono fun e w' hp => by
              obtain ⟨v, er, e1, e2, e3⟩ := ex_prod HS1.out.nn (const_nn z1) hp
              rcases e2 with ⟨_, e4, _⟩ | ⟨rfl, _, e4⟩
              · exact absurd e4 HZK.out
              · exact ⟨v, e1, e4, e3⟩
          refine wp_region_u (SD3 w.heap.size w3.heap.size (w3.heap.size + 1) u0 u1 x y g11 kp) 11 (by kernel_rfl) HP12d.out (fun hHeld => ?_)
          clear HX12 HE12 HK12 HP12 HP12d hEd HKD HS1 HS2 HNU HI0 HI1 HV0 HV1 HZ1 HZK
          generalize w12.drew = wd at *
          (refine tkB [0, 1, 2, 4] ?_; (iterate 4 (refine tk1 (oi := ?_) (v := ?_) (by kernel_rfl) (by first | exact hSn | exact hHeld) ?_ ?_ ?_ ?_ ?_; rotate_left 2; (simp only [List.getElem?_toArray, List.getElem?_cons_succ, List.getElem?_cons_zero]; rfl); rfl; (intro wS hSw; obtain ⟨⟨_, ⟨⟨C0, C1⟩, C2, C3⟩, ⟨S1, S2, S3, S4⟩, S5, S6, S7, S8⟩, T1, T2, T3, T4⟩ := hSw; go_simp; try with_reducible rfl); (exact fun _ _ _ h => h); (try simp only [Act.put, List.setIfInBounds_toArray, List.set_cons_zero, List.set_cons_succ]))); refine tkE ?_)
          (refine wpAnyU_two 3 9 (oi := ?_) (oj := ?_) (by kernel_rfl) ?_ ?_ ?_ ?_; rotate_left 2; (simp only [List.getElem?_toArray, List.getElem?_cons_succ, List.getElem?_cons_zero]; rfl); (simp only [List.getElem?_toArray, List.getElem?_cons_succ, List.getElem?_cons_zero]; rfl); all_goals intro K hK)
          · go_simp
            refine (C3.out M0 wd  (hMd.ext (Ext.refl wd)) (fun g hg => .inl hg) (Ext.refl wd) ).mono ?_
            rintro e v1 ⟨p1, rfl, hp1, d1⟩
            go_wp2_with (fail)
            have e1 : Ext wd v1 := ((Ext.refl wd)).trans d1
            try clear hSn
            have hSn := hHeld.ext e1
            refine hK.out _ _ (fun _ => hSn) ?_
            clear hK K
            (try simp only [Act.put, List.setIfInBounds_toArray, List.set_cons_zero, List.set_cons_succ])
            (refine wpAnyU_two 5 9 (oi := ?_) (oj := ?_) (by kernel_rfl) ?_ ?_ ?_ ?_; rotate_left 2; (simp only [List.getElem?_toArray, List.getElem?_cons_succ, List.getElem?_cons_zero]; rfl); (simp only [List.getElem?_toArray, List.getElem?_cons_succ, List.getElem?_cons_zero]; rfl); all_goals intro K hK)
            · go_simp
              refine (C5.out M0 v1 p1 (hMd.ext e1) (fun g hg => .inl hg) e1 (hp1)).mono ?_
              rintro e v2 ⟨v, rfl, hv, d2⟩
              go_wp2_with (fail)
              have e2 : Ext wd v2 := (e1).trans d2
              try clear hSn
              have hSn := hHeld.ext e2
              refine hK.out _ _ (fun _ => hSn) ?_
              clear hK K
              (try simp only [Act.put, List.setIfInBounds_toArray, List.set_cons_zero, List.set_cons_succ])
              (refine tkB [6, 7, 8] ?_; (iterate 3 (refine tk1 (oi := ?_) (v := ?_) (by kernel_rfl) (by first | exact hSn | exact hHeld) ?_ ?_ ?_ ?_ ?_; rotate_left 2; (simp only [List.getElem?_toArray, List.getElem?_cons_succ, List.getElem?_cons_zero]; rfl); rfl; (intro wS hSw; obtain ⟨⟨_, ⟨⟨C0, C1⟩, C2, C3⟩, ⟨S1, S2, S3, S4⟩, S5, S6, S7, S8⟩, T1, T2, T3, T4⟩ := hSw; go_simp; try with_reducible rfl); (exact fun _ _ _ h => h); (try simp only [Act.put, List.setIfInBounds_toArray, List.set_cons_zero, List.set_cons_succ]))); refine tkE ?_)
              (refine wpAnyU_one 9 (o := ?_) (by kernel_rfl) ?_ ?_; rotate_left 1; (simp only [List.getElem?_toArray, List.getElem?_cons_succ, List.getElem?_cons_zero]; rfl); intro K hK)
              go_simp
              have hSn2 := hSn.ext ((Ext.refl v2).alloc (.cells zA 32))
              have hSn3 := hSn.ext ((Ext.refl v2).alloc (.cells (peA v) 32))
              clear hSn
              refine hK.out _ _ (fun _ => hSn2) ?_
              clear hK K
              (try simp only [Act.put, List.setIfInBounds_toArray, List.set_cons_zero, List.set_cons_succ])
              (refine wpAnyU_one 10 (o := ?_) (by kernel_rfl) ?_ ?_; rotate_left 1; (simp only [List.getElem?_toArray, List.getElem?_cons_succ, List.getElem?_cons_zero]; rfl); intro K hK)
              go_simp
              refine hK.out _ _ (fun _ => hSn3) ?_
              clear hK K
              (try simp only [Act.put, List.setIfInBounds_toArray, List.set_cons_zero, List.set_cons_succ])
              ((refine wpAnyU_one 11 (o := ?_) (by kernel_rfl) ?_ ?_; rotate_left 1; (simp only [List.getElem?_toArray, List.getElem?_cons_succ, List.getElem?_cons_zero]; rfl); intro K hK); go_simp; (refine hK.out _ _ (fun h => absurd rfl h) ?_); clear hK K; refine wpAnyU_done (by kernel_rfl) ?_ _)
              go_wp2_with (fail)
              go_meet
              exact ⟨v2.heap.size, v, rfl, rfl, (Blk.of_arr v2 (peA v) 32 4 rfl).p4, hv.ext ((Ext.refl v2).alloc _), (e2).alloc _⟩
            · go_simp
              have ea2 : Ext v1 (v1.alloc (.cells zA 32)) := (Ext.refl _).alloc _
              have hb2 := Blk.of_arr v1 zA 32 4 rfl
              have e2 : Ext wd (v1.alloc (.cells zA 32)) := (e1).trans ea2
              try clear hSn
              have hSn := hHeld.ext e2
              refine hK.out _ _ (fun _ => hSn) ?_
              clear hK K
              (try simp only [Act.put, List.setIfInBounds_toArray, List.set_cons_zero, List.set_cons_succ])
              (refine wpAnyU_one 5 (o := ?_) (by kernel_rfl) ?_ ?_; rotate_left 1; (simp only [List.getElem?_toArray, List.getElem?_cons_succ, List.getElem?_cons_zero]; rfl); intro K hK)
              go_simp
              refine (C5.out (fun g => M0 g ∨ g = v1.heap.size) (v1.alloc (.cells zA 32)) p1 ((mb_or (hMd.ext e1) (.cells zA 32)).ext (Ext.refl (v1.alloc (.cells zA 32)))) (fun g hg => hg.imp id fun h => by rw [h]; exact e1.size) e2 (((hp1).more (M' := fun g => M0 g ∨ g = v1.heap.size) (fun g hg => hg.imp id fun (h : g = v1.heap.size) => Nat.le_of_eq h.symm)).ext ea2)).mono ?_
              rintro e v3 ⟨v, rfl, hv, d3⟩
              go_wp2_with (fail)
              have e3 : Ext wd v3 := (e2).trans d3
              have hb3 := (hb2).ext d3
              try clear hSn
              have hSn := hHeld.ext e3
              refine hK.out _ _ (fun _ => hSn) ?_
              clear hK K
              (try simp only [Act.put, List.setIfInBounds_toArray, List.set_cons_zero, List.set_cons_succ])
              (refine tkB [6, 7, 8] ?_; (iterate 3 (refine tk1 (oi := ?_) (v := ?_) (by kernel_rfl) (by first | exact hSn | exact hHeld) ?_ ?_ ?_ ?_ ?_; rotate_left 2; (simp only [List.getElem?_toArray, List.getElem?_cons_succ, List.getElem?_cons_zero]; rfl); rfl; (intro wS hSw; obtain ⟨⟨_, ⟨⟨C0, C1⟩, C2, C3⟩, ⟨S1, S2, S3, S4⟩, S5, S6, S7, S8⟩, T1, T2, T3, T4⟩ := hSw; go_simp; try with_reducible rfl); (exact fun _ _ _ h => h); (try simp only [Act.put, List.setIfInBounds_toArray, List.set_cons_zero, List.set_cons_succ]))); refine tkE ?_)
              obtain ⟨⟨q0, q1, q2, q3⟩, ⟨f0, f1, f2, f3⟩, hrr, hkp, hext⟩ := fin4 (M' := fun g => M0 g ∨ g = v1.heap.size) (w := wd) (.int .i64 v.lv) (.bool v.b) (.slice v.a v.n v.p) (.slice v.ka v.kn v.kp) (hb3) (.inr rfl) (e1).size (e3)
              simp only [arr] at q0 q1 q2 q3
              (refine wpAnyU_one 10 (o := ?_) (by kernel_rfl) ?_ ?_; rotate_left 1; (simp only [List.getElem?_toArray, List.getElem?_cons_succ, List.getElem?_cons_zero]; rfl); intro K hK)
              have hSn3 := hHeld.ext hext
              clear hSn
              go_simp
              refine hK.out _ _ (fun _ => hSn3) ?_
              clear hK K
              (try simp only [Act.put, List.setIfInBounds_toArray, List.set_cons_zero, List.set_cons_succ])
              ((refine wpAnyU_one 11 (o := ?_) (by kernel_rfl) ?_ ?_; rotate_left 1; (simp only [List.getElem?_toArray, List.getElem?_cons_succ, List.getElem?_cons_zero]; rfl); intro K hK); go_simp; (refine hK.out _ _ (fun h => absurd rfl h) ?_); clear hK K; refine wpAnyU_done (by kernel_rfl) ?_ _)
              go_wp2_with (fail)
              go_meet
              exact ⟨v1.heap.size, v, rfl, rfl, hrr, (hv.kp hkp).more (fun g hg => .inl (.inl hg)), hext⟩
          · go_simp
            have ea1 : Ext wd (wd.alloc (.cells zA 32)) := (Ext.refl _).alloc _
            have hb1 := Blk.of_arr wd zA 32 4 rfl
            have e1 : Ext wd (wd.alloc (.cells zA 32)) := ((Ext.refl wd)).trans ea1
            try clear hSn
            have hSn := hHeld.ext e1
            refine hK.out _ _ (fun _ => hSn) ?_
            clear hK K
            (try simp only [Act.put, List.setIfInBounds_toArray, List.set_cons_zero, List.set_cons_succ])
            (refine wpAnyU_one 3 (o := ?_) (by kernel_rfl) ?_ ?_; rotate_left 1; (simp only [List.getElem?_toArray, List.getElem?_cons_succ, List.getElem?_cons_zero]; rfl); intro K hK)
            go_simp
            refine (C3.out (fun g => M0 g ∨ g = wd.heap.size) (wd.alloc (.cells zA 32))  ((mb_or (hMd.ext (Ext.refl wd)) (.cells zA 32)).ext (Ext.refl (wd.alloc (.cells zA 32)))) (fun g hg => hg.imp id fun h => by rw [h]; exact (Ext.refl wd).size) e1 ).mono ?_
            rintro e v2 ⟨p1, rfl, hp1, d2⟩
            go_wp2_with (fail)
            have e2 : Ext wd v2 := (e1).trans d2
            have hb2 := (hb1).ext d2
            try clear hSn
            have hSn := hHeld.ext e2
            refine hK.out _ _ (fun _ => hSn) ?_
            clear hK K
            (try simp only [Act.put, List.setIfInBounds_toArray, List.set_cons_zero, List.set_cons_succ])
            (refine wpAnyU_one 5 (o := ?_) (by kernel_rfl) ?_ ?_; rotate_left 1; (simp only [List.getElem?_toArray, List.getElem?_cons_succ, List.getElem?_cons_zero]; rfl); intro K hK)
            go_simp
            refine (C5.out (fun g => M0 g ∨ g = wd.heap.size) v2 p1 ((mb_or (hMd.ext (Ext.refl wd)) (.cells zA 32)).ext (((Ext.refl (wd.alloc (.cells zA 32)))).trans d2)) (fun g hg => hg.imp id fun h => by rw [h]; exact (Ext.refl wd).size) e2 (hp1)).mono ?_
            rintro e v3 ⟨v, rfl, hv, d3⟩
            go_wp2_with (fail)
            have e3 : Ext wd v3 := (e2).trans d3
            have hb3 := (hb2).ext d3
            try clear hSn
            have hSn := hHeld.ext e3
            refine hK.out _ _ (fun _ => hSn) ?_
            clear hK K
            (try simp only [Act.put, List.setIfInBounds_toArray, List.set_cons_zero, List.set_cons_succ])
            (refine tkB [6, 7, 8] ?_; (iterate 3 (refine tk1 (oi := ?_) (v := ?_) (by kernel_rfl) (by first | exact hSn | exact hHeld) ?_ ?_ ?_ ?_ ?_; rotate_left 2; (simp only [List.getElem?_toArray, List.getElem?_cons_succ, List.getElem?_cons_zero]; rfl); rfl; (intro wS hSw; obtain ⟨⟨_, ⟨⟨C0, C1⟩, C2, C3⟩, ⟨S1, S2, S3, S4⟩, S5, S6, S7, S8⟩, T1, T2, T3, T4⟩ := hSw; go_simp; try with_reducible rfl); (exact fun _ _ _ h => h); (try simp only [Act.put, List.setIfInBounds_toArray, List.set_cons_zero, List.set_cons_succ]))); refine tkE ?_)
            obtain ⟨⟨q0, q1, q2, q3⟩, ⟨f0, f1, f2, f3⟩, hrr, hkp, hext⟩ := fin4 (M' := fun g => M0 g ∨ g = wd.heap.size) (w := wd) (.int .i64 v.lv) (.bool v.b) (.slice v.a v.n v.p) (.slice v.ka v.kn v.kp) (hb3) (.inr rfl) ((Ext.refl wd)).size (e3)
            simp only [arr] at q0 q1 q2 q3
            (refine wpAnyU_one 10 (o := ?_) (by kernel_rfl) ?_ ?_; rotate_left 1; (simp only [List.getElem?_toArray, List.getElem?_cons_succ, List.getElem?_cons_zero]; rfl); intro K hK)
            have hSn3 := hHeld.ext hext
            clear hSn
            go_simp
            refine hK.out _ _ (fun _ => hSn3) ?_
            clear hK K
            (try simp only [Act.put, List.setIfInBounds_toArray, List.set_cons_zero, List.set_cons_succ])
            ((refine wpAnyU_one 11 (o := ?_) (by kernel_rfl) ?_ ?_; rotate_left 1; (simp only [List.getElem?_toArray, List.getElem?_cons_succ, List.getElem?_cons_zero]; rfl); intro K hK); go_simp; (refine hK.out _ _ (fun h => absurd rfl h) ?_); clear hK K; refine wpAnyU_done (by kernel_rfl) ?_ _)
            go_wp2_with (fail)
            go_meet
            exact ⟨wd.heap.size, v, rfl, rfl, hrr, (hv.kp hkp).more (fun g hg => .inl (.inl hg)), hext⟩
        case rest =>
          obtain ⟨g12, v, rfl, rfl, hv, hs, heC⟩ := hcut
          have he5 : Ext w12 wc := (Ext.refl w12).drew.trans heC
          have HX13 := Lib.hid (HX12.out.ext he5)
          have HE13 := Lib.hid (HE12.out.trans he5)
          have HP13 := Lib.hid (HP12.out.ext he5)
          have HQ13 := Lib.hid hs
          have HB13 := Lib.hid hv
          have CD5 := Lib.hid (ps_Divides 3 10 M0 (norm l1) [(z1, Mo.zero)] (snorm [(z1, Mo.zero)]) kp x 6 14 wc (mb0 _) (HK12.out.ext he5).pi HX13.out.pi (snB_ctr (HK12.out.ext he5) (Nat.le_refl _) ((deg_const z1).mono (by omega)) (by have := HKD.out; omega)) (fun _ => snorm_ne (const_nn z1) HZK.out) (HS1.out.deg.mono (by omega)) (snorm_deg (const_nn z1) HZK.out ((deg_const z1).mono (by omega))) (Nat.le_trans HS1.out.dl (by omega)) (Nat.le_trans (dlen_mono (snorm_nrm _)) (Nat.le_trans HKD.out (by omega))) law_ok (HNU.out 14 10 (by omega) (by omega)))
          have HDV : Hid (Dv (snorm [(z1, Mo.zero)]) (norm l1)) := by
            show Dv _ _
            rw [snorm_const HZ1.out]; exact dv_one _ HS1.out.nn
          clear hv hs heC he5 HX12 HE12 HK12 HP12 HKD HI0 HI1 HV0 HV1
          obtain ⟨⟨_, _, ⟨x0, x1, x2, x3⟩, _⟩, q0, q1, q2, q3⟩ := HP13.out
          go_wp2_with (fail)
          refine CD5.out.mono ?_
          rintro e w14 ⟨b14, rfl, _, hb14, he14⟩
          obtain rfl : b14 = true := (hb14 HZK.out).2 HDV.out
          have HE14 := Lib.hid (HE13.out.trans he14)
          have CS := Lib.hid (rp_Same M0 v x (norm l1) (norm l1) w14 (mb0 _) (HQ13.out.ext he14).pi (HX13.out.ext he14).pi)
          clear x0 x1 x2 x3 q0 q1 q2 q3 hb14 CD5
          obtain ⟨⟨_, _, ⟨x0, x1, x2, x3⟩, _⟩, _⟩ := HP13.out.ext he14
          obtain ⟨v0, v1, v2, v3⟩ := HB13.out.ext he14
          clear he14
          go_wp2_with (fail)
          refine CS.out.mono ?_
          rintro e w15 ⟨b15, rfl, hb15, he15⟩
          obtain rfl : b15 = true := hb15.2 (Sim.refl _)
          have HF := Lib.hid (HE14.out.trans he15)
          clear hb15 he15 CS HE14 x0 x1 x2 x3 v0 v1 v2 v3
          go_wp2
          go_ret
          exact ⟨rfl, HF.out⟩
end Go.Proofs.YtodjlgkamokakaaGreat
