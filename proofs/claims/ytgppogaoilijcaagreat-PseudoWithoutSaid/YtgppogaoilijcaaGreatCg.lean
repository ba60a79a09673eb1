/- pseudo.divideOut. pseudo.Multiplicity, pseudo.Without; the law's own times. Multiplicities: plain facts; small arguments. -/
import Derived.Test.YtgppogaoilijcaaGreatCb
import Derived.Test.YtgppogaoilijcaaGreatBk
import Derived.Test.YtgppogaoilijcaaGreatCa
set_option linter.unusedVariables false
set_option linter.unusedSimpArgs false

namespace Go.Proofs.YtgppogaoilijcaaGreat
open Go.RowKit

def NC (l : List Tm) : Prop := ∃ m k, coefAt l m ≠ 0 ∧ 1 ≤ k ∧ k ≤ 4 ∧ 0 < m.get k
theorem NC.ne {l : List Tm} (h : NC l) : ¬ Sim l [] := fun hs => by
  obtain ⟨m, k, h1, _⟩ := h
  exact h1 (hs m)
def OutO (M : Nat → Prop) (w' : World) (l g s : List Tm) (A : Nat) (v : PE) (k : Nat) (er : Int) : Prop := (er = 2 ∧ Sim l [] ∧ k = 0 ∧ v = PE.z) ∨ (er = 12 ∧ ¬ Sim l [] ∧ (∃ z, Sim g [(z, Mo.zero)]) ∧ k = 0 ∧ v = PE.z) ∨ (er = 0 ∧ ¬ Sim l [] ∧ NC g ∧ ∃ r, CRx M w' 4 v r ∧ Sim (pmul r (ppow s k)) l ∧ ¬ Dv s r ∧ dlen (nrm r) ≤ A)
theorem OutO.ext {M : Nat → Prop} {w w' : World} {l g s : List Tm} {A : Nat} {v : PE} {k : Nat} {er : Int} (h : OutO M w l g s A v k er) (he : Ext w w') : OutO M w' l g s A v k er :=
  h.imp id (Or.imp id fun ⟨h1, h2, h3, r, h4, h5⟩ => ⟨h1, h2, h3, r, h4.ext he, h5⟩)
theorem OutO.more {M M' : Nat → Prop} {w : World} {l g s : List Tm} {A : Nat} {v : PE} {k : Nat} {er : Int} (h : OutO M w l g s A v k er) (hm : ∀ g, M' g → M g ∨ w.heap.size ≤ g) : OutO M' w l g s A v k er :=
  h.imp id (Or.imp id fun ⟨h1, h2, h3, r, h4, h5⟩ => ⟨h1, h2, h3, r, h4.more hm, h5⟩)
def RetO (M : Nat → Prop) (w : World) (l g s : List Tm) (A : Nat) (e : Ending) (w' : World) : Prop := ∃ (v : PE) (k : Nat) (er : Int), e = .returned (.tuple #[.agg (peA v), .int .i64 k, .int .i64 er]) ∧ OutO M w' l g s A v k er ∧ Ext w w'
structure DoS (M : Nat → Prop) (w : World) (x y : PE) (l g : List Tm) (wr : World) : Prop where
  p : P4 wr w.heap.size x
  q : Blk wr (w.heap.size + 1) 34 4 (arr (peA y))
  b : Blk wr (w.heap.size + 2) 34 4 (arr zA)
  m : Mb (Mx M w.heap.size (w.heap.size + 3)) wr
  x : PI (Mx M w.heap.size (w.heap.size + 3)) wr x l
  y : PI (Mx M w.heap.size (w.heap.size + 3)) wr y g
  e : Ext w wr
  s : w.heap.size + 3 ≤ wr.heap.size
theorem DoS.ext {M : Nat → Prop} {w wr w' : World} {x y : PE} {l g : List Tm} (h : DoS M w x y l g wr) (he : Ext wr w') : DoS M w x y l g w' :=
  ⟨h.p.ext he, h.q.ext he, h.b.ext he, h.m.ext he, h.x.ext he, h.y.ext he, h.e.trans he, Nat.le_trans h.s he.size⟩
theorem box_do {M : Nat → Prop} {w : World} (hM : Mb M w) {x y : PE} {l g : List Tm} (h : PI M w x l) (hy : PI M w y g) : DoS M w x y l g (((w.alloc (.cells (peA x) 34)).alloc (.cells (peA y) 34)).alloc (.cells zA 34)) := by
  obtain ⟨hE0, hX0, hY0, hB0, hM0⟩ := box2 hM x y
  have hb := (Blk.of_arr (w.alloc (.cells (peA x) 34)) (peA y) 34 4 rfl).alloc (.cells zA 34)
  simp only [World.size_alloc] at hb
  exact ⟨hX0, hb, hB0, hM0, (h.more (Mx.more (Nat.le_refl _))).ext hE0, (hy.more (Mx.more (Nat.le_refl _))).ext hE0, hE0, by simp⟩
structure DoL (M : Nat → Prop) (w : World) (x y : PE) (r s : List Tm) (wr : World) : Prop where
  p : P4 wr (w.heap.size + 1) y
  b : Blk wr (w.heap.size + 2) 34 4 (arr (peA x))
  m : Mb (Mx M w.heap.size (w.heap.size + 3)) wr
  x : CRx (Mx M w.heap.size (w.heap.size + 3)) wr 4 x r
  y : CRx (Mx M w.heap.size (w.heap.size + 3)) wr 4 y s
  e : Ext w wr
  s : w.heap.size + 3 ≤ wr.heap.size
theorem DoL.ext {M : Nat → Prop} {w wr w' : World} {x y : PE} {r s : List Tm} (h : DoL M w x y r s wr) (he : Ext wr w') : DoL M w x y r s w' :=
  ⟨h.p.ext he, h.b.ext he, h.m.ext he, h.x.ext he, h.y.ext he, h.e.trans he, Nat.le_trans h.s he.size⟩
theorem DoL.put {M : Nat → Prop} {w wr : World} {x y v : PE} {r s q : List Tm} (h : DoL M w x y r s wr) (hv : CRx (Mx M w.heap.size (w.heap.size + 3)) wr 4 v q) : DoL M w v y q s (set4 wr (w.heap.size + 2) 0 (.int .i64 v.lv) (.bool v.b) (.slice v.a v.n v.p) (.slice v.ka v.kn v.kp)) := by
  have hMg : Mx M w.heap.size (w.heap.size + 3) (w.heap.size + 2) := Mx.at (by omega)
  have hk : Kp (Mx M w.heap.size (w.heap.size + 3)) wr (set4 wr (w.heap.size + 2) 0 (.int .i64 v.lv) (.bool v.b) (.slice v.a v.n v.p) (.slice v.ka v.kn v.kp)) := Kp.set4 hMg 0 _ _ _ _
  exact ⟨h.p.of_heap (heap_set4 wr (w.heap.size + 2) 0 _ _ _ _ (w.heap.size + 1) (by omega)), (h.b.set4 0 _ _ _ _).congr (fun i hi => arr4 i hi), h.m.size hk.1, hv.kp hk, h.y.kp hk, h.e.set4 (by omega) 0 _ _ _ _, Nat.le_trans h.s hk.1⟩
theorem deg_rest {r s l : List Tm} {k B : Nat} (hr : NN r) (hs : NN s) (zs : ¬ Sim s []) (h : Sim (pmul r (ppow s k)) l) (hB : Deg B l) : Deg B r :=
  deg_factor hr (nn_ppow hs k) (ppow_ne hs zs k) h hB
theorem rest_ne {r s l : List Tm} {k : Nat} (hz : ¬ Sim l []) (h : Sim (pmul r (ppow s k)) l) : ¬ Sim r [] := fun hs => hz (h.symm.trans (hs.pmul_left _))
theorem rest_step {r q s l : List Tm} {k : Nat} (h : Sim (pmul r (ppow s k)) l) (hq : Sim (pmul q s) r) : Sim (pmul q (ppow s (k + 1))) l :=
  ((Sim.pmul_comm (ppow s k) s).pmul_right q).trans ((Sim.pmul_assoc q s (ppow s k)).symm.trans ((hq.pmul_left _).trans h))
set_option maxRecDepth 100000 in
set_option maxHeartbeats 16000000 in
theorem ps_divideOut (C G : Nat) (M : Nat → Prop) (l g s : List Tm) (x y : PE) (B A : Nat) (w : World) (hM : Mb M w) (h : PI M w x l) (hy : PI M w y g)
    (hsn : ∀ (M' : Nat → Prop) (W' : World), Mb M' W' → (∀ g, M' g → M g ∨ w.heap.size ≤ g) → Ext w W' → Calls Tryz.prog 23 #[.agg (peA y)] W' (RetX M' W' 4 s)) (hs : NC g → NC s)
    (hB : Deg B l) (hC : Deg C s) (hA : dlen (nrm l) ≤ A) (hG : dlen (nrm s) ≤ G) (hO : OkB C 4 B) (hS : A + (B + 1) * (qX C 4 B * (G + 2)) ≤ 549755813888) (hB2 : B ≤ 1000000) :
    Calls Tryz.prog 85 #[.agg (peA x), .agg (peA y)] w (RetO M w l g s (A + (B + 1) * (qX C 4 B * (G + 2)))) := by
  have HD0 := Lib.hid (box_do hM h hy)
  have HSN : Hid (∀ (M' : Nat → Prop) (W' : World), Mb M' W' → (∀ g, M' g → M g ∨ w.heap.size ≤ g) → Ext w W' → Calls Tryz.prog 23 #[.agg (peA y)] W' (RetX M' W' 4 s)) := hsn
  have HCE : Hid (∀ (M' : Nat → Prop) (a b : PE) (W' : World) (r : List Tm) (k : Nat), Mb M' W' → CRx M' W' 4 a r → CRx M' W' 4 b s → ¬ Sim s [] → Deg B r → k ≤ B → dlen (nrm r) ≤ A + k * (qX C 4 B * (G + 2)) → Calls Tryz.prog 88 #[.agg (peA a), .agg (peA b)] W' (RetEx M' W' 4 r s (A + (k + 1) * (qX C 4 B * (G + 2))))) := fun M' a b W' r k h1 h2 h4 h5 h6 h7 h8 => by
    have e : A + k * (qX C 4 B * (G + 2)) + qX C 4 B * (G + 2) = A + (k + 1) * (qX C 4 B * (G + 2)) := by rw [Nat.add_mul, Nat.one_mul, Nat.add_assoc]
    have hle : (k + 1) * (qX C 4 B * (G + 2)) ≤ (B + 1) * (qX C 4 B * (G + 2)) := Nat.mul_le_mul_right _ (by omega)
    rw [← e]
    exact ps_exact C G 4 (Nat.le_refl 4) M' r s a b B _ W' h1 h2 h4 h5 h6 hC h8 hG hO (by rw [e]; omega)
  have HNC := Lib.hid hs
  have HBL := Lib.hid hB
  have HAL := Lib.hid hA
  generalize hX : qX C 4 B * (G + 2) = X at *
  generalize hW : ((w.alloc (.cells (peA x) 34)).alloc (.cells (peA y) 34)).alloc (.cells zA 34) = W at *
  have HW := Lib.hid hW
  clear hM h hy hsn hs hB hC hA hG hO hS hX hW
  obtain ⟨x0, x1, x2, x3⟩ := HD0.out.p
  go_enter Tryz.func85, Tryz.ntmps85
  go_upto_region 1 with (fail)
  rw [HW.out]
  go_wp2_with (fail)
  have hEb := (Ext.refl W).alloc (.cells (peA x) 34)
  have hBb := Blk.of_arr W (peA x) 34 4 rfl
  refine (ps_refuse (Mx M w.heap.size (w.heap.size + 3)) x l W.heap.size 0 1 _ (HD0.out.m.ext hEb) hBb.p4 hBb.lt (HD0.out.x.ext hEb)).mono ?_
  rintro e w1 ⟨er, rfl, her, he1⟩
  have HD1 := Lib.hid (HD0.out.ext (hEb.trans he1))
  clear x0 x1 x2 x3 he1 hEb hBb HD0 HW
  rcases her with ⟨rfl, hz⟩ | ⟨rfl, hz⟩
  · obtain ⟨⟨q0, q1, q2, q3⟩, ⟨f0, f1, f2, f3⟩, ⟨r0, r1, r2, r3⟩, HF⟩ := retX (M := M) (M' := Mx M w.heap.size (w.heap.size + 3)) (w := w) (L := 0) (l := []) (y := PE.z) HD1.out.b (Mx.at (by omega)) (by omega) HD1.out.e (CR.zero _ _ 0) Mx.sub
    obtain ⟨_, _, _, hext⟩ := HF
    have HF2 : Hid (RetO M w l g s (A + (B + 1) * X) (.returned (.tuple #[.agg (peA PE.z), .int .i64 0, .int .i64 2])) _) := ⟨PE.z, 0, 2, rfl, .inl ⟨rfl, hz, rfl, rfl⟩, hext⟩
    simp only [PE.z] at r0 r1 r2 r3
    clear hext HD1 HSN HCE
    go_wp2
    exact bodyPost_ret (v := .tuple #[.agg (peA PE.z), .int .i64 0, .int .i64 2]) (by simp [results, Tryz.results85, go_sem, r0, r1, r2, r3, PE.z]) rfl HF2.out
  have HLZ := Lib.hid hz
  clear hz
  obtain ⟨y0, y1, y2, y3⟩ := HD1.out.q.p4
  go_wp2_with (fail)
  refine (rp_Constant _ y g w1 HD1.out.m HD1.out.y).mono ?_
  rintro e w2 ⟨z, ok, bc, ac, nc, pc, rfl, hci, hok1, hok2, he2⟩
  have hEc := he2.trans ((Ext.refl w2).alloc (.cells #[.bool bc, .slice ac nc pc] 31))
  have HD2 := Lib.hid (HD1.out.ext hEc)
  have HK1 := Lib.hid hok1
  have HK2 := Lib.hid hok2
  clear y0 y1 y2 y3 hci hok1 hok2 he2 hEc HD1
  go_upto_region 5 with (fail)
  generalize hs12 : w2.heap.size = g2 at *
  generalize w2.alloc (.cells #[.bool bc, .slice ac nc pc] 31) = W2 at *
  clear hs12
  cases ok with
  | true =>
    obtain ⟨⟨q0, q1, q2, q3⟩, ⟨f0, f1, f2, f3⟩, ⟨r0, r1, r2, r3⟩, HF⟩ := retX (M := M) (M' := Mx M w.heap.size (w.heap.size + 3)) (w := w) (L := 0) (l := []) (y := PE.z) HD2.out.b (Mx.at (by omega)) (by omega) HD2.out.e (CR.zero _ _ 0) Mx.sub
    obtain ⟨_, _, _, hext⟩ := HF
    have HF2 : Hid (RetO M w l g s (A + (B + 1) * X) (.returned (.tuple #[.agg (peA PE.z), .int .i64 0, .int .i64 12])) _) := ⟨PE.z, 0, 12, rfl, .inr (.inl ⟨rfl, HLZ.out, ⟨z, HK1.out rfl⟩, rfl, rfl⟩), hext⟩
    simp only [PE.z] at r0 r1 r2 r3
    clear hext HD2 HSN HCE
    go_wp2
    exact bodyPost_ret (v := .tuple #[.agg (peA PE.z), .int .i64 0, .int .i64 12]) (by simp [results, Tryz.results85, go_sem, r0, r1, r2, r3, PE.z]) rfl HF2.out
  | false =>
  have HG : Hid (NC g) := (HK2.out rfl).2
  have HS : Hid (NC s) := HNC.out HG.out
  clear HK1 HK2 HNC
  go_upto_region 7 with (fail)
  have HD3 := Lib.hid (HD2.out.ext (Ext.refl W2).drew)
  clear HD2
  refine wp_region_u (SP2 w.heap.size x y) 5 (by kernel_rfl) ⟨HD3.out.p, HD3.out.q.p4⟩ (fun hHeld => ?_)
  generalize W2.drew = wd at *
  (refine tkB [0, 2] ?_; (iterate 2 (refine tk1 (oi := ?_) (v := ?_) (by kernel_rfl) (by first | exact hSn | exact hHeld) ?_ ?_ ?_ ?_ ?_; rotate_left 2; (simp only [List.getElem?_toArray, List.getElem?_cons_succ, List.getElem?_cons_zero]; rfl); rfl; (intro wS hSw; obtain ⟨⟨S1, S2, S3, S4⟩, S5, S6, S7, S8⟩ := hSw; go_simp; try with_reducible rfl); (exact fun _ _ _ h => h); (try simp only [Act.put, List.setIfInBounds_toArray, List.set_cons_zero, List.set_cons_succ]))); refine tkE ?_)
  ((refine wpAnyU_one 1 (o := ?_) (by kernel_rfl) ?_ ?_; rotate_left 1; (simp only [List.getElem?_toArray, List.getElem?_cons_succ, List.getElem?_cons_zero]; rfl); intro K hK); go_simp; (refine (rp_Normal _ x l wd HD3.out.m HD3.out.x).mono ?_); rintro e_ w3 ⟨v, rfl, hv, e1⟩; go_wp2_with (fail); (try clear hSn); (have hSn := hHeld.ext e1); (refine hK.out _ _ (fun _ => hSn) ?_); clear hK K; (try simp only [Act.put, List.setIfInBounds_toArray, List.set_cons_zero, List.set_cons_succ]))
  ((refine wpAnyU_one 3 (o := ?_) (by kernel_rfl) ?_ ?_; rotate_left 1; (simp only [List.getElem?_toArray, List.getElem?_cons_succ, List.getElem?_cons_zero]; rfl); intro K hK); go_simp; (refine (HSN.out (Mx M w.heap.size (w.heap.size + 3)) w3 (HD3.out.m.ext e1) (Mx.more (Nat.le_refl _)) (HD3.out.e.trans e1)).mono ?_); rintro e_ w4 ⟨u, rfl, hu, e3⟩; go_wp2_with (fail); (try clear hSn); (have hSn := hHeld.ext (e1.trans e3)); (refine hK.out _ _ (fun _ => hSn) ?_); clear hK K; (try simp only [Act.put, List.setIfInBounds_toArray, List.set_cons_zero, List.set_cons_succ]))
  have HD4 := Lib.hid (HD3.out.ext (e1.trans e3))
  have HV4 := Lib.hid (hv.ext e3)
  have HU4 := Lib.hid hu
  clear hv hu e1 e3 hHeld hSn HD3 HSN
  obtain ⟨⟨q0, q1, q2, q3⟩, ⟨f0, f1, f2, f3⟩, _, hkp, hext⟩ := fin4 (M' := Mx M w.heap.size (w.heap.size + 3)) (w := w) (.int .i64 v.lv) (.bool v.b) (.slice v.a v.n v.p) (.slice v.ka v.kn v.kp) HD4.out.b (Mx.at (by omega)) (by omega) HD4.out.e
  simp only [arr] at q0 q1 q2 q3
  have hb5 : Blk (set4 w4 (w.heap.size + 2) 0 (.int .i64 v.lv) (.bool v.b) (.slice v.a v.n v.p) (.slice v.ka v.kn v.kp)) (w.heap.size + 2) 34 4 (arr (peA v)) := (HD4.out.b.set4 0 _ _ _ _).congr (fun i hi => arr4 i hi)
  have hq5 : Blk (set4 w4 (w.heap.size + 2) 0 (.int .i64 v.lv) (.bool v.b) (.slice v.a v.n v.p) (.slice v.ka v.kn v.kp)) (w.heap.size + 1) 34 4 (arr (peA y)) := HD4.out.q.of_heap (heap_set4 w4 (w.heap.size + 2) 0 _ _ _ _ (w.heap.size + 1) (by omega))
  have hs5 : SP2 w.heap.size x y (set4 w4 (w.heap.size + 2) 0 (.int .i64 v.lv) (.bool v.b) (.slice v.a v.n v.p) (.slice v.ka v.kn v.kp)) := ⟨HD4.out.p.of_heap (heap_set4 w4 (w.heap.size + 2) 0 _ _ _ _ w.heap.size (by omega)), hq5.p4⟩
  have hm5 := HD4.out.m.size hkp.1
  have hv5 := HV4.out.kp hkp
  have hu5 := HU4.out.kp hkp
  have hz5 := Nat.le_trans HD4.out.s hkp.1
  (refine wpAnyU_one 4 (o := ?_) (by kernel_rfl) ?_ ?_; rotate_left 1; (simp only [List.getElem?_toArray, List.getElem?_cons_succ, List.getElem?_cons_zero]; rfl); intro K hK)
  go_simp
  refine hK.out _ _ (fun _ => hs5) ?_
  clear hK K
  (try simp only [Act.put, List.setIfInBounds_toArray, List.set_cons_zero, List.set_cons_succ])
  generalize hW5 : set4 w4 (w.heap.size + 2) 0 (.int .i64 v.lv) (.bool v.b) (.slice v.a v.n v.p) (.slice v.ka v.kn v.kp) = W5 at *
  unfold set4 at hW5
  rw [hW5]
  clear hW5 q0 q1 q2 q3 f0 f1 f2 f3 HD4 HV4 HU4 hkp
  obtain ⟨⟨q0, q1, q2, q3⟩, ⟨f0, f1, f2, f3⟩, hp6, hkp, hext6⟩ := fin4 (M' := Mx M w.heap.size (w.heap.size + 3)) (w := w) (.int .i64 u.lv) (.bool u.b) (.slice u.a u.n u.p) (.slice u.ka u.kn u.kp) hq5 (Mx.at (by omega)) (by omega) hext
  simp only [arr] at q0 q1 q2 q3
  have HL6 : Hid (DoL M w v u l s (set4 W5 (w.heap.size + 1) 0 (.int .i64 u.lv) (.bool u.b) (.slice u.a u.n u.p) (.slice u.ka u.kn u.kp))) := ⟨hp6, hb5.of_heap (heap_set4 W5 (w.heap.size + 1) 0 _ _ _ _ (w.heap.size + 2) (by omega)), hm5.size hkp.1, hv5.kp hkp, hu5.kp hkp, hext6, Nat.le_trans hz5 hkp.1⟩
  clear hb5 hq5 hs5 hm5 hv5 hu5 hz5 hext hkp hext6 hp6
  (refine wpAnyU_one 5 (o := ?_) (by kernel_rfl) ?_ ?_; rotate_left 1; (simp only [List.getElem?_toArray, List.getElem?_cons_succ, List.getElem?_cons_zero]; rfl); intro K hK)
  go_simp
  refine hK.out _ _ (fun h => absurd rfl h) ?_
  clear hK K
  refine wpAnyU_done (by kernel_rfl) ?_ _
  generalize hW6 : set4 W5 (w.heap.size + 1) 0 (.int .i64 u.lv) (.bool u.b) (.slice u.a u.n u.p) (.slice u.ka u.kn u.kp) = W6 at *
  unfold set4 at hW6
  rw [hW6]
  clear hW6 q0 q1 q2 q3 f0 f1 f2 f3
  go_wp2_with (fail)
  go_loopw [5] (fun tv wr => ∃ (k : Nat) (v : PE) (r : List Tm), k ≤ B ∧ tv = .int .i64 k ∧ w.heap.size + 3 ≤ wr.heap.size ∧ Hid (DoL M w v u r s wr) ∧ Hid (Sim (pmul r (ppow s k)) l ∧ dlen (nrm r) ≤ A + k * X)) (fun tv _ => B + 1 - (intOf tv).toNat)
  case atStart => exact ⟨0, v, l, Nat.zero_le _, rfl, HL6.out.s, HL6, by
    refine ⟨?_, by have := HAL.out; omega⟩
    show Sim (pmul l [(1, Mo.zero)]) l
    exact (pmul_const 1 l).trans (by rw [smul_one]; exact Sim.refl _)⟩
  case round =>
    clear HL6
    obtain ⟨k, v, r, hk, rfl, hsz, HL, HR⟩ := hrel
    have CE := Lib.hid (HCE.out _ v u wr r k HL.out.m HL.out.x HL.out.y HS.out.ne (deg_rest HL.out.x.nn HL.out.y.nn HS.out.ne HR.out.1 HBL.out) hk HR.out.2)
    obtain ⟨x0, x1, x2, x3⟩ := HL.out.b.p4
    obtain ⟨y0, y1, y2, y3⟩ := HL.out.p
    go_wp2_with (fail)
    refine CE.out.mono ?_
    rintro e w7 ⟨q, ok, rfl, hq, he7⟩
    have hEb := (Ext.refl w7).alloc (.cells (peA q) 34)
    have HL7 := Lib.hid (HL.out.ext (he7.trans hEb))
    have HQ7 := Lib.hid (hq.ext hEb)
    have hb7 : P4 (w7.alloc (.cells (peA q) 34)) w7.heap.size q := (Blk.of_arr w7 (peA q) 34 4 rfl).p4
    have hlt7 : w7.heap.size < (w7.alloc (.cells (peA q) 34)).heap.size := by simp
    clear hq he7 hEb CE HL x0 x1 x2 x3 y0 y1 y2 y3 hsz
    go_upto_region 9 with (fail)
    generalize hs12 : w7.heap.size = g7 at *
    generalize w7.alloc (.cells (peA q) 34) = W7 at *
    clear hs12
    cases ok with
    | false =>
      have hnd := HQ7.out.2 rfl
      obtain ⟨⟨q0, q1, q2, q3⟩, ⟨f0, f1, f2, f3⟩, ⟨r0, r1, r2, r3⟩, hkp, hext⟩ := fin4 (M' := Mx M w.heap.size (w.heap.size + 3)) (w := w) (.int .i64 v.lv) (.bool v.b) (.slice v.a v.n v.p) (.slice v.ka v.kn v.kp) HL7.out.b (Mx.at (by omega)) (by omega) HL7.out.e
      simp only [arr] at q0 q1 q2 q3
      have hle : k * X ≤ (B + 1) * X := Nat.mul_le_mul_right _ (by omega)
      have HF : Hid (RetO M w l g s (A + (B + 1) * X) (.returned (.tuple #[.agg (peA v), .int .i64 k, .int .i64 0])) (set4 W7 (w.heap.size + 2) 0 (.int .i64 v.lv) (.bool v.b) (.slice v.a v.n v.p) (.slice v.ka v.kn v.kp))) := ⟨v, k, 0, rfl, .inr (.inr ⟨rfl, HLZ.out, HG.out, r, (HL7.out.x.kp hkp).more (fun g hg => .inl (.inl hg)), HR.out.1, hnd, by have := HR.out.2; omega⟩), hext⟩
      clear hnd hkp hext HL7 HQ7 hb7 hlt7 hle HCE
      unfold set4 at r0 r1 r2 r3
      go_wp2
      exact bodyPost_ret (v := .tuple #[.agg (peA v), .int .i64 k, .int .i64 0]) (by simp [results, Tryz.results85, go_sem, r0, r1, r2, r3]) rfl HF.out
    | true =>
      obtain ⟨r', hq1, hq2, hq3⟩ := HQ7.out.1 rfl
      have HR' : Hid (Sim (pmul r' (ppow s (k + 1))) l ∧ dlen (nrm r') ≤ A + (k + 1) * X) := ⟨rest_step HR.out.1 hq2, hq3⟩
      have hkB : k + 1 ≤ B := by
        obtain ⟨m, K, h1, h2, h3, h4⟩ := HS.out
        exact pow_le h2 h3 hq1.nn HL7.out.y.nn (rest_ne HLZ.out HR'.out.1) HS.out.ne h1 h4 HR'.out.1 HBL.out
      obtain ⟨q0, q1, q2, q3⟩ := HL7.out.b.p4
      have f0 := HL7.out.b.frozen 0
      have f1 := HL7.out.b.frozen 1
      have f2 := HL7.out.b.frozen 2
      have f3 := HL7.out.b.frozen 3
      obtain ⟨b0, b1, b2, b3⟩ := hb7
      have HL8 := Lib.hid (HL7.out.put hq1)
      have hsz8 := HL8.out.s
      clear hq1 hq2 hq3 HL7 HQ7 hlt7 HR HCE
      go_wp2
      go_roundw
      case rel => exact ⟨k + 1, q, r', hkB, by go_num, hsz8, HL8, HR'⟩
      case measure => simp [intOf]; omega
end Go.Proofs.YtgppogaoilijcaaGreat

namespace Go.Proofs.YtgppogaoilijcaaGreat
open Go.RowKit

structure DoA (M : Nat → Prop) (w : World) (l g s : List Tm) (x y : PE) (C G B A : Nat) : Prop where
  hm : Mb M w
  hx : PI M w x l
  hy : PI M w y g
  sn : ∀ (M' : Nat → Prop) (W' : World), Mb M' W' → (∀ g, M' g → M g ∨ w.heap.size ≤ g) → Ext w W' → Calls Tryz.prog 23 #[.agg (peA y)] W' (RetX M' W' 4 s)
  nc : NC g → NC s
  ns : NN s
  hB : Deg B l
  hC : Deg C s
  hA : dlen (nrm l) ≤ A
  hG : dlen (nrm s) ≤ G
  hO : OkB C 4 B
  hS : A + (B + 1) * (qX C 4 B * (G + 2)) ≤ 549755813888
  B2 : (B + 1) ^ 4 ≤ 1099511627776
  B3 : B ≤ 1000000
theorem DoA.ext {M M' : Nat → Prop} {w w' : World} {l g s : List Tm} {x y : PE} {C G B A : Nat} (h : DoA M w l g s x y C G B A) (hM : Mb M' w') (hm : ∀ g, M' g → M g ∨ w.heap.size ≤ g) (he : Ext w w') : DoA M' w' l g s x y C G B A :=
  ⟨hM, (h.hx.more hm).ext he, (h.hy.more hm).ext he, fun M2 W2 h1 h2 h3 => h.sn M2 W2 h1 (fun q hq => (h2 q hq).elim (fun k => hm q k) (fun k => .inr (Nat.le_trans he.size k))) (he.trans h3), h.nc, h.ns, h.hB, h.hC, h.hA, h.hG, h.hO, h.hS, h.B2, h.B3⟩
theorem DoA.call {M : Nat → Prop} {w : World} {l g s : List Tm} {x y : PE} {C G B A : Nat} (h : DoA M w l g s x y C G B A) : Calls Tryz.prog 85 #[.agg (peA x), .agg (peA y)] w (RetO M w l g s (A + (B + 1) * (qX C 4 B * (G + 2)))) :=
  ps_divideOut C G M l g s x y B A w h.hm h.hx h.hy h.sn h.nc h.hB h.hC h.hA h.hG h.hO h.hS h.B3
def RetMu (M : Nat → Prop) (w : World) (l g s : List Tm) (A : Nat) (e : Ending) (w' : World) : Prop := ∃ (v : PE) (k : Nat) (er : Int), e = .returned (.tuple #[.int .i64 k, .int .i64 er]) ∧ OutO M w' l g s A v k er ∧ Ext w w'
set_option maxRecDepth 100000 in
set_option maxHeartbeats 4000000 in
theorem ps_Multiplicity (C G : Nat) (M : Nat → Prop) (l g s : List Tm) (x y : PE) (B A : Nat) (w : World) (h : DoA M w l g s x y C G B A) :
    Calls Tryz.prog 20 #[.agg (peA y), .agg (peA x)] w (RetMu M w l g s (A + (B + 1) * (qX C 4 B * (G + 2)))) := by
  have hE : Ext w ((w.alloc (.cells (peA y) 34)).alloc (.cells (peA x) 34)) := ((Ext.refl w).alloc _).alloc _
  have CT := Lib.hid (h.ext (M' := M) (h.hm.ext hE) (fun g hg => .inl hg) hE).call
  have HE := Lib.hid hE
  clear h hE
  go_enter Tryz.func20, Tryz.ntmps20
  go_wp2_with (fail)
  refine CT.out.mono ?_
  rintro e w1 ⟨v, k, er, rfl, ho, he1⟩
  have HF : Hid (RetMu M w l g s (A + (B + 1) * (qX C 4 B * (G + 2))) (.returned (.tuple #[.int .i64 k, .int .i64 er])) (w1.alloc (.cells (peA v) 34))) := ⟨v, k, er, rfl, ho.ext ((Ext.refl w1).alloc _), (HE.out.trans he1).alloc _⟩
  clear ho he1 CT HE
  go_wp2
  exact bodyPost_ret (v := .tuple #[.int .i64 k, .int .i64 er]) (by simp [results, Tryz.results20, go_sem]) rfl HF.out
theorem snG_ctr {M : Nat → Prop} {w : World} {x : PE} {l : List Tm} {B : Nat} (hx : CRx M w 4 x l) (hB : Deg B l) (hL : dlen (nrm l) + 1 ≤ 1099511627776) (hB4 : (B + 1) ^ 4 ≤ 1099511627776) (M' : Nat → Prop) (W' : World) (h1 : Mb M' W') (h2 : ∀ g, M' g → M g ∨ w.heap.size ≤ g) (h3 : Ext w W') : Calls Tryz.prog 23 #[.agg (peA x)] W' (RetX M' W' 4 (snorm l)) := by
  obtain ⟨t, hR, hT, hS, hN⟩ := hx.tbN (B := B) (Nat.le_refl _) (by omega) hB hB4
  rw [← hS.snorm]
  refine mv_snorm M' (4 + 1) t x W' h1 (RR.ext (RR.more h2 hR) h3) hT ?_
  have h5 := dlen_mono hN
  omega
def RetWi (M : Nat → Prop) (w : World) (l g s : List Tm) (A : Nat) (e : Ending) (w' : World) : Prop := ∃ (v : PE) (er : Int), e = .returned (.tuple #[.agg (peA v), .int .i64 er]) ∧ ((er = 2 ∧ Sim l [] ∧ v = PE.z) ∨ (er = 12 ∧ ¬ Sim l [] ∧ (∃ z, Sim g [(z, Mo.zero)]) ∧ v = PE.z) ∨ (er = 0 ∧ ¬ Sim l [] ∧ NC g ∧ ∃ k r, CRx M w' 4 v (snorm r) ∧ NN r ∧ Sim (pmul r (ppow s k)) l ∧ ¬ Dv s r ∧ dlen (nrm r) ≤ A)) ∧ Ext w w'
set_option maxRecDepth 100000 in
set_option maxHeartbeats 4000000 in
theorem ps_Without (C G : Nat) (M : Nat → Prop) (l g s : List Tm) (x y : PE) (B A : Nat) (w : World) (h : DoA M w l g s x y C G B A) :
    Calls Tryz.prog 21 #[.agg (peA x), .agg (peA y)] w (RetWi M w l g s (A + (B + 1) * (qX C 4 B * (G + 2)))) := by
  obtain ⟨hE, hX0, hY0, hB0, hM0⟩ := box2 h.hm x y
  have hA := h.ext hM0 (Mx.more (Nat.le_refl _)) hE
  have CT := Lib.hid hA.call
  have HA := Lib.hid hA
  have HE := Lib.hid hE
  have HB := Lib.hid hB0
  have HM := Lib.hid hM0
  obtain ⟨x0, x1, x2, x3⟩ := hX0
  obtain ⟨y0, y1, y2, y3⟩ := hY0
  generalize hW : ((w.alloc (.cells (peA x) 34)).alloc (.cells (peA y) 34)).alloc (.cells zA 34) = W at *
  have HW := Lib.hid hW
  clear h hE hA hW hB0 hM0
  go_enter Tryz.func21, Tryz.ntmps21
  go_upto_region 1 with (fail)
  rw [HW.out]
  go_wp2_with (fail)
  refine CT.out.mono ?_
  rintro e w1 ⟨v, k, er, rfl, ho, he1⟩
  have hEb := (Ext.refl w1).alloc (.cells (peA v) 34)
  have he2 := he1.trans hEb
  have HO := Lib.hid (ho.ext hEb)
  have HE2 := Lib.hid (HE.out.trans he2)
  have HB2 := Lib.hid (HB.out.ext he2)
  have HM2 := Lib.hid (HM.out.ext he2)
  have HV2 : Hid (P4 (w1.alloc (.cells (peA v) 34)) w1.heap.size v) := (Blk.of_arr w1 (peA v) 34 4 rfl).p4
  clear x0 x1 x2 x3 y0 y1 y2 y3 ho he1 hEb he2 CT HE HB HM HW
  go_upto_region 2 with (fail)
  generalize hs12 : w1.heap.size = g1 at *
  generalize w1.alloc (.cells (peA v) 34) = W1 at *
  clear hs12
  have hzret : ∀ er : Int, ((er = 2 ∧ Sim l []) ∨ (er = 12 ∧ ¬ Sim l [] ∧ (∃ z, Sim g [(z, Mo.zero)]))) → ∀ w', Ext w w' → RetWi M w l g s (A + (B + 1) * (qX C 4 B * (G + 2))) (.returned (.tuple #[.agg (peA PE.z), .int .i64 er])) w' := fun er h w' he => ⟨PE.z, er, rfl, h.elim (fun h => .inl ⟨h.1, h.2, rfl⟩) (fun h => .inr (.inl ⟨h.1, h.2.1, h.2.2, rfl⟩)), he⟩
  have HZR := Lib.hid hzret
  clear hzret
  rcases HO.out with ⟨rfl, h1, rfl, rfl⟩ | ⟨rfl, h1, h2, rfl, rfl⟩ | ⟨rfl, h1, h2, r, hr1, hr2, hr3, hr4⟩
  · obtain ⟨⟨q0, q1, q2, q3⟩, ⟨f0, f1, f2, f3⟩, ⟨r0, r1, r2, r3⟩, HF⟩ := retX (M := M) (M' := Mx M w.heap.size (w.heap.size + 3)) (w := w) (L := 0) (l := []) (y := PE.z) HB2.out (Mx.at (by omega)) (by omega) HE2.out (CR.zero _ _ 0) Mx.sub
    obtain ⟨_, _, _, hext⟩ := HF
    have HF2 := Lib.hid (HZR.out 2 (.inl ⟨rfl, h1⟩) _ hext)
    simp only [PE.z] at r0 r1 r2 r3
    clear hext h1 HO HE2 HB2 HM2 HV2 HA HZR
    go_wp2
    exact bodyPost_ret (v := .tuple #[.agg (peA PE.z), .int .i64 2]) (by simp [results, Tryz.results21, go_sem, r0, r1, r2, r3, PE.z]) rfl HF2.out
  · obtain ⟨⟨q0, q1, q2, q3⟩, ⟨f0, f1, f2, f3⟩, ⟨r0, r1, r2, r3⟩, HF⟩ := retX (M := M) (M' := Mx M w.heap.size (w.heap.size + 3)) (w := w) (L := 0) (l := []) (y := PE.z) HB2.out (Mx.at (by omega)) (by omega) HE2.out (CR.zero _ _ 0) Mx.sub
    obtain ⟨_, _, _, hext⟩ := HF
    have HF2 := Lib.hid (HZR.out 12 (.inr ⟨rfl, h1, h2⟩) _ hext)
    simp only [PE.z] at r0 r1 r2 r3
    clear hext h1 h2 HO HE2 HB2 HM2 HV2 HA HZR
    go_wp2
    exact bodyPost_ret (v := .tuple #[.agg (peA PE.z), .int .i64 12]) (by simp [results, Tryz.results21, go_sem, r0, r1, r2, r3, PE.z]) rfl HF2.out
  · have HRB : Hid (Deg B r) := deg_rest hr1.nn HA.out.ns (HA.out.nc h2).ne hr2 HA.out.hB
    have CS := Lib.hid (snG_ctr hr1 HRB.out (by have := HA.out.hS; omega) HA.out.B2 (Mx M w.heap.size (w.heap.size + 3)) W1 HM2.out (fun g hg => .inl hg) (Ext.refl _))
    have HR : Hid (¬ Sim l [] ∧ NC g ∧ NN r ∧ Sim (pmul r (ppow s k)) l ∧ ¬ Dv s r ∧ dlen (nrm r) ≤ A + (B + 1) * (qX C 4 B * (G + 2))) := ⟨h1, h2, hr1.nn, hr2, hr3, hr4⟩
    clear h1 h2 hr1 hr2 hr3 hr4 HO HM2 HA HZR
    obtain ⟨v0, v1, v2, v3⟩ := HV2.out
    go_wp2_with (fail)
    refine CS.out.mono ?_
    rintro e w3 ⟨u, rfl, hu, he3⟩
    obtain ⟨⟨q0, q1, q2, q3⟩, ⟨f0, f1, f2, f3⟩, ⟨r0, r1, r2, r3⟩, HF⟩ := retX (M := M) (w := w) (HB2.out.ext he3) (Mx.at (by omega)) (by omega) (HE2.out.trans he3) hu Mx.sub
    obtain ⟨v', e', hc', hext⟩ := HF
    simp only [Ending.returned.injEq, Value.agg.injEq] at e'
    have HF2 : Hid (RetWi M w l g s (A + (B + 1) * (qX C 4 B * (G + 2))) (.returned (.tuple #[.agg (peA u), .int .i64 0])) _) := ⟨v', 0, by rw [e'], .inr (.inr ⟨rfl, HR.out.1, HR.out.2.1, k, r, hc', HR.out.2.2⟩), hext⟩
    clear hext hc' e' hu he3 CS HR HV2 HB2 HE2 v0 v1 v2 v3
    go_wp2
    exact bodyPost_ret (v := .tuple #[.agg (peA u), .int .i64 0]) (by simp [results, Tryz.results21, go_sem, r0, r1, r2, r3]) rfl HF2.out
set_option maxRecDepth 100000 in
set_option maxHeartbeats 4000000 in
theorem law_times (M : Nat → Prop) (x y : PE) (l r : List Tm) (B C : Nat) (n : Nat) (w : World) (hM : Mb M w) (h : PI M w x l) (k : PI M w y r) (hn : n ≤ 1000000) (hB : Deg B l) (hC : Deg C r) (hr : NN r) (hL : dlen (nrm l) + (n * dlen (nrm r) + 1) ≤ 1099511627776) (hL2 : n * dlen (nrm r) + 2 ≤ 1099511627776) (h1 : (n * C + 1) * (n * C + 1) ≤ 1099511627776) (h2 : (B + 1) * (n * C + 1) ≤ 1099511627776) :
    Calls Tryz.prog 24 #[.agg (peA x), .agg (peA y), .int .i64 (n : Int)] w (RetX M w 4 (pmul l (ppow r n))) := by
  obtain ⟨hE0, hX0, hY0, hB0, hM0⟩ := box2 hM x y
  have HE := Lib.hid (hE0.trans (Ext.refl _).drew)
  have HS : Hid (SP2 w.heap.size x y _) := ⟨hX0.ext (Ext.refl _).drew, hY0.ext (Ext.refl _).drew⟩
  have HB := Lib.hid (hB0.ext (Ext.refl _).drew)
  have HM := Lib.hid (hM0.ext (Ext.refl _).drew)
  have HX := Lib.hid ((h.more (M' := Mx M w.heap.size (w.heap.size + 3)) (Mx.more (Nat.le_refl _))).ext HE.out)
  have HY := Lib.hid ((k.more (M' := Mx M w.heap.size (w.heap.size + 3)) (Mx.more (Nat.le_refl _))).ext HE.out)
  have HDB := Lib.hid hB
  have HDC := Lib.hid hC
  have HRN := Lib.hid hr
  have HL : Hid (dlen (nrm l) + dlen (nrm (ppow r n)) ≤ 1099511627776) := by
    have := dlen_ppow r n
    show _ ≤ _
    omega
  have HL2 : Hid ((n : Int).toNat * dlen (nrm r) + 2 ≤ 1099511627776) := by rw [Int.toNat_natCast]; exact hL2
  have H1 : Hid (((n : Int).toNat * C + 1) * ((n : Int).toNat * C + 1) ≤ 1099511627776) := by rw [Int.toNat_natCast]; exact h1
  clear hE0 hX0 hY0 hB0 hM0 h k hB hC hr hL hL2 h1
  go_enter Tryz.func24, Tryz.ntmps24
  go_wp2
  refine wp_region_u (SP2 w.heap.size x y) 5 (by kernel_rfl) HS.out (fun hHeld => ?_)
  (refine tkB [0, 1, 2] ?_; (iterate 3 (refine tk1 (oi := ?_) (v := ?_) (by kernel_rfl) (by first | exact hSn | exact hHeld) ?_ ?_ ?_ ?_ ?_; rotate_left 2; (simp only [List.getElem?_toArray, List.getElem?_cons_succ, List.getElem?_cons_zero]; rfl); rfl; (intro wS hSw; obtain ⟨⟨S1, S2, S3, S4⟩, S5, S6, S7, S8⟩ := hSw; go_simp; try with_reducible rfl); (exact fun _ _ _ h => h); (try simp only [Act.put, List.setIfInBounds_toArray, List.set_cons_zero, List.set_cons_succ]))); refine tkE ?_)
  ((refine wpAnyU_one 3 (o := ?_) (by kernel_rfl) ?_ ?_; rotate_left 1; (simp only [List.getElem?_toArray, List.getElem?_cons_succ, List.getElem?_cons_zero]; rfl); intro K hK); go_simp; (refine (rp_Pow _ y r C (n : Int) _ HM.out HY.out (by omega) HL2.out HDC.out H1.out).mono ?_); rintro e_ wz ⟨p, rfl, hp, he1⟩; go_wp2_with (fail); (try clear hSn); (have hSn := hHeld.ext he1); (refine hK.out _ _ (fun _ => hSn) ?_); clear hK K; (try simp only [Act.put, List.setIfInBounds_toArray, List.set_cons_zero, List.set_cons_succ]))
  rw [Int.toNat_natCast] at hp
  ((refine wpAnyU_one 4 (o := ?_) (by kernel_rfl) ?_ ?_; rotate_left 1; (simp only [List.getElem?_toArray, List.getElem?_cons_succ, List.getElem?_cons_zero]; rfl); intro K hK); go_simp; (refine (rp_Mul _ x p l (ppow r n) B (n * C) _ (HM.out.ext he1) (HX.out.ext he1) hp.pi HL.out HDB.out (deg_ppow HDC.out HRN.out n) h2).mono ?_); rintro e_ wz ⟨v, rfl, hv, he2⟩; go_wp2_with (fail); (try clear hSn); (have hSn := hHeld.ext (he1.trans he2)); (refine hK.out _ _ (fun _ => hSn) ?_); clear hK K; (try simp only [Act.put, List.setIfInBounds_toArray, List.set_cons_zero, List.set_cons_succ]))
  obtain ⟨⟨q0, q1, q2, q3⟩, ⟨f0, f1, f2, f3⟩, ⟨r0, r1, r2, r3⟩, HF⟩ := retX (M := M) (w := w) (HB.out.ext (he1.trans he2)) (Mx.at (by omega)) (by omega) (HE.out.trans (he1.trans he2)) hv Mx.sub
  ((refine wpAnyU_one 5 (o := ?_) (by kernel_rfl) ?_ ?_; rotate_left 1; (simp only [List.getElem?_toArray, List.getElem?_cons_succ, List.getElem?_cons_zero]; rfl); intro K hK); go_simp; (refine hK.out _ _ (fun h => absurd rfl h) ?_); clear hK K; refine wpAnyU_done (by kernel_rfl) ?_ _)
  clear he1 he2 hp hv hHeld hSn
  go_wp2
  exact bodyPost_ret (v := .agg (peA v)) (by simp [results, Tryz.results24, go_sem, r0, r1, r2, r3]) rfl HF.out
end Go.Proofs.YtgppogaoilijcaaGreat

namespace Go.Proofs.YtgppogaoilijcaaGreat
open Go.RowKit

theorem mult_le {r r' s f : List Tm} {k k' : Nat} (hr : NN r) (hr' : NN r') (hs : NN s) (zs : ¬ Sim s []) (h : Sim (pmul r (ppow s k)) f) (h' : Sim (pmul r' (ppow s k')) f) (hd : ¬ Dv s r) : k' ≤ k := by
  refine Classical.byContradiction fun hc => hd ?_
  obtain ⟨d, rfl⟩ : ∃ d, k' = (d + 1) + k := ⟨k' - k - 1, by omega⟩
  have e : Sim (pmul (pmul r' (ppow s (d + 1))) (ppow s k)) (pmul r (ppow s k)) := (Sim.pmul_assoc _ _ _).trans (((ppow_add s (d + 1) k).pmul_right r').trans (h'.trans h.symm))
  have e2 := cancel (nn_pmul hr' (nn_ppow hs _)) hr (nn_ppow hs k) (ppow_ne hs zs k) e
  exact ⟨pmul r' (ppow s d), nn_pmul hr' (nn_ppow hs d), (Sim.pmul_assoc r' (ppow s d) s).trans e2⟩
theorem mult_eq {r r' s f : List Tm} {k k' : Nat} (hr : NN r) (hr' : NN r') (hs : NN s) (zs : ¬ Sim s []) (h : Sim (pmul r (ppow s k)) f) (h' : Sim (pmul r' (ppow s k')) f) (hd : ¬ Dv s r) (hd' : ¬ Dv s r') : k = k' ∧ Sim r r' := by
  have h1 := mult_le hr hr' hs zs h h' hd
  have h2 := mult_le hr' hr hs zs h' h hd'
  obtain rfl : k = k' := by omega
  exact ⟨rfl, cancel hr hr' (nn_ppow hs k) (ppow_ne hs zs k) (h.trans h'.symm)⟩
theorem pow_scale {g s : List Tm} {c : Int} (h : Sim (smul c s) g) : ∀ i : Nat, Sim (smul (c ^ i) (ppow s i)) (ppow g i)
  | 0 => by rw [Int.pow_zero, smul_one]; exact Sim.refl _
  | i + 1 => by
    have ih := pow_scale h i
    show Sim (smul (c ^ (i + 1)) (pmul (ppow s i) s)) (pmul (ppow g i) g)
    refine Sim.trans ?_ (ih.pmul h)
    rw [Int.pow_succ, ← smul_smul]
    exact ((pmul_smul_right c (ppow s i) s).symm.smul (c ^ i)).trans (pmul_smul_left _ _ _).symm
theorem times_mult {f g r : List Tm} {k i : Nat} (hg : NN g) (h : Sim (pmul r (ppow (snorm g) k)) f) : Sim (pmul (smul (sgnN (norm g) ^ i) r) (ppow (snorm g) (k + i))) (pmul f (ppow g i)) := by
  have e := pow_scale (sim_smul_snorm hg) i
  refine Sim.trans ?_ (h.pmul e)
  refine (pmul_smul_left _ _ _).trans (Sim.trans ?_ (pmul_smul_right _ _ _).symm)
  refine Sim.smul ?_ _
  exact ((ppow_add (snorm g) k i).pmul_right r).symm.trans (Sim.pmul_assoc _ _ _).symm
theorem NC.snorm {g : List Tm} (hg : NN g) (h : NC g) : NC (Go.Proofs.YtgppogaoilijcaaGreat.snorm g) := by
  obtain ⟨m, k, h1, h2⟩ := h
  refine ⟨m, k, fun h0 => h1 ?_, h2⟩
  rw [← sim_smul_snorm hg m, coefAt_smul, h0, Int.mul_zero]
theorem NC.lv {g : List Tm} {k : Nat} (h : NC g) (hk : LvR g k) : k ≠ 0 := fun h0 => by
  obtain ⟨m, j, h1, h2, h3, h4⟩ := h
  have := hk.2.1 m h1 j (by omega) h3
  omega
theorem const_lv {g : List Tm} {z : Int} {k : Nat} (h : Sim g [(z, Mo.zero)]) (hk : LvR g k) : k = 0 := by
  rcases hk.2.2 with h0 | ⟨m, h1, h2⟩
  · exact h0
  · exfalso
    rw [h m] at h1
    by_cases e : Mo.zero = m
    · subst e; rw [get_zero] at h2; omega
    · exact h1 (by simp [coefAt, e])
theorem not_dv_snorm {s r : List Tm} (hr : NN r) (h : ¬ Dv s r) : ¬ Dv s (Go.Proofs.YtgppogaoilijcaaGreat.snorm r) := fun ⟨q, h1, h2⟩ => h ⟨smul (sgnN (norm r)) q, smul_nn h1, (pmul_smul_left _ _ _).trans ((h2.smul _).trans (sim_smul_snorm hr))⟩
theorem law_ok12 : OkB 3 4 12 := by
  simp only [OkB, inB]
  decide
theorem law_num12 : 100 + (12 + 1) * (qX 3 4 12 * (5 + 2)) ≤ 549755813888 := by
  simp only [qX, inB]
  decide
theorem law_num6 : 100 + (6 + 1) * (qX 3 4 6 * (5 + 2)) + qX 3 4 6 * (50 + 2) ≤ 549755813888 := by
  simp only [qX, inB]
  decide
theorem doA_small {M : Nat → Prop} {w : World} {l g : List Tm} {x y : PE} (hM : Mb M w) (hx : CRx M w 4 x l) (hy : CRx M w 4 y g) (hl : Deg 3 l) (hd : dlen (nrm l) ≤ 5) (hg : NN g) (hgd : Deg 3 g) (hgl : dlen (nrm g) ≤ 5) : DoA M w l g (snorm g) x y 3 5 6 5 :=
  ⟨hM, hx.pi, hy.pi, sn_ctr hy hgd hgl, NC.snorm hg, snorm_nn g, hl.mono (by omega), by
    by_cases hz : Sim g []
    · have : snorm g = [] := by rw [hz.snorm]; rfl
      rw [this]; exact fun m hm => absurd rfl hm
    · exact snorm_deg hg hz hgd, hd, Nat.le_trans (dlen_mono (snorm_nrm g)) hgl, law_ok, Nat.le_trans (Nat.add_le_add_right (by omega) _) (Nat.le_trans (Nat.le_add_right _ _) law_num6), by decide, by omega⟩
theorem doA_great {M : Nat → Prop} {w : World} {l g : List Tm} {x y : PE} (hM : Mb M w) (hx : CRx M w 4 x l) (hy : CRx M w 4 y g) (hl : Deg 12 l) (hd : dlen (nrm l) ≤ 100) (hg : NN g) (hgd : Deg 3 g) (hgl : dlen (nrm g) ≤ 5) : DoA M w l g (snorm g) x y 3 5 12 100 :=
  ⟨hM, hx.pi, hy.pi, sn_ctr hy hgd hgl, NC.snorm hg, snorm_nn g, hl, by
    by_cases hz : Sim g []
    · have : snorm g = [] := by rw [hz.snorm]; rfl
      rw [this]; exact fun m hm => absurd rfl hm
    · exact snorm_deg hg hz hgd, hd, Nat.le_trans (dlen_mono (snorm_nrm g)) hgl, law_ok12, law_num12, by decide, by omega⟩
end Go.Proofs.YtgppogaoilijcaaGreat
