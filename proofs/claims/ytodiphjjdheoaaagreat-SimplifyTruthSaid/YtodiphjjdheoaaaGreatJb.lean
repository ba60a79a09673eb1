/- cylinderref38.Normal of any matrix: the walk. -/
import Derived.Test.YtodiphjjdheoaaaGreatIc
import Derived.Test.YtodiphjjdheoaaaGreatNj
set_option linter.unusedVariables false
set_option linter.unusedSimpArgs false

namespace Go.Proofs.YtodiphjjdheoaaaGreat
open Go.RowKit

mutual
noncomputable def normT : TM → TM
 | .nd k r l ks => if k = 1 then tmB true else if k = 2 then .nd 2 (nrel r) (norm l) [] else if k = 3 then .nd 3 0 [] (normL ks) else if k = 4 then .nd 4 0 [] (normL ks) else tmB false
noncomputable def normL : List TM → List TM
 | [] => []
 | t :: ts => normT t :: normL ts
end
theorem normL_map (ks : List TM) : normL ks = ks.map normT := by
 induction ks with
 | nil => unfold normL; rfl
 | cons t ts ih => unfold normL; rw [ih]; rfl
theorem normT_cases (t : TM) : (t.kd = 1 → normT t = tmB true) ∧ (t.kd = 2 → normT t = .nd 2 (nrel t.rl) (norm t.l) []) ∧ (t.kd = 3 → normT t = .nd 3 0 [] (normL t.ks)) ∧ (t.kd = 4 → normT t = .nd 4 0 [] (normL t.ks)) ∧ (¬ t.kd = 1 → ¬ t.kd = 2 → ¬ t.kd = 3 → ¬ t.kd = 4 → normT t = tmB false) := by
 cases t with
 | nd k r l ks =>
  refine ⟨fun h => ?_, fun h => ?_, fun h => ?_, fun h => ?_, fun h1 h2 h3 h4 => ?_⟩
  ·change k = 1 at h; subst h; unfold normT; rfl
  ·change k = 2 at h; subst h; unfold normT; rfl
  ·change k = 3 at h; subst h; conv => lhs; unfold normT
   rfl
  ·change k = 4 at h; subst h; conv => lhs; unfold normT
   rfl
  ·change ¬ k = 1 at h1; change ¬ k = 2 at h2; change ¬ k = 3 at h3; change ¬ k = 4 at h4
   unfold normT; rw [if_neg h1, if_neg h2, if_neg h3, if_neg h4]
theorem normT_tr (z : Nat → Int) : ∀ t : TM, TM.Good t → trT z (normT t) = trT z t
 | .nd k r l ks, h => by
  cases h with
  | mk _ _ _ _ hl hk =>
   have ih : ∀ t ∈ ks, trT z (normT t) = trT z t := fun t ht => normT_tr z t (hk t ht)
   obtain ⟨c1, c2, c3, c4, c5⟩ := normT_cases (.nd k r l ks)
   by_cases h1 : k = 1
   ·rw [c1 h1, trT_b z (tmB true) true rfl, trT_b z (.nd k r l ks) true h1]
   by_cases h2 : k = 2
   ·rw [c2 h2, trT_two z (.nd 2 _ _ _) rfl, trT_two z (.nd k r l ks) h2]
    change perm (nrel r) (ivT z (norm l)).sign = perm r (ivT z l).sign
    rw [perm_nrel]
    have e : ivT z (norm l) = ivT z l := ivT_of (by rw [ivT_cast, evT_norm _ _ hl])
    rw [e]
   by_cases h3 : k = 3
   ·rw [c3 h3, trT_join false z (.nd 3 0 [] _) rfl, trT_join false z (.nd k r l ks) h3]
    change jnT false z (normL ks) = jnT false z ks
    rw [normL_map, jnT_map _ _ _ _ ih]
   by_cases h4 : k = 4
   ·rw [c4 h4, trT_join true z (.nd 4 0 [] _) rfl, trT_join true z (.nd k r l ks) h4]
    change jnT true z (normL ks) = jnT true z ks
    rw [normL_map, jnT_map _ _ _ _ ih]
   ·rw [c5 h1 h2 h3 h4, trT_b z (tmB false) false rfl]
    unfold trT
    rw [if_neg h1, if_neg h2, if_neg h3, if_neg h4]
 termination_by t => SizeOf.sizeOf t
 decreasing_by
  have := List.sizeOf_lt_of_mem ht
  simp_wf
  omega
theorem SmF.norm {l : List Tm} (h : SmF l) : SmF (Go.Proofs.YtodiphjjdheoaaaGreat.norm l) := ⟨nn_of_all (all_nn_norm l), h.2.1.sim (nn_norm_sim h.1).symm, Nat.le_trans (dlen_mono (norm_nrm l)) h.2.2⟩
theorem nrel_range (r : Int) : 1 ≤ nrel r ∧ nrel r ≤ 6 := by
 unfold nrel
 split
 ·omega
 ·split <;> omega
theorem ORow.setO {f : Nat} {M : Nat → Prop} {base : Nat} {w : World} {v : Value} {ks : List TM} (h : ORow f M base w v ks) {g : Nat} (hg : M g) (hb : g < base) (o : Nat) (u : Value) : ORow f M base (w.setCell ⟨g, o, none⟩ u) v ks := by
 obtain ⟨xx, h1, h2⟩ := h
 have hkp : Kp (MR M v) w (w.setCell ⟨g, o, none⟩ u) := Kp.set _ _ (p := ⟨g, o, none⟩) (.inl hg) _
 refine ⟨xx, h1.of_heap fun q hq => ?_, fun j hj => (h2 j hj).kp hkp⟩
 have := (h1.lt q hq).1
 exact Below.heap_setCell w ⟨g, o, none⟩ u q (by show q ≠ g; omega)
theorem normL_take (ks : List TM) (j : Nat) (h : j < ks.length) : normL (ks.take (j + 1)) = normL (ks.take j) ++ [normT (kat ks j)] := by
 rw [normL_map, normL_map, take_kat ks j h, List.map_append]; rfl
theorem normL_len (ks : List TM) : (normL ks).length = ks.length := by rw [normL_map, List.length_map]
theorem Blk.fun_ext {w : World} {g : Nat} {t : TypeId} {n : Nat} {f f' : Nat → Value} (h : Blk w g t n f) (he : ∀ i, i < n → f i = f' i) : Blk w g t n f' := by
 obtain ⟨cur, h1, h2, h3⟩ := h
 exact ⟨cur, h1, h2, fun i hi => by rw [h3 i hi, he i hi]⟩
def SNm (g : Nat) (v1 : Value) (g4 : Nat) (v2 : Value) (b o : Nat) (z : MX) (w : World) : Prop := w.cell? ⟨g, 6, none⟩ = some v1 ∧ w.cell? ⟨g4, 6, none⟩ = some v2 ∧ MxC w b o z
theorem SNm.ext {g : Nat} {v1 : Value} {g4 : Nat} {v2 : Value} {b o : Nat} {z : MX} {w w' : World} (h : SNm g v1 g4 v2 b o z w) (he : Ext w w') : SNm g v1 g4 v2 b o z w' := by
 have h1 := World.block_lt_of_cell? _ _ h.1
 have h2 := World.block_lt_of_cell? _ _ h.2.1
 exact ⟨by rw [he.cell h1]; exact h.1, by rw [he.cell h2]; exact h.2.1, h.2.2.ext he⟩
theorem SNm.kp {Q : Nat → Prop} {g : Nat} {v1 : Value} {g4 : Nat} {v2 : Value} {b o : Nat} {z : MX} {w w' : World} (h : SNm g v1 g4 v2 b o z w) (he : Kp Q w w') (q1 : ¬ Q g) (q2 : ¬ Q g4) (q3 : ¬ Q b) : SNm g v1 g4 v2 b o z w' := by
 have h1 := World.block_lt_of_cell? _ _ h.1
 have h2 := World.block_lt_of_cell? _ _ h.2.1
 refine ⟨?_, ?_, h.2.2.heap (he.2 b h.2.2.lt q3)⟩
 ·have := he.2 g h1 q1
  have e : ∀ j, w'.cell? ⟨g, j, none⟩ = w.cell? ⟨g, j, none⟩ := fun j => by simp only [World.cell?, this]
  rw [e]; exact h.1
 ·have := he.2 g4 h2 q2
  have e : ∀ j, w'.cell? ⟨g4, j, none⟩ = w.cell? ⟨g4, j, none⟩ := fun j => by simp only [World.cell?, this]
  rw [e]; exact h.2.1
def NmCtr (f : Nat) : Prop := ∀ (M : Nat → Prop) (y : MX) (t : TM) (w : World), Mb M w → TMc false f M w y t → t.sz ≤ 1000 → Calls Tryz.prog 16 #[.agg y.A] w (RetT f M w (normT t))
set_option maxRecDepth 100000 in
set_option maxHeartbeats 32000000 in
theorem norm_walk (f : Nat) (ih : NmCtr f) : NmCtr (f + 1) := by
 obtain ⟨j0, ji, jz0, jz1, jz2⟩ := info_parts Tryz.info32
 intro M y t w hM hP hsz
 obtain ⟨hE, hX, hB, hM2⟩ := box77 hM y.A rfl
 have hP2 := (hP.more (M' := Mx M w.heap.size (w.heap.size + 2)) (Mx.more (Nat.le_refl _))).ext hE
 have hyk : y.kd = t.kd := hP2.kd
 obtain ⟨⟨a1, a2, a3, a4⟩, hk1, hk2, hk3, kk, hkk⟩ := hP2
 have a4 : RawP (Mx M w.heap.size (w.heap.size + 2)) _ y.x t.l := a4
 have hx : MxC ((w.alloc (.cells y.A 32)).alloc (.cells mzA 32)) w.heap.size 0 y := (new_mx w y).ext ((Ext.refl _).alloc _)
 have hsK : szL t.ks ≤ 999 := by have := sz_ks t; omega
 have hMb : ∀ g, ((w.alloc (.cells y.A 32)).alloc (.cells mzA 32)).heap.size ≤ g → ¬ Mx M w.heap.size (w.heap.size + 2) g := fun g hg => hM2.new hg
 have hM3 : ∀ g, M g → Mx M w.heap.size (w.heap.size + 2) g := fun g hg => .inl hg
 have hgM : Mx M w.heap.size (w.heap.size + 2) (w.heap.size + 1) := Mx.at ⟨by omega, by omega⟩
 generalize hW0 : (w.alloc (.cells y.A 32)).alloc (.cells mzA 32) = W0 at *
 generalize Mx M w.heap.size (w.heap.size + 2) = M2 at *
 have hRET : Hid (∀ (w1 : World) (s : TM) (y' : MX), TMc true (f + 1) M2 w1 y' s → Ext W0 w1 → ∃ (WA : World), WA = ((((((w1.setCell ⟨w.heap.size + 1, 0, none⟩ (.int .i64 y'.kd)).setCell ⟨w.heap.size + 1, 1, none⟩ (.int .i64 y'.rl)).setCell ⟨w.heap.size + 1, 2, none⟩ (.int .i64 y'.x.lv)).setCell ⟨w.heap.size + 1, 3, none⟩ (.bool y'.x.b)).setCell ⟨w.heap.size + 1, 4, none⟩ (.slice y'.x.a y'.x.n y'.x.p)).setCell ⟨w.heap.size + 1, 5, none⟩ (.slice y'.x.ka y'.x.kn y'.x.kp)).setCell ⟨w.heap.size + 1, 6, none⟩ (.slice y'.a y'.n y'.p) ∧
   (w1.cell? ⟨w.heap.size + 1, 0, none⟩ = some (.int .i64 0) ∧ w1.cell? ⟨w.heap.size + 1, 1, none⟩ = some (.int .i64 0) ∧ w1.cell? ⟨w.heap.size + 1, 2, none⟩ = some (.int .i64 0) ∧ w1.cell? ⟨w.heap.size + 1, 3, none⟩ = some (.bool false) ∧ w1.cell? ⟨w.heap.size + 1, 4, none⟩ = some (.slice none 0 0) ∧ w1.cell? ⟨w.heap.size + 1, 5, none⟩ = some (.slice none 0 0) ∧ w1.cell? ⟨w.heap.size + 1, 6, none⟩ = some (.slice none 0 0)) ∧
   (w1.frozen? ⟨w.heap.size + 1, 0, none⟩ = false ∧ w1.frozen? ⟨w.heap.size + 1, 1, none⟩ = false ∧ w1.frozen? ⟨w.heap.size + 1, 2, none⟩ = false ∧ w1.frozen? ⟨w.heap.size + 1, 3, none⟩ = false ∧ w1.frozen? ⟨w.heap.size + 1, 4, none⟩ = false ∧ w1.frozen? ⟨w.heap.size + 1, 5, none⟩ = false ∧ w1.frozen? ⟨w.heap.size + 1, 6, none⟩ = false) ∧
   (WA.cell? ⟨w.heap.size + 1, 0, none⟩ = some (.int .i64 y'.kd) ∧ WA.cell? ⟨w.heap.size + 1, 1, none⟩ = some (.int .i64 y'.rl) ∧ WA.cell? ⟨w.heap.size + 1, 2, none⟩ = some (.int .i64 y'.x.lv) ∧ WA.cell? ⟨w.heap.size + 1, 3, none⟩ = some (.bool y'.x.b) ∧ WA.cell? ⟨w.heap.size + 1, 4, none⟩ = some (.slice y'.x.a y'.x.n y'.x.p) ∧ WA.cell? ⟨w.heap.size + 1, 5, none⟩ = some (.slice y'.x.ka y'.x.kn y'.x.kp) ∧ WA.cell? ⟨w.heap.size + 1, 6, none⟩ = some (.slice y'.a y'.n y'.p)) ∧
   Hid (RetT (f + 1) M w s (.returned (.agg y'.A)) WA)) := fun w1 s y' hy' he1 => by
  obtain ⟨WA, h1, h2, h3, h4, h5⟩ := retM (M := M) (w := w) (hB.ext he1) hgM (by omega) (hE.trans he1) hy' hM3
  exact ⟨WA, h1, h2, h3, h4, h5⟩
 have HOF : Hid (∀ j, j < t.ks.length → ∀ (Q : Nat → Prop) (w1 : World), Mb Q w1 → (∀ g, Q g → M2 g ∨ W0.heap.size ≤ g) → Ext W0 w1 → Calls Tryz.prog 16 #[.agg (kk j).A] w1 (RetT f Q w1 (normT (kat t.ks j)))) := fun j hj Q w1 hq hv he => by
  obtain ⟨_, h⟩ := hkk j (by rw [hk1]; exact hj)
  refine ih Q (kk j) (kat t.ks j) w1 hq ((h.more hv).ext he) ?_
  have h1 := szL_take t.ks (j + 1)
  rw [take_kat t.ks j hj, szL_append, szL_cons] at h1
  omega
 have HKC : Hid (∀ j, j < t.ks.length → ∃ b off, y.a = some ⟨b, off, none⟩ ∧ MxC W0 b (off + j * 7) (kk j)) := fun j hj => by
  obtain ⟨⟨b, off, e, _, h⟩, _⟩ := hkk j (by rw [hk1]; exact hj)
  exact ⟨b, off, e, h⟩
 have CRN : Hid (Calls Tryz.prog 56 #[.agg (peA y.x)] W0 (RetX M2 W0 4 t.l)) := by
  obtain ⟨d, tt, h1, h2, h3, h4, h5⟩ := a4
  exact rp_Normal M2 y.x t.l W0 hM2 ⟨d, tt, h1, .inr h2, h5⟩
 have HAT : Hid (∀ (w1 : World) (u : PE), CRx M2 w1 4 u t.l → TMc true (f + 1) M2 w1 ⟨2, nrel y.rl, u, none, 0, 0⟩ (.nd 2 (nrel t.rl) (norm t.l) [])) := fun w1 u hu => by
  rw [a2]
  refine ⟨⟨rfl, rfl, a3.norm, ?_⟩, KM.nil0⟩
  exact (show CRx M2 w1 4 u (norm t.l) ∧ NodeOk (.nd 2 (nrel t.rl) (norm t.l) []) from ⟨hu.sim (nn_norm_sim a3.1).symm, norm_norm t.l, .inr (.inl ⟨rfl, nrel_range _, rfl⟩)⟩)
 obtain ⟨n1, n2, n3, n4, n5⟩ := normT_cases t
 have HYD : Hid (y.kd = t.kd) := hyk
 have N1 := Lib.hid n1
 have N2 := Lib.hid n2
 have N3 := Lib.hid n3
 have N4 := Lib.hid n4
 have N5 := Lib.hid n5
 have HX := Lib.hid hx
 have HW0 := Lib.hid hW0
 have HMB := Lib.hid hMb
 have HM2 := Lib.hid hM2
 have HN := Lib.hid hk1
 have HSK := Lib.hid hsK
 unfold maxLen at hk3
 have hn1 : y.n ≤ 1000 := by rw [hk1]; exact Nat.le_trans (len_szL _) (by omega)
 clear hE hX hB hM2 hP hx hW0 hM hM3 hgM hMb hkk hk1 hsz ih hsK hyk a1 a2 a3 a4 n1 n2 n3 n4 n5
 obtain ⟨gz, hgz⟩ : ∃ g, g = w.heap.size := ⟨_, rfl⟩
 obtain ⟨yn, hyn⟩ : ∃ g, g = y.n := ⟨_, rfl⟩
 obtain ⟨ya, hya⟩ : ∃ g, g = y.a := ⟨_, rfl⟩
 rw [← hgz] at hRET HX
 rw [← hyn] at HN hk2 hn1
 rw [← hya] at HKC
 obtain ⟨x0, x1, x2, x3, x4, x5, x6⟩ := HX.out
 rw [← hyn, ← hya] at x6
 clear hyn hya
 have HX6 : Hid (W0.cell? ⟨gz, 6, none⟩ = some (.slice ya yn y.p)) := x6
 have HGZ : Hid (gz < W0.heap.size) := HX.out.lt
 go_enter Tryz.func16, Tryz.ntmps16
 go_upto_region 1 with (fail)
 rw [HW0.out, ← hgz]
 clear HW0 hgz
 by_cases hk : t.kd = 1
 ·have h1 : (y.kd == 1) = true := by rw [HYD.out, hk]; decide
  have h2 : (y.kd == 2) = false := by rw [HYD.out, hk]; decide
  have h3 : (y.kd == 3) = false := by rw [HYD.out, hk]; decide
  have h4 : (y.kd == 4) = false := by rw [HYD.out, hk]; decide
  obtain ⟨WA, hWA, ⟨c0, c1, c2, c3, c4, c5, c6⟩, ⟨f0, f1, f2, f3, f4, f5, f6⟩, ⟨r0, r1, r2, r3, r4, r5, r6⟩, HF⟩ := hRET.out W0 (tmB true) ⟨1, 0, ⟨0, false, none, 0, 0, none, 0, 0⟩, none, 0, 0⟩ (tmB_c f M2 W0 true) (Ext.refl _)
  try dsimp only at hWA r0 r1 r2 r3 r4 r5 r6
  have HWA := Lib.hid hWA
  have HF := Lib.hid (show RetT (f + 1) M w (normT t) _ WA from by rw [N1.out hk]; exact HF.out)
  clear hWA hk x6 HX
  go_wp2
  rw [← HWA.out]
  clear HWA c0 c1 c2 c3 c4 c5 c6 f0 f1 f2 f3 f4 f5 f6
  exact bodyPost_ret (v := .agg (MX.A ⟨1, 0, ⟨0, false, none, 0, 0, none, 0, 0⟩, none, 0, 0⟩)) (by simp [results, Tryz.results16, go_sem, r0, r1, r2, r3, r4, r5, r6]) rfl HF.out
 have hk1 := hk
 clear hk
 by_cases hk : t.kd = 2
 ·have h1 : (y.kd == 1) = false := by rw [HYD.out, hk]; decide
  have h2 : (y.kd == 2) = true := by rw [HYD.out, hk]; decide
  by_cases q1 : y.rl < 1
  ·have HNR : Hid (nrel y.rl = 3) := by show _ = _; unfold nrel; rw [if_pos q1]
   go_wp2_with (fail)
   refine CRN.out.mono ?_
   rintro e w1 ⟨u, rfl, hu, he1⟩
   have hat := HAT.out w1 u hu
   rw [HNR.out] at hat
   obtain ⟨WA, hWA, ⟨c0, c1, c2, c3, c4, c5, c6⟩, ⟨f0, f1, f2, f3, f4, f5, f6⟩, ⟨r0, r1, r2, r3, r4, r5, r6⟩, HF⟩ := hRET.out w1 (.nd 2 (nrel t.rl) (norm t.l) []) ⟨2, 3, u, none, 0, 0⟩ hat he1
   try dsimp only at hWA r0 r1 r2 r3 r4 r5 r6
   have HWA := Lib.hid hWA
   have HF := Lib.hid (show RetT (f + 1) M w (normT t) _ WA from by rw [N2.out hk]; exact HF.out)
   clear hWA hk hat hu he1 x0 x1 x2 x3 x4 x5 x6 HX
   go_wp2
   rw [← HWA.out]
   clear HWA c0 c1 c2 c3 c4 c5 c6 f0 f1 f2 f3 f4 f5 f6
   exact bodyPost_ret (v := .agg (MX.A ⟨2, 3, u, none, 0, 0⟩)) (by simp [results, Tryz.results16, go_sem, r0, r1, r2, r3, r4, r5, r6]) rfl HF.out
  by_cases q6 : 6 < y.rl
  ·have HNR : Hid (nrel y.rl = 3) := by show _ = _; unfold nrel; rw [if_neg q1, if_pos q6]
   go_wp2_with (fail)
   refine CRN.out.mono ?_
   rintro e w1 ⟨u, rfl, hu, he1⟩
   have hat := HAT.out w1 u hu
   rw [HNR.out] at hat
   obtain ⟨WA, hWA, ⟨c0, c1, c2, c3, c4, c5, c6⟩, ⟨f0, f1, f2, f3, f4, f5, f6⟩, ⟨r0, r1, r2, r3, r4, r5, r6⟩, HF⟩ := hRET.out w1 (.nd 2 (nrel t.rl) (norm t.l) []) ⟨2, 3, u, none, 0, 0⟩ hat he1
   try dsimp only at hWA r0 r1 r2 r3 r4 r5 r6
   have HWA := Lib.hid hWA
   have HF := Lib.hid (show RetT (f + 1) M w (normT t) _ WA from by rw [N2.out hk]; exact HF.out)
   clear hWA hk hat hu he1 x0 x1 x2 x3 x4 x5 x6 HX
   go_wp2
   rw [← HWA.out]
   clear HWA c0 c1 c2 c3 c4 c5 c6 f0 f1 f2 f3 f4 f5 f6
   exact bodyPost_ret (v := .agg (MX.A ⟨2, 3, u, none, 0, 0⟩)) (by simp [results, Tryz.results16, go_sem, r0, r1, r2, r3, r4, r5, r6]) rfl HF.out
  ·have HNR : Hid (nrel y.rl = y.rl) := by show _ = _; unfold nrel; rw [if_neg q1, if_neg q6]
   go_wp2_with (fail)
   refine CRN.out.mono ?_
   rintro e w1 ⟨u, rfl, hu, he1⟩
   have hat := HAT.out w1 u hu
   rw [HNR.out] at hat
   obtain ⟨WA, hWA, ⟨c0, c1, c2, c3, c4, c5, c6⟩, ⟨f0, f1, f2, f3, f4, f5, f6⟩, ⟨r0, r1, r2, r3, r4, r5, r6⟩, HF⟩ := hRET.out w1 (.nd 2 (nrel t.rl) (norm t.l) []) ⟨2, y.rl, u, none, 0, 0⟩ hat he1
   try dsimp only at hWA r0 r1 r2 r3 r4 r5 r6
   have HWA := Lib.hid hWA
   have HF := Lib.hid (show RetT (f + 1) M w (normT t) _ WA from by rw [N2.out hk]; exact HF.out)
   clear hWA hk hat hu he1 x0 x1 x2 x3 x4 x5 x6 HX
   go_wp2
   rw [← HWA.out]
   clear HWA c0 c1 c2 c3 c4 c5 c6 f0 f1 f2 f3 f4 f5 f6
   exact bodyPost_ret (v := .agg (MX.A ⟨2, y.rl, u, none, 0, 0⟩)) (by simp [results, Tryz.results16, go_sem, r0, r1, r2, r3, r4, r5, r6]) rfl HF.out
 have hk2' := hk
 clear hk
 by_cases hk : t.kd = 3
 ·have h1 : (y.kd == 1) = false := by rw [HYD.out, hk]; decide
  have h2 : (y.kd == 2) = false := by rw [HYD.out, hk]; decide
  have h3 : (y.kd == 3) = true := by rw [HYD.out, hk]; decide
  have h4 : (y.kd == 4) = false := by rw [HYD.out, hk]; decide
  have XK : Hid (W0.cell? ⟨gz, 0, none⟩ = some (.int .i64 3)) := by
   show _ = _
   rw [x0, HYD.out, hk]
  have HQK := Lib.hid (N3.out hk)
  clear hk x0 x1 x2 x3 x4 x5 h1 h2 h3 h4
  have x0 := XK.out
  go_upto_region 12 with (fail)
  have hE4 := (Ext.refl W0).alloc (.cells #[.int .i64 3, .int .i64 0, .int .i64 0, .bool false, .slice none 0 0, .slice none 0 0, .slice none 0 0] 32)
  have hB4 := Blk.of_arr W0 #[.int .i64 3, .int .i64 0, .int .i64 0, .bool false, .slice none 0 0, .slice none 0 0, .slice none 0 0] 32 7 rfl
  have hs4 : (W0.alloc (.cells #[.int .i64 3, .int .i64 0, .int .i64 0, .bool false, .slice none 0 0, .slice none 0 0, .slice none 0 0] 32)).heap.size = W0.heap.size + 1 := by simp
  generalize W0.alloc (.cells #[.int .i64 3, .int .i64 0, .int .i64 0, .bool false, .slice none 0 0, .slice none 0 0, .slice none 0 0] 32) = W4 at *
  have HE4 := Lib.hid hE4
  have HB4 := Lib.hid hB4
  have HS4 := Lib.hid hs4
  obtain ⟨g4, hg4⟩ : ∃ g, g = W0.heap.size := ⟨_, rfl⟩
  rw [← hg4] at HB4 HS4 HGZ ⊢
  have HG4 := Lib.hid hg4
  obtain ⟨M3, hM3⟩ : ∃ Q : Nat → Prop, Q = fun g => M2 g ∨ g = g4 := ⟨_, rfl⟩
  have HM3 : Hid (∀ g, M3 g ↔ M2 g ∨ g = g4) := fun g => by rw [hM3]
  have HM2L : Hid (∀ g, M2 g → g < g4) := fun g hg => by rw [HG4.out]; exact HM2.out g hg
  clear hE4 hB4 hs4 hg4 hM3 x6 x0
  have x6 : W4.cell? ⟨gz, 6, none⟩ = some (.slice ya yn y.p) := by rw [HE4.out.cell (by rw [← HG4.out]; exact HGZ.out)]; exact HX6.out
  have HX64 := Lib.hid x6
  go_wp2
  go_loopw [35] (fun iv wr => ∃ (j : Nat) (v : Value), j ≤ yn ∧ iv = .int .i64 (j : Int) ∧ Hid (Blk wr g4 32 7 (arr #[.int .i64 3, .int .i64 0, .int .i64 0, .bool false, .slice none 0 0, .slice none 0 0, v])) ∧ Hid (ORow f M3 W4.heap.size wr v (normL (t.ks.take j))) ∧ Hid (Ext W0 wr)) (fun iv _ => yn - (intOf iv).toNat)
  case atStart => exact ⟨0, .slice none 0 0, Nat.zero_le _, rfl, HB4.out, ORow.nil _ _ _ _, HE4.out⟩
  case round =>
   obtain ⟨j, v, hj, rfl, HBK, HOR, HXR⟩ := hrel
   obtain ⟨va, vn, vp, rfl, hvn⟩ := HOR.out.form3
   have HVN := Lib.hid hvn
   clear hvn
   have hx6 : wr.cell? ⟨gz, 6, none⟩ = some (.slice ya yn y.p) := by rw [HXR.out.cell (by rw [← HG4.out]; exact HGZ.out)]; exact HX6.out
   have hb6 : wr.cell? ⟨g4, 6, none⟩ = some (.slice va vn vp) := HBK.out.cell (i := 6) (by omega)
   by_cases hlt : j < yn
   ·have HJ : Hid (j < t.ks.length) := by show j < t.ks.length; rw [← HN.out]; exact hlt
    obtain ⟨b, off, rfl, hc⟩ := HKC.out j HJ.out
    have hXd := HXR.out.trans (Ext.refl wr).drew
    have hS : SNm gz (.slice (some ⟨b, off, none⟩) yn y.p) g4 (.slice va vn vp) b (off + j * 7) (kk j) wr.drew := ⟨hx6, hb6, (hc.ext HXR.out).ext (Ext.refl wr).drew⟩
    have HOD := Lib.hid (HOR.out.ext (Ext.refl wr).drew)
    have hMM : Mb (MR M3 (.slice va vn vp)) wr.drew := fun g hg => by
     rcases hg with hg | hg
     ·rcases (HM3.out g).1 hg with h | h
      ·exact Nat.lt_of_lt_of_le (HM2.out g h) hXd.size
      ·rw [h]; exact (HBK.out.ext (Ext.refl wr).drew).lt
     ·exact (HOD.out.lt g hg).2
    have hMfr : ∀ g, MR M3 (.slice va vn vp) g → M2 g ∨ W0.heap.size ≤ g := fun g hg => by
     rcases hg with hg | hg
     ·rcases (HM3.out g).1 hg with h | h
      ·exact .inl h
      ·exact .inr (by rw [h, HG4.out]; exact Nat.le_refl _)
     ·have := (HOD.out.lt g hg).1
      have h4 := HS4.out
      have h5 := HG4.out
      exact .inr (by omega)
    have CN := Lib.hid (HOF.out j HJ.out (MR M3 (.slice va vn vp)) wr.drew hMM hMfr hXd)
    have HBD := Lib.hid (HBK.out.ext (Ext.refl wr).drew)
    have HXD := Lib.hid hXd
    have HLT := Lib.hid hlt
    have hbl : b < W0.heap.size := hc.lt
    have HBL := Lib.hid hbl
    have hltI : (j : Int) < (yn : Int) := by omega
    have HVL : Hid (vn ≤ 1000) := by
     show vn ≤ 1000
     rw [HVN.out, normL_len, List.length_take]; omega
    clear hc hXd hlt hMM hMfr hbl HBK HOR HXR hx6 hb6 x6
    generalize kk j = zk at *
    go_upto_region 15 with (fail)
    refine wp_region_u (SNm gz (.slice (some ⟨b, off, none⟩) yn y.p) g4 (.slice va vn vp) b (off + j * 7) zk) 11 (by kernel_rfl) hS (fun hHeld => ?_)
    clear hS
    generalize wr.drew = wd at *
    (refine tkB [0, 1, 2, 3, 4, 5, 6] ?_; (iterate 7 (refine tk1 (oi := ?_) (v := ?_) (by kernel_rfl) (by first | exact hSn | exact hHeld) ?_ ?_ ?_ ?_ ?_; rotate_left 2; (simp only [xgA, xgB, xgC]; rfl); rfl; (intro wS hSw; obtain ⟨S1, S2, B0, B1, B2, B3, B4, B5, B6⟩ := hSw; go_simp; try with_reducible rfl); (exact fun _ _ _ h => h); (try simp only [Act.put, xgD, xgE, xgF]))); refine tkE ?_)
    ((refine wpAnyU_one 7 (o := ?_) (by kernel_rfl) ?_ ?_; rotate_left 1; (simp only [xgA, xgB, xgC]; rfl); intro K hK); go_simp; (refine (CN.out).mono ?_); rintro e_ u7 ⟨u, rfl, hu, d7⟩; go_wp2_with (fail); (try clear hSn); (have hSn := hHeld.ext d7); (refine hK.out _ _ (fun _ => hSn) ?_); clear hK K; (try simp only [Act.put, xgD, xgE, xgF]))
    (refine wpAnyU_one 8 (o := ?_) (by kernel_rfl) ?_ ?_; rotate_left 1; (simp only [xgA, xgB, xgC]; rfl); intro K hK)
    go_simp
    have hEA : Ext wd (u7.alloc (.cells u.A 32)) := d7.alloc _
    have hS2 := hHeld.ext hEA
    refine hK.out _ _ (fun _ => hS2) ?_
    clear hK K
    (try simp only [Act.put, xgD, xgE, xgF])
    (refine wpAnyU_one 9 (o := ?_) (by kernel_rfl) ?_ ?_; rotate_left 1; (simp only [xgA, xgB, xgC]; rfl); intro K hK)
    have hvn := HVN.out
    subst hvn
    obtain ⟨xx, hO, hXX⟩ := HOD.out.ext hEA
    have hszA : W4.heap.size ≤ (u7.alloc (.cells u.A 32)).heap.size := by
     have h1 := (HXD.out.trans hEA).size
     have h2 := (HBD.out.ext hEA).lt
     have h4 := HS4.out
     omega
    have hvl := HVL.out
    refine step_append_fn _ (by rfl) (.tmp 39) (.tmp 46) _ (by rfl) W4.heap.size 32 j0 _ 7 104 Tryz.underlying30 ji jz0 jz1 jz2 rfl (by omega) (.slice va (normL (t.ks.take j)).length vp) (normL (t.ks.take j)).length (pm xx) (by rfl) hO u7.heap.size 32 1 (arr u.A) (by rfl) (Blk.of_arr u7 u.A 32 7 rfl) (mx_one u) (by unfold maxLen; omega) (by omega) hszA ?_
    intro gg cap2 v3 hO6 hg6 hat hlt6
    have hown : ∀ q, (Value.slice va (normL (t.ks.take j)).length vp).ownBlock = some q → W4.heap.size ≤ q := fun q hq => (HOD.out.lt q hq).1
    have h4 := HS4.out
    have h5 := HG4.out
    have HKG := Lib.hid (Kp.grown (M := fun q => (Value.slice va (normL (t.ks.take j)).length vp).ownBlock = some q) hg6 fun k hk => hk)
    have hgzl := HGZ.out
    have hbl := HBL.out
    have hS9 : SNm gz (.slice (some ⟨b, off, none⟩) yn y.p) g4 (.slice va (normL (t.ks.take j)).length vp) b (off + j * 7) zk v3 := hS2.kp HKG.out (fun h => by have := hown _ h; omega) (fun h => by have := hown _ h; omega) (fun h => by have := hown _ h; omega)
    have HB9 : Hid (Blk v3 g4 32 7 (arr #[.int .i64 3, .int .i64 0, .int .i64 0, .bool false, .slice none 0 0, .slice none 0 0, .slice va (normL (t.ks.take j)).length vp])) := (HBD.out.ext hEA).of_heap (HKG.out.2 g4 (HBD.out.ext hEA).lt fun h => by have := hown _ h; omega)
    have HX9 : Hid (Ext W0 v3) := (HXD.out.trans hEA).grown hg6 fun q hq => by have := hown q hq; omega
    have HO9 : Hid (ORow f M3 W4.heap.size v3 (.slice (some ⟨gg, 0, none⟩) ((normL (t.ks.take j)).length + 1) cap2) (normL (t.ks.take (j + 1)))) := by
     show ORow _ _ _ _ _ _
     rw [normL_take t.ks j HJ.out]
     exact ORow.push hXX (hu.ext ((Ext.refl u7).alloc _)) hO6 hg6 hat
    have hz9 := HB9.out.frozen 6
    have hb9 := hS9.2.1
    clear hO6 hg6 hat hO hXX hu hszA hS2 hEA d7 hown h4 h5 hgzl hbl HKG HBD HOD CN HXD
    refine hK.out _ _ (fun _ => hS9) ?_
    clear hK K
    (try simp only [Act.put, xgD, xgE, xgF])
    have hSn := hS9
    (refine tkB [10] ?_; (iterate 1 (refine tk1 (oi := ?_) (v := ?_) (by kernel_rfl) (by first | exact hSn | exact hHeld) ?_ ?_ ?_ ?_ ?_; rotate_left 2; (simp only [xgA, xgB, xgC]; rfl); rfl; (intro wS hSw; obtain ⟨S1, S2, B0, B1, B2, B3, B4, B5, B6⟩ := hSw; go_simp; try with_reducible rfl); (exact fun _ _ _ h => h); (try simp only [Act.put, xgD, xgE, xgF]))); refine tkE ?_)
    clear hSn
    ((refine wpAnyU_one 11 (o := ?_) (by kernel_rfl) ?_ ?_; rotate_left 1; (simp only [xgA, xgB, xgC]; rfl); intro K hK); go_simp; (refine hK.out _ _ (fun h => absurd rfl h) ?_); clear hK K; refine wpAnyU_done (by kernel_rfl) ?_ _)
    have HB10 : Hid (Blk (v3.setCell ⟨g4, 6, none⟩ (.slice (some ⟨gg, 0, none⟩) ((normL (t.ks.take j)).length + 1) cap2)) g4 32 7 (arr #[.int .i64 3, .int .i64 0, .int .i64 0, .bool false, .slice none 0 0, .slice none 0 0, .slice (some ⟨gg, 0, none⟩) ((normL (t.ks.take j)).length + 1) cap2])) := (HB9.out.set 6 _).fun_ext fun i hi => by
     match i, hi with
     | 0, _ => rfl
     | 1, _ => rfl
     | 2, _ => rfl
     | 3, _ => rfl
     | 4, _ => rfl
     | 5, _ => rfl
     | 6, _ => rfl
    have HO10 := Lib.hid (HO9.out.setO (g := g4) ((HM3.out g4).2 (.inr rfl)) (by have := HS4.out; omega) 6 (.slice (some ⟨gg, 0, none⟩) ((normL (t.ks.take j)).length + 1) cap2))
    have HX10 := Lib.hid (HX9.out.set (p := ⟨g4, 6, none⟩) (by rw [HG4.out]; exact Nat.le_refl _) (.slice (some ⟨gg, 0, none⟩) ((normL (t.ks.take j)).length + 1) cap2))
    clear HB9 HO9 HX9 hS9 hz9 hb9 hHeld
    generalize v3.setCell ⟨g4, 6, none⟩ (.slice (some ⟨gg, 0, none⟩) ((normL (t.ks.take j)).length + 1) cap2) = v4 at *
    generalize (Value.slice (some ⟨gg, 0, none⟩) ((normL (t.ks.take j)).length + 1) cap2) = sv at *
    go_wp2
    go_roundw
    case rel => exact ⟨j + 1, sv, HLT.out, by go_num, HB10.out, HO10.out, HX10.out⟩
    case measure => have := HLT.out; simp [intOf]; omega
   ·obtain rfl : j = yn := by omega
    have hge : ¬ (j : Int) < (j : Int) := by omega
    have hkm : KM (TMc true f M3) M3 wr va vn vp (normL (t.ks.take j)) := HOR.out.km fun g hg hm => by
     have h4 := HS4.out
     rcases (HM3.out g).1 hm with h | h
     ·have := HM2L.out g h; omega
     ·omega
    have hkm2 := hkm.more (M' := M2) fun b hb => .inl ((HM3.out b).2 (.inl hb))
    have hta : normL (t.ks.take j) = normL t.ks := by rw [HN.out, List.take_length]
    rw [hta] at hkm2
    have ht1 : TMc true (f + 1) M2 wr ⟨3, 0, ⟨0, false, none, 0, 0, none, 0, 0⟩, va, vn, vp⟩ (.nd 3 0 [] (normL t.ks)) := ⟨⟨rfl, rfl, smF_nil, (show CRx M2 wr 4 PE.z [] ∧ NodeOk (.nd 3 0 [] (normL t.ks)) from ⟨CR.zero _ _ _, rfl, .inr (.inr ⟨.inl rfl, rfl, rfl⟩)⟩)⟩, hkm2⟩
    have d0 := HBK.out.cell (i := 0) (by omega)
    have d1 := HBK.out.cell (i := 1) (by omega)
    have d2 := HBK.out.cell (i := 2) (by omega)
    have d3 := HBK.out.cell (i := 3) (by omega)
    have d4 := HBK.out.cell (i := 4) (by omega)
    have d5 := HBK.out.cell (i := 5) (by omega)
    simp only [arr] at d0 d1 d2 d3 d4 d5
    clear hkm hkm2 hta
    obtain ⟨WA, hWA, ⟨c0, c1, c2, c3, c4, c5, c6⟩, ⟨f0, f1, f2, f3, f4, f5, f6⟩, ⟨r0, r1, r2, r3, r4, r5, r6⟩, HF⟩ := hRET.out wr (.nd 3 0 [] (normL t.ks)) ⟨3, 0, ⟨0, false, none, 0, 0, none, 0, 0⟩, va, vn, vp⟩ ht1 HXR.out
    try dsimp only at hWA r0 r1 r2 r3 r4 r5 r6
    have HWA := Lib.hid hWA
    have HF := Lib.hid (show RetT (f + 1) M w (normT t) _ WA from by rw [HQK.out]; exact HF.out)
    clear hWA ht1 hx6
    go_wp2
    rw [← HWA.out]
    clear HWA c0 c1 c2 c3 c4 c5 c6 f0 f1 f2 f3 f4 f5 f6
    exact bodyPost_ret (v := .agg (MX.A ⟨3, 0, ⟨0, false, none, 0, 0, none, 0, 0⟩, va, vn, vp⟩)) (by simp [results, Tryz.results16, go_sem, r0, r1, r2, r3, r4, r5, r6]) rfl HF.out
 have hk3' := hk
 clear hk
 by_cases hk : t.kd = 4
 ·have h1 : (y.kd == 1) = false := by rw [HYD.out, hk]; decide
  have h2 : (y.kd == 2) = false := by rw [HYD.out, hk]; decide
  have h3 : (y.kd == 3) = false := by rw [HYD.out, hk]; decide
  have h4 : (y.kd == 4) = true := by rw [HYD.out, hk]; decide
  have XK : Hid (W0.cell? ⟨gz, 0, none⟩ = some (.int .i64 4)) := by
   show _ = _
   rw [x0, HYD.out, hk]
  have HQK := Lib.hid (N4.out hk)
  clear hk x0 x1 x2 x3 x4 x5 h1 h2 h3 h4
  have x0 := XK.out
  go_upto_region 12 with (fail)
  have hE4 := (Ext.refl W0).alloc (.cells #[.int .i64 4, .int .i64 0, .int .i64 0, .bool false, .slice none 0 0, .slice none 0 0, .slice none 0 0] 32)
  have hB4 := Blk.of_arr W0 #[.int .i64 4, .int .i64 0, .int .i64 0, .bool false, .slice none 0 0, .slice none 0 0, .slice none 0 0] 32 7 rfl
  have hs4 : (W0.alloc (.cells #[.int .i64 4, .int .i64 0, .int .i64 0, .bool false, .slice none 0 0, .slice none 0 0, .slice none 0 0] 32)).heap.size = W0.heap.size + 1 := by simp
  generalize W0.alloc (.cells #[.int .i64 4, .int .i64 0, .int .i64 0, .bool false, .slice none 0 0, .slice none 0 0, .slice none 0 0] 32) = W4 at *
  have HE4 := Lib.hid hE4
  have HB4 := Lib.hid hB4
  have HS4 := Lib.hid hs4
  obtain ⟨g4, hg4⟩ : ∃ g, g = W0.heap.size := ⟨_, rfl⟩
  rw [← hg4] at HB4 HS4 HGZ ⊢
  have HG4 := Lib.hid hg4
  obtain ⟨M3, hM3⟩ : ∃ Q : Nat → Prop, Q = fun g => M2 g ∨ g = g4 := ⟨_, rfl⟩
  have HM3 : Hid (∀ g, M3 g ↔ M2 g ∨ g = g4) := fun g => by rw [hM3]
  have HM2L : Hid (∀ g, M2 g → g < g4) := fun g hg => by rw [HG4.out]; exact HM2.out g hg
  clear hE4 hB4 hs4 hg4 hM3 x6 x0
  have x6 : W4.cell? ⟨gz, 6, none⟩ = some (.slice ya yn y.p) := by rw [HE4.out.cell (by rw [← HG4.out]; exact HGZ.out)]; exact HX6.out
  have HX64 := Lib.hid x6
  go_wp2
  go_loopw [35] (fun iv wr => ∃ (j : Nat) (v : Value), j ≤ yn ∧ iv = .int .i64 (j : Int) ∧ Hid (Blk wr g4 32 7 (arr #[.int .i64 4, .int .i64 0, .int .i64 0, .bool false, .slice none 0 0, .slice none 0 0, v])) ∧ Hid (ORow f M3 W4.heap.size wr v (normL (t.ks.take j))) ∧ Hid (Ext W0 wr)) (fun iv _ => yn - (intOf iv).toNat)
  case atStart => exact ⟨0, .slice none 0 0, Nat.zero_le _, rfl, HB4.out, ORow.nil _ _ _ _, HE4.out⟩
  case round =>
   obtain ⟨j, v, hj, rfl, HBK, HOR, HXR⟩ := hrel
   obtain ⟨va, vn, vp, rfl, hvn⟩ := HOR.out.form3
   have HVN := Lib.hid hvn
   clear hvn
   have hx6 : wr.cell? ⟨gz, 6, none⟩ = some (.slice ya yn y.p) := by rw [HXR.out.cell (by rw [← HG4.out]; exact HGZ.out)]; exact HX6.out
   have hb6 : wr.cell? ⟨g4, 6, none⟩ = some (.slice va vn vp) := HBK.out.cell (i := 6) (by omega)
   by_cases hlt : j < yn
   ·have HJ : Hid (j < t.ks.length) := by show j < t.ks.length; rw [← HN.out]; exact hlt
    obtain ⟨b, off, rfl, hc⟩ := HKC.out j HJ.out
    have hXd := HXR.out.trans (Ext.refl wr).drew
    have hS : SNm gz (.slice (some ⟨b, off, none⟩) yn y.p) g4 (.slice va vn vp) b (off + j * 7) (kk j) wr.drew := ⟨hx6, hb6, (hc.ext HXR.out).ext (Ext.refl wr).drew⟩
    have HOD := Lib.hid (HOR.out.ext (Ext.refl wr).drew)
    have hMM : Mb (MR M3 (.slice va vn vp)) wr.drew := fun g hg => by
     rcases hg with hg | hg
     ·rcases (HM3.out g).1 hg with h | h
      ·exact Nat.lt_of_lt_of_le (HM2.out g h) hXd.size
      ·rw [h]; exact (HBK.out.ext (Ext.refl wr).drew).lt
     ·exact (HOD.out.lt g hg).2
    have hMfr : ∀ g, MR M3 (.slice va vn vp) g → M2 g ∨ W0.heap.size ≤ g := fun g hg => by
     rcases hg with hg | hg
     ·rcases (HM3.out g).1 hg with h | h
      ·exact .inl h
      ·exact .inr (by rw [h, HG4.out]; exact Nat.le_refl _)
     ·have := (HOD.out.lt g hg).1
      have h4 := HS4.out
      have h5 := HG4.out
      exact .inr (by omega)
    have CN := Lib.hid (HOF.out j HJ.out (MR M3 (.slice va vn vp)) wr.drew hMM hMfr hXd)
    have HBD := Lib.hid (HBK.out.ext (Ext.refl wr).drew)
    have HXD := Lib.hid hXd
    have HLT := Lib.hid hlt
    have hbl : b < W0.heap.size := hc.lt
    have HBL := Lib.hid hbl
    have hltI : (j : Int) < (yn : Int) := by omega
    have HVL : Hid (vn ≤ 1000) := by
     show vn ≤ 1000
     rw [HVN.out, normL_len, List.length_take]; omega
    clear hc hXd hlt hMM hMfr hbl HBK HOR HXR hx6 hb6 x6
    generalize kk j = zk at *
    go_upto_region 15 with (fail)
    refine wp_region_u (SNm gz (.slice (some ⟨b, off, none⟩) yn y.p) g4 (.slice va vn vp) b (off + j * 7) zk) 11 (by kernel_rfl) hS (fun hHeld => ?_)
    clear hS
    generalize wr.drew = wd at *
    (refine tkB [0, 1, 2, 3, 4, 5, 6] ?_; (iterate 7 (refine tk1 (oi := ?_) (v := ?_) (by kernel_rfl) (by first | exact hSn | exact hHeld) ?_ ?_ ?_ ?_ ?_; rotate_left 2; (simp only [xgA, xgB, xgC]; rfl); rfl; (intro wS hSw; obtain ⟨S1, S2, B0, B1, B2, B3, B4, B5, B6⟩ := hSw; go_simp; try with_reducible rfl); (exact fun _ _ _ h => h); (try simp only [Act.put, xgD, xgE, xgF]))); refine tkE ?_)
    ((refine wpAnyU_one 7 (o := ?_) (by kernel_rfl) ?_ ?_; rotate_left 1; (simp only [xgA, xgB, xgC]; rfl); intro K hK); go_simp; (refine (CN.out).mono ?_); rintro e_ u7 ⟨u, rfl, hu, d7⟩; go_wp2_with (fail); (try clear hSn); (have hSn := hHeld.ext d7); (refine hK.out _ _ (fun _ => hSn) ?_); clear hK K; (try simp only [Act.put, xgD, xgE, xgF]))
    (refine wpAnyU_one 8 (o := ?_) (by kernel_rfl) ?_ ?_; rotate_left 1; (simp only [xgA, xgB, xgC]; rfl); intro K hK)
    go_simp
    have hEA : Ext wd (u7.alloc (.cells u.A 32)) := d7.alloc _
    have hS2 := hHeld.ext hEA
    refine hK.out _ _ (fun _ => hS2) ?_
    clear hK K
    (try simp only [Act.put, xgD, xgE, xgF])
    (refine wpAnyU_one 9 (o := ?_) (by kernel_rfl) ?_ ?_; rotate_left 1; (simp only [xgA, xgB, xgC]; rfl); intro K hK)
    have hvn := HVN.out
    subst hvn
    obtain ⟨xx, hO, hXX⟩ := HOD.out.ext hEA
    have hszA : W4.heap.size ≤ (u7.alloc (.cells u.A 32)).heap.size := by
     have h1 := (HXD.out.trans hEA).size
     have h2 := (HBD.out.ext hEA).lt
     have h4 := HS4.out
     omega
    have hvl := HVL.out
    refine step_append_fn _ (by rfl) (.tmp 39) (.tmp 46) _ (by rfl) W4.heap.size 32 j0 _ 7 104 Tryz.underlying30 ji jz0 jz1 jz2 rfl (by omega) (.slice va (normL (t.ks.take j)).length vp) (normL (t.ks.take j)).length (pm xx) (by rfl) hO u7.heap.size 32 1 (arr u.A) (by rfl) (Blk.of_arr u7 u.A 32 7 rfl) (mx_one u) (by unfold maxLen; omega) (by omega) hszA ?_
    intro gg cap2 v3 hO6 hg6 hat hlt6
    have hown : ∀ q, (Value.slice va (normL (t.ks.take j)).length vp).ownBlock = some q → W4.heap.size ≤ q := fun q hq => (HOD.out.lt q hq).1
    have h4 := HS4.out
    have h5 := HG4.out
    have HKG := Lib.hid (Kp.grown (M := fun q => (Value.slice va (normL (t.ks.take j)).length vp).ownBlock = some q) hg6 fun k hk => hk)
    have hgzl := HGZ.out
    have hbl := HBL.out
    have hS9 : SNm gz (.slice (some ⟨b, off, none⟩) yn y.p) g4 (.slice va (normL (t.ks.take j)).length vp) b (off + j * 7) zk v3 := hS2.kp HKG.out (fun h => by have := hown _ h; omega) (fun h => by have := hown _ h; omega) (fun h => by have := hown _ h; omega)
    have HB9 : Hid (Blk v3 g4 32 7 (arr #[.int .i64 4, .int .i64 0, .int .i64 0, .bool false, .slice none 0 0, .slice none 0 0, .slice va (normL (t.ks.take j)).length vp])) := (HBD.out.ext hEA).of_heap (HKG.out.2 g4 (HBD.out.ext hEA).lt fun h => by have := hown _ h; omega)
    have HX9 : Hid (Ext W0 v3) := (HXD.out.trans hEA).grown hg6 fun q hq => by have := hown q hq; omega
    have HO9 : Hid (ORow f M3 W4.heap.size v3 (.slice (some ⟨gg, 0, none⟩) ((normL (t.ks.take j)).length + 1) cap2) (normL (t.ks.take (j + 1)))) := by
     show ORow _ _ _ _ _ _
     rw [normL_take t.ks j HJ.out]
     exact ORow.push hXX (hu.ext ((Ext.refl u7).alloc _)) hO6 hg6 hat
    have hz9 := HB9.out.frozen 6
    have hb9 := hS9.2.1
    clear hO6 hg6 hat hO hXX hu hszA hS2 hEA d7 hown h4 h5 hgzl hbl HKG HBD HOD CN HXD
    refine hK.out _ _ (fun _ => hS9) ?_
    clear hK K
    (try simp only [Act.put, xgD, xgE, xgF])
    have hSn := hS9
    (refine tkB [10] ?_; (iterate 1 (refine tk1 (oi := ?_) (v := ?_) (by kernel_rfl) (by first | exact hSn | exact hHeld) ?_ ?_ ?_ ?_ ?_; rotate_left 2; (simp only [xgA, xgB, xgC]; rfl); rfl; (intro wS hSw; obtain ⟨S1, S2, B0, B1, B2, B3, B4, B5, B6⟩ := hSw; go_simp; try with_reducible rfl); (exact fun _ _ _ h => h); (try simp only [Act.put, xgD, xgE, xgF]))); refine tkE ?_)
    clear hSn
    ((refine wpAnyU_one 11 (o := ?_) (by kernel_rfl) ?_ ?_; rotate_left 1; (simp only [xgA, xgB, xgC]; rfl); intro K hK); go_simp; (refine hK.out _ _ (fun h => absurd rfl h) ?_); clear hK K; refine wpAnyU_done (by kernel_rfl) ?_ _)
    have HB10 : Hid (Blk (v3.setCell ⟨g4, 6, none⟩ (.slice (some ⟨gg, 0, none⟩) ((normL (t.ks.take j)).length + 1) cap2)) g4 32 7 (arr #[.int .i64 4, .int .i64 0, .int .i64 0, .bool false, .slice none 0 0, .slice none 0 0, .slice (some ⟨gg, 0, none⟩) ((normL (t.ks.take j)).length + 1) cap2])) := (HB9.out.set 6 _).fun_ext fun i hi => by
     match i, hi with
     | 0, _ => rfl
     | 1, _ => rfl
     | 2, _ => rfl
     | 3, _ => rfl
     | 4, _ => rfl
     | 5, _ => rfl
     | 6, _ => rfl
    have HO10 := Lib.hid (HO9.out.setO (g := g4) ((HM3.out g4).2 (.inr rfl)) (by have := HS4.out; omega) 6 (.slice (some ⟨gg, 0, none⟩) ((normL (t.ks.take j)).length + 1) cap2))
    have HX10 := Lib.hid (HX9.out.set (p := ⟨g4, 6, none⟩) (by rw [HG4.out]; exact Nat.le_refl _) (.slice (some ⟨gg, 0, none⟩) ((normL (t.ks.take j)).length + 1) cap2))
    clear HB9 HO9 HX9 hS9 hz9 hb9 hHeld
    generalize v3.setCell ⟨g4, 6, none⟩ (.slice (some ⟨gg, 0, none⟩) ((normL (t.ks.take j)).length + 1) cap2) = v4 at *
    generalize (Value.slice (some ⟨gg, 0, none⟩) ((normL (t.ks.take j)).length + 1) cap2) = sv at *
    go_wp2
    go_roundw
    case rel => exact ⟨j + 1, sv, HLT.out, by go_num, HB10.out, HO10.out, HX10.out⟩
    case measure => have := HLT.out; simp [intOf]; omega
   ·obtain rfl : j = yn := by omega
    have hge : ¬ (j : Int) < (j : Int) := by omega
    have hkm : KM (TMc true f M3) M3 wr va vn vp (normL (t.ks.take j)) := HOR.out.km fun g hg hm => by
     have h4 := HS4.out
     rcases (HM3.out g).1 hm with h | h
     ·have := HM2L.out g h; omega
     ·omega
    have hkm2 := hkm.more (M' := M2) fun b hb => .inl ((HM3.out b).2 (.inl hb))
    have hta : normL (t.ks.take j) = normL t.ks := by rw [HN.out, List.take_length]
    rw [hta] at hkm2
    have ht1 : TMc true (f + 1) M2 wr ⟨4, 0, ⟨0, false, none, 0, 0, none, 0, 0⟩, va, vn, vp⟩ (.nd 4 0 [] (normL t.ks)) := ⟨⟨rfl, rfl, smF_nil, (show CRx M2 wr 4 PE.z [] ∧ NodeOk (.nd 4 0 [] (normL t.ks)) from ⟨CR.zero _ _ _, rfl, .inr (.inr ⟨.inr rfl, rfl, rfl⟩)⟩)⟩, hkm2⟩
    have d0 := HBK.out.cell (i := 0) (by omega)
    have d1 := HBK.out.cell (i := 1) (by omega)
    have d2 := HBK.out.cell (i := 2) (by omega)
    have d3 := HBK.out.cell (i := 3) (by omega)
    have d4 := HBK.out.cell (i := 4) (by omega)
    have d5 := HBK.out.cell (i := 5) (by omega)
    simp only [arr] at d0 d1 d2 d3 d4 d5
    clear hkm hkm2 hta
    obtain ⟨WA, hWA, ⟨c0, c1, c2, c3, c4, c5, c6⟩, ⟨f0, f1, f2, f3, f4, f5, f6⟩, ⟨r0, r1, r2, r3, r4, r5, r6⟩, HF⟩ := hRET.out wr (.nd 4 0 [] (normL t.ks)) ⟨4, 0, ⟨0, false, none, 0, 0, none, 0, 0⟩, va, vn, vp⟩ ht1 HXR.out
    try dsimp only at hWA r0 r1 r2 r3 r4 r5 r6
    have HWA := Lib.hid hWA
    have HF := Lib.hid (show RetT (f + 1) M w (normT t) _ WA from by rw [HQK.out]; exact HF.out)
    clear hWA ht1 hx6
    go_wp2
    rw [← HWA.out]
    clear HWA c0 c1 c2 c3 c4 c5 c6 f0 f1 f2 f3 f4 f5 f6
    exact bodyPost_ret (v := .agg (MX.A ⟨4, 0, ⟨0, false, none, 0, 0, none, 0, 0⟩, va, vn, vp⟩)) (by simp [results, Tryz.results16, go_sem, r0, r1, r2, r3, r4, r5, r6]) rfl HF.out
 have hk4' := hk
 clear hk
 have h1 : (y.kd == 1) = false := by rw [HYD.out]; exact beq_eq_false_iff_ne.2 hk1
 have h2 : (y.kd == 2) = false := by rw [HYD.out]; exact beq_eq_false_iff_ne.2 hk2'
 have h3 : (y.kd == 3) = false := by rw [HYD.out]; exact beq_eq_false_iff_ne.2 hk3'
 have h4 : (y.kd == 4) = false := by rw [HYD.out]; exact beq_eq_false_iff_ne.2 hk4'
 obtain ⟨WA, hWA, ⟨c0, c1, c2, c3, c4, c5, c6⟩, ⟨f0, f1, f2, f3, f4, f5, f6⟩, ⟨r0, r1, r2, r3, r4, r5, r6⟩, HF⟩ := hRET.out W0 (tmB false) ⟨0, 0, ⟨0, false, none, 0, 0, none, 0, 0⟩, none, 0, 0⟩ (tmB_c f M2 W0 false) (Ext.refl _)
 try dsimp only at hWA r0 r1 r2 r3 r4 r5 r6
 have HWA := Lib.hid hWA
 have HF := Lib.hid (show RetT (f + 1) M w (normT t) _ WA from by rw [N5.out hk1 hk2' hk3' hk4']; exact HF.out)
 clear hWA hk1 hk2' hk3' hk4' x6 HX
 go_wp2
 rw [← HWA.out]
 clear HWA c0 c1 c2 c3 c4 c5 c6 f0 f1 f2 f3 f4 f5 f6
 exact bodyPost_ret (v := .agg (MX.A ⟨0, 0, ⟨0, false, none, 0, 0, none, 0, 0⟩, none, 0, 0⟩)) (by simp [results, Tryz.results16, go_sem, r0, r1, r2, r3, r4, r5, r6]) rfl HF.out
theorem rf_normal : ∀ f, NmCtr f
 | 0 => fun _ _ _ _ _ h => h.elim
 | f + 1 => norm_walk f (rf_normal f)
end Go.Proofs.YtodiphjjdheoaaaGreat
