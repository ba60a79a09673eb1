/- Arguments of the types int8 and [4]int16, opened. Plain facts: values of lists with the same coefficients; relations as sets of signs. cylinderref38.Normal of an atom; cylinderref39.simple, IsSimple of constants and atoms; Integers. Rules for drawn regions: an operation that is not wanted; cylinderref39.Integers. The law SimplifyAtoms returns true at every input, without a panic; no conditions. -/
import Derived.Test.YtiopnmlohpmmiaaGreatNi
set_option linter.unusedVariables false
set_option linter.unusedSimpArgs false

namespace Go.Proofs.YtiopnmlohpmmiaaGreat
open Go.ChangeShapes Go.WideShapes Go.ChangeAt Go.RowKit Go.Deep

section
variable {H : Type} {enc : TypeId × Value → H} {W : World}
set_option linter.constructorNameAsVariable false in
set_option maxRecDepth 10000 in
theorem open_i8 {base : Nat} {v : Value} {d : DataW H} {ps : List MemPlace} (hv : Value.okWide Tryz.prog W .any base 29 v) (h : DataW.Trod enc Tryz.prog W 0 (fun _ => true) true 29 v d ps) : ∃ z : Int, v = .int .i8 z ∧ (-128 ≤ z ∧ z ≤ 127) := by
  obtain ⟨fuel, h⟩ := h
  obtain ⟨y, rfl⟩ := okWide_int Tryz.underlying29 hv
  obtain ⟨z, hz, _, hw⟩ := DataW.trod_int Tryz.underlying29 h
  have hz' : [Value.int .i8 y] = [.int .i8 z] := hz
  simp [Lit.wf, IntKind.min, IntKind.max, IntKind.signed, IntKind.bits] at hw
  exact ⟨z, by simpa using hz', by omega, by omega⟩
set_option linter.constructorNameAsVariable false in
set_option maxRecDepth 10000 in
theorem open_quad16 {base : Nat} {v : Value} {d : DataW H} {ps : List MemPlace} (hv : Value.okWide Tryz.prog W .any base 31 v) (h : DataW.Trod enc Tryz.prog W 0 (fun _ => true) true 31 v d ps) : ∃ y : Nat → Int, v = .agg #[.int .i16 (y 0), .int .i16 (y 1), .int .i16 (y 2), .int .i16 (y 3)] ∧ ∀ i, i < 4 → (-32768 ≤ y i ∧ y i ≤ 32767) := by
  obtain ⟨fuel, h⟩ := h
  have hu := Tryz.underlying31
  unfold Value.okWide at hv
  rw [hu] at hv
  obtain ⟨cs, rfl, hcs, _⟩ := hv
  rw [show Tryz.prog.cellsOf 31 = 4 by kernel_rfl] at hcs
  obtain ⟨v0, v1, v2, v3, rfl⟩ : ∃ v0 v1 v2 v3, cs = #[v0, v1, v2, v3] := by
    obtain ⟨l⟩ := cs
    match l, hcs with
    | [v0, v1, v2, v3], _ => exact ⟨v0, v1, v2, v3, rfl⟩
  have h' : DataW.trod enc Tryz.prog W 0 (fun _ => true) true fuel 31 [v0, v1, v2, v3] = some (d, ps) := h
  obtain ⟨xs, q, _, _, _, hxl, hx⟩ := DataW.trod_array hu h'
  have hce : Tryz.prog.cellsOf 30 = 1 := by kernel_rfl
  rw [hce] at hx
  have key : ∀ i, i < 4 → ∃ y, DataW.trod enc Tryz.prog W 0 (fun _ => true) true q 30 (([v0, v1, v2, v3].drop (i * 1)).take 1) = some y := fun i hi => by
    rw [hx i hi, List.getElem?_eq_getElem (by omega)]; exact ⟨_, rfl⟩
  obtain ⟨y0, e0⟩ := key 0 (by omega)
  obtain ⟨y1, e1⟩ := key 1 (by omega)
  obtain ⟨y2, e2⟩ := key 2 (by omega)
  obtain ⟨y3, e3⟩ := key 3 (by omega)
  obtain ⟨a, ha, _, wa⟩ := DataW.trod_int Tryz.underlying30 e0
  obtain ⟨b, hb, _, wb⟩ := DataW.trod_int Tryz.underlying30 e1
  obtain ⟨c, hc, _, wc⟩ := DataW.trod_int Tryz.underlying30 e2
  obtain ⟨e, he, _, we⟩ := DataW.trod_int Tryz.underlying30 e3
  simp at ha hb hc he
  simp [Lit.wf, IntKind.min, IntKind.max, IntKind.signed, IntKind.bits] at wa wb wc we
  refine ⟨fun i => if i = 0 then a else if i = 1 then b else if i = 2 then c else e, by rw [ha, hb, hc, he]; rfl, fun i hi => ?_⟩
  rcases (show i = 0 ∨ i = 1 ∨ i = 2 ∨ i = 3 by omega) with rfl | rfl | rfl | rfl <;> assumption
end
end Go.Proofs.YtiopnmlohpmmiaaGreat

namespace Go.Proofs.YtiopnmlohpmmiaaGreat
open Go.RowKit

theorem evT_ins (q : Nat → Rat) (c : Int) (m : Mo) (l : List Tm) : evT q (ins c m l) = (c : Rat) * evM q m + evT q l := by
  induction l with
  | nil =>
    simp only [ins]; split
    · rename_i h; subst h; simp [evT, Rat.add_zero]
    · simp [evT]
  | cons s r ih =>
    simp only [ins]
    split
    · rename_i h1
      subst h1
      have e : ((s.1 + c : Int) : Rat) = (s.1 : Rat) + (c : Rat) := Rat.intCast_add _ _
      split
      · rename_i h2
        rw [h2] at e
        simp only [evT]
        generalize evM q s.2 = p
        generalize evT q r = u
        have e2 : (0 : Rat) = (s.1 : Rat) + (c : Rat) := by rw [← e]; rfl
        have e3 : (0 : Rat) = ((s.1 : Rat) + (c : Rat)) * p := by rw [← e2, Rat.zero_mul]
        grind
      · simp only [evT]
        rw [e]
        generalize evM q s.2 = p
        generalize evT q r = u
        grind
    · split
      · split
        · rename_i h; subst h; simp [Rat.zero_add]
        · simp only [evT]
      · simp only [evT, ih]
        generalize evT q r = u
        generalize (s.1 : Rat) * evM q s.2 = v
        generalize (c : Rat) * evM q m = x
        grind
theorem evT_norm (q : Nat → Rat) : ∀ l : List Tm, (∀ t ∈ l, t.2.nn = true) → evT q (norm l) = evT q l
  | [], _ => rfl
  | t :: l, h => by
    have ih := evT_norm q l fun s hs => h s (List.mem_cons_of_mem _ hs)
    simp only [norm]
    rw [if_pos (h t List.mem_cons_self), evT_ins, ih]; rfl
theorem evT_sim (q : Nat → Rat) {l r : List Tm} (h : Sim l r) (hl : ∀ t ∈ l, t.2.nn = true) (hr : ∀ t ∈ r, t.2.nn = true) : evT q l = evT q r := by
  rw [← evT_norm q l hl, ← evT_norm q r hr, h.norm]
theorem snorm_nn (l : List Tm) : ∀ t ∈ snorm l, t.2.nn = true := by
  rw [← norm_snorm]; exact fun t ht => ((norm_canon _).2 t ht).2
theorem rel_cases (r : Int) {p : Int → Bool} (h1 : p 1 = true) (h2 : p 2 = true) (h4 : p 4 = true) (h5 : p 5 = true) (h6 : p 6 = true) (h : sg r = 2 → (∀ s, perm r s = decide (s = 0)) → p r = true) : p r = true := by
  by_cases e1 : r = 1
  · rw [e1]; exact h1
  by_cases e2 : r = 2
  · rw [e2]; exact h2
  by_cases e4 : r = 4
  · rw [e4]; exact h4
  by_cases e5 : r = 5
  · rw [e5]; exact h5
  by_cases e6 : r = 6
  · rw [e6]; exact h6
  exact h (by unfold sg; rw [if_neg e1, if_neg e2, if_neg e4, if_neg e5, if_neg e6]) fun s => by unfold perm; rw [if_neg e1, if_neg e2, if_neg e4, if_neg e5, if_neg e6]
theorem sg3 {s : Int} (h : s = -1 ∨ s = 0 ∨ s = 1) (r : Int) : (bits BinOp.and .i64 (sg r) (bt s) != 0) = perm r s := by
  rcases h with rfl | rfl | rfl <;> exact eq_of_beq (rel_cases r (p := fun r => (bits BinOp.and .i64 (sg r) (bt _) != 0) == perm r _) (by decide +kernel) (by decide +kernel) (by decide +kernel) (by decide +kernel) (by decide +kernel) fun h1 h2 => by simp only [h1, h2]; decide +kernel)
theorem perm_rl {s : Int} (h : s = -1 ∨ s = 0 ∨ s = 1) (r : Int) : perm (rl (sg r)).1 s = perm r s := by
  rcases h with rfl | rfl | rfl <;> exact eq_of_beq (rel_cases r (p := fun r => perm (rl (sg r)).1 _ == perm r _) (by decide +kernel) (by decide +kernel) (by decide +kernel) (by decide +kernel) (by decide +kernel) fun h1 h2 => by simp only [h1, h2]; decide +kernel)
theorem perm_opp {s : Int} (h : s = -1 ∨ s = 0 ∨ s = 1) (r : Int) : perm (rl (opp (sg r))).1 s = perm r (-s) := by
  rcases h with rfl | rfl | rfl <;> exact eq_of_beq (rel_cases r (p := fun r => perm (rl (opp (sg r))).1 _ == perm r (- _)) (by decide +kernel) (by decide +kernel) (by decide +kernel) (by decide +kernel) (by decide +kernel) fun h1 h2 => by simp only [h1, h2]; decide +kernel)
theorem perm_nrel (r s : Int) : perm (nrel r) s = perm r s := by
  unfold nrel
  split
  · unfold perm
    rw [if_neg (by omega), if_neg (by omega), if_neg (by omega), if_neg (by omega), if_neg (by omega), if_neg (by omega), if_neg (by omega), if_neg (by omega), if_neg (by omega), if_neg (by omega)]
  · split
    · unfold perm
      rw [if_neg (by omega), if_neg (by omega), if_neg (by omega), if_neg (by omega), if_neg (by omega), if_neg (by omega), if_neg (by omega), if_neg (by omega), if_neg (by omega), if_neg (by omega)]
    · rfl
theorem rl_range (r : Int) : (1 ≤ (rl (sg r)).1 ∧ (rl (sg r)).1 ≤ 6) ∧ (1 ≤ (rl (opp (sg r))).1 ∧ (rl (opp (sg r))).1 ≤ 6) := by
  rcases sg_cases r with h | h | h | h | h | h <;> rw [h] <;> decide
theorem sign3 (z : Int) : z.sign = -1 ∨ z.sign = 0 ∨ z.sign = 1 := by
  rcases Int.lt_trichotomy z 0 with h | h | h
  · exact .inl (Int.sign_eq_neg_one_of_neg h)
  · subst h; exact .inr (.inl rfl)
  · exact .inr (.inr (Int.sign_eq_one_of_pos h))
/-- the relation of the normal form's atom -/
def arel (h r : Int) : Int := (rl (if h < 0 then opp (sg r) else sg r)).1
/-- the truth of both atoms at values that differ by the factor k -/
theorem perm_two {k v v' h : Int} (r : Int) (hk : k ≠ 0) (hkh : k < 0 ↔ h < 0) (hv : v' = k * v) : perm (arel h r) v.sign = perm (nrel r) v'.sign := by
  rw [perm_nrel, hv, Int.sign_mul]
  unfold arel
  by_cases h0 : h < 0
  · rw [if_pos h0, perm_opp (sign3 v), Int.sign_eq_neg_one_of_neg (hkh.2 h0), Int.neg_one_mul]
  · have hk0 : 0 < k := by
      have : ¬ k < 0 := fun hc => h0 (hkh.1 hc)
      omega
    rw [if_neg h0, perm_rl (sign3 v), Int.sign_eq_one_of_pos hk0, Int.one_mul]
theorem arel_range (h r : Int) : 1 ≤ arel h r ∧ arel h r ≤ 6 := by
  unfold arel
  split
  · exact (rl_range r).2
  · exact (rl_range r).1
/-- the loop over the signs: one of both is so for all -/
theorem perm_same (h r : Int) : (∀ s : Int, s = -1 ∨ s = 0 ∨ s = 1 → perm (arel h r) s = perm (nrel r) s) ∨ (∀ s : Int, s = -1 ∨ s = 0 ∨ s = 1 → perm (arel h r) s = perm (nrel r) (-s)) := by
  unfold arel
  by_cases h0 : h < 0
  · right; intro s hs; rw [if_pos h0, perm_opp hs, perm_nrel]
  · left; intro s hs; rw [if_neg h0, perm_rl hs, perm_nrel]
/-- the size of a raw polynomial with room -/
theorem room_dl {t : RT 6} {n : Int} (h : SmT (4294967296 ^ 4) 6 t n) (hn : n ≤ 60) : TB 6 t ∧ dlen (nrm (terms 6 t)) ≤ 5 ∧ (∀ s ∈ terms 6 t, ∀ k, s.2.get k ≤ 66) := by
  obtain ⟨h1, h2, h3⟩ := h
  have hd : dlen (nrm (terms 6 t)) ≤ 5 := by
    rw [dlen_le_iff]
    have e4 : (4294967296 : Nat) ^ 4 = 340282366920938463463374607431768211456 := by decide
    have e5 : (4294967296 : Nat) ^ 5 = 1461501637330902918203684832716283019655932542976 := by decide
    rw [e4] at h2
    rw [e5]
    omega
  refine ⟨⟨by omega, by omega, by omega, fun s hs k => ?_⟩, hd, fun s hs k => ?_⟩
  · have := h3 s hs k; omega
  · have := h3 s hs k; omega
theorem deg_of_mem {B : Nat} {l : List Tm} (h : ∀ s ∈ l, ∀ k, s.2.get k ≤ B) : Deg B l := fun m hm k => by
  obtain ⟨s, hs, rfl⟩ : ∃ s ∈ l, s.2 = m := Classical.byContradiction fun hc => hm (coefAt_zero fun t ht e => hc ⟨t, ht, e⟩)
  exact h s hs k
theorem deg_snorm {B : Nat} {l : List Tm} (h : ∀ s ∈ l, ∀ k, s.2.get k ≤ B) : Deg B (snorm l) := deg_of_mem fun s hs k => by
  obtain ⟨s', hs', e⟩ := snorm_mem hs
  rw [← e]; exact h s' hs' k
theorem nonconst_snorm {l : List Tm} (hl : ∀ t ∈ l, t.2.nn = true) (h : ∃ m k, coefAt l m ≠ 0 ∧ 1 ≤ k ∧ k ≤ 4 ∧ 0 < m.get k) : ∃ m k, coefAt (snorm l) m ≠ 0 ∧ 1 ≤ k ∧ k ≤ 4 ∧ 0 < m.get k := by
  obtain ⟨m, k, h1, h2⟩ := h
  refine ⟨m, k, fun h0 => h1 ?_, h2⟩
  have hm : m.nn = true := by
    obtain ⟨s, hs, rfl⟩ : ∃ s ∈ l, s.2 = m := Classical.byContradiction fun hc => h1 (coefAt_zero fun t ht e => hc ⟨t, ht, e⟩)
    exact hl s hs
  rw [← norm_coef_nn l m hm, ← smul_snorm, coefAt_smul, h0, Int.mul_zero]
theorem norm_ne {l : List Tm} (hl : ∀ t ∈ l, t.2.nn = true) (h : ∃ m k, coefAt l m ≠ 0 ∧ 1 ≤ k ∧ k ≤ 4 ∧ 0 < m.get k) : norm l ≠ [] := fun e => by
  obtain ⟨m, k, h1, h2⟩ := nonconst_snorm hl h
  unfold snorm at h1
  rw [e] at h1
  exact h1 rfl
/-- a canonical polynomial has a small tree -/
theorem CRx.small {M : Nat → Prop} {w : World} {y : PE} {l r : List Tm} (h : CRx M w 4 y l) (hn : nrm l ≤ nrm r) (hL : dlen (nrm r) ≤ 5) (hD : Deg 66 l) : ∃ t : RT 5, RR M w 5 t (.int .i64 y.lv) (.bool y.b) (.slice y.a y.n y.p) (.slice y.ka y.kn y.kp) ∧ Sim (terms 5 t) l ∧ 2 * szE 2 5 t + 2 + 4 ≤ 1099511627776 := by
  obtain ⟨t, h1, h2, h3, h4⟩ := h
  refine ⟨t, h1, h4, ?_⟩
  have h5 := can_szE 2 66 5 5 t h2 h1.ok (sim_deg h4 hD) (Nat.le_trans (dlen_mono (Nat.le_trans (can_nrm h2 h4) hn)) hL)
  have h6 : (Go.Proofs.YtiopnmlohpmmiaaGreat.lev 5 t).toNat ≤ 4 := by
    have := can_lev h2
    show t.1.toNat ≤ 4; omega
  have h7 := szB_mono 2 66 5 h6
  have h8 : szB 2 66 5 4 = 182581366 := by decide
  omega
end Go.Proofs.YtiopnmlohpmmiaaGreat

namespace Go.Proofs.YtiopnmlohpmmiaaGreat
open Go.RowKit

theorem box77 {M : Nat → Prop} {w : World} (hM : Mb M w) (A : Array Value) (hA : A.size = 7) : Ext w ((w.alloc (.cells A 37)).alloc (.cells mzA 37)) ∧ Blk ((w.alloc (.cells A 37)).alloc (.cells mzA 37)) w.heap.size 37 7 (arr A) ∧
    Blk ((w.alloc (.cells A 37)).alloc (.cells mzA 37)) (w.heap.size + 1) 37 7 (arr mzA) ∧ Mb (Mx M w.heap.size (w.heap.size + 2)) ((w.alloc (.cells A 37)).alloc (.cells mzA 37)) := by
  have h1 := Blk.of_arr (w.alloc (.cells A 37)) mzA 37 7 rfl
  simp only [World.size_alloc] at h1
  exact ⟨((Ext.refl w).alloc _).alloc _, (Blk.of_arr w A 37 7 hA).alloc _, h1, Mx.mb hM (by simp; omega) (by simp)⟩
set_option maxRecDepth 100000 in
set_option maxHeartbeats 4000000 in
theorem rf_norm38 (M : Nat → Prop) (d : Nat) (t : RT d) (x : PE) (r : Int) (w : World) (hM : Mb M w) (h : RR M w d t (.int .i64 x.lv) (.bool x.b) (.slice x.a x.n x.p) (.slice x.ka x.kn x.kp)) (hT : TB d t) :
    Calls Tryz.prog 19 #[.agg (mxA 2 r x)] w fun e w' => ∃ y : PE, e = .returned (.agg (mxA 2 (nrel r) y)) ∧ CRx M w' 4 y (terms d t) ∧ Ext w w' := by
  obtain ⟨hE, hX, hB, hM2⟩ := box77 hM (mxA 2 r x) rfl
  have h2 := RR.ext (RR.more (M' := Mx M w.heap.size (w.heap.size + 2)) (Mx.more (Nat.le_refl _)) h) hE
  have c0 := hX.cell (i := 0) (by omega)
  rw [show arr (mxA 2 r x) 0 = .int .i64 2 from rfl] at c0
  have HX : Hid (Mx7 w.heap.size r x _) := ⟨hX.cell (i := 1) (by omega), hX.cell (i := 2) (by omega), hX.cell (i := 3) (by omega), hX.cell (i := 4) (by omega), hX.cell (i := 5) (by omega)⟩
  have CT := Lib.hid (rp_Normal _ x (terms d t) _ hM2 ⟨d, t, h2, .inr hT, Sim.refl _⟩)
  generalize hW0 : (w.alloc (.cells (mxA 2 r x) 37)).alloc (.cells mzA 37) = W0 at *
  have HW0 := Lib.hid hW0
  have HE := Lib.hid hE
  have HB := Lib.hid hB
  have x1 := HX.out.1
  clear hE hX hB hM2 h2 hW0 hM h hT
  by_cases h1 : r < 1
  · have HN : Hid (nrel r = 3) := by show _ = _; unfold nrel; rw [if_pos h1]
    go_enter Tryz.func19, Tryz.ntmps19
    go_upto_region 1 with (fail)
    rw [HW0.out]
    clear HW0
    go_upto_region 8 with (fail)
    obtain ⟨x1, x2, x3, x4, x5⟩ := HX.out
    have g0 := World.block_lt_of_cell? _ _ x1
    simp only at g0
    go_wp2_with (fail)
    refine CT.out.mono ?_
    rintro e w1 ⟨y, rfl, hy, he1⟩
    clear CT x1 x2 x3 x4 x5
    obtain ⟨WA, hWA, ⟨c0, c1, c2, c3, c4, c5, c6⟩, ⟨f0, f1, f2, f3, f4, f5, f6⟩, ⟨r0, r1, r2, r3, r4, r5, r6⟩, hkp, hEF⟩ := fin7 (M' := Mx M w.heap.size (w.heap.size + 2)) (w := w) (.int .i64 2) (.int .i64 3) (.int .i64 y.lv) (.bool y.b) (.slice y.a y.n y.p) (.slice y.ka y.kn y.kp) (.slice none 0 0) (HB.out.ext he1) (Mx.at (by omega)) (by omega) (HE.out.trans he1)
    have HWA := Lib.hid hWA
    have HF : Hid (∃ z : PE, Ending.returned (.agg (mxA 2 3 y)) = .returned (.agg (mxA 2 (nrel r) z)) ∧ CRx M WA 4 z (terms d t) ∧ Ext w WA) := ⟨y, by rw [HN.out], (hy.kp hkp).more fun g hg => .inl (Mx.sub g hg), hEF⟩
    clear hy hkp hEF he1 hWA
    go_wp2
    rw [← HWA.out]
    clear HWA c0 c1 c2 c3 c4 c5 c6 f0 f1 f2 f3 f4 f5 f6
    exact bodyPost_ret (v := .agg (mxA 2 3 y)) (by simp [results, Tryz.results19, go_sem, r0, r1, r2, r3, r4, r5, r6]) rfl HF.out
  by_cases h6 : 6 < r
  · have HN : Hid (nrel r = 3) := by show _ = _; unfold nrel; rw [if_neg h1, if_pos h6]
    go_enter Tryz.func19, Tryz.ntmps19
    go_upto_region 1 with (fail)
    rw [HW0.out]
    clear HW0
    go_upto_region 8 with (fail)
    obtain ⟨x1, x2, x3, x4, x5⟩ := HX.out
    have g0 := World.block_lt_of_cell? _ _ x1
    simp only at g0
    go_wp2_with (fail)
    refine CT.out.mono ?_
    rintro e w1 ⟨y, rfl, hy, he1⟩
    clear CT x1 x2 x3 x4 x5
    obtain ⟨WA, hWA, ⟨c0, c1, c2, c3, c4, c5, c6⟩, ⟨f0, f1, f2, f3, f4, f5, f6⟩, ⟨r0, r1, r2, r3, r4, r5, r6⟩, hkp, hEF⟩ := fin7 (M' := Mx M w.heap.size (w.heap.size + 2)) (w := w) (.int .i64 2) (.int .i64 3) (.int .i64 y.lv) (.bool y.b) (.slice y.a y.n y.p) (.slice y.ka y.kn y.kp) (.slice none 0 0) (HB.out.ext he1) (Mx.at (by omega)) (by omega) (HE.out.trans he1)
    have HWA := Lib.hid hWA
    have HF : Hid (∃ z : PE, Ending.returned (.agg (mxA 2 3 y)) = .returned (.agg (mxA 2 (nrel r) z)) ∧ CRx M WA 4 z (terms d t) ∧ Ext w WA) := ⟨y, by rw [HN.out], (hy.kp hkp).more fun g hg => .inl (Mx.sub g hg), hEF⟩
    clear hy hkp hEF he1 hWA
    go_wp2
    rw [← HWA.out]
    clear HWA c0 c1 c2 c3 c4 c5 c6 f0 f1 f2 f3 f4 f5 f6
    exact bodyPost_ret (v := .agg (mxA 2 3 y)) (by simp [results, Tryz.results19, go_sem, r0, r1, r2, r3, r4, r5, r6]) rfl HF.out
  · have HN : Hid (nrel r = r) := by show _ = _; unfold nrel; rw [if_neg h1, if_neg h6]
    go_enter Tryz.func19, Tryz.ntmps19
    go_upto_region 1 with (fail)
    rw [HW0.out]
    clear HW0
    go_upto_region 8 with (fail)
    obtain ⟨x1, x2, x3, x4, x5⟩ := HX.out
    have g0 := World.block_lt_of_cell? _ _ x1
    simp only at g0
    go_wp2_with (fail)
    refine CT.out.mono ?_
    rintro e w1 ⟨y, rfl, hy, he1⟩
    clear CT x1 x2 x3 x4 x5
    obtain ⟨WA, hWA, ⟨c0, c1, c2, c3, c4, c5, c6⟩, ⟨f0, f1, f2, f3, f4, f5, f6⟩, ⟨r0, r1, r2, r3, r4, r5, r6⟩, hkp, hEF⟩ := fin7 (M' := Mx M w.heap.size (w.heap.size + 2)) (w := w) (.int .i64 2) (.int .i64 r) (.int .i64 y.lv) (.bool y.b) (.slice y.a y.n y.p) (.slice y.ka y.kn y.kp) (.slice none 0 0) (HB.out.ext he1) (Mx.at (by omega)) (by omega) (HE.out.trans he1)
    have HWA := Lib.hid hWA
    have HF : Hid (∃ z : PE, Ending.returned (.agg (mxA 2 r y)) = .returned (.agg (mxA 2 (nrel r) z)) ∧ CRx M WA 4 z (terms d t) ∧ Ext w WA) := ⟨y, by rw [HN.out], (hy.kp hkp).more fun g hg => .inl (Mx.sub g hg), hEF⟩
    clear hy hkp hEF he1 hWA
    go_wp2
    rw [← HWA.out]
    clear HWA c0 c1 c2 c3 c4 c5 c6 f0 f1 f2 f3 f4 f5 f6
    exact bodyPost_ret (v := .agg (mxA 2 r y)) (by simp [results, Tryz.results19, go_sem, r0, r1, r2, r3, r4, r5, r6]) rfl HF.out
/-- the cells that simple reads of an atom -/
def My7 (g : Nat) (r : Int) (x : PE) (w : World) : Prop := Mx7 g r x w ∧ w.cell? ⟨g, 6, none⟩ = some (.slice none 0 0)
theorem My7.ext {g : Nat} {r : Int} {x : PE} {w w' : World} (h : My7 g r x w) (he : Ext w w') : My7 g r x w' := by
  have hb := World.block_lt_of_cell? _ _ h.2
  exact ⟨h.1.ext he, by rw [he.cell hb]; exact h.2⟩
set_option maxRecDepth 100000 in
set_option maxHeartbeats 4000000 in
theorem rf_simple2 (M : Nat → Prop) (r : Int) (x : PE) (l : List Tm) (B : Nat) (w : World) (hM : Mb M w) (h : CRx M w 4 x (snorm l)) (hr1 : 1 ≤ r) (hr6 : r ≤ 6) (hL : dlen (nrm l) + 1 ≤ 1099511627776) (hB : Deg B (snorm l)) (hB4 : (B + 1) ^ 4 ≤ 1099511627776) (hc : ∃ m k, coefAt (snorm l) m ≠ 0 ∧ 1 ≤ k ∧ k ≤ 4 ∧ 0 < m.get k) :
    Calls Tryz.prog 94 #[.agg (mxA 2 r x)] w fun e w' => e = .returned (.bool true) ∧ Ext w w' := by
  have hE := (Ext.refl w).alloc (.cells (mxA 2 r x) 37)
  have hX := Blk.of_arr w (mxA 2 r x) 37 7 rfl
  have hM2 : Mb (Mx M w.heap.size (w.heap.size + 1)) (w.alloc (.cells (mxA 2 r x) 37)) := Mx.mb hM (by simp) (by simp)
  have h2 := (h.more (M' := Mx M w.heap.size (w.heap.size + 1)) (Mx.more (Nat.le_refl _))).ext hE
  have c0 := hX.cell (i := 0) (by omega)
  rw [show arr (mxA 2 r x) 0 = .int .i64 2 from rfl] at c0
  have HX : Hid (My7 w.heap.size r x _) := ⟨⟨hX.cell (i := 1) (by omega), hX.cell (i := 2) (by omega), hX.cell (i := 3) (by omega), hX.cell (i := 4) (by omega), hX.cell (i := 5) (by omega)⟩, hX.cell (i := 6) (by omega)⟩
  have CT := Lib.hid (rp_Constant _ x (snorm l) _ hM2 h2.pi)
  generalize hW0 : w.alloc (.cells (mxA 2 r x) 37) = W0 at *
  have HW0 := Lib.hid hW0
  have HE := Lib.hid hE
  have HM := Lib.hid hM2
  have H2 := Lib.hid h2
  have HL := Lib.hid hL
  have HDB := Lib.hid hB
  have HB4 := Lib.hid hB4
  have HC := Lib.hid hc
  clear hE hX hM2 h2 hW0 hM h hL hB hB4 hc
  go_enter Tryz.func94, Tryz.ntmps94
  go_upto_region 1 with (fail)
  rw [HW0.out]
  obtain ⟨⟨x1, x2, x3, x4, x5⟩, x6⟩ := HX.out
  go_wp2_with (fail)
  refine CT.out.mono ?_
  rintro e w1 ⟨z, ok, b, a, n, p, rfl, hz, hs1, hs2, he1⟩
  obtain rfl : ok = false := by
    cases ok with
    | false => rfl
    | true =>
      exfalso
      obtain ⟨m, k, hm, hk1, hk4, hk⟩ := HC.out
      have h5 := hs1 rfl m
      by_cases e : Mo.zero = m
      · subst e; rw [get_zero] at hk; omega
      · simp [coefAt, e] at h5; exact hm h5
  clear CT hs1 hs2 hz x1 x2 x3 x4 x5 x6 c0 HW0
  go_upto_region 4 with (fail)
  have hE1 := he1.trans ((Ext.refl w1).alloc (.cells #[.bool b, .slice a n p] 25)).drew
  obtain ⟨W2, hW2⟩ : ∃ W2, W2 = w1.alloc (.cells #[.bool b, .slice a n p] 25) := ⟨_, rfl⟩
  rw [← hW2] at hE1
  rw [← hW2]
  have HX2 := Lib.hid (HX.out.ext hE1)
  have HM2 := Lib.hid (HM.out.ext hE1)
  have H22 := Lib.hid (H2.out.ext hE1)
  have HE2 := Lib.hid (HE.out.trans hE1)
  clear he1 hE1 hW2 HX HM H2 HE
  refine wp_region_u (My7 w.heap.size r x) 26 (by kernel_rfl) HX2.out (fun hHeld => ?_)
  generalize W2.drew = WD at *
  obtain ⟨t, hR, hT, hS, hn⟩ := H22.out.tb1 (Nat.le_refl _) (by have := dlen_mono (snorm_nrm l); have := HL.out; omega) HDB.out HB4.out
  have CT2 := Lib.hid (mv_snorm _ _ t x WD HM2.out hR hT (by have := dlen_mono hn; have := dlen_mono (snorm_nrm l); have := HL.out; omega))
  rw [hS.snorm, snorm_idem] at CT2
  clear hR hT hS hn
  ((refine wpAnyU_takeT 0 (oi := ?_) (v := ?_) (by kernel_rfl) (by kernel_rfl) (by kernel_rfl) (by kernel_rfl) (by kernel_rfl) (by first | exact hSn | exact hHeld) ?_ ?_ ?_ ?_ ?_; rotate_left 2; (simp only [List.getElem?_toArray, List.getElem?_cons_succ, List.getElem?_cons_zero]; rfl); rfl; (intro wS hSw; obtain ⟨⟨S1, S2, S3, S4, S5⟩, S6⟩ := hSw; go_simp; try with_reducible rfl); (exact fun _ _ _ h => h); (try simp only [Act.put, List.setIfInBounds_toArray, List.set_cons_zero, List.set_cons_succ])); (refine wpAnyU_takeT 1 (oi := ?_) (v := ?_) (by kernel_rfl) (by kernel_rfl) (by kernel_rfl) (by kernel_rfl) (by kernel_rfl) (by first | exact hSn | exact hHeld) ?_ ?_ ?_ ?_ ?_; rotate_left 2; (simp only [List.getElem?_toArray, List.getElem?_cons_succ, List.getElem?_cons_zero]; rfl); rfl; (intro wS hSw; obtain ⟨⟨S1, S2, S3, S4, S5⟩, S6⟩ := hSw; go_simp; try with_reducible rfl); (exact fun _ _ _ h => h); (try simp only [Act.put, List.setIfInBounds_toArray, List.set_cons_zero, List.set_cons_succ])); (refine wpAnyU_takeT 2 (oi := ?_) (v := ?_) (by kernel_rfl) (by kernel_rfl) (by kernel_rfl) (by kernel_rfl) (by kernel_rfl) (by first | exact hSn | exact hHeld) ?_ ?_ ?_ ?_ ?_; rotate_left 2; (simp only [List.getElem?_toArray, List.getElem?_cons_succ, List.getElem?_cons_zero]; rfl); rfl; (intro wS hSw; obtain ⟨⟨S1, S2, S3, S4, S5⟩, S6⟩ := hSw; go_simp; try with_reducible rfl); (exact fun _ _ _ h => h); (try simp only [Act.put, List.setIfInBounds_toArray, List.set_cons_zero, List.set_cons_succ])); (refine wpAnyU_takeT 3 (oi := ?_) (v := ?_) (by kernel_rfl) (by kernel_rfl) (by kernel_rfl) (by kernel_rfl) (by kernel_rfl) (by first | exact hSn | exact hHeld) ?_ ?_ ?_ ?_ ?_; rotate_left 2; (simp only [List.getElem?_toArray, List.getElem?_cons_succ, List.getElem?_cons_zero]; rfl); rfl; (intro wS hSw; obtain ⟨⟨S1, S2, S3, S4, S5⟩, S6⟩ := hSw; go_simp; try with_reducible rfl); (exact fun _ _ _ h => h); (try simp only [Act.put, List.setIfInBounds_toArray, List.set_cons_zero, List.set_cons_succ])); (refine wpAnyU_takeT 4 (oi := ?_) (v := ?_) (by kernel_rfl) (by kernel_rfl) (by kernel_rfl) (by kernel_rfl) (by kernel_rfl) (by first | exact hSn | exact hHeld) ?_ ?_ ?_ ?_ ?_; rotate_left 2; (simp only [List.getElem?_toArray, List.getElem?_cons_succ, List.getElem?_cons_zero]; rfl); rfl; (intro wS hSw; obtain ⟨⟨S1, S2, S3, S4, S5⟩, S6⟩ := hSw; go_simp; try with_reducible rfl); (exact fun _ _ _ h => h); (try simp only [Act.put, List.setIfInBounds_toArray, List.set_cons_zero, List.set_cons_succ])); (refine wpAnyU_takeT 5 (oi := ?_) (v := ?_) (by kernel_rfl) (by kernel_rfl) (by kernel_rfl) (by kernel_rfl) (by kernel_rfl) (by first | exact hSn | exact hHeld) ?_ ?_ ?_ ?_ ?_; rotate_left 2; (simp only [List.getElem?_toArray, List.getElem?_cons_succ, List.getElem?_cons_zero]; rfl); rfl; (intro wS hSw; obtain ⟨⟨S1, S2, S3, S4, S5⟩, S6⟩ := hSw; go_simp; try with_reducible rfl); (exact fun _ _ _ h => h); (try simp only [Act.put, List.setIfInBounds_toArray, List.set_cons_zero, List.set_cons_succ])); (refine wpAnyU_takeT 6 (oi := ?_) (v := ?_) (by kernel_rfl) (by kernel_rfl) (by kernel_rfl) (by kernel_rfl) (by kernel_rfl) (by first | exact hSn | exact hHeld) ?_ ?_ ?_ ?_ ?_; rotate_left 2; (simp only [List.getElem?_toArray, List.getElem?_cons_succ, List.getElem?_cons_zero]; rfl); rfl; (intro wS hSw; obtain ⟨⟨S1, S2, S3, S4, S5⟩, S6⟩ := hSw; go_simp; try with_reducible rfl); (exact fun _ _ _ h => h); (try simp only [Act.put, List.setIfInBounds_toArray, List.set_cons_zero, List.set_cons_succ])))
  ((refine wpAnyU_one 7 (o := ?_) (by kernel_rfl) ?_ ?_; rotate_left 1; (simp only [List.getElem?_toArray, List.getElem?_cons_succ, List.getElem?_cons_zero]; rfl); intro K hK); go_simp; (refine (CT2.out).mono ?_); rintro e_ wz ⟨v, rfl, hv, he1⟩; go_wp2_with (fail); (try clear hSn); (have hSn := hHeld.ext he1); (refine hK.out _ _ (fun _ => hSn) ?_); clear hK K; (try simp only [Act.put, List.setIfInBounds_toArray, List.set_cons_zero, List.set_cons_succ]))
  ((refine wpAnyU_one 8 (o := ?_) (by kernel_rfl) ?_ ?_; rotate_left 1; (simp only [List.getElem?_toArray, List.getElem?_cons_succ, List.getElem?_cons_zero]; rfl); intro K hK); go_simp; (refine (rf_samePoly 4 _ _ x v _ (H22.out.ext he1) hv).mono ?_); rintro e_ wz ⟨rfl, he2⟩; go_wp2_with (fail); (try clear hSn); (have hSn := hHeld.ext (he1.trans he2)); (refine hK.out _ _ (fun _ => hSn) ?_); clear hK K; (try simp only [Act.put, List.setIfInBounds_toArray, List.set_cons_zero, List.set_cons_succ]))
  have hd1 : decide (1 ≤ r) = true := decide_eq_true hr1
  have hd6 : decide (r ≤ 6) = true := decide_eq_true hr6
  ((refine wpAnyU_takeT 9 (oi := ?_) (v := ?_) (by kernel_rfl) (by kernel_rfl) (by kernel_rfl) (by kernel_rfl) (by kernel_rfl) (by first | exact hSn | exact hHeld) ?_ ?_ ?_ ?_ ?_; rotate_left 2; (simp only [List.getElem?_toArray, List.getElem?_cons_succ, List.getElem?_cons_zero]; rfl); rfl; (intro wS hSw; obtain ⟨⟨S1, S2, S3, S4, S5⟩, S6⟩ := hSw; go_simp; try with_reducible rfl); (exact fun _ _ _ h => h); (try simp only [Act.put, List.setIfInBounds_toArray, List.set_cons_zero, List.set_cons_succ])); (refine wpAnyU_takeT 10 (oi := ?_) (v := ?_) (by kernel_rfl) (by kernel_rfl) (by kernel_rfl) (by kernel_rfl) (by kernel_rfl) (by first | exact hSn | exact hHeld) ?_ ?_ ?_ ?_ ?_; rotate_left 2; (simp only [List.getElem?_toArray, List.getElem?_cons_succ, List.getElem?_cons_zero]; rfl); rfl; (intro wS hSw; obtain ⟨⟨S1, S2, S3, S4, S5⟩, S6⟩ := hSw; go_simp; try with_reducible rfl); (exact fun _ _ _ h => h); (try simp only [Act.put, List.setIfInBounds_toArray, List.set_cons_zero, List.set_cons_succ])); (refine wpAnyU_takeT 11 (oi := ?_) (v := ?_) (by kernel_rfl) (by kernel_rfl) (by kernel_rfl) (by kernel_rfl) (by kernel_rfl) (by first | exact hSn | exact hHeld) ?_ ?_ ?_ ?_ ?_; rotate_left 2; (simp only [List.getElem?_toArray, List.getElem?_cons_succ, List.getElem?_cons_zero]; rfl); rfl; (intro wS hSw; obtain ⟨⟨S1, S2, S3, S4, S5⟩, S6⟩ := hSw; go_simp; try with_reducible rfl); (exact fun _ _ _ h => h); (try simp only [Act.put, List.setIfInBounds_toArray, List.set_cons_zero, List.set_cons_succ])); (refine wpAnyU_takeT 12 (oi := ?_) (v := ?_) (by kernel_rfl) (by kernel_rfl) (by kernel_rfl) (by kernel_rfl) (by kernel_rfl) (by first | exact hSn | exact hHeld) ?_ ?_ ?_ ?_ ?_; rotate_left 2; (simp only [List.getElem?_toArray, List.getElem?_cons_succ, List.getElem?_cons_zero]; rfl); rfl; (intro wS hSw; obtain ⟨⟨S1, S2, S3, S4, S5⟩, S6⟩ := hSw; go_simp; try with_reducible rfl); (exact fun _ _ _ h => h); (try simp only [Act.put, List.setIfInBounds_toArray, List.set_cons_zero, List.set_cons_succ])); (refine wpAnyU_takeT 13 (oi := ?_) (v := ?_) (by kernel_rfl) (by kernel_rfl) (by kernel_rfl) (by kernel_rfl) (by kernel_rfl) (by first | exact hSn | exact hHeld) ?_ ?_ ?_ ?_ ?_; rotate_left 2; (simp only [List.getElem?_toArray, List.getElem?_cons_succ, List.getElem?_cons_zero]; rfl); rfl; (intro wS hSw; obtain ⟨⟨S1, S2, S3, S4, S5⟩, S6⟩ := hSw; go_simp; try with_reducible rfl); (exact fun _ _ _ h => h); (try simp only [Act.put, List.setIfInBounds_toArray, List.set_cons_zero, List.set_cons_succ])); (refine wpAnyU_takeT 14 (oi := ?_) (v := ?_) (by kernel_rfl) (by kernel_rfl) (by kernel_rfl) (by kernel_rfl) (by kernel_rfl) (by first | exact hSn | exact hHeld) ?_ ?_ ?_ ?_ ?_; rotate_left 2; (simp only [List.getElem?_toArray, List.getElem?_cons_succ, List.getElem?_cons_zero]; rfl); rfl; (intro wS hSw; obtain ⟨⟨S1, S2, S3, S4, S5⟩, S6⟩ := hSw; go_simp; try with_reducible rfl); (exact fun _ _ _ h => h); (try simp only [Act.put, List.setIfInBounds_toArray, List.set_cons_zero, List.set_cons_succ])); (refine wpAnyU_takeT 15 (oi := ?_) (v := ?_) (by kernel_rfl) (by kernel_rfl) (by kernel_rfl) (by kernel_rfl) (by kernel_rfl) (by first | exact hSn | exact hHeld) ?_ ?_ ?_ ?_ ?_; rotate_left 2; (simp only [List.getElem?_toArray, List.getElem?_cons_succ, List.getElem?_cons_zero]; rfl); rfl; (intro wS hSw; obtain ⟨⟨S1, S2, S3, S4, S5⟩, S6⟩ := hSw; go_simp; try with_reducible rfl); (exact fun _ _ _ h => h); (try simp only [Act.put, List.setIfInBounds_toArray, List.set_cons_zero, List.set_cons_succ])); (refine wpAnyU_takeT 16 (oi := ?_) (v := ?_) (by kernel_rfl) (by kernel_rfl) (by kernel_rfl) (by kernel_rfl) (by kernel_rfl) (by first | exact hSn | exact hHeld) ?_ ?_ ?_ ?_ ?_; rotate_left 2; (simp only [List.getElem?_toArray, List.getElem?_cons_succ, List.getElem?_cons_zero]; rfl); rfl; (intro wS hSw; obtain ⟨⟨S1, S2, S3, S4, S5⟩, S6⟩ := hSw; go_simp; try with_reducible rfl); (exact fun _ _ _ h => h); (try simp only [Act.put, List.setIfInBounds_toArray, List.set_cons_zero, List.set_cons_succ])); (refine wpAnyU_takeT 17 (oi := ?_) (v := ?_) (by kernel_rfl) (by kernel_rfl) (by kernel_rfl) (by kernel_rfl) (by kernel_rfl) (by first | exact hSn | exact hHeld) ?_ ?_ ?_ ?_ ?_; rotate_left 2; (simp only [List.getElem?_toArray, List.getElem?_cons_succ, List.getElem?_cons_zero]; rfl); rfl; (intro wS hSw; obtain ⟨⟨S1, S2, S3, S4, S5⟩, S6⟩ := hSw; go_simp; try with_reducible rfl); (exact fun _ _ _ h => h); (try simp only [Act.put, List.setIfInBounds_toArray, List.set_cons_zero, List.set_cons_succ])); (refine wpAnyU_takeT 18 (oi := ?_) (v := ?_) (by kernel_rfl) (by kernel_rfl) (by kernel_rfl) (by kernel_rfl) (by kernel_rfl) (by first | exact hSn | exact hHeld) ?_ ?_ ?_ ?_ ?_; rotate_left 2; (simp only [List.getElem?_toArray, List.getElem?_cons_succ, List.getElem?_cons_zero]; rfl); rfl; (intro wS hSw; obtain ⟨⟨S1, S2, S3, S4, S5⟩, S6⟩ := hSw; go_simp; try with_reducible rfl); (exact fun _ _ _ h => h); (try simp only [Act.put, List.setIfInBounds_toArray, List.set_cons_zero, List.set_cons_succ])); (refine wpAnyU_takeT 19 (oi := ?_) (v := ?_) (by kernel_rfl) (by kernel_rfl) (by kernel_rfl) (by kernel_rfl) (by kernel_rfl) (by first | exact hSn | exact hHeld) ?_ ?_ ?_ ?_ ?_; rotate_left 2; (simp only [List.getElem?_toArray, List.getElem?_cons_succ, List.getElem?_cons_zero]; rfl); rfl; (intro wS hSw; obtain ⟨⟨S1, S2, S3, S4, S5⟩, S6⟩ := hSw; go_simp; try with_reducible rfl); (exact fun _ _ _ h => h); (try simp only [Act.put, List.setIfInBounds_toArray, List.set_cons_zero, List.set_cons_succ])); (refine wpAnyU_takeT 20 (oi := ?_) (v := ?_) (by kernel_rfl) (by kernel_rfl) (by kernel_rfl) (by kernel_rfl) (by kernel_rfl) (by first | exact hSn | exact hHeld) ?_ ?_ ?_ ?_ ?_; rotate_left 2; (simp only [List.getElem?_toArray, List.getElem?_cons_succ, List.getElem?_cons_zero]; rfl); rfl; (intro wS hSw; obtain ⟨⟨S1, S2, S3, S4, S5⟩, S6⟩ := hSw; go_simp; try with_reducible rfl); (exact fun _ _ _ h => h); (try simp only [Act.put, List.setIfInBounds_toArray, List.set_cons_zero, List.set_cons_succ])); (refine wpAnyU_takeT 21 (oi := ?_) (v := ?_) (by kernel_rfl) (by kernel_rfl) (by kernel_rfl) (by kernel_rfl) (by kernel_rfl) (by first | exact hSn | exact hHeld) ?_ ?_ ?_ ?_ ?_; rotate_left 2; (simp only [List.getElem?_toArray, List.getElem?_cons_succ, List.getElem?_cons_zero]; rfl); rfl; (intro wS hSw; obtain ⟨⟨S1, S2, S3, S4, S5⟩, S6⟩ := hSw; go_simp; try with_reducible rfl); (exact fun _ _ _ h => h); (try simp only [Act.put, List.setIfInBounds_toArray, List.set_cons_zero, List.set_cons_succ])); (refine wpAnyU_takeT 22 (oi := ?_) (v := ?_) (by kernel_rfl) (by kernel_rfl) (by kernel_rfl) (by kernel_rfl) (by kernel_rfl) (by first | exact hSn | exact hHeld) ?_ ?_ ?_ ?_ ?_; rotate_left 2; (simp only [List.getElem?_toArray, List.getElem?_cons_succ, List.getElem?_cons_zero]; rfl); rfl; (intro wS hSw; obtain ⟨⟨S1, S2, S3, S4, S5⟩, S6⟩ := hSw; go_simp; try with_reducible rfl); (exact fun _ _ _ h => h); (try simp only [Act.put, List.setIfInBounds_toArray, List.set_cons_zero, List.set_cons_succ])); (refine wpAnyU_takeT 23 (oi := ?_) (v := ?_) (by kernel_rfl) (by kernel_rfl) (by kernel_rfl) (by kernel_rfl) (by kernel_rfl) (by first | exact hSn | exact hHeld) ?_ ?_ ?_ ?_ ?_; rotate_left 2; (simp only [List.getElem?_toArray, List.getElem?_cons_succ, List.getElem?_cons_zero]; rfl); rfl; (intro wS hSw; obtain ⟨⟨S1, S2, S3, S4, S5⟩, S6⟩ := hSw; go_simp; try with_reducible rfl); (exact fun _ _ _ h => h); (try simp only [Act.put, List.setIfInBounds_toArray, List.set_cons_zero, List.set_cons_succ])); (refine wpAnyU_takeT 24 (oi := ?_) (v := ?_) (by kernel_rfl) (by kernel_rfl) (by kernel_rfl) (by kernel_rfl) (by kernel_rfl) (by first | exact hSn | exact hHeld) ?_ ?_ ?_ ?_ ?_; rotate_left 2; (simp only [List.getElem?_toArray, List.getElem?_cons_succ, List.getElem?_cons_zero]; rfl); rfl; (intro wS hSw; obtain ⟨⟨S1, S2, S3, S4, S5⟩, S6⟩ := hSw; go_simp; try with_reducible rfl); (exact fun _ _ _ h => h); (try simp only [Act.put, List.setIfInBounds_toArray, List.set_cons_zero, List.set_cons_succ])); (refine wpAnyU_takeT 25 (oi := ?_) (v := ?_) (by kernel_rfl) (by kernel_rfl) (by kernel_rfl) (by kernel_rfl) (by kernel_rfl) (by first | exact hSn | exact hHeld) ?_ ?_ ?_ ?_ ?_; rotate_left 2; (simp only [List.getElem?_toArray, List.getElem?_cons_succ, List.getElem?_cons_zero]; rfl); rfl; (intro wS hSw; obtain ⟨⟨S1, S2, S3, S4, S5⟩, S6⟩ := hSw; go_simp; try with_reducible rfl); (exact fun _ _ _ h => h); (try simp only [Act.put, List.setIfInBounds_toArray, List.set_cons_zero, List.set_cons_succ])))
  have HF := Lib.hid (HE2.out.trans (he1.trans he2))
  clear hHeld hSn he1 he2 hv
  ((refine wpAnyU_one 26 (o := ?_) (by kernel_rfl) ?_ ?_; rotate_left 1; (simp only [List.getElem?_toArray, List.getElem?_cons_succ, List.getElem?_cons_zero]; rfl); intro K hK); go_simp; (refine hK.out _ _ (fun h => absurd rfl h) ?_); clear hK K; refine wpAnyU_done (by kernel_rfl) ?_ _)
  go_wp2
  exact bodyPost_ret (v := .bool true) (by simp [results, Tryz.results94, go_sem]) rfl ⟨rfl, HF.out⟩
set_option maxRecDepth 100000 in
theorem rf_isSimple2 (M : Nat → Prop) (r : Int) (x : PE) (l : List Tm) (B : Nat) (w : World) (hM : Mb M w) (h : CRx M w 4 x (snorm l)) (hr1 : 1 ≤ r) (hr6 : r ≤ 6) (hL : dlen (nrm l) + 1 ≤ 1099511627776) (hB : Deg B (snorm l)) (hB4 : (B + 1) ^ 4 ≤ 1099511627776) (hc : ∃ m k, coefAt (snorm l) m ≠ 0 ∧ 1 ≤ k ∧ k ≤ 4 ∧ 0 < m.get k) :
    Calls Tryz.prog 22 #[.agg (mxA 2 r x)] w fun e w' => e = .returned (.bool true) ∧ Ext w w' := by
  have hE := (Ext.refl w).alloc (.cells (mxA 2 r x) 37)
  have hX := Blk.of_arr w (mxA 2 r x) 37 7 rfl
  have hM2 : Mb (Mx M w.heap.size (w.heap.size + 1)) (w.alloc (.cells (mxA 2 r x) 37)) := Mx.mb hM (by simp) (by simp)
  have h2 := (h.more (M' := Mx M w.heap.size (w.heap.size + 1)) (Mx.more (Nat.le_refl _))).ext hE
  have CT := Lib.hid (rf_simple2 _ r x l B _ hM2 h2 hr1 hr6 hL hB hB4 hc)
  obtain ⟨c0, c1, c2, c3, c4, c5, c6⟩ : _ ∧ _ ∧ _ ∧ _ ∧ _ ∧ _ ∧ _ := ⟨hX.cell (i := 0) (by omega), hX.cell (i := 1) (by omega), hX.cell (i := 2) (by omega), hX.cell (i := 3) (by omega), hX.cell (i := 4) (by omega), hX.cell (i := 5) (by omega), hX.cell (i := 6) (by omega)⟩
  simp only [arr] at c0 c1 c2 c3 c4 c5 c6
  generalize hW0 : w.alloc (.cells (mxA 2 r x) 37) = W0 at *
  have HW0 := Lib.hid hW0
  have HE := Lib.hid hE
  clear hE hX hM2 h2 hW0 hM h hL hB hB4 hc
  go_enter Tryz.func22, Tryz.ntmps22
  go_upto_region 1 with (fail)
  rw [HW0.out]
  go_wp2_with (fail)
  refine CT.out.mono ?_
  rintro e w1 ⟨rfl, he1⟩
  go_wp2
  exact bodyPost_ret (v := .bool true) (by simp [results, Tryz.results22, go_sem]) rfl ⟨rfl, HE.out.trans he1⟩
set_option maxRecDepth 100000 in
theorem rf_isSimple01 (b : Bool) (w : World) : Calls Tryz.prog 22 #[.agg (mtA b)] w fun e w' => e = .returned (.bool true) ∧ Ext w w' := by
  have CTR := Lib.hid (fun W => rf_samePoly 0 M0 [] PE.z PE.z W (CR.zero M0 W 0) (CR.zero M0 W 0))
  cases b
  · have hE := (Ext.refl w).alloc (.cells (mtA false) 37)
    have HE := Lib.hid hE
    rw [show mtA false = #[.int .i64 0, .int .i64 0, .int .i64 0, .bool false, .slice none 0 0, .slice none 0 0, .slice none 0 0] from rfl] at *
    clear hE
    go_enter Tryz.func22, Tryz.ntmps22
    go_wp2_with (fail)
    refine (CTR.out _).mono ?_
    rintro e w1 ⟨rfl, he1⟩
    go_wp2
    exact bodyPost_ret (v := .bool true) (by simp [results, Tryz.results22, go_sem]) rfl ⟨rfl, HE.out.trans he1⟩
  · have hE := (Ext.refl w).alloc (.cells (mtA true) 37)
    have HE := Lib.hid hE
    rw [show mtA true = #[.int .i64 1, .int .i64 0, .int .i64 0, .bool false, .slice none 0 0, .slice none 0 0, .slice none 0 0] from rfl] at *
    clear hE
    go_enter Tryz.func22, Tryz.ntmps22
    go_wp2_with (fail)
    refine (CTR.out _).mono ?_
    rintro e w1 ⟨rfl, he1⟩
    go_wp2
    exact bodyPost_ret (v := .bool true) (by simp [results, Tryz.results22, go_sem]) rfl ⟨rfl, HE.out.trans he1⟩
end Go.Proofs.YtiopnmlohpmmiaaGreat

namespace Go.Proofs.YtiopnmlohpmmiaaGreat
open Go.RowKit

section
variable {P : Program} {ops : Array Oper} {Q : Exit → Act → World → Prop} {md : Region.Mode} {S : World → Prop} {last : Nat}
/-- skip number i first -/
theorem wpAnyU_skip (i : Nat) {oi : Oper} {fuel : Nat} {listed : Array Bool} {a : Act} {w : World} 
    (hs : Region.noSelect ops = true) (hf : Region.free md ops listed i = true) (hr : (Region.ready md ops listed).contains i = true) (hl : waits md ops last i = true) (hS : S w)
    (hi : ops[i]? = some oi) (hwd : Region.wanted oi (yielded ops a.tmps) = false) (hQ : ∀ c a w, Q (.panic c) (a.put oi.dst undef) w → Q (.panic c) a w)
    (h : wpAnyU P md ops Q S last fuel (listed.setIfInBounds i true) (a.put oi.dst undef) w) : wpAnyU P md ops Q S last (fuel + 1) listed a w :=
  wpAnyU_first hi (Region.noSelect_spec hs) hQ hl fuel listed a w (Region.free_spec hi hf) (by simpa using hr) (.inr ⟨hwd, rfl⟩) hS h
end
/-- the cells of a row of integers -/
def jx (x : Nat → I4) : Nat → Value := fun j => if j % 2 = 0 then .bool (x (j / 2)).b else .slice (x (j / 2)).a (x (j / 2)).n (x (j / 2)).p
theorem jx0 (x : Nat → I4) (i : Nat) : jx x (i * 2) = .bool (x i).b := by unfold jx; rw [if_pos (by omega), show i * 2 / 2 = i by omega]
theorem jx1 (x : Nat → I4) (i : Nat) : jx x (i * 2 + 1) = .slice (x i).a (x i).n (x i).p := by unfold jx; rw [if_neg (by omega), show (i * 2 + 1) / 2 = i by omega]
theorem jx_app (x : Nat → I4) (n : Nat) (t : I4) (j : Nat) (hj : j < (n + 1) * 2) : app (jx x) (n * 2) (arr (iA t)) j = jx (snoc x n t) j := by
  unfold app
  by_cases h : j < n * 2
  · rw [if_pos h]; unfold jx; rw [snoc_lt _ _ _ _ (by omega)]
  · rw [if_neg h]
    obtain ⟨r, rfl, hr⟩ : ∃ r, j = n * 2 + r ∧ r < 2 := ⟨j - n * 2, by omega, by omega⟩
    rw [Nat.add_sub_cancel_left]
    match r, hr with
    | 0, _ => rw [Nat.add_zero, jx0, snoc_at]; rfl
    | 1, _ => rw [jx1, snoc_at]; rfl
theorem one_i4 (x : I4) (j : Nat) (hj : j < 2) : (arr (iA x) j).oneCell' = true := by
  match j, hj with
  | 0, _ => rfl
  | 1, _ => rfl
set_option maxRecDepth 100000 in
set_option maxHeartbeats 4000000 in
theorem rf_integers (M : Nat → Prop) (y : Nat → Int) (w : World) (hM : Mb M w) (hy : ∀ i, i < 4 → (-32768 ≤ y i ∧ y i ≤ 32767)) :
    Calls Tryz.prog 18 #[.agg #[.int .i16 (y 0), .int .i16 (y 1), .int .i16 (y 2), .int .i16 (y 3)]] w fun e w' => ∃ a cap X, e = .returned (.slice a 4 cap) ∧ IRow M w' a cap X y ∧ Ext w w' := by
  obtain ⟨i0, hi, hz0, hz1, hz2⟩ := info_parts Tryz.info25
  have hE := (Ext.refl w).alloc (.cells #[.int .i16 (y 0), .int .i16 (y 1), .int .i16 (y 2), .int .i16 (y 3)] 31)
  have hB := Blk.of_arr w #[.int .i16 (y 0), .int .i16 (y 1), .int .i16 (y 2), .int .i16 (y 3)] 31 4 rfl
  have hM2 : Mb M (w.alloc (.cells #[.int .i16 (y 0), .int .i16 (y 1), .int .i16 (y 2), .int .i16 (y 3)] 31)) := hM.ext hE
  generalize hW : w.alloc (.cells #[.int .i16 (y 0), .int .i16 (y 1), .int .i16 (y 2), .int .i16 (y 3)] 31) = W at *
  have HW := Lib.hid hW
  have HE := Lib.hid hE
  have HB := Lib.hid hB
  have HM := Lib.hid hM2
  have HY := Lib.hid hy
  clear hW hE hB hM2 hy
  go_enter Tryz.func18, Tryz.ntmps18
  go_upto_region 1 with (fail)
  rw [HW.out]
  go_wp2
  go_loopw [5, 3] (fun i v wr => ∃ (k : Nat) (X : Nat → I4), k ≤ 4 ∧ i = .int .i64 k ∧ Own wr W.heap.size 25 2 v k (jx X) ∧ Hid (∀ j, j < k → IntV (MR M v) wr (.bool (X j).b) (.slice (X j).a (X j).n (X j).p) (y j)) ∧ Hid (Ext W wr)) (fun i _ _ => 4 - (intOf i).toNat)
  case atStart => exact ⟨0, fun _ => ⟨false, none, 0, 0⟩, by omega, rfl, Own.nil _ _ _ _ _, fun j hj => absurd hj (Nat.not_lt_zero _), Ext.refl _⟩
  case round =>
    obtain ⟨k, X, hk, rfl, hO, HX, HER⟩ := hrel
    obtain ⟨va, vc, rfl⟩ := hO.form
    have hsz := HER.out.size
    by_cases hlt : k < 4
    · have c0 : wr.cell? ⟨w.heap.size, k, none⟩ = some (.int .i16 (y k)) := by
        rw [(HB.out.ext HER.out).cell hlt]
        rcases (show k = 0 ∨ k = 1 ∨ k = 2 ∨ k = 3 by omega) with rfl | rfl | rfl | rfl <;> rfl
      obtain ⟨hy1, hy2⟩ := HY.out k hlt
      have kw : IntKind.i64.wrap (y k) = y k := IntWalk.i64_in _ (by omega)
      have hkI : (k : Int) < 4 := by omega
      have hMR : Mb (MR M (.slice va k vc)) wr := fun g hg => hg.elim (fun h => (HM.out.ext HER.out) g h) (fun h => (hO.lt g h).2)
      have CTR := Lib.hid (int_of (y k) wr hMR (by omega) (by omega))
      go_wp2_with (fail)
      refine CTR.out.mono ?_
      rintro e w1 ⟨d0, d1, rfl, hc, he1⟩
      obtain ⟨b5, a5, n5, p5, rfl, rfl⟩ := hc.form
      have hs1 := he1.size
      have hO5 := (hO.ext he1).ext ((Ext.refl _).alloc (.cells #[.bool b5, .slice a5 n5 p5] 25))
      have hB5 := Blk.of_arr w1 #[.bool b5, .slice a5 n5 p5] 25 2 rfl
      have HONE := Lib.hid (one_i4 ⟨b5, a5, n5, p5⟩)
      have HE1 := Lib.hid (he1.trans ((Ext.refl _).alloc (.cells #[.bool b5, .slice a5 n5 p5] 25)))
      have HC := Lib.hid (hc.toV.ext ((Ext.refl _).alloc (.cells #[.bool b5, .slice a5 n5 p5] 25)))
      clear he1 CTR c0 hc
      go_wp2_with (at_builtin; refine wpList_append_fn _ rfl (.tmp 8) (.tmp 14) _ rfl W.heap.size 25 i0 _ 2 32 Tryz.underlying39 hi hz0 hz1 hz2 rfl (by omega) (.slice va k vc) k (jx X) rfl hO5 w1.heap.size 25 1 (arr #[.bool b5, .slice a5 n5 p5]) rfl hB5 HONE.out ?s1 ?s2 ?s3 ?_)
      case s1 => unfold maxLen; omega
      case s2 => omega
      case s3 => simp; omega
      intro gg cap2 w2 hO6 hg6 hat hlt6
      have HF : Hid (Ext W w2) := (HER.out.trans HE1.out).grown hg6 (fun g hg => (hO.lt g hg).1)
      have hO7 := hO6.congr fun j hj => jx_app X k ⟨b5, a5, n5, p5⟩ j hj
      have HX2 : Hid (∀ j, j < k + 1 → IntV (MR M (.slice (some ⟨gg, 0, none⟩) (k + 1) cap2)) w2 (.bool (snoc X k ⟨b5, a5, n5, p5⟩ j).b) (.slice (snoc X k ⟨b5, a5, n5, p5⟩ j).a (snoc X k ⟨b5, a5, n5, p5⟩ j).n (snoc X k ⟨b5, a5, n5, p5⟩ j).p) (y j)) := by
        have hgM : ∀ {c0 c1 : Value} {z : Int}, IntV (MR M (.slice va k vc)) (w1.alloc (.cells #[.bool b5, .slice a5 n5 p5] 25)) c0 c1 z → IntV (MR M (.slice (some ⟨gg, 0, none⟩) (k + 1) cap2)) w2 c0 c1 z := by
          intro c0 c1 z h
          refine ((h.more (M' := fun g => MR M (.slice va k vc) g ∨ g = gg) fun g hg => ?_).kp (Kp.grown hg6 fun g hg => .inl (.inr hg))).more fun g hg => .inl ?_
          · rcases hg with hg | rfl
            · exact .inl hg
            · exact hat.imp (fun h => .inr h) (fun h => by simp only [World.size_alloc]; omega)
          · rcases hg with hg | hg
            · exact .inl (.inl hg)
            · simp only [Value.ownBlock, Option.some.injEq] at hg
              exact .inr hg.symm
        intro j hj
        by_cases h : j = k
        · subst h; rw [snoc_at]; exact hgM HC.out
        · rw [snoc_lt _ _ _ _ (by omega)]; exact hgM ((HX.out j (by omega)).ext HE1.out)
      clear hO6 hg6 hat hO5 hB5 hO HX
      go_wp2
      go_roundw
      case rel => exact ⟨k + 1, snoc X k ⟨b5, a5, n5, p5⟩, by omega, by go_num, hO7, HX2, HF⟩
      case measure => simp [intOf]; omega
    · obtain rfl : k = 4 := by omega
      have HI : Hid (IRow M wr va vc X y) := by
        rcases hO with ⟨h, h0⟩ | ⟨g, cap', F, h1, hg, hB', hcc, hcm, hF⟩
        · omega
        · simp only [Value.slice.injEq, true_and] at h1
          obtain ⟨rfl, rfl⟩ := h1
          refine ⟨hcm, hcc, g, 0, rfl, hB'.lt, fun i hi => ⟨⟨?_, ?_⟩, (HX.out i hi).more fun g hg => .inl (.inl hg)⟩⟩
          · rw [Nat.zero_add, hB'.cell (by omega), hF _ (by omega), jx0]
          · rw [Nat.zero_add, hB'.cell (by omega), hF _ (by omega), jx1]
      clear hO
      go_wp2
      go_ret
      exact ⟨va, vc, X, rfl, HI.out, HE.out.trans HER.out⟩
end Go.Proofs.YtiopnmlohpmmiaaGreat

namespace Go.Proofs.YtiopnmlohpmmiaaGreat
open Go.RowKit

/-- the seven cells of a matrix -/
def C7 (g : Nat) (v0 v1 v2 v3 v4 v5 v6 : Value) (w : World) : Prop := w.cell? ⟨g, 0, none⟩ = some v0 ∧ w.cell? ⟨g, 1, none⟩ = some v1 ∧ w.cell? ⟨g, 2, none⟩ = some v2 ∧ w.cell? ⟨g, 3, none⟩ = some v3 ∧ w.cell? ⟨g, 4, none⟩ = some v4 ∧ w.cell? ⟨g, 5, none⟩ = some v5 ∧ w.cell? ⟨g, 6, none⟩ = some v6
theorem C7.ext {g : Nat} {v0 v1 v2 v3 v4 v5 v6 : Value} {w w' : World} (h : C7 g v0 v1 v2 v3 v4 v5 v6 w) (he : Ext w w') : C7 g v0 v1 v2 v3 v4 v5 v6 w' := by
  have hb := World.block_lt_of_cell? _ _ h.1
  unfold C7
  rw [he.cell hb, he.cell hb, he.cell hb, he.cell hb, he.cell hb, he.cell hb, he.cell hb]; exact h
theorem new_c7 (w : World) (v0 v1 v2 v3 v4 v5 v6 : Value) (t : TypeId) : C7 w.heap.size v0 v1 v2 v3 v4 v5 v6 (w.alloc (.cells #[v0, v1, v2, v3, v4, v5, v6] t)) := by
  have h := Blk.of_arr w #[v0, v1, v2, v3, v4, v5, v6] t 7 rfl
  exact ⟨h.cell (i := 0) (by omega), h.cell (i := 1) (by omega), h.cell (i := 2) (by omega), h.cell (i := 3) (by omega), h.cell (i := 4) (by omega), h.cell (i := 5) (by omega), h.cell (i := 6) (by omega)⟩
/-- four small numbers -/
def CQ (g : Nat) (y : Nat → Int) (w : World) : Prop := w.cell? ⟨g, 0, none⟩ = some (.int .i16 (y 0)) ∧ w.cell? ⟨g, 1, none⟩ = some (.int .i16 (y 1)) ∧ w.cell? ⟨g, 2, none⟩ = some (.int .i16 (y 2)) ∧ w.cell? ⟨g, 3, none⟩ = some (.int .i16 (y 3))
theorem CQ.ext {g : Nat} {y : Nat → Int} {w w' : World} (h : CQ g y w) (he : Ext w w') : CQ g y w' := by
  have hb := World.block_lt_of_cell? _ _ h.1
  unfold CQ
  rw [he.cell hb, he.cell hb, he.cell hb, he.cell hb]; exact h
/-- both matrices -/
def SS2 (J G : Nat) (v0 v1 v2 v3 v4 v5 v6 : Value) (r : Int) (x : PE) (w : World) : Prop := C7 J v0 v1 v2 v3 v4 v5 v6 w ∧ C7 G (.int .i64 2) (.int .i64 r) (.int .i64 x.lv) (.bool x.b) (.slice x.a x.n x.p) (.slice x.ka x.kn x.kp) (.slice none 0 0) w
theorem SS2.ext {J G : Nat} {v0 v1 v2 v3 v4 v5 v6 : Value} {r : Int} {x : PE} {w w' : World} (h : SS2 J G v0 v1 v2 v3 v4 v5 v6 r x w) (he : Ext w w') : SS2 J G v0 v1 v2 v3 v4 v5 v6 r x w' := ⟨h.1.ext he, h.2.ext he⟩
def SS1 (J P : Nat) (r : Int) (y x : PE) (w : World) : Prop := C7 J (.int .i64 2) (.int .i64 r) (.int .i64 y.lv) (.bool y.b) (.slice y.a y.n y.p) (.slice y.ka y.kn y.kp) (.slice none 0 0) w ∧ P4 w P x
theorem SS1.ext {J P : Nat} {r : Int} {y x : PE} {w w' : World} (h : SS1 J P r y x w) (he : Ext w w') : SS1 J P r y x w' := ⟨h.1.ext he, h.2.ext he⟩
/-- both relations -/
def SR2 (J G : Nat) (r r' : Int) (w : World) : Prop := w.cell? ⟨J, 1, none⟩ = some (.int .i64 r) ∧ w.cell? ⟨G, 1, none⟩ = some (.int .i64 r')
theorem SR2.ext {J G : Nat} {r r' : Int} {w w' : World} (h : SR2 J G r r' w) (he : Ext w w') : SR2 J G r r' w' := by
  have b1 := World.block_lt_of_cell? _ _ h.1
  have b2 := World.block_lt_of_cell? _ _ h.2
  exact ⟨by rw [he.cell b1]; exact h.1, by rw [he.cell b2]; exact h.2⟩
/-- equal so far -/
def eqF (f g : Nat → Bool) : Nat → Bool
  | 0 => true
  | k + 1 => if eqF f g k then f k == g k else false
theorem eqF_all {f g : Nat → Bool} : ∀ n, (∀ k, k < n → f k = g k) → eqF f g n = true
  | 0, _ => rfl
  | n + 1, h => by
    simp only [eqF]
    rw [eqF_all n fun k hk => h k (by omega), if_pos rfl, h n (by omega)]; simp
theorem eqF_or (h r : Int) : eqF (fun k : Nat => perm (arel h r) ((k : Int) - 1)) (fun k : Nat => perm (nrel r) ((k : Int) - 1)) 3 = true ∨ eqF (fun k : Nat => perm (arel h r) ((k : Int) - 1)) (fun k : Nat => perm (nrel r) (-((k : Int) - 1))) 3 = true := by
  rcases perm_same h r with h1 | h1
  · exact .inl (eqF_all 3 fun k hk => h1 _ (by omega))
  · exact .inr (eqF_all 3 fun k hk => h1 _ (by omega))
theorem mtA_f : mtA false = #[.int .i64 0, .int .i64 0, .int .i64 0, .bool false, .slice none 0 0, .slice none 0 0, .slice none 0 0] := rfl
theorem mtA_t : mtA true = #[.int .i64 1, .int .i64 0, .int .i64 0, .bool false, .slice none 0 0, .slice none 0 0, .slice none 0 0] := rfl
set_option maxRecDepth 100000 in
set_option maxHeartbeats 16000000 in
theorem law_atoms (s : ST 6) (rel : Int) (y : Nat → Int) (w : World) (hP : PTs w 6 s) (hrel : -128 ≤ rel ∧ rel ≤ 127) (hy : ∀ i, i < 4 → (-32768 ≤ y i ∧ y i ≤ 32767)) :
    Calls Tryz.prog 3 #[.agg (peA (ST.pe 6 s)), .int .i8 rel, .agg #[.int .i16 (y 0), .int .i16 (y 1), .int .i16 (y 2), .int .i16 (y 3)]] w fun e w' => e = .returned (.bool true) ∧ Ext w w' := by
  have hE : Ext w ((w.alloc (.cells (peA (ST.pe 6 s)) 28)).alloc (.cells #[.int .i16 (y 0), .int .i16 (y 1), .int .i16 (y 2), .int .i16 (y 3)] 31)) := ((Ext.refl w).alloc _).alloc _
  have hB0 := ((Blk.of_arr w (peA (ST.pe 6 s)) 28 4 rfl).alloc (.cells #[.int .i16 (y 0), .int .i16 (y 1), .int .i16 (y 2), .int .i16 (y 3)] 31)).p4
  have hB1 := Blk.of_arr (w.alloc (.cells (peA (ST.pe 6 s)) 28)) #[.int .i16 (y 0), .int .i16 (y 1), .int .i16 (y 2), .int .i16 (y 3)] 31 4 rfl
  simp only [World.size_alloc] at hB1
  have hQ : CQ (w.heap.size + 1) y _ := ⟨hB1.cell (i := 0) (by omega), hB1.cell (i := 1) (by omega), hB1.cell (i := 2) (by omega), hB1.cell (i := 3) (by omega)⟩
  have hP2 := hP.ext hE
  have HFP : Hid (∀ w', Ext _ w' → Calls Tryz.prog 16 #[.agg (peA (ST.pe 6 s)), .int .i64 60, .int .i64 4] w' fun e w'' => e = .returned (.bool (decide (0 ≤ roomB 4 6 s 60))) ∧ Ext w' w'') := fun w' he => rf_fewPoly 4 (by omega) s 60 w' (hP2.ext he) (by omega) (by omega)
  have HTR := Lib.hid (PTs.tree _ 4 (by omega) 6 s 60 hP2 (by omega))
  generalize roomB 4 6 s 60 = room at *
  generalize ST.pe 6 s = x at *
  obtain ⟨fb, hfb⟩ : ∃ fb, fb = decide (0 ≤ room) := ⟨_, rfl⟩
  rw [← hfb] at HFP
  generalize hW : (w.alloc (.cells (peA x) 28)).alloc (.cells #[.int .i16 (y 0), .int .i16 (y 1), .int .i16 (y 2), .int .i16 (y 3)] 31) = W at *
  have HW := Lib.hid hW
  have HE := Lib.hid hE
  have HX := Lib.hid hB0
  have HQ := Lib.hid hQ
  have HY := Lib.hid hy
  have HFB := Lib.hid hfb
  obtain ⟨hrel1, hrel2⟩ := hrel
  clear hW hE hB0 hB1 hQ hy hfb hP hP2
  go_enter Tryz.func3, Tryz.ntmps3
  go_upto_region 1 with (fail)
  rw [HW.out]
  go_wp2_with (fail)
  refine (law_awake39 _).mono ?_
  rintro e w1 ⟨rfl, he1⟩
  have HE1 := Lib.hid he1
  obtain ⟨x0, x1, x2, x3⟩ := HX.out.ext he1
  clear he1
  go_wp2_with (fail)
  refine (HFP.out w1 HE1.out).mono ?_
  rintro e w2 ⟨rfl, he2⟩
  have HE2 := Lib.hid (HE1.out.trans he2)
  clear HFP HE1 he2 x0 x1 x2 x3
  cases fb with
  | false =>
    go_wp2_with (fail)
    refine (law_awake39 _).mono ?_
    rintro e w3 ⟨rfl, he3⟩
    go_wp2
    exact bodyPost_ret (v := .bool true) (by simp [results, Tryz.results3, go_sem]) rfl ⟨rfl, (HE.out.trans HE2.out).trans he3⟩
  | true =>
    have hroom : 0 ≤ room := by simpa using HFB.out.symm
    obtain ⟨t, hR, hS⟩ := HTR.out hroom
    obtain ⟨hT, hd5, hexp⟩ := room_dl hS (by omega)
    have HR := Lib.hid hR
    have HT := Lib.hid hT
    have HD5 := Lib.hid hd5
    have HEXP := Lib.hid hexp
    have HNN := Lib.hid (terms_nn 6 t)
    have HC := Lib.hid (fun w' (he : Ext W w') => rp_Constant M0 x (terms 6 t) w' (mb0 _) ⟨6, t, RR.ext hR he, .inr hT, Sim.refl _⟩)
    clear HTR HFB hR hS hT hd5 hexp hroom
    have kw : IntKind.i64.wrap rel = rel := IntWalk.i64_in _ (by omega)
    obtain ⟨x0, x1, x2, x3⟩ := HX.out.ext HE2.out
    have CT := Lib.hid (si_Atom M0 6 t x rel w2 (mb0 _) (RR.ext HR.out HE2.out) HT.out (by have := HD5.out; omega))
    go_wp2_with (fail)
    refine CT.out.mono ?_
    rintro e w3 ⟨he3, hA⟩
    have HE3 := Lib.hid (HE2.out.trans he3)
    clear CT HE2 he3 x0 x1 x2 x3
    rcases hA with ⟨z, hz, he⟩ | ⟨hnc, ym, he, hym⟩
    · rw [sg3 (sign3 z)] at he
      have HZ := Lib.hid hz
      obtain ⟨bp, hbp⟩ : ∃ bp, bp = perm rel z.sign := ⟨_, rfl⟩
      rw [← hbp] at he
      have HBP := Lib.hid hbp
      clear hz hbp
      cases bp
      · rw [mtA_f] at he
        subst he
        go_upto_region 4 with (fail)
        have hm7 := new_c7 w3 (.int .i64 0) (.int .i64 0) (.int .i64 0) (.bool false) (.slice none 0 0) (.slice none 0 0) (.slice none 0 0) 37
        have hEm := (Ext.refl w3).alloc (.cells #[.int .i64 0, .int .i64 0, .int .i64 0, .bool false, .slice none 0 0, .slice none 0 0, .slice none 0 0] 37)
        obtain ⟨W4, hW4⟩ : ∃ W4, W4 = w3.alloc (.cells #[.int .i64 0, .int .i64 0, .int .i64 0, .bool false, .slice none 0 0, .slice none 0 0, .slice none 0 0] 37) := ⟨_, rfl⟩
        rw [← hW4] at hm7 hEm
        rw [← hW4]
        obtain ⟨J, hJ⟩ : ∃ J, J = w3.heap.size := ⟨_, rfl⟩
        rw [← hJ] at hm7
        rw [← hJ]
        have HM7 := Lib.hid hm7
        have HE4 := Lib.hid (HE3.out.trans hEm)
        clear hW4 hJ hm7
        obtain ⟨q0, q1, q2, q3⟩ := HQ.out.ext HE4.out
        have CTI := Lib.hid (rf_integers M0 y W4 (mb0 _) HY.out)
        go_wp2_with (fail)
        refine CTI.out.mono ?_
        rintro e w5 ⟨a5, c5, X5, rfl, hI, he5⟩
        have HI := Lib.hid hI
        have HE5 := Lib.hid (HE4.out.trans he5)
        have HM75 := Lib.hid (HM7.out.ext he5)
        clear CTI q0 q1 q2 q3 hI
        obtain ⟨x0, x1, x2, x3⟩ := HX.out.ext HE5.out
        have CTN := Lib.hid (rf_norm38 M0 6 t x rel w5 (mb0 _) (RR.ext HR.out HE5.out) HT.out)
        go_wp2_with (fail)
        refine CTN.out.mono ?_
        rintro e w6 ⟨yn, rfl, hyn, he6⟩
        clear CTN x0 x1 x2 x3
        go_upto_region 6 with (fail)
        have hn7 := new_c7 w6 (.int .i64 2) (.int .i64 (nrel rel)) (.int .i64 yn.lv) (.bool yn.b) (.slice yn.a yn.n yn.p) (.slice yn.ka yn.kn yn.kp) (.slice none 0 0) 37
        have hEn := (Ext.refl w6).alloc (.cells (mxA 2 (nrel rel) yn) 37)
        obtain ⟨W7, hW7⟩ : ∃ W7, W7 = w6.alloc (.cells (mxA 2 (nrel rel) yn) 37) := ⟨_, rfl⟩
        have hn7 : C7 w6.heap.size (.int .i64 2) (.int .i64 (nrel rel)) (.int .i64 yn.lv) (.bool yn.b) (.slice yn.a yn.n yn.p) (.slice yn.ka yn.kn yn.kp) (.slice none 0 0) (w6.alloc (.cells (mxA 2 (nrel rel) yn) 37)) := hn7
        rw [← hW7] at hn7 hEn
        rw [← hW7]
        obtain ⟨G, hG⟩ : ∃ G, G = w6.heap.size := ⟨_, rfl⟩
        rw [← hG] at hn7
        rw [← hG]
        have hE67 := (he6.trans hEn).trans (Ext.refl W7).drew
        have HSS : Hid (SS2 J G (.int .i64 0) (.int .i64 0) (.int .i64 0) (.bool false) (.slice none 0 0) (.slice none 0 0) (.slice none 0 0) (nrel rel) yn W7.drew) := ⟨HM75.out.ext hE67, hn7.ext (Ext.refl W7).drew⟩
        have HE7 := Lib.hid (HE5.out.trans hE67)
        have HI7 := Lib.hid (HI.out.ext hE67)
        obtain ⟨tn, hRn, hSn', hszn⟩ := (hyn.ext (hEn.trans (Ext.refl W7).drew)).small (Nat.le_refl _) HD5.out (deg_of_mem HEXP.out)
        have HRn := Lib.hid hRn
        have HSn := Lib.hid hSn'
        have HZn := Lib.hid hszn
        have HE37 := Lib.hid ((hEm.trans he5).trans hE67)
        clear hW7 hG hn7 hEn he6 hE67 hyn hRn hSn' hszn HI he5 hEm HM7 HM75 HE4 HE5
        have hzz : ∀ i, i < 4 → dlen (y i).natAbs + 1 ≤ 2 := fun i hi => by
          have h1 := HY.out i hi
          have h2 := (dlen_le_iff (y i).natAbs 1).2 (by rw [Nat.pow_one]; omega)
          omega
        have CT5 : ∀ W', Ext W7.drew W' → Calls Tryz.prog 20 #[.agg (mxA 2 (nrel rel) yn), .slice a5 4 c5] W' fun e w'' => e = .returned (.bool false) ∧ Ext W' w'' := fun W' he =>
          (tr_atom 2 5 (by omega) M0 tn (nrel rel) yn a5 c5 X5 y W' (mb0 _) (RR.ext HRn.out he) (HI7.out.ext he) hzz HZn.out).mono fun e w'' ⟨⟨v, hv, he1⟩, he2⟩ => by
            have hv2 : (v : Rat) = (z : Rat) := by
              rw [hv, evT_sim _ (HSn.out.trans HZ.out) (terms_nn 5 tn) (fun s hs => by simp only [List.mem_singleton] at hs; subst hs; rfl), evT_single]
            have hv3 : v = z := Rat.intCast_inj.1 hv2
            rw [hv3, perm_nrel, ← HBP.out] at he1
            exact ⟨he1, he2⟩
        have CT5 := Lib.hid CT5
        clear hzz HRn HSn HZn HI7
        refine wp_region_u (SS2 J G (.int .i64 0) (.int .i64 0) (.int .i64 0) (.bool false) (.slice none 0 0) (.slice none 0 0) (.slice none 0 0) (nrel rel) yn) 6 (by kernel_rfl) HSS.out (fun hHeld => ?_)
        generalize W7.drew = WD at *
        ((refine wpAnyU_takeT 0 (oi := ?_) (v := ?_) (by kernel_rfl) (by kernel_rfl) (by kernel_rfl) (by kernel_rfl) (by kernel_rfl) (by first | exact hSn | exact hHeld) ?_ ?_ ?_ ?_ ?_; rotate_left 2; (simp only [List.getElem?_toArray, List.getElem?_cons_succ, List.getElem?_cons_zero]; rfl); rfl; (intro wS hSw; obtain ⟨⟨A0, A1, A2, A3, A4, A5, A6⟩, B0, B1, B2, B3, B4, B5, B6⟩ := hSw; go_simp; try with_reducible rfl); (exact fun _ _ _ h => h); (try simp only [Act.put, List.setIfInBounds_toArray, List.set_cons_zero, List.set_cons_succ])); (refine wpAnyU_takeT 1 (oi := ?_) (v := ?_) (by kernel_rfl) (by kernel_rfl) (by kernel_rfl) (by kernel_rfl) (by kernel_rfl) (by first | exact hSn | exact hHeld) ?_ ?_ ?_ ?_ ?_; rotate_left 2; (simp only [List.getElem?_toArray, List.getElem?_cons_succ, List.getElem?_cons_zero]; rfl); rfl; (intro wS hSw; obtain ⟨⟨A0, A1, A2, A3, A4, A5, A6⟩, B0, B1, B2, B3, B4, B5, B6⟩ := hSw; go_simp; try with_reducible rfl); (exact fun _ _ _ h => h); (try simp only [Act.put, List.setIfInBounds_toArray, List.set_cons_zero, List.set_cons_succ])); (refine wpAnyU_takeT 3 (oi := ?_) (v := ?_) (by kernel_rfl) (by kernel_rfl) (by kernel_rfl) (by kernel_rfl) (by kernel_rfl) (by first | exact hSn | exact hHeld) ?_ ?_ ?_ ?_ ?_; rotate_left 2; (simp only [List.getElem?_toArray, List.getElem?_cons_succ, List.getElem?_cons_zero]; rfl); rfl; (intro wS hSw; obtain ⟨⟨A0, A1, A2, A3, A4, A5, A6⟩, B0, B1, B2, B3, B4, B5, B6⟩ := hSw; go_simp; try with_reducible rfl); (exact fun _ _ _ h => h); (try simp only [Act.put, List.setIfInBounds_toArray, List.set_cons_zero, List.set_cons_succ])); (refine wpAnyU_takeT 4 (oi := ?_) (v := ?_) (by kernel_rfl) (by kernel_rfl) (by kernel_rfl) (by kernel_rfl) (by kernel_rfl) (by first | exact hSn | exact hHeld) ?_ ?_ ?_ ?_ ?_; rotate_left 2; (simp only [List.getElem?_toArray, List.getElem?_cons_succ, List.getElem?_cons_zero]; rfl); rfl; (intro wS hSw; obtain ⟨⟨A0, A1, A2, A3, A4, A5, A6⟩, B0, B1, B2, B3, B4, B5, B6⟩ := hSw; go_simp; try with_reducible rfl); (exact fun _ _ _ h => h); (try simp only [Act.put, List.setIfInBounds_toArray, List.set_cons_zero, List.set_cons_succ])))
        ((refine wpAnyU_one 2 (o := ?_) (by kernel_rfl) ?_ ?_; rotate_left 1; (simp only [List.getElem?_toArray, List.getElem?_cons_succ, List.getElem?_cons_zero]; rfl); intro K hK); go_simp; (refine (tr_const false a5 c5 _).mono ?_); rintro e_ wz ⟨rfl, he1⟩; go_wp2_with (fail); (try clear hSn); (have hSn := hHeld.ext he1); (refine hK.out _ _ (fun _ => hSn) ?_); clear hK K; (try simp only [Act.put, List.setIfInBounds_toArray, List.set_cons_zero, List.set_cons_succ]))
        ((refine wpAnyU_one 5 (o := ?_) (by kernel_rfl) ?_ ?_; rotate_left 1; (simp only [List.getElem?_toArray, List.getElem?_cons_succ, List.getElem?_cons_zero]; rfl); intro K hK); go_simp; (refine (CT5.out _ he1).mono ?_); rintro e_ wz ⟨rfl, he2⟩; go_wp2_with (fail); (try clear hSn); (have hSn := hHeld.ext (he1.trans he2)); (refine hK.out _ _ (fun _ => hSn) ?_); clear hK K; (try simp only [Act.put, List.setIfInBounds_toArray, List.set_cons_zero, List.set_cons_succ]))
        have HE8 := Lib.hid (HE7.out.trans (he1.trans he2))
        have HM8 := Lib.hid (HSS.out.1.ext (he1.trans he2))
        clear hSn hHeld he1 he2 CT5
        ((refine wpAnyU_one 6 (o := ?_) (by kernel_rfl) ?_ ?_; rotate_left 1; (simp only [List.getElem?_toArray, List.getElem?_cons_succ, List.getElem?_cons_zero]; rfl); intro K hK); go_simp; (refine hK.out _ _ (fun h => absurd rfl h) ?_); clear hK K; refine wpAnyU_done (by kernel_rfl) ?_ _)
        obtain ⟨x0, x1, x2, x3⟩ := HX.out.ext HE8.out
        have CT8 := Lib.hid (HC.out _ HE8.out)
        go_wp2_with (fail)
        refine CT8.out.mono ?_
        rintro e w9 ⟨z', ok, b9, a9, n9, p9, rfl, hz9, hs1, hs2, he9⟩
        obtain rfl : ok = true := by
          cases ok with
          | true => rfl
          | false =>
            exfalso
            obtain ⟨_, m, k, hm, hk1, hk4, hk⟩ := hs2 rfl
            have h5 := HZ.out m
            by_cases e : Mo.zero = m
            · subst e; rw [get_zero] at hk; omega
            · simp [coefAt, e] at h5; exact hm h5
        clear CT8 hs1 hs2 hz9 x0 x1 x2 x3
        go_upto_region 9 with (fail)
        have hE9 := he9.trans ((Ext.refl w9).alloc (.cells #[.bool b9, .slice a9 n9 p9] 25))
        obtain ⟨W9, hW9⟩ : ∃ W9, W9 = w9.alloc (.cells #[.bool b9, .slice a9 n9 p9] 25) := ⟨_, rfl⟩
        rw [← hW9] at hE9
        rw [← hW9]
        obtain ⟨m0, m1, m2, m3, m4, m5, m6⟩ := HM8.out.ext hE9
        have HE9 := Lib.hid (HE8.out.trans hE9)
        have HM9 := Lib.hid (HM8.out.ext hE9)
        clear hE9 hW9 he9
        have CT9 := Lib.hid (rf_isSimple01 false W9)
        go_wp2_with (fail)
        refine CT9.out.mono ?_
        rintro e w10 ⟨rfl, he10⟩
        clear m0 m1 m2 m3 m4 m5 m6
        obtain ⟨m0, m1, m2, m3, m4, m5, m6⟩ := HM9.out.ext he10
        go_wp2
        exact bodyPost_ret (v := .bool true) (by simp [results, Tryz.results3, go_sem]) rfl ⟨rfl, HE.out.trans (HE9.out.trans he10)⟩
      · rw [mtA_t] at he
        subst he
        go_upto_region 4 with (fail)
        have hm7 := new_c7 w3 (.int .i64 1) (.int .i64 0) (.int .i64 0) (.bool false) (.slice none 0 0) (.slice none 0 0) (.slice none 0 0) 37
        have hEm := (Ext.refl w3).alloc (.cells #[.int .i64 1, .int .i64 0, .int .i64 0, .bool false, .slice none 0 0, .slice none 0 0, .slice none 0 0] 37)
        obtain ⟨W4, hW4⟩ : ∃ W4, W4 = w3.alloc (.cells #[.int .i64 1, .int .i64 0, .int .i64 0, .bool false, .slice none 0 0, .slice none 0 0, .slice none 0 0] 37) := ⟨_, rfl⟩
        rw [← hW4] at hm7 hEm
        rw [← hW4]
        obtain ⟨J, hJ⟩ : ∃ J, J = w3.heap.size := ⟨_, rfl⟩
        rw [← hJ] at hm7
        rw [← hJ]
        have HM7 := Lib.hid hm7
        have HE4 := Lib.hid (HE3.out.trans hEm)
        clear hW4 hJ hm7
        obtain ⟨q0, q1, q2, q3⟩ := HQ.out.ext HE4.out
        have CTI := Lib.hid (rf_integers M0 y W4 (mb0 _) HY.out)
        go_wp2_with (fail)
        refine CTI.out.mono ?_
        rintro e w5 ⟨a5, c5, X5, rfl, hI, he5⟩
        have HI := Lib.hid hI
        have HE5 := Lib.hid (HE4.out.trans he5)
        have HM75 := Lib.hid (HM7.out.ext he5)
        clear CTI q0 q1 q2 q3 hI
        obtain ⟨x0, x1, x2, x3⟩ := HX.out.ext HE5.out
        have CTN := Lib.hid (rf_norm38 M0 6 t x rel w5 (mb0 _) (RR.ext HR.out HE5.out) HT.out)
        go_wp2_with (fail)
        refine CTN.out.mono ?_
        rintro e w6 ⟨yn, rfl, hyn, he6⟩
        clear CTN x0 x1 x2 x3
        go_upto_region 6 with (fail)
        have hn7 := new_c7 w6 (.int .i64 2) (.int .i64 (nrel rel)) (.int .i64 yn.lv) (.bool yn.b) (.slice yn.a yn.n yn.p) (.slice yn.ka yn.kn yn.kp) (.slice none 0 0) 37
        have hEn := (Ext.refl w6).alloc (.cells (mxA 2 (nrel rel) yn) 37)
        obtain ⟨W7, hW7⟩ : ∃ W7, W7 = w6.alloc (.cells (mxA 2 (nrel rel) yn) 37) := ⟨_, rfl⟩
        have hn7 : C7 w6.heap.size (.int .i64 2) (.int .i64 (nrel rel)) (.int .i64 yn.lv) (.bool yn.b) (.slice yn.a yn.n yn.p) (.slice yn.ka yn.kn yn.kp) (.slice none 0 0) (w6.alloc (.cells (mxA 2 (nrel rel) yn) 37)) := hn7
        rw [← hW7] at hn7 hEn
        rw [← hW7]
        obtain ⟨G, hG⟩ : ∃ G, G = w6.heap.size := ⟨_, rfl⟩
        rw [← hG] at hn7
        rw [← hG]
        have hE67 := (he6.trans hEn).trans (Ext.refl W7).drew
        have HSS : Hid (SS2 J G (.int .i64 1) (.int .i64 0) (.int .i64 0) (.bool false) (.slice none 0 0) (.slice none 0 0) (.slice none 0 0) (nrel rel) yn W7.drew) := ⟨HM75.out.ext hE67, hn7.ext (Ext.refl W7).drew⟩
        have HE7 := Lib.hid (HE5.out.trans hE67)
        have HI7 := Lib.hid (HI.out.ext hE67)
        obtain ⟨tn, hRn, hSn', hszn⟩ := (hyn.ext (hEn.trans (Ext.refl W7).drew)).small (Nat.le_refl _) HD5.out (deg_of_mem HEXP.out)
        have HRn := Lib.hid hRn
        have HSn := Lib.hid hSn'
        have HZn := Lib.hid hszn
        have HE37 := Lib.hid ((hEm.trans he5).trans hE67)
        clear hW7 hG hn7 hEn he6 hE67 hyn hRn hSn' hszn HI he5 hEm HM7 HM75 HE4 HE5
        have hzz : ∀ i, i < 4 → dlen (y i).natAbs + 1 ≤ 2 := fun i hi => by
          have h1 := HY.out i hi
          have h2 := (dlen_le_iff (y i).natAbs 1).2 (by rw [Nat.pow_one]; omega)
          omega
        have CT5 : ∀ W', Ext W7.drew W' → Calls Tryz.prog 20 #[.agg (mxA 2 (nrel rel) yn), .slice a5 4 c5] W' fun e w'' => e = .returned (.bool true) ∧ Ext W' w'' := fun W' he =>
          (tr_atom 2 5 (by omega) M0 tn (nrel rel) yn a5 c5 X5 y W' (mb0 _) (RR.ext HRn.out he) (HI7.out.ext he) hzz HZn.out).mono fun e w'' ⟨⟨v, hv, he1⟩, he2⟩ => by
            have hv2 : (v : Rat) = (z : Rat) := by
              rw [hv, evT_sim _ (HSn.out.trans HZ.out) (terms_nn 5 tn) (fun s hs => by simp only [List.mem_singleton] at hs; subst hs; rfl), evT_single]
            have hv3 : v = z := Rat.intCast_inj.1 hv2
            rw [hv3, perm_nrel, ← HBP.out] at he1
            exact ⟨he1, he2⟩
        have CT5 := Lib.hid CT5
        clear hzz HRn HSn HZn HI7
        refine wp_region_u (SS2 J G (.int .i64 1) (.int .i64 0) (.int .i64 0) (.bool false) (.slice none 0 0) (.slice none 0 0) (.slice none 0 0) (nrel rel) yn) 6 (by kernel_rfl) HSS.out (fun hHeld => ?_)
        generalize W7.drew = WD at *
        ((refine wpAnyU_takeT 0 (oi := ?_) (v := ?_) (by kernel_rfl) (by kernel_rfl) (by kernel_rfl) (by kernel_rfl) (by kernel_rfl) (by first | exact hSn | exact hHeld) ?_ ?_ ?_ ?_ ?_; rotate_left 2; (simp only [List.getElem?_toArray, List.getElem?_cons_succ, List.getElem?_cons_zero]; rfl); rfl; (intro wS hSw; obtain ⟨⟨A0, A1, A2, A3, A4, A5, A6⟩, B0, B1, B2, B3, B4, B5, B6⟩ := hSw; go_simp; try with_reducible rfl); (exact fun _ _ _ h => h); (try simp only [Act.put, List.setIfInBounds_toArray, List.set_cons_zero, List.set_cons_succ])); (refine wpAnyU_takeT 1 (oi := ?_) (v := ?_) (by kernel_rfl) (by kernel_rfl) (by kernel_rfl) (by kernel_rfl) (by kernel_rfl) (by first | exact hSn | exact hHeld) ?_ ?_ ?_ ?_ ?_; rotate_left 2; (simp only [List.getElem?_toArray, List.getElem?_cons_succ, List.getElem?_cons_zero]; rfl); rfl; (intro wS hSw; obtain ⟨⟨A0, A1, A2, A3, A4, A5, A6⟩, B0, B1, B2, B3, B4, B5, B6⟩ := hSw; go_simp; try with_reducible rfl); (exact fun _ _ _ h => h); (try simp only [Act.put, List.setIfInBounds_toArray, List.set_cons_zero, List.set_cons_succ])); (refine wpAnyU_takeT 3 (oi := ?_) (v := ?_) (by kernel_rfl) (by kernel_rfl) (by kernel_rfl) (by kernel_rfl) (by kernel_rfl) (by first | exact hSn | exact hHeld) ?_ ?_ ?_ ?_ ?_; rotate_left 2; (simp only [List.getElem?_toArray, List.getElem?_cons_succ, List.getElem?_cons_zero]; rfl); rfl; (intro wS hSw; obtain ⟨⟨A0, A1, A2, A3, A4, A5, A6⟩, B0, B1, B2, B3, B4, B5, B6⟩ := hSw; go_simp; try with_reducible rfl); (exact fun _ _ _ h => h); (try simp only [Act.put, List.setIfInBounds_toArray, List.set_cons_zero, List.set_cons_succ])); (refine wpAnyU_takeT 4 (oi := ?_) (v := ?_) (by kernel_rfl) (by kernel_rfl) (by kernel_rfl) (by kernel_rfl) (by kernel_rfl) (by first | exact hSn | exact hHeld) ?_ ?_ ?_ ?_ ?_; rotate_left 2; (simp only [List.getElem?_toArray, List.getElem?_cons_succ, List.getElem?_cons_zero]; rfl); rfl; (intro wS hSw; obtain ⟨⟨A0, A1, A2, A3, A4, A5, A6⟩, B0, B1, B2, B3, B4, B5, B6⟩ := hSw; go_simp; try with_reducible rfl); (exact fun _ _ _ h => h); (try simp only [Act.put, List.setIfInBounds_toArray, List.set_cons_zero, List.set_cons_succ])))
        ((refine wpAnyU_one 2 (o := ?_) (by kernel_rfl) ?_ ?_; rotate_left 1; (simp only [List.getElem?_toArray, List.getElem?_cons_succ, List.getElem?_cons_zero]; rfl); intro K hK); go_simp; (refine (tr_const true a5 c5 _).mono ?_); rintro e_ wz ⟨rfl, he1⟩; go_wp2_with (fail); (try clear hSn); (have hSn := hHeld.ext he1); (refine hK.out _ _ (fun _ => hSn) ?_); clear hK K; (try simp only [Act.put, List.setIfInBounds_toArray, List.set_cons_zero, List.set_cons_succ]))
        ((refine wpAnyU_one 5 (o := ?_) (by kernel_rfl) ?_ ?_; rotate_left 1; (simp only [List.getElem?_toArray, List.getElem?_cons_succ, List.getElem?_cons_zero]; rfl); intro K hK); go_simp; (refine (CT5.out _ he1).mono ?_); rintro e_ wz ⟨rfl, he2⟩; go_wp2_with (fail); (try clear hSn); (have hSn := hHeld.ext (he1.trans he2)); (refine hK.out _ _ (fun _ => hSn) ?_); clear hK K; (try simp only [Act.put, List.setIfInBounds_toArray, List.set_cons_zero, List.set_cons_succ]))
        have HE8 := Lib.hid (HE7.out.trans (he1.trans he2))
        have HM8 := Lib.hid (HSS.out.1.ext (he1.trans he2))
        clear hSn hHeld he1 he2 CT5
        ((refine wpAnyU_one 6 (o := ?_) (by kernel_rfl) ?_ ?_; rotate_left 1; (simp only [List.getElem?_toArray, List.getElem?_cons_succ, List.getElem?_cons_zero]; rfl); intro K hK); go_simp; (refine hK.out _ _ (fun h => absurd rfl h) ?_); clear hK K; refine wpAnyU_done (by kernel_rfl) ?_ _)
        obtain ⟨x0, x1, x2, x3⟩ := HX.out.ext HE8.out
        have CT8 := Lib.hid (HC.out _ HE8.out)
        go_wp2_with (fail)
        refine CT8.out.mono ?_
        rintro e w9 ⟨z', ok, b9, a9, n9, p9, rfl, hz9, hs1, hs2, he9⟩
        obtain rfl : ok = true := by
          cases ok with
          | true => rfl
          | false =>
            exfalso
            obtain ⟨_, m, k, hm, hk1, hk4, hk⟩ := hs2 rfl
            have h5 := HZ.out m
            by_cases e : Mo.zero = m
            · subst e; rw [get_zero] at hk; omega
            · simp [coefAt, e] at h5; exact hm h5
        clear CT8 hs1 hs2 hz9 x0 x1 x2 x3
        go_upto_region 9 with (fail)
        have hE9 := he9.trans ((Ext.refl w9).alloc (.cells #[.bool b9, .slice a9 n9 p9] 25))
        obtain ⟨W9, hW9⟩ : ∃ W9, W9 = w9.alloc (.cells #[.bool b9, .slice a9 n9 p9] 25) := ⟨_, rfl⟩
        rw [← hW9] at hE9
        rw [← hW9]
        obtain ⟨m0, m1, m2, m3, m4, m5, m6⟩ := HM8.out.ext hE9
        have HE9 := Lib.hid (HE8.out.trans hE9)
        have HM9 := Lib.hid (HM8.out.ext hE9)
        clear hE9 hW9 he9
        have CT9 := Lib.hid (rf_isSimple01 true W9)
        go_wp2_with (fail)
        refine CT9.out.mono ?_
        rintro e w10 ⟨rfl, he10⟩
        clear m0 m1 m2 m3 m4 m5 m6
        obtain ⟨m0, m1, m2, m3, m4, m5, m6⟩ := HM9.out.ext he10
        go_wp2
        exact bodyPost_ret (v := .bool true) (by simp [results, Tryz.results3, go_sem]) rfl ⟨rfl, HE.out.trans (HE9.out.trans he10)⟩
    · rw [show (rl (if hd (terms 6 t) < 0 then opp (sg rel) else sg rel)).1 = arel (hd (terms 6 t)) rel from rfl] at he
      obtain ⟨ra, hra⟩ : ∃ ra, ra = arel (hd (terms 6 t)) rel := ⟨_, rfl⟩
      rw [← hra] at he
      subst he
      have HRA := Lib.hid hra
      clear hra
      have HNC := Lib.hid hnc
      have HYM := Lib.hid hym
      clear hnc hym
      go_upto_region 4 with (fail)
      have hm7 := new_c7 w3 (.int .i64 2) (.int .i64 ra) (.int .i64 ym.lv) (.bool ym.b) (.slice ym.a ym.n ym.p) (.slice ym.ka ym.kn ym.kp) (.slice none 0 0) 37
      have hEm := (Ext.refl w3).alloc (.cells #[.int .i64 2, .int .i64 ra, .int .i64 ym.lv, .bool ym.b, .slice ym.a ym.n ym.p, .slice ym.ka ym.kn ym.kp, .slice none 0 0] 37)
      obtain ⟨W4, hW4⟩ : ∃ W4, W4 = w3.alloc (.cells #[.int .i64 2, .int .i64 ra, .int .i64 ym.lv, .bool ym.b, .slice ym.a ym.n ym.p, .slice ym.ka ym.kn ym.kp, .slice none 0 0] 37) := ⟨_, rfl⟩
      rw [← hW4] at hm7 hEm
      rw [← hW4]
      obtain ⟨J, hJ⟩ : ∃ J, J = w3.heap.size := ⟨_, rfl⟩
      rw [← hJ] at hm7
      rw [← hJ]
      have HM7 := Lib.hid hm7
      have HE4 := Lib.hid (HE3.out.trans hEm)
      clear hW4 hJ hm7
      obtain ⟨q0, q1, q2, q3⟩ := HQ.out.ext HE4.out
      have CTI := Lib.hid (rf_integers M0 y W4 (mb0 _) HY.out)
      go_wp2_with (fail)
      refine CTI.out.mono ?_
      rintro e w5 ⟨a5, c5, X5, rfl, hI, he5⟩
      have HI := Lib.hid hI
      have HE5 := Lib.hid (HE4.out.trans he5)
      have HM75 := Lib.hid (HM7.out.ext he5)
      clear CTI q0 q1 q2 q3 hI
      obtain ⟨x0, x1, x2, x3⟩ := HX.out.ext HE5.out
      have CTN := Lib.hid (rf_norm38 M0 6 t x rel w5 (mb0 _) (RR.ext HR.out HE5.out) HT.out)
      go_wp2_with (fail)
      refine CTN.out.mono ?_
      rintro e w6 ⟨yn, rfl, hyn, he6⟩
      clear CTN x0 x1 x2 x3
      go_upto_region 6 with (fail)
      have hn7 := new_c7 w6 (.int .i64 2) (.int .i64 (nrel rel)) (.int .i64 yn.lv) (.bool yn.b) (.slice yn.a yn.n yn.p) (.slice yn.ka yn.kn yn.kp) (.slice none 0 0) 37
      have hEn := (Ext.refl w6).alloc (.cells (mxA 2 (nrel rel) yn) 37)
      obtain ⟨W7, hW7⟩ : ∃ W7, W7 = w6.alloc (.cells (mxA 2 (nrel rel) yn) 37) := ⟨_, rfl⟩
      have hn7 : C7 w6.heap.size (.int .i64 2) (.int .i64 (nrel rel)) (.int .i64 yn.lv) (.bool yn.b) (.slice yn.a yn.n yn.p) (.slice yn.ka yn.kn yn.kp) (.slice none 0 0) (w6.alloc (.cells (mxA 2 (nrel rel) yn) 37)) := hn7
      rw [← hW7] at hn7 hEn
      rw [← hW7]
      obtain ⟨G, hG⟩ : ∃ G, G = w6.heap.size := ⟨_, rfl⟩
      rw [← hG] at hn7
      rw [← hG]
      have hE67 := (he6.trans hEn).trans (Ext.refl W7).drew
      have HSS : Hid (SS2 J G (.int .i64 2) (.int .i64 ra) (.int .i64 ym.lv) (.bool ym.b) (.slice ym.a ym.n ym.p) (.slice ym.ka ym.kn ym.kp) (.slice none 0 0) (nrel rel) yn W7.drew) := ⟨HM75.out.ext hE67, hn7.ext (Ext.refl W7).drew⟩
      have HE7 := Lib.hid (HE5.out.trans hE67)
      have HI7 := Lib.hid (HI.out.ext hE67)
      obtain ⟨tn, hRn, hSn', hszn⟩ := (hyn.ext (hEn.trans (Ext.refl W7).drew)).small (Nat.le_refl _) HD5.out (deg_of_mem HEXP.out)
      have HRn := Lib.hid hRn
      have HSn := Lib.hid hSn'
      have HZn := Lib.hid hszn
      have HE37 := Lib.hid ((hEm.trans he5).trans hE67)
      clear hW7 hG hn7 hEn he6 hE67 hyn hRn hSn' hszn HI he5 hEm HM7 HM75 HE4 HE5
      have hzz : ∀ i, i < 4 → dlen (y i).natAbs + 1 ≤ 2 := fun i hi => by
        have h1 := HY.out i hi
        have h2 := (dlen_le_iff (y i).natAbs 1).2 (by rw [Nat.pow_one]; omega)
        omega
      obtain ⟨tm, hRm, hSm, hszm⟩ := (HYM.out.ext HE37.out).small (snorm_nrm _) HD5.out (deg_snorm HEXP.out)
      have HRm := Lib.hid hRm
      have HZm := Lib.hid hszm
      have hne := norm_ne HNN.out HNC.out
      have HKEY : Hid (∀ v v' : Int, (v : Rat) = evT (zq y) (terms 5 tm) → (v' : Rat) = evT (zq y) (terms 5 tn) → perm ra v.sign = perm (nrel rel) v'.sign) := fun v v' hv hv' => by
        rw [HRA.out]
        refine perm_two rel (sgnN_ne (norm_canon (terms 6 t))) (sgnN_sign hne) ?_
        apply Rat.intCast_inj.1
        rw [Rat.intCast_mul, hv, hv', evT_sim _ HSn.out (terms_nn 5 tn) HNN.out, evT_sim _ hSm (terms_nn 5 tm) (snorm_nn _), ← evT_snorm, evT_norm _ _ HNN.out]
      clear hRm hSm hszm hne HSn
      refine wp_region_u (SS2 J G (.int .i64 2) (.int .i64 ra) (.int .i64 ym.lv) (.bool ym.b) (.slice ym.a ym.n ym.p) (.slice ym.ka ym.kn ym.kp) (.slice none 0 0) (nrel rel) yn) 6 (by kernel_rfl) HSS.out (fun hHeld => ?_)
      generalize W7.drew = WD at *
      ((refine wpAnyU_takeT 0 (oi := ?_) (v := ?_) (by kernel_rfl) (by kernel_rfl) (by kernel_rfl) (by kernel_rfl) (by kernel_rfl) (by first | exact hSn | exact hHeld) ?_ ?_ ?_ ?_ ?_; rotate_left 2; (simp only [List.getElem?_toArray, List.getElem?_cons_succ, List.getElem?_cons_zero]; rfl); rfl; (intro wS hSw; obtain ⟨⟨A0, A1, A2, A3, A4, A5, A6⟩, B0, B1, B2, B3, B4, B5, B6⟩ := hSw; go_simp; try with_reducible rfl); (exact fun _ _ _ h => h); (try simp only [Act.put, List.setIfInBounds_toArray, List.set_cons_zero, List.set_cons_succ])); (refine wpAnyU_takeT 1 (oi := ?_) (v := ?_) (by kernel_rfl) (by kernel_rfl) (by kernel_rfl) (by kernel_rfl) (by kernel_rfl) (by first | exact hSn | exact hHeld) ?_ ?_ ?_ ?_ ?_; rotate_left 2; (simp only [List.getElem?_toArray, List.getElem?_cons_succ, List.getElem?_cons_zero]; rfl); rfl; (intro wS hSw; obtain ⟨⟨A0, A1, A2, A3, A4, A5, A6⟩, B0, B1, B2, B3, B4, B5, B6⟩ := hSw; go_simp; try with_reducible rfl); (exact fun _ _ _ h => h); (try simp only [Act.put, List.setIfInBounds_toArray, List.set_cons_zero, List.set_cons_succ])); (refine wpAnyU_takeT 3 (oi := ?_) (v := ?_) (by kernel_rfl) (by kernel_rfl) (by kernel_rfl) (by kernel_rfl) (by kernel_rfl) (by first | exact hSn | exact hHeld) ?_ ?_ ?_ ?_ ?_; rotate_left 2; (simp only [List.getElem?_toArray, List.getElem?_cons_succ, List.getElem?_cons_zero]; rfl); rfl; (intro wS hSw; obtain ⟨⟨A0, A1, A2, A3, A4, A5, A6⟩, B0, B1, B2, B3, B4, B5, B6⟩ := hSw; go_simp; try with_reducible rfl); (exact fun _ _ _ h => h); (try simp only [Act.put, List.setIfInBounds_toArray, List.set_cons_zero, List.set_cons_succ])); (refine wpAnyU_takeT 4 (oi := ?_) (v := ?_) (by kernel_rfl) (by kernel_rfl) (by kernel_rfl) (by kernel_rfl) (by kernel_rfl) (by first | exact hSn | exact hHeld) ?_ ?_ ?_ ?_ ?_; rotate_left 2; (simp only [List.getElem?_toArray, List.getElem?_cons_succ, List.getElem?_cons_zero]; rfl); rfl; (intro wS hSw; obtain ⟨⟨A0, A1, A2, A3, A4, A5, A6⟩, B0, B1, B2, B3, B4, B5, B6⟩ := hSw; go_simp; try with_reducible rfl); (exact fun _ _ _ h => h); (try simp only [Act.put, List.setIfInBounds_toArray, List.set_cons_zero, List.set_cons_succ])))
      ((refine wpAnyU_one 2 (o := ?_) (by kernel_rfl) ?_ ?_; rotate_left 1; (simp only [List.getElem?_toArray, List.getElem?_cons_succ, List.getElem?_cons_zero]; rfl); intro K hK); go_simp; (refine (tr_atom 2 5 (by omega) M0 tm ra ym a5 c5 X5 y _ (mb0 _) HRm.out HI7.out hzz HZm.out).mono ?_); rintro e_ wz ⟨⟨v, hv, rfl⟩, he1⟩; go_wp2_with (fail); (try clear hSn); (have hSn := hHeld.ext he1); (refine hK.out _ _ (fun _ => hSn) ?_); clear hK K; (try simp only [Act.put, List.setIfInBounds_toArray, List.set_cons_zero, List.set_cons_succ]))
      ((refine wpAnyU_one 5 (o := ?_) (by kernel_rfl) ?_ ?_; rotate_left 1; (simp only [List.getElem?_toArray, List.getElem?_cons_succ, List.getElem?_cons_zero]; rfl); intro K hK); go_simp; (refine (tr_atom 2 5 (by omega) M0 tn (nrel rel) yn a5 c5 X5 y _ (mb0 _) (RR.ext HRn.out he1) (HI7.out.ext he1) hzz HZn.out).mono ?_); rintro e_ wz ⟨⟨v', hv', rfl⟩, he2⟩; go_wp2_with (fail); (try clear hSn); (have hSn := hHeld.ext (he1.trans he2)); (refine hK.out _ _ (fun _ => hSn) ?_); clear hK K; (try simp only [Act.put, List.setIfInBounds_toArray, List.set_cons_zero, List.set_cons_succ]))
      rw [HKEY.out v v' hv hv']
      generalize perm (nrel rel) v'.sign = bq
      have HE8 := Lib.hid (HE7.out.trans (he1.trans he2))
      have HS8 := Lib.hid (HSS.out.ext (he1.trans he2))
      have HYM8 := Lib.hid ((HYM.out.ext HE37.out).ext (he1.trans he2))
      clear hSn hHeld he1 he2 hv hv' HRm HZm HRn HZn HI7 hzz HKEY HSS HYM HE37
      ((refine wpAnyU_one 6 (o := ?_) (by kernel_rfl) ?_ ?_; rotate_left 1; (simp only [List.getElem?_toArray, List.getElem?_cons_succ, List.getElem?_cons_zero]; rfl); intro K hK); go_simp; (refine hK.out _ _ (fun h => absurd rfl h) ?_); clear hK K; refine wpAnyU_done (by kernel_rfl) ?_ _)
      obtain ⟨x0, x1, x2, x3⟩ := HX.out.ext HE8.out
      have CT8 := Lib.hid (HC.out _ HE8.out)
      go_wp2_with (fail)
      refine CT8.out.mono ?_
      rintro e w9 ⟨z', ok, b9, a9, n9, p9, rfl, hz9, hs1, hs2, he9⟩
      obtain rfl : ok = false := by
        cases ok with
        | false => rfl
        | true =>
          exfalso
          obtain ⟨m, k, hm, hk1, hk4, hk⟩ := HNC.out
          have h5 := hs1 rfl m
          by_cases e : Mo.zero = m
          · subst e; rw [get_zero] at hk; omega
          · simp [coefAt, e] at h5; exact hm h5
      clear CT8 hs1 hs2 hz9 x0 x1 x2 x3
      go_upto_region 11 with (fail)
      have hE9 := he9.trans ((Ext.refl w9).alloc (.cells #[.bool b9, .slice a9 n9 p9] 25)).drew
      obtain ⟨W9, hW9⟩ : ∃ W9, W9 = w9.alloc (.cells #[.bool b9, .slice a9 n9 p9] 25) := ⟨_, rfl⟩
      rw [← hW9] at hE9
      rw [← hW9]
      have HE9 := Lib.hid (HE8.out.trans hE9)
      have HS9 := Lib.hid (HS8.out.ext hE9)
      have HYM9 := Lib.hid (HYM8.out.ext hE9)
      have HS1 : Hid (SS1 J w.heap.size ra ym x W9.drew) := ⟨HS9.out.1, HX.out.ext HE9.out⟩
      clear hE9 hW9 he9 HS8 HYM8 HE8 HE7
      obtain ⟨hra1, hra6⟩ : 1 ≤ ra ∧ ra ≤ 6 := by rw [HRA.out]; exact arel_range _ _
      refine wp_region_u (SS1 J w.heap.size ra ym x) 15 (by kernel_rfl) HS1.out (fun hHeld => ?_)
      generalize W9.drew = WE at *
      ((refine wpAnyU_takeT 0 (oi := ?_) (v := ?_) (by kernel_rfl) (by kernel_rfl) (by kernel_rfl) (by kernel_rfl) (by kernel_rfl) (by first | exact hSn | exact hHeld) ?_ ?_ ?_ ?_ ?_; rotate_left 2; (simp only [List.getElem?_toArray, List.getElem?_cons_succ, List.getElem?_cons_zero]; rfl); rfl; (intro wS hSw; obtain ⟨⟨A0, A1, A2, A3, A4, A5, A6⟩, B0, B1, B2, B3⟩ := hSw; go_simp; try with_reducible rfl); (exact fun _ _ _ h => h); (try simp only [Act.put, List.setIfInBounds_toArray, List.set_cons_zero, List.set_cons_succ])); (refine wpAnyU_takeT 1 (oi := ?_) (v := ?_) (by kernel_rfl) (by kernel_rfl) (by kernel_rfl) (by kernel_rfl) (by kernel_rfl) (by first | exact hSn | exact hHeld) ?_ ?_ ?_ ?_ ?_; rotate_left 2; (simp only [List.getElem?_toArray, List.getElem?_cons_succ, List.getElem?_cons_zero]; rfl); rfl; (intro wS hSw; obtain ⟨⟨A0, A1, A2, A3, A4, A5, A6⟩, B0, B1, B2, B3⟩ := hSw; go_simp; try with_reducible rfl); (exact fun _ _ _ h => h); (try simp only [Act.put, List.setIfInBounds_toArray, List.set_cons_zero, List.set_cons_succ])); (refine wpAnyU_takeT 2 (oi := ?_) (v := ?_) (by kernel_rfl) (by kernel_rfl) (by kernel_rfl) (by kernel_rfl) (by kernel_rfl) (by first | exact hSn | exact hHeld) ?_ ?_ ?_ ?_ ?_; rotate_left 2; (simp only [List.getElem?_toArray, List.getElem?_cons_succ, List.getElem?_cons_zero]; rfl); rfl; (intro wS hSw; obtain ⟨⟨A0, A1, A2, A3, A4, A5, A6⟩, B0, B1, B2, B3⟩ := hSw; go_simp; try with_reducible rfl); (exact fun _ _ _ h => h); (try simp only [Act.put, List.setIfInBounds_toArray, List.set_cons_zero, List.set_cons_succ])); (refine wpAnyU_takeT 3 (oi := ?_) (v := ?_) (by kernel_rfl) (by kernel_rfl) (by kernel_rfl) (by kernel_rfl) (by kernel_rfl) (by first | exact hSn | exact hHeld) ?_ ?_ ?_ ?_ ?_; rotate_left 2; (simp only [List.getElem?_toArray, List.getElem?_cons_succ, List.getElem?_cons_zero]; rfl); rfl; (intro wS hSw; obtain ⟨⟨A0, A1, A2, A3, A4, A5, A6⟩, B0, B1, B2, B3⟩ := hSw; go_simp; try with_reducible rfl); (exact fun _ _ _ h => h); (try simp only [Act.put, List.setIfInBounds_toArray, List.set_cons_zero, List.set_cons_succ])); (refine wpAnyU_takeT 4 (oi := ?_) (v := ?_) (by kernel_rfl) (by kernel_rfl) (by kernel_rfl) (by kernel_rfl) (by kernel_rfl) (by first | exact hSn | exact hHeld) ?_ ?_ ?_ ?_ ?_; rotate_left 2; (simp only [List.getElem?_toArray, List.getElem?_cons_succ, List.getElem?_cons_zero]; rfl); rfl; (intro wS hSw; obtain ⟨⟨A0, A1, A2, A3, A4, A5, A6⟩, B0, B1, B2, B3⟩ := hSw; go_simp; try with_reducible rfl); (exact fun _ _ _ h => h); (try simp only [Act.put, List.setIfInBounds_toArray, List.set_cons_zero, List.set_cons_succ])))
      ((refine wpAnyU_one 5 (o := ?_) (by kernel_rfl) ?_ ?_; rotate_left 1; (simp only [List.getElem?_toArray, List.getElem?_cons_succ, List.getElem?_cons_zero]; rfl); intro K hK); go_simp; (refine (rf_isSimple2 M0 ra ym (terms 6 t) 66 _ (mb0 _) HYM9.out hra1 hra6 (by have := HD5.out; omega) (deg_snorm HEXP.out) (by omega) (nonconst_snorm HNN.out HNC.out)).mono ?_); rintro e_ wz ⟨rfl, he1⟩; go_wp2_with (fail); (try clear hSn); (have hSn := hHeld.ext he1); (refine hK.out _ _ (fun _ => hSn) ?_); clear hK K; (try simp only [Act.put, List.setIfInBounds_toArray, List.set_cons_zero, List.set_cons_succ]))
      ((refine wpAnyU_takeT 6 (oi := ?_) (v := ?_) (by kernel_rfl) (by kernel_rfl) (by kernel_rfl) (by kernel_rfl) (by kernel_rfl) (by first | exact hSn | exact hHeld) ?_ ?_ ?_ ?_ ?_; rotate_left 2; (simp only [List.getElem?_toArray, List.getElem?_cons_succ, List.getElem?_cons_zero]; rfl); rfl; (intro wS hSw; obtain ⟨⟨A0, A1, A2, A3, A4, A5, A6⟩, B0, B1, B2, B3⟩ := hSw; go_simp; try with_reducible rfl); (exact fun _ _ _ h => h); (try simp only [Act.put, List.setIfInBounds_toArray, List.set_cons_zero, List.set_cons_succ])); (refine wpAnyU_takeT 7 (oi := ?_) (v := ?_) (by kernel_rfl) (by kernel_rfl) (by kernel_rfl) (by kernel_rfl) (by kernel_rfl) (by first | exact hSn | exact hHeld) ?_ ?_ ?_ ?_ ?_; rotate_left 2; (simp only [List.getElem?_toArray, List.getElem?_cons_succ, List.getElem?_cons_zero]; rfl); rfl; (intro wS hSw; obtain ⟨⟨A0, A1, A2, A3, A4, A5, A6⟩, B0, B1, B2, B3⟩ := hSw; go_simp; try with_reducible rfl); (exact fun _ _ _ h => h); (try simp only [Act.put, List.setIfInBounds_toArray, List.set_cons_zero, List.set_cons_succ])); (refine wpAnyU_takeT 8 (oi := ?_) (v := ?_) (by kernel_rfl) (by kernel_rfl) (by kernel_rfl) (by kernel_rfl) (by kernel_rfl) (by first | exact hSn | exact hHeld) ?_ ?_ ?_ ?_ ?_; rotate_left 2; (simp only [List.getElem?_toArray, List.getElem?_cons_succ, List.getElem?_cons_zero]; rfl); rfl; (intro wS hSw; obtain ⟨⟨A0, A1, A2, A3, A4, A5, A6⟩, B0, B1, B2, B3⟩ := hSw; go_simp; try with_reducible rfl); (exact fun _ _ _ h => h); (try simp only [Act.put, List.setIfInBounds_toArray, List.set_cons_zero, List.set_cons_succ])); (refine wpAnyU_takeT 9 (oi := ?_) (v := ?_) (by kernel_rfl) (by kernel_rfl) (by kernel_rfl) (by kernel_rfl) (by kernel_rfl) (by first | exact hSn | exact hHeld) ?_ ?_ ?_ ?_ ?_; rotate_left 2; (simp only [List.getElem?_toArray, List.getElem?_cons_succ, List.getElem?_cons_zero]; rfl); rfl; (intro wS hSw; obtain ⟨⟨A0, A1, A2, A3, A4, A5, A6⟩, B0, B1, B2, B3⟩ := hSw; go_simp; try with_reducible rfl); (exact fun _ _ _ h => h); (try simp only [Act.put, List.setIfInBounds_toArray, List.set_cons_zero, List.set_cons_succ])); (refine wpAnyU_takeT 10 (oi := ?_) (v := ?_) (by kernel_rfl) (by kernel_rfl) (by kernel_rfl) (by kernel_rfl) (by kernel_rfl) (by first | exact hSn | exact hHeld) ?_ ?_ ?_ ?_ ?_; rotate_left 2; (simp only [List.getElem?_toArray, List.getElem?_cons_succ, List.getElem?_cons_zero]; rfl); rfl; (intro wS hSw; obtain ⟨⟨A0, A1, A2, A3, A4, A5, A6⟩, B0, B1, B2, B3⟩ := hSw; go_simp; try with_reducible rfl); (exact fun _ _ _ h => h); (try simp only [Act.put, List.setIfInBounds_toArray, List.set_cons_zero, List.set_cons_succ])); (refine wpAnyU_takeT 11 (oi := ?_) (v := ?_) (by kernel_rfl) (by kernel_rfl) (by kernel_rfl) (by kernel_rfl) (by kernel_rfl) (by first | exact hSn | exact hHeld) ?_ ?_ ?_ ?_ ?_; rotate_left 2; (simp only [List.getElem?_toArray, List.getElem?_cons_succ, List.getElem?_cons_zero]; rfl); rfl; (intro wS hSw; obtain ⟨⟨A0, A1, A2, A3, A4, A5, A6⟩, B0, B1, B2, B3⟩ := hSw; go_simp; try with_reducible rfl); (exact fun _ _ _ h => h); (try simp only [Act.put, List.setIfInBounds_toArray, List.set_cons_zero, List.set_cons_succ])))
      ((refine wpAnyU_one 12 (o := ?_) (by kernel_rfl) ?_ ?_; rotate_left 1; (simp only [List.getElem?_toArray, List.getElem?_cons_succ, List.getElem?_cons_zero]; rfl); intro K hK); go_simp; (refine (mv_snorm M0 6 t x _ (mb0 _) (RR.ext HR.out (HE9.out.trans he1)) HT.out (by have := HD5.out; omega)).mono ?_); rintro e_ wz ⟨v, rfl, hv, he2⟩; go_wp2_with (fail); (try clear hSn); (have hSn := hHeld.ext (he1.trans he2)); (refine hK.out _ _ (fun _ => hSn) ?_); clear hK K; (try simp only [Act.put, List.setIfInBounds_toArray, List.set_cons_zero, List.set_cons_succ]))
      ((refine wpAnyU_one 13 (o := ?_) (by kernel_rfl) ?_ ?_; rotate_left 1; (simp only [List.getElem?_toArray, List.getElem?_cons_succ, List.getElem?_cons_zero]; rfl); intro K hK); go_simp; (refine (rf_samePoly 4 M0 _ ym v _ (HYM9.out.ext (he1.trans he2)) hv).mono ?_); rintro e_ wz ⟨rfl, he3⟩; go_wp2_with (fail); (try clear hSn); (have hSn := hHeld.ext ((he1.trans he2).trans he3)); (refine hK.out _ _ (fun _ => hSn) ?_); clear hK K; (try simp only [Act.put, List.setIfInBounds_toArray, List.set_cons_zero, List.set_cons_succ]))
      have HF := Lib.hid (HE9.out.trans ((he1.trans he2).trans he3))
      have HSR : Hid (SR2 J G ra (nrel rel) _) := (SR2.ext ⟨HS9.out.1.2.1, HS9.out.2.2.1⟩ ((he1.trans he2).trans he3))
      ((refine wpAnyU_takeT 14 (oi := ?_) (v := ?_) (by kernel_rfl) (by kernel_rfl) (by kernel_rfl) (by kernel_rfl) (by kernel_rfl) (by first | exact hSn | exact hHeld) ?_ ?_ ?_ ?_ ?_; rotate_left 2; (simp only [List.getElem?_toArray, List.getElem?_cons_succ, List.getElem?_cons_zero]; rfl); rfl; (intro wS hSw; obtain ⟨⟨A0, A1, A2, A3, A4, A5, A6⟩, B0, B1, B2, B3⟩ := hSw; go_simp; try with_reducible rfl); (exact fun _ _ _ h => h); (try simp only [Act.put, List.setIfInBounds_toArray, List.set_cons_zero, List.set_cons_succ])))
      clear hSn hHeld he1 he2 he3 hv HS1 HS9 HYM9 HE9
      ((refine wpAnyU_one 15 (o := ?_) (by kernel_rfl) ?_ ?_; rotate_left 1; (simp only [List.getElem?_toArray, List.getElem?_cons_succ, List.getElem?_cons_zero]; rfl); intro K hK); go_simp; (refine hK.out _ _ (fun h => absurd rfl h) ?_); clear hK K; refine wpAnyU_done (by kernel_rfl) ?_ _)
      obtain ⟨f, hf⟩ : ∃ f : Nat → Bool, f = fun k : Nat => perm ra ((k : Int) - 1) := ⟨_, rfl⟩
      obtain ⟨g, hg⟩ : ∃ g : Nat → Bool, g = fun k : Nat => perm (nrel rel) ((k : Int) - 1) := ⟨_, rfl⟩
      obtain ⟨g', hg'⟩ : ∃ g' : Nat → Bool, g' = fun k : Nat => perm (nrel rel) (-((k : Int) - 1)) := ⟨_, rfl⟩
      have HOR : Hid (eqF f g 3 = true ∨ eqF f g' 3 = true) := by
        have := eqF_or (hd (terms 6 t)) rel
        rw [← HRA.out, ← hf, ← hg, ← hg'] at this
        exact this
      have HA : Hid (∀ k : Nat, perm ra ((k : Int) - 1) = f k) := fun k => by rw [hf]
      have HB : Hid (∀ k : Nat, perm (nrel rel) ((k : Int) - 1) = g k) := fun k => by rw [hg]
      have HCC : Hid (∀ k : Nat, perm (nrel rel) (-((k : Int) - 1)) = g' k) := fun k => by rw [hg']
      have HFF := Lib.hid (HE.out.trans HF.out)
      rename_i wF
      clear hf hg hg' HRA HR HT HD5 HEXP HNN HC HX HQ HY HW HE HF hra1 hra6
      go_wp2
      go_loopw [12, 13, 14] (fun so op i wr => ∃ (k : Nat) (sb ob : Bool), k ≤ 3 ∧ so = .bool sb ∧ op = .bool ob ∧ i = .int .i64 ((k : Int) - 1) ∧ Hid (sb = eqF f g k) ∧ Hid (ob = eqF f g' k) ∧ Hid (SR2 J G ra (nrel rel) wr) ∧ Hid (Ext w wr)) (fun _ _ i _ => (2 - intOf i).toNat)
      case atStart => exact ⟨0, true, true, by omega, rfl, rfl, rfl, rfl, rfl, HSR, HFF⟩
      case round =>
        clear HSR HFF
        obtain ⟨k, sb, ob, hk, rfl, rfl, rfl, HSB, HOB, HSR, HFF⟩ := hrel
        by_cases hk3 : k < 3
        · have CA := Lib.hid (fun w => rf_permitsE ra ((k : Int) - 1) w)
          have CB := Lib.hid (fun w => rf_permitsE (nrel rel) ((k : Int) - 1) w)
          have CD := Lib.hid (fun w => rf_permitsE (nrel rel) (-((k : Int) - 1)) w)
          rw [HA.out k] at CA
          rw [HB.out k] at CB
          rw [HCC.out k] at CD
          have HS2 : Hid ((if sb then f k == g k else false) = eqF f g (k + 1)) := by show _ = _; rw [HSB.out]; rfl
          have HO2 : Hid ((if ob then f k == g' k else false) = eqF f g' (k + 1)) := by show _ = _; rw [HOB.out]; rfl
          have hki : (k : Int) - 1 ≤ 1 := by omega
          have kwn : IntKind.i64.wrap (-((k : Int) - 1)) = -((k : Int) - 1) := IntWalk.i64_in _ (by omega)
          generalize f k = pk at *
          generalize g k = qk at *
          generalize g' k = rk at *
          clear HA HB HCC HSB HOB HOR
          go_upto_region 17 with (fail)
          have HSd := Lib.hid (HSR.out.ext (Ext.refl _).drew)
          have HFd := Lib.hid (HFF.out.trans (Ext.refl _).drew)
          clear HSR HFF
          cases sb
          case' true =>
            refine wp_region_u (SR2 J G ra (nrel rel)) 12 (by kernel_rfl) HSd.out (fun hHeld => ?_)
            generalize wr.drew = wd at *
            ((refine wpAnyU_take 0 (oi := ?_) (v := ?_) (by kernel_rfl) (by kernel_rfl) (by kernel_rfl) (by kernel_rfl) (by first | exact hSn | exact hHeld) ?_ ?_ ?_ ?_ ?_; rotate_left 2; (simp only [List.getElem?_toArray, List.getElem?_cons_succ, List.getElem?_cons_zero]; rfl); rfl; (intro wS hSw; obtain ⟨S1, S2⟩ := hSw; go_simp; try with_reducible rfl); (exact fun _ _ _ h => h); (try simp only [Act.put, List.setIfInBounds_toArray, List.set_cons_zero, List.set_cons_succ])); (refine wpAnyU_take 1 (oi := ?_) (v := ?_) (by kernel_rfl) (by kernel_rfl) (by kernel_rfl) (by kernel_rfl) (by first | exact hSn | exact hHeld) ?_ ?_ ?_ ?_ ?_; rotate_left 2; (simp only [List.getElem?_toArray, List.getElem?_cons_succ, List.getElem?_cons_zero]; rfl); rfl; (intro wS hSw; obtain ⟨S1, S2⟩ := hSw; go_simp; try with_reducible rfl); (exact fun _ _ _ h => h); (try simp only [Act.put, List.setIfInBounds_toArray, List.set_cons_zero, List.set_cons_succ])); (refine wpAnyU_take 2 (oi := ?_) (v := ?_) (by kernel_rfl) (by kernel_rfl) (by kernel_rfl) (by kernel_rfl) (by first | exact hSn | exact hHeld) ?_ ?_ ?_ ?_ ?_; rotate_left 2; (simp only [List.getElem?_toArray, List.getElem?_cons_succ, List.getElem?_cons_zero]; rfl); rfl; (intro wS hSw; obtain ⟨S1, S2⟩ := hSw; go_simp; try with_reducible rfl); (exact fun _ _ _ h => h); (try simp only [Act.put, List.setIfInBounds_toArray, List.set_cons_zero, List.set_cons_succ])); (refine wpAnyU_take 3 (oi := ?_) (v := ?_) (by kernel_rfl) (by kernel_rfl) (by kernel_rfl) (by kernel_rfl) (by first | exact hSn | exact hHeld) ?_ ?_ ?_ ?_ ?_; rotate_left 2; (simp only [List.getElem?_toArray, List.getElem?_cons_succ, List.getElem?_cons_zero]; rfl); rfl; (intro wS hSw; obtain ⟨S1, S2⟩ := hSw; go_simp; try with_reducible rfl); (exact fun _ _ _ h => h); (try simp only [Act.put, List.setIfInBounds_toArray, List.set_cons_zero, List.set_cons_succ])); (refine wpAnyU_take 4 (oi := ?_) (v := ?_) (by kernel_rfl) (by kernel_rfl) (by kernel_rfl) (by kernel_rfl) (by first | exact hSn | exact hHeld) ?_ ?_ ?_ ?_ ?_; rotate_left 2; (simp only [List.getElem?_toArray, List.getElem?_cons_succ, List.getElem?_cons_zero]; rfl); rfl; (intro wS hSw; obtain ⟨S1, S2⟩ := hSw; go_simp; try with_reducible rfl); (exact fun _ _ _ h => h); (try simp only [Act.put, List.setIfInBounds_toArray, List.set_cons_zero, List.set_cons_succ])); (refine wpAnyU_take 6 (oi := ?_) (v := ?_) (by kernel_rfl) (by kernel_rfl) (by kernel_rfl) (by kernel_rfl) (by first | exact hSn | exact hHeld) ?_ ?_ ?_ ?_ ?_; rotate_left 2; (simp only [List.getElem?_toArray, List.getElem?_cons_succ, List.getElem?_cons_zero]; rfl); rfl; (intro wS hSw; obtain ⟨S1, S2⟩ := hSw; go_simp; try with_reducible rfl); (exact fun _ _ _ h => h); (try simp only [Act.put, List.setIfInBounds_toArray, List.set_cons_zero, List.set_cons_succ])); (refine wpAnyU_take 7 (oi := ?_) (v := ?_) (by kernel_rfl) (by kernel_rfl) (by kernel_rfl) (by kernel_rfl) (by first | exact hSn | exact hHeld) ?_ ?_ ?_ ?_ ?_; rotate_left 2; (simp only [List.getElem?_toArray, List.getElem?_cons_succ, List.getElem?_cons_zero]; rfl); rfl; (intro wS hSw; obtain ⟨S1, S2⟩ := hSw; go_simp; try with_reducible rfl); (exact fun _ _ _ h => h); (try simp only [Act.put, List.setIfInBounds_toArray, List.set_cons_zero, List.set_cons_succ])); (refine wpAnyU_take 8 (oi := ?_) (v := ?_) (by kernel_rfl) (by kernel_rfl) (by kernel_rfl) (by kernel_rfl) (by first | exact hSn | exact hHeld) ?_ ?_ ?_ ?_ ?_; rotate_left 2; (simp only [List.getElem?_toArray, List.getElem?_cons_succ, List.getElem?_cons_zero]; rfl); rfl; (intro wS hSw; obtain ⟨S1, S2⟩ := hSw; go_simp; try with_reducible rfl); (exact fun _ _ _ h => h); (try simp only [Act.put, List.setIfInBounds_toArray, List.set_cons_zero, List.set_cons_succ])))
            ((refine wpAnyU_one 5 (o := ?_) (by kernel_rfl) ?_ ?_; rotate_left 1; (simp only [List.getElem?_toArray, List.getElem?_cons_succ, List.getElem?_cons_zero]; rfl); intro K hK); go_simp; (refine (CA.out _).mono ?_); rintro e_ wz ⟨rfl, he1⟩; go_wp2_with (fail); (try clear hSn); (have hSn := hHeld.ext he1); (refine hK.out _ _ (fun _ => hSn) ?_); clear hK K; (try simp only [Act.put, List.setIfInBounds_toArray, List.set_cons_zero, List.set_cons_succ]))
            ((refine wpAnyU_one 9 (o := ?_) (by kernel_rfl) ?_ ?_; rotate_left 1; (simp only [List.getElem?_toArray, List.getElem?_cons_succ, List.getElem?_cons_zero]; rfl); intro K hK); go_simp; (refine (CB.out _).mono ?_); rintro e_ wz ⟨rfl, he2⟩; go_wp2_with (fail); (try clear hSn); (have hSn := hHeld.ext (he1.trans he2)); (refine hK.out _ _ (fun _ => hSn) ?_); clear hK K; (try simp only [Act.put, List.setIfInBounds_toArray, List.set_cons_zero, List.set_cons_succ]))
            have HSa := Lib.hid ((HSd.out.ext (he1.trans he2)).ext (Ext.refl _).drew)
            have HFa := Lib.hid ((HFd.out.trans (he1.trans he2)).trans (Ext.refl _).drew)
            ((refine wpAnyU_take 10 (oi := ?_) (v := ?_) (by kernel_rfl) (by kernel_rfl) (by kernel_rfl) (by kernel_rfl) (by first | exact hSn | exact hHeld) ?_ ?_ ?_ ?_ ?_; rotate_left 2; (simp only [List.getElem?_toArray, List.getElem?_cons_succ, List.getElem?_cons_zero]; rfl); rfl; (intro wS hSw; obtain ⟨S1, S2⟩ := hSw; go_simp; try with_reducible rfl); (exact fun _ _ _ h => h); (try simp only [Act.put, List.setIfInBounds_toArray, List.set_cons_zero, List.set_cons_succ])); (refine wpAnyU_take 11 (oi := ?_) (v := ?_) (by kernel_rfl) (by kernel_rfl) (by kernel_rfl) (by kernel_rfl) (by first | exact hSn | exact hHeld) ?_ ?_ ?_ ?_ ?_; rotate_left 2; (simp only [List.getElem?_toArray, List.getElem?_cons_succ, List.getElem?_cons_zero]; rfl); rfl; (intro wS hSw; obtain ⟨S1, S2⟩ := hSw; go_simp; try with_reducible rfl); (exact fun _ _ _ h => h); (try simp only [Act.put, List.setIfInBounds_toArray, List.set_cons_zero, List.set_cons_succ])))
            clear hSn hHeld he1 he2
            ((refine wpAnyU_one 12 (o := ?_) (by kernel_rfl) ?_ ?_; rotate_left 1; (simp only [List.getElem?_toArray, List.getElem?_cons_succ, List.getElem?_cons_zero]; rfl); intro K hK); go_simp; (refine hK.out _ _ (fun h => absurd rfl h) ?_); clear hK K; refine wpAnyU_done (by kernel_rfl) ?_ _)
          case' false =>
            refine wp_region_u (SR2 J G ra (nrel rel)) 12 (by kernel_rfl) HSd.out (fun hHeld => ?_)
            generalize wr.drew = wd at *
            ((refine wpAnyU_take 0 (oi := ?_) (v := ?_) (by kernel_rfl) (by kernel_rfl) (by kernel_rfl) (by kernel_rfl) (by first | exact hSn | exact hHeld) ?_ ?_ ?_ ?_ ?_; rotate_left 2; (simp only [List.getElem?_toArray, List.getElem?_cons_succ, List.getElem?_cons_zero]; rfl); rfl; (intro wS hSw; obtain ⟨S1, S2⟩ := hSw; go_simp; try with_reducible rfl); (exact fun _ _ _ h => h); (try simp only [Act.put, List.setIfInBounds_toArray, List.set_cons_zero, List.set_cons_succ])); (refine wpAnyU_take 1 (oi := ?_) (v := ?_) (by kernel_rfl) (by kernel_rfl) (by kernel_rfl) (by kernel_rfl) (by first | exact hSn | exact hHeld) ?_ ?_ ?_ ?_ ?_; rotate_left 2; (simp only [List.getElem?_toArray, List.getElem?_cons_succ, List.getElem?_cons_zero]; rfl); rfl; (intro wS hSw; obtain ⟨S1, S2⟩ := hSw; go_simp; try with_reducible rfl); (exact fun _ _ _ h => h); (try simp only [Act.put, List.setIfInBounds_toArray, List.set_cons_zero, List.set_cons_succ])))
            ((refine wpAnyU_skip 2 (oi := ?_) (by kernel_rfl) (by kernel_rfl) (by kernel_rfl) (by kernel_rfl) (by first | exact hSn | exact hHeld) ?_ ?_ ?_ ?_; rotate_left 1; (simp only [List.getElem?_toArray, List.getElem?_cons_succ, List.getElem?_cons_zero]; rfl); rfl; (exact fun _ _ _ h => h); (try simp only [Act.put, List.setIfInBounds_toArray, List.set_cons_zero, List.set_cons_succ])); (refine wpAnyU_skip 3 (oi := ?_) (by kernel_rfl) (by kernel_rfl) (by kernel_rfl) (by kernel_rfl) (by first | exact hSn | exact hHeld) ?_ ?_ ?_ ?_; rotate_left 1; (simp only [List.getElem?_toArray, List.getElem?_cons_succ, List.getElem?_cons_zero]; rfl); rfl; (exact fun _ _ _ h => h); (try simp only [Act.put, List.setIfInBounds_toArray, List.set_cons_zero, List.set_cons_succ])); (refine wpAnyU_skip 4 (oi := ?_) (by kernel_rfl) (by kernel_rfl) (by kernel_rfl) (by kernel_rfl) (by first | exact hSn | exact hHeld) ?_ ?_ ?_ ?_; rotate_left 1; (simp only [List.getElem?_toArray, List.getElem?_cons_succ, List.getElem?_cons_zero]; rfl); rfl; (exact fun _ _ _ h => h); (try simp only [Act.put, List.setIfInBounds_toArray, List.set_cons_zero, List.set_cons_succ])); (refine wpAnyU_skip 5 (oi := ?_) (by kernel_rfl) (by kernel_rfl) (by kernel_rfl) (by kernel_rfl) (by first | exact hSn | exact hHeld) ?_ ?_ ?_ ?_; rotate_left 1; (simp only [List.getElem?_toArray, List.getElem?_cons_succ, List.getElem?_cons_zero]; rfl); rfl; (exact fun _ _ _ h => h); (try simp only [Act.put, List.setIfInBounds_toArray, List.set_cons_zero, List.set_cons_succ])); (refine wpAnyU_skip 6 (oi := ?_) (by kernel_rfl) (by kernel_rfl) (by kernel_rfl) (by kernel_rfl) (by first | exact hSn | exact hHeld) ?_ ?_ ?_ ?_; rotate_left 1; (simp only [List.getElem?_toArray, List.getElem?_cons_succ, List.getElem?_cons_zero]; rfl); rfl; (exact fun _ _ _ h => h); (try simp only [Act.put, List.setIfInBounds_toArray, List.set_cons_zero, List.set_cons_succ])); (refine wpAnyU_skip 7 (oi := ?_) (by kernel_rfl) (by kernel_rfl) (by kernel_rfl) (by kernel_rfl) (by first | exact hSn | exact hHeld) ?_ ?_ ?_ ?_; rotate_left 1; (simp only [List.getElem?_toArray, List.getElem?_cons_succ, List.getElem?_cons_zero]; rfl); rfl; (exact fun _ _ _ h => h); (try simp only [Act.put, List.setIfInBounds_toArray, List.set_cons_zero, List.set_cons_succ])); (refine wpAnyU_skip 8 (oi := ?_) (by kernel_rfl) (by kernel_rfl) (by kernel_rfl) (by kernel_rfl) (by first | exact hSn | exact hHeld) ?_ ?_ ?_ ?_; rotate_left 1; (simp only [List.getElem?_toArray, List.getElem?_cons_succ, List.getElem?_cons_zero]; rfl); rfl; (exact fun _ _ _ h => h); (try simp only [Act.put, List.setIfInBounds_toArray, List.set_cons_zero, List.set_cons_succ])); (refine wpAnyU_skip 9 (oi := ?_) (by kernel_rfl) (by kernel_rfl) (by kernel_rfl) (by kernel_rfl) (by first | exact hSn | exact hHeld) ?_ ?_ ?_ ?_; rotate_left 1; (simp only [List.getElem?_toArray, List.getElem?_cons_succ, List.getElem?_cons_zero]; rfl); rfl; (exact fun _ _ _ h => h); (try simp only [Act.put, List.setIfInBounds_toArray, List.set_cons_zero, List.set_cons_succ])); (refine wpAnyU_skip 10 (oi := ?_) (by kernel_rfl) (by kernel_rfl) (by kernel_rfl) (by kernel_rfl) (by first | exact hSn | exact hHeld) ?_ ?_ ?_ ?_; rotate_left 1; (simp only [List.getElem?_toArray, List.getElem?_cons_succ, List.getElem?_cons_zero]; rfl); rfl; (exact fun _ _ _ h => h); (try simp only [Act.put, List.setIfInBounds_toArray, List.set_cons_zero, List.set_cons_succ])))
            have HSa := Lib.hid (HSd.out.ext (Ext.refl _).drew)
            have HFa := Lib.hid (HFd.out.trans (Ext.refl _).drew)
            ((refine wpAnyU_take 11 (oi := ?_) (v := ?_) (by kernel_rfl) (by kernel_rfl) (by kernel_rfl) (by kernel_rfl) (by first | exact hSn | exact hHeld) ?_ ?_ ?_ ?_ ?_; rotate_left 2; (simp only [List.getElem?_toArray, List.getElem?_cons_succ, List.getElem?_cons_zero]; rfl); rfl; (intro wS hSw; obtain ⟨S1, S2⟩ := hSw; go_simp; try with_reducible rfl); (exact fun _ _ _ h => h); (try simp only [Act.put, List.setIfInBounds_toArray, List.set_cons_zero, List.set_cons_succ])))
            clear hHeld
            ((refine wpAnyU_one 12 (o := ?_) (by kernel_rfl) ?_ ?_; rotate_left 1; (simp only [List.getElem?_toArray, List.getElem?_cons_succ, List.getElem?_cons_zero]; rfl); intro K hK); go_simp; (refine hK.out _ _ (fun h => absurd rfl h) ?_); clear hK K; refine wpAnyU_done (by kernel_rfl) ?_ _)
          all_goals
            go_upto_region 18 with (fail)
            clear HSd HFd CB
            rename_i wd2
            cases ob
            case' true =>
              refine wp_region_u (SR2 J G ra (nrel rel)) 13 (by kernel_rfl) HSa.out (fun hHeld => ?_)
              ((refine wpAnyU_take 0 (oi := ?_) (v := ?_) (by kernel_rfl) (by kernel_rfl) (by kernel_rfl) (by kernel_rfl) (by first | exact hSn | exact hHeld) ?_ ?_ ?_ ?_ ?_; rotate_left 2; (simp only [List.getElem?_toArray, List.getElem?_cons_succ, List.getElem?_cons_zero]; rfl); rfl; (intro wS hSw; obtain ⟨S1, S2⟩ := hSw; go_simp; try with_reducible rfl); (exact fun _ _ _ h => h); (try simp only [Act.put, List.setIfInBounds_toArray, List.set_cons_zero, List.set_cons_succ])); (refine wpAnyU_take 1 (oi := ?_) (v := ?_) (by kernel_rfl) (by kernel_rfl) (by kernel_rfl) (by kernel_rfl) (by first | exact hSn | exact hHeld) ?_ ?_ ?_ ?_ ?_; rotate_left 2; (simp only [List.getElem?_toArray, List.getElem?_cons_succ, List.getElem?_cons_zero]; rfl); rfl; (intro wS hSw; obtain ⟨S1, S2⟩ := hSw; go_simp; try with_reducible rfl); (exact fun _ _ _ h => h); (try simp only [Act.put, List.setIfInBounds_toArray, List.set_cons_zero, List.set_cons_succ])); (refine wpAnyU_take 2 (oi := ?_) (v := ?_) (by kernel_rfl) (by kernel_rfl) (by kernel_rfl) (by kernel_rfl) (by first | exact hSn | exact hHeld) ?_ ?_ ?_ ?_ ?_; rotate_left 2; (simp only [List.getElem?_toArray, List.getElem?_cons_succ, List.getElem?_cons_zero]; rfl); rfl; (intro wS hSw; obtain ⟨S1, S2⟩ := hSw; go_simp; try with_reducible rfl); (exact fun _ _ _ h => h); (try simp only [Act.put, List.setIfInBounds_toArray, List.set_cons_zero, List.set_cons_succ])); (refine wpAnyU_take 3 (oi := ?_) (v := ?_) (by kernel_rfl) (by kernel_rfl) (by kernel_rfl) (by kernel_rfl) (by first | exact hSn | exact hHeld) ?_ ?_ ?_ ?_ ?_; rotate_left 2; (simp only [List.getElem?_toArray, List.getElem?_cons_succ, List.getElem?_cons_zero]; rfl); rfl; (intro wS hSw; obtain ⟨S1, S2⟩ := hSw; go_simp; try with_reducible rfl); (exact fun _ _ _ h => h); (try simp only [Act.put, List.setIfInBounds_toArray, List.set_cons_zero, List.set_cons_succ])); (refine wpAnyU_take 4 (oi := ?_) (v := ?_) (by kernel_rfl) (by kernel_rfl) (by kernel_rfl) (by kernel_rfl) (by first | exact hSn | exact hHeld) ?_ ?_ ?_ ?_ ?_; rotate_left 2; (simp only [List.getElem?_toArray, List.getElem?_cons_succ, List.getElem?_cons_zero]; rfl); rfl; (intro wS hSw; obtain ⟨S1, S2⟩ := hSw; go_simp; try with_reducible rfl); (exact fun _ _ _ h => h); (try simp only [Act.put, List.setIfInBounds_toArray, List.set_cons_zero, List.set_cons_succ])); (refine wpAnyU_take 6 (oi := ?_) (v := ?_) (by kernel_rfl) (by kernel_rfl) (by kernel_rfl) (by kernel_rfl) (by first | exact hSn | exact hHeld) ?_ ?_ ?_ ?_ ?_; rotate_left 2; (simp only [List.getElem?_toArray, List.getElem?_cons_succ, List.getElem?_cons_zero]; rfl); rfl; (intro wS hSw; obtain ⟨S1, S2⟩ := hSw; go_simp; try with_reducible rfl); (exact fun _ _ _ h => h); (try simp only [Act.put, List.setIfInBounds_toArray, List.set_cons_zero, List.set_cons_succ])); (refine wpAnyU_take 7 (oi := ?_) (v := ?_) (by kernel_rfl) (by kernel_rfl) (by kernel_rfl) (by kernel_rfl) (by first | exact hSn | exact hHeld) ?_ ?_ ?_ ?_ ?_; rotate_left 2; (simp only [List.getElem?_toArray, List.getElem?_cons_succ, List.getElem?_cons_zero]; rfl); rfl; (intro wS hSw; obtain ⟨S1, S2⟩ := hSw; go_simp; try with_reducible rfl); (exact fun _ _ _ h => h); (try simp only [Act.put, List.setIfInBounds_toArray, List.set_cons_zero, List.set_cons_succ])); (refine wpAnyU_take 8 (oi := ?_) (v := ?_) (by kernel_rfl) (by kernel_rfl) (by kernel_rfl) (by kernel_rfl) (by first | exact hSn | exact hHeld) ?_ ?_ ?_ ?_ ?_; rotate_left 2; (simp only [List.getElem?_toArray, List.getElem?_cons_succ, List.getElem?_cons_zero]; rfl); rfl; (intro wS hSw; obtain ⟨S1, S2⟩ := hSw; go_simp; try with_reducible rfl); (exact fun _ _ _ h => h); (try simp only [Act.put, List.setIfInBounds_toArray, List.set_cons_zero, List.set_cons_succ])); (refine wpAnyU_take 9 (oi := ?_) (v := ?_) (by kernel_rfl) (by kernel_rfl) (by kernel_rfl) (by kernel_rfl) (by first | exact hSn | exact hHeld) ?_ ?_ ?_ ?_ ?_; rotate_left 2; (simp only [List.getElem?_toArray, List.getElem?_cons_succ, List.getElem?_cons_zero]; rfl); rfl; (intro wS hSw; obtain ⟨S1, S2⟩ := hSw; go_simp; try with_reducible rfl); (exact fun _ _ _ h => h); (try simp only [Act.put, List.setIfInBounds_toArray, List.set_cons_zero, List.set_cons_succ])))
              ((refine wpAnyU_one 5 (o := ?_) (by kernel_rfl) ?_ ?_; rotate_left 1; (simp only [List.getElem?_toArray, List.getElem?_cons_succ, List.getElem?_cons_zero]; rfl); intro K hK); go_simp; (refine (CA.out _).mono ?_); rintro e_ wz ⟨rfl, he1⟩; go_wp2_with (fail); (try clear hSn); (have hSn := hHeld.ext he1); (refine hK.out _ _ (fun _ => hSn) ?_); clear hK K; (try simp only [Act.put, List.setIfInBounds_toArray, List.set_cons_zero, List.set_cons_succ]))
              ((refine wpAnyU_one 10 (o := ?_) (by kernel_rfl) ?_ ?_; rotate_left 1; (simp only [List.getElem?_toArray, List.getElem?_cons_succ, List.getElem?_cons_zero]; rfl); intro K hK); go_simp; (refine (CD.out _).mono ?_); rintro e_ wz ⟨rfl, he2⟩; go_wp2_with (fail); (try clear hSn); (have hSn := hHeld.ext (he1.trans he2)); (refine hK.out _ _ (fun _ => hSn) ?_); clear hK K; (try simp only [Act.put, List.setIfInBounds_toArray, List.set_cons_zero, List.set_cons_succ]))
              have HSb := Lib.hid (HSa.out.ext (he1.trans he2))
              have HFb := Lib.hid (HFa.out.trans (he1.trans he2))
              ((refine wpAnyU_take 11 (oi := ?_) (v := ?_) (by kernel_rfl) (by kernel_rfl) (by kernel_rfl) (by kernel_rfl) (by first | exact hSn | exact hHeld) ?_ ?_ ?_ ?_ ?_; rotate_left 2; (simp only [List.getElem?_toArray, List.getElem?_cons_succ, List.getElem?_cons_zero]; rfl); rfl; (intro wS hSw; obtain ⟨S1, S2⟩ := hSw; go_simp; try with_reducible rfl); (exact fun _ _ _ h => h); (try simp only [Act.put, List.setIfInBounds_toArray, List.set_cons_zero, List.set_cons_succ])); (refine wpAnyU_take 12 (oi := ?_) (v := ?_) (by kernel_rfl) (by kernel_rfl) (by kernel_rfl) (by kernel_rfl) (by first | exact hSn | exact hHeld) ?_ ?_ ?_ ?_ ?_; rotate_left 2; (simp only [List.getElem?_toArray, List.getElem?_cons_succ, List.getElem?_cons_zero]; rfl); rfl; (intro wS hSw; obtain ⟨S1, S2⟩ := hSw; go_simp; try with_reducible rfl); (exact fun _ _ _ h => h); (try simp only [Act.put, List.setIfInBounds_toArray, List.set_cons_zero, List.set_cons_succ])))
              clear hSn hHeld he1 he2
              ((refine wpAnyU_one 13 (o := ?_) (by kernel_rfl) ?_ ?_; rotate_left 1; (simp only [List.getElem?_toArray, List.getElem?_cons_succ, List.getElem?_cons_zero]; rfl); intro K hK); go_simp; (refine hK.out _ _ (fun h => absurd rfl h) ?_); clear hK K; refine wpAnyU_done (by kernel_rfl) ?_ _)
            case' false =>
              refine wp_region_u (SR2 J G ra (nrel rel)) 13 (by kernel_rfl) HSa.out (fun hHeld => ?_)
              ((refine wpAnyU_take 0 (oi := ?_) (v := ?_) (by kernel_rfl) (by kernel_rfl) (by kernel_rfl) (by kernel_rfl) (by first | exact hSn | exact hHeld) ?_ ?_ ?_ ?_ ?_; rotate_left 2; (simp only [List.getElem?_toArray, List.getElem?_cons_succ, List.getElem?_cons_zero]; rfl); rfl; (intro wS hSw; obtain ⟨S1, S2⟩ := hSw; go_simp; try with_reducible rfl); (exact fun _ _ _ h => h); (try simp only [Act.put, List.setIfInBounds_toArray, List.set_cons_zero, List.set_cons_succ])); (refine wpAnyU_take 1 (oi := ?_) (v := ?_) (by kernel_rfl) (by kernel_rfl) (by kernel_rfl) (by kernel_rfl) (by first | exact hSn | exact hHeld) ?_ ?_ ?_ ?_ ?_; rotate_left 2; (simp only [List.getElem?_toArray, List.getElem?_cons_succ, List.getElem?_cons_zero]; rfl); rfl; (intro wS hSw; obtain ⟨S1, S2⟩ := hSw; go_simp; try with_reducible rfl); (exact fun _ _ _ h => h); (try simp only [Act.put, List.setIfInBounds_toArray, List.set_cons_zero, List.set_cons_succ])))
              ((refine wpAnyU_skip 2 (oi := ?_) (by kernel_rfl) (by kernel_rfl) (by kernel_rfl) (by kernel_rfl) (by first | exact hSn | exact hHeld) ?_ ?_ ?_ ?_; rotate_left 1; (simp only [List.getElem?_toArray, List.getElem?_cons_succ, List.getElem?_cons_zero]; rfl); rfl; (exact fun _ _ _ h => h); (try simp only [Act.put, List.setIfInBounds_toArray, List.set_cons_zero, List.set_cons_succ])); (refine wpAnyU_skip 3 (oi := ?_) (by kernel_rfl) (by kernel_rfl) (by kernel_rfl) (by kernel_rfl) (by first | exact hSn | exact hHeld) ?_ ?_ ?_ ?_; rotate_left 1; (simp only [List.getElem?_toArray, List.getElem?_cons_succ, List.getElem?_cons_zero]; rfl); rfl; (exact fun _ _ _ h => h); (try simp only [Act.put, List.setIfInBounds_toArray, List.set_cons_zero, List.set_cons_succ])); (refine wpAnyU_skip 4 (oi := ?_) (by kernel_rfl) (by kernel_rfl) (by kernel_rfl) (by kernel_rfl) (by first | exact hSn | exact hHeld) ?_ ?_ ?_ ?_; rotate_left 1; (simp only [List.getElem?_toArray, List.getElem?_cons_succ, List.getElem?_cons_zero]; rfl); rfl; (exact fun _ _ _ h => h); (try simp only [Act.put, List.setIfInBounds_toArray, List.set_cons_zero, List.set_cons_succ])); (refine wpAnyU_skip 5 (oi := ?_) (by kernel_rfl) (by kernel_rfl) (by kernel_rfl) (by kernel_rfl) (by first | exact hSn | exact hHeld) ?_ ?_ ?_ ?_; rotate_left 1; (simp only [List.getElem?_toArray, List.getElem?_cons_succ, List.getElem?_cons_zero]; rfl); rfl; (exact fun _ _ _ h => h); (try simp only [Act.put, List.setIfInBounds_toArray, List.set_cons_zero, List.set_cons_succ])); (refine wpAnyU_skip 6 (oi := ?_) (by kernel_rfl) (by kernel_rfl) (by kernel_rfl) (by kernel_rfl) (by first | exact hSn | exact hHeld) ?_ ?_ ?_ ?_; rotate_left 1; (simp only [List.getElem?_toArray, List.getElem?_cons_succ, List.getElem?_cons_zero]; rfl); rfl; (exact fun _ _ _ h => h); (try simp only [Act.put, List.setIfInBounds_toArray, List.set_cons_zero, List.set_cons_succ])); (refine wpAnyU_skip 7 (oi := ?_) (by kernel_rfl) (by kernel_rfl) (by kernel_rfl) (by kernel_rfl) (by first | exact hSn | exact hHeld) ?_ ?_ ?_ ?_; rotate_left 1; (simp only [List.getElem?_toArray, List.getElem?_cons_succ, List.getElem?_cons_zero]; rfl); rfl; (exact fun _ _ _ h => h); (try simp only [Act.put, List.setIfInBounds_toArray, List.set_cons_zero, List.set_cons_succ])); (refine wpAnyU_skip 8 (oi := ?_) (by kernel_rfl) (by kernel_rfl) (by kernel_rfl) (by kernel_rfl) (by first | exact hSn | exact hHeld) ?_ ?_ ?_ ?_; rotate_left 1; (simp only [List.getElem?_toArray, List.getElem?_cons_succ, List.getElem?_cons_zero]; rfl); rfl; (exact fun _ _ _ h => h); (try simp only [Act.put, List.setIfInBounds_toArray, List.set_cons_zero, List.set_cons_succ])); (refine wpAnyU_skip 9 (oi := ?_) (by kernel_rfl) (by kernel_rfl) (by kernel_rfl) (by kernel_rfl) (by first | exact hSn | exact hHeld) ?_ ?_ ?_ ?_; rotate_left 1; (simp only [List.getElem?_toArray, List.getElem?_cons_succ, List.getElem?_cons_zero]; rfl); rfl; (exact fun _ _ _ h => h); (try simp only [Act.put, List.setIfInBounds_toArray, List.set_cons_zero, List.set_cons_succ])); (refine wpAnyU_skip 10 (oi := ?_) (by kernel_rfl) (by kernel_rfl) (by kernel_rfl) (by kernel_rfl) (by first | exact hSn | exact hHeld) ?_ ?_ ?_ ?_; rotate_left 1; (simp only [List.getElem?_toArray, List.getElem?_cons_succ, List.getElem?_cons_zero]; rfl); rfl; (exact fun _ _ _ h => h); (try simp only [Act.put, List.setIfInBounds_toArray, List.set_cons_zero, List.set_cons_succ])); (refine wpAnyU_skip 11 (oi := ?_) (by kernel_rfl) (by kernel_rfl) (by kernel_rfl) (by kernel_rfl) (by first | exact hSn | exact hHeld) ?_ ?_ ?_ ?_; rotate_left 1; (simp only [List.getElem?_toArray, List.getElem?_cons_succ, List.getElem?_cons_zero]; rfl); rfl; (exact fun _ _ _ h => h); (try simp only [Act.put, List.setIfInBounds_toArray, List.set_cons_zero, List.set_cons_succ])))
              have HSb := Lib.hid HSa.out
              have HFb := Lib.hid HFa.out
              ((refine wpAnyU_take 12 (oi := ?_) (v := ?_) (by kernel_rfl) (by kernel_rfl) (by kernel_rfl) (by kernel_rfl) (by first | exact hSn | exact hHeld) ?_ ?_ ?_ ?_ ?_; rotate_left 2; (simp only [List.getElem?_toArray, List.getElem?_cons_succ, List.getElem?_cons_zero]; rfl); rfl; (intro wS hSw; obtain ⟨S1, S2⟩ := hSw; go_simp; try with_reducible rfl); (exact fun _ _ _ h => h); (try simp only [Act.put, List.setIfInBounds_toArray, List.set_cons_zero, List.set_cons_succ])))
              clear hHeld
              ((refine wpAnyU_one 13 (o := ?_) (by kernel_rfl) ?_ ?_; rotate_left 1; (simp only [List.getElem?_toArray, List.getElem?_cons_succ, List.getElem?_cons_zero]; rfl); intro K hK); go_simp; (refine hK.out _ _ (fun h => absurd rfl h) ?_); clear hK K; refine wpAnyU_done (by kernel_rfl) ?_ _)
            all_goals
              clear HSa HFa CA CD
              go_wp2
              go_roundw
              case rel => exact ⟨k + 1, _, _, by omega, rfl, rfl, by go_num, HS2, HO2, HSb, HFb⟩
              case measure => simp [intOf]; omega
        · obtain rfl : k = 3 := by omega
          have hor : sb = true ∨ ob = true := by rw [HSB.out, HOB.out]; exact HOR.out
          clear HSB HOB HA HB HCC HOR HSR
          cases sb <;> cases ob
          · simp at hor
          all_goals
            go_wp2
            exact bodyPost_ret (v := .bool true) (by simp [results, Tryz.results3, go_sem]) rfl ⟨rfl, HFF.out⟩
end Go.Proofs.YtiopnmlohpmmiaaGreat
