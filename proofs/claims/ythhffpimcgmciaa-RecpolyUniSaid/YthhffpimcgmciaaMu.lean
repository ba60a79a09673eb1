/- Powers of lists of terms; the bits of an exponent (plain). recpoly.Pow. sparse.Pow. sparse.isLevel, sparse.Var. The law RecpolyPower: arguments and the walk. The law RecpolyPower returns true at every input, without a panic, and leaves its arguments as they were; no conditions. -/
import Derived.Test.YthhffpimcgmciaaMt
import Derived.Laws.BitsLemmas
import Derived.Test.YthhffpimcgmciaaMi
set_option linter.unusedVariables false
set_option linter.unusedSimpArgs false

namespace Go.Proofs.Ythhffpimcgmciaa
open Go.RowKit

def ppow (l : List Tm) : Nat → List Tm
  | 0 => [(1, Mo.zero)]
  | n + 1 => pmul (ppow l n) l
theorem ppow_succ (l : List Tm) (n : Nat) : ppow l (n + 1) = pmul (ppow l n) l := rfl
theorem pmul_one (l : List Tm) : Sim (pmul l [(1, Mo.zero)]) l := by
  have h := pmul_single l (1, Mo.zero)
  rw [shift_zero] at h
  refine h.trans fun m => ?_
  rw [coefAt_smul]; simp
theorem ppow_add (l : List Tm) (a : Nat) : ∀ b : Nat, Sim (pmul (ppow l a) (ppow l b)) (ppow l (a + b))
  | 0 => pmul_one _
  | b + 1 => by
    have h := Sim.pmul_assoc (ppow l a) (ppow l b) l
    exact h.symm.trans ((ppow_add l a b).pmul_left l)
theorem ppow_sim {l r : List Tm} (h : Sim l r) : ∀ n : Nat, Sim (ppow l n) (ppow r n)
  | 0 => Sim.refl _
  | n + 1 => (ppow_sim h n).pmul h
theorem nrm_ppow (l : List Tm) : ∀ n : Nat, nrm (ppow l n) = nrm l ^ n
  | 0 => by simp [ppow, nrm]
  | n + 1 => by rw [ppow_succ, nrm_pmul, nrm_ppow l n, Nat.pow_succ]
theorem dlen_pow (x : Nat) : ∀ n : Nat, dlen (x ^ n) ≤ n * dlen x + 1
  | 0 => by rw [Nat.pow_zero]; exact Nat.le_trans ((dlen_le_iff 1 1).2 (by decide)) (by omega)
  | n + 1 => by
    rw [Nat.pow_succ]
    have h1 := dlen_mul (x ^ n) x
    have h2 := dlen_pow x n
    have h3 : (n + 1) * dlen x = n * dlen x + dlen x := Nat.succ_mul _ _
    omega
theorem dlen_ppow (l : List Tm) (n : Nat) : dlen (nrm (ppow l n)) ≤ n * dlen (nrm l) + 1 := by rw [nrm_ppow]; exact dlen_pow _ n
theorem nn_ppow {l : List Tm} (h : ∀ m : Mo, m.nn = false → coefAt l m = 0) : ∀ n : Nat, ∀ m : Mo, m.nn = false → coefAt (ppow l n) m = 0
  | 0 => fun m hm => by
    refine coefAt_zero fun s hs e => ?_
    rw [List.mem_singleton.1 hs] at e
    rw [← e] at hm; exact absurd hm (by decide)
  | n + 1 => nn_pmul (nn_ppow h n) h
theorem deg_ppow {l : List Tm} {B : Nat} (h : Deg B l) (hn : ∀ m : Mo, m.nn = false → coefAt l m = 0) : ∀ n : Nat, Deg (n * B) (ppow l n)
  | 0 => by rw [Nat.zero_mul]; exact deg_const 1
  | n + 1 => by
    rw [Nat.succ_mul]
    exact (deg_ppow h hn n).pmul h (nn_ppow hn n)
/-- the bits of an exponent -/
def Pw (b : Nat) : Prop := ∃ j, b = 2 ^ j
theorem pw_one : Pw 1 := ⟨0, rfl⟩
theorem pw_two {b : Nat} (h : Pw b) : Pw (b * 2) := by
  obtain ⟨j, rfl⟩ := h
  exact ⟨j + 1, by rw [Nat.pow_succ]⟩
theorem pw_pos {b : Nat} (h : Pw b) : 0 < b := by
  obtain ⟨j, rfl⟩ := h
  exact Nat.pow_pos (by decide)
theorem pw_half {b : Nat} (h : Pw b) : b = 1 ∨ (Pw (b / 2) ∧ b = b / 2 * 2) := by
  obtain ⟨j, rfl⟩ := h
  cases j with
  | zero => exact .inl rfl
  | succ j => rw [Nat.pow_succ, Nat.mul_div_cancel _ (by decide)]; exact .inr ⟨⟨j, rfl⟩, rfl⟩
theorem and_pw (n : Nat) {b : Nat} (h : Pw b) : (n &&& b = 0) ↔ (n / b) % 2 = 0 := by
  obtain ⟨j, rfl⟩ := h
  have ht : n.testBit j = decide (n / 2 ^ j % 2 = 1) := Nat.testBit_eq_decide_div_mod_eq
  constructor
  · intro h0
    have h1 : (n &&& 2 ^ j).testBit j = false := by rw [h0]; simp
    rw [Nat.testBit_and, Nat.testBit_two_pow_self, Bool.and_true, ht] at h1
    have h2 := of_decide_eq_false h1
    omega
  · intro h0
    refine Nat.eq_of_testBit_eq fun i => ?_
    rw [Nat.testBit_and, Nat.zero_testBit, Nat.testBit_two_pow]
    by_cases hij : j = i
    · subst hij
      rw [ht, decide_eq_false (by omega)]; rfl
    · simp [hij]
theorem bits_pw (n b : Nat) (hn : n < 4611686018427387904) (hb : b < 4611686018427387904) (h : Pw b) : (bits .and .i64 (n : Int) (b : Int) = 0) ↔ (n / b) % 2 = 0 := by
  rw [(bits_nat .i64 62 (by decide) (fun z h1 h2 => IntWalk.i64_in z (by omega)) n b (by omega) (by omega)).1, ← and_pw n h]
  omega
/-- a step of the power -/
theorem pow_step (n b : Nat) (hb : 0 < b) : n / b = (n / (b * 2)) + (n / (b * 2)) + (n / b) % 2 := by
  rw [← Nat.div_div_eq_div_mul]; omega
end Go.Proofs.Ythhffpimcgmciaa

namespace Go.Proofs.Ythhffpimcgmciaa
open Go.RowKit

/-- the places that Pow writes: its parameter and its result (s, s + 1), and the power (g) -/
abbrev MPw (M : Nat → Prop) (s g : Nat) : Nat → Prop := Mx (Mx M s (s + 2)) g (g + 1)
/-- Pow's variables: the polynomial y, the power r -/
structure PowS (M : Nat → Prop) (w : World) (g : Nat) (l r : List Tm) (y z : PE) (wr : World) : Prop where
  p : P4 wr w.heap.size y
  q : Blk wr (w.heap.size + 1) 31 4 (arr zA)
  b : Blk wr g 31 4 (arr (peA z))
  cy : CRx (MPw M w.heap.size g) wr 4 y l
  cz : CRx (MPw M w.heap.size g) wr 4 z r
  m : Mb (MPw M w.heap.size g) wr
  e : Ext w wr
  gs : w.heap.size + 2 ≤ g
section
variable {M : Nat → Prop} {w wr w' : World} {g : Nat} {l r r' : List Tm} {y z z' : PE}
theorem PowS.ext (h : PowS M w g l r y z wr) (he : Ext wr w') : PowS M w g l r y z w' :=
  ⟨h.p.ext he, h.q.ext he, h.b.ext he, h.cy.ext he, h.cz.ext he, h.m.ext he, h.e.trans he, h.gs⟩
theorem PowS.sim (h : PowS M w g l r y z wr) (hs : Sim r r') : PowS M w g l r' y z wr :=
  ⟨h.p, h.q, h.b, h.cy, CR.sim h.cz hs, h.m, h.e, h.gs⟩
theorem arr4 {f : Nat → Value} {z : PE} : ∀ i, i < 4 → upd4 f 0 (.int .i64 z.lv) (.bool z.b) (.slice z.a z.n z.p) (.slice z.ka z.kn z.kp) i = arr (peA z) i := by
  intro i hi
  have : i = 0 ∨ i = 1 ∨ i = 2 ∨ i = 3 := by omega
  rcases this with rfl | rfl | rfl | rfl
  · exact upd4_0 _ 0 _ _ _ _
  · exact upd4_1 _ 0 _ _ _ _
  · exact upd4_2 _ 0 _ _ _ _
  · exact upd4_3 _ 0 _ _ _ _
theorem P4.of_heap {b : Nat} {x : PE} (h : P4 wr b x) (he : w'.heap[b]? = wr.heap[b]?) : P4 w' b x := by
  have hc := fun o => World.cell?_of_block (w := wr) (w' := w') (a := ⟨b, o, none⟩) he
  obtain ⟨p0, p1, p2, p3⟩ := h
  exact ⟨(hc 0).trans p0, (hc 1).trans p1, (hc 2).trans p2, (hc 3).trans p3⟩
theorem PowS.put (h : PowS M w g l r y z wr) (hz : CRx (MPw M w.heap.size g) wr 4 z' r') : PowS M w g l r' y z' (set4 wr g 0 (.int .i64 z'.lv) (.bool z'.b) (.slice z'.a z'.n z'.p) (.slice z'.ka z'.kn z'.kp)) := by
  have hgs := h.gs
  have hM : MPw M w.heap.size g g := Mx.at ⟨Nat.le_refl _, Nat.lt_succ_self _⟩
  have hk : Kp (MPw M w.heap.size g) wr (set4 wr g 0 (.int .i64 z'.lv) (.bool z'.b) (.slice z'.a z'.n z'.p) (.slice z'.ka z'.kn z'.kp)) := Kp.set4 hM 0 _ _ _ _
  have h1 := heap_set4 wr g 0 (.int .i64 z'.lv) (.bool z'.b) (.slice z'.a z'.n z'.p) (.slice z'.ka z'.kn z'.kp) w.heap.size (by omega)
  have h2 := heap_set4 wr g 0 (.int .i64 z'.lv) (.bool z'.b) (.slice z'.a z'.n z'.p) (.slice z'.ka z'.kn z'.kp) (w.heap.size + 1) (by omega)
  have h3 := h.b.set4 0 (.int .i64 z'.lv) (.bool z'.b) (.slice z'.a z'.n z'.p) (.slice z'.ka z'.kn z'.kp)
  have h4 := h3.congr (f' := arr (peA z')) (fun i hi => arr4 i hi)
  have h5 := h.e.set4 (g := g) (by omega) 0 (.int .i64 z'.lv) (.bool z'.b) (.slice z'.a z'.n z'.p) (.slice z'.ka z'.kn z'.kp)
  have h6 := h.cy.kp hk
  have h7 := hz.kp hk
  have h8 := h.m.size hk.1
  generalize set4 wr g 0 (.int .i64 z'.lv) (.bool z'.b) (.slice z'.a z'.n z'.p) (.slice z'.ka z'.kn z'.kp) = W at *
  exact ⟨h.p.of_heap h1, h.q.of_heap h2, h4, h6, h7, h8, h5, hgs⟩
end
set_option maxRecDepth 100000 in
set_option maxHeartbeats 8000000 in
theorem rp_Pow (M : Nat → Prop) (x : PE) (l : List Tm) (B : Nat) (n : Int) (w : World) (hM : Mb M w) (h : PI M w x l) (hn : n ≤ 1000000) (hL : n.toNat * dlen (nrm l) + 2 ≤ 95) (hB : Deg B l) (hBC : (n.toNat * B + 1) * (n.toNat * B + 1) ≤ 1099511627776) :
    Calls Try.prog 38 #[.agg (peA x), .int .i64 n] w (RetX M w 4 (ppow l n.toNat)) := by
  obtain ⟨hE, hP, hQ, hM2⟩ := box1 hM x
  have hBx : Blk _ w.heap.size 31 4 (arr (peA x)) := (Blk.of_arr w (peA x) 31 4 rfl).alloc (.cells zA 31)
  have h2 := (h.more (M' := Mx M w.heap.size (w.heap.size + 2)) (Mx.more (Nat.le_refl _))).ext hE
  have HI := Lib.hid h2
  have HDB := Lib.hid hB
  have HL := Lib.hid hL
  have HBC := Lib.hid hBC
  obtain ⟨x0, x1, x2, x3⟩ := hP
  clear h h2 hB hL hBC
  go_enter Try.func38, Try.ntmps38
  go_wp2_with (fail)
  refine (rp_can _ x l _ hM2 HI.out).mono ?_
  rintro e w1 ⟨y, rfl, hy, he1⟩
  have hE1 := hE.trans he1
  have hB1 := hBx.ext he1
  have hQ1 := hQ.ext he1
  obtain ⟨⟨q0, q1, q2, q3⟩, ⟨f0, f1, f2, f3⟩, ⟨r0, r1, r2, r3⟩, hk, hf⟩ := fin4 (M' := Mx M w.heap.size (w.heap.size + 2)) (w := w) (.int .i64 y.lv) (.bool y.b) (.slice y.a y.n y.p) (.slice y.ka y.kn y.kp) hB1 (Mx.at (by omega)) (Nat.le_refl _) hE1
  have hP1 : P4 (set4 w1 w.heap.size 0 (.int .i64 y.lv) (.bool y.b) (.slice y.a y.n y.p) (.slice y.ka y.kn y.kp)) w.heap.size y := ⟨r0, r1, r2, r3⟩
  have hQ2 := hQ1.of_heap (heap_set4 w1 w.heap.size 0 (.int .i64 y.lv) (.bool y.b) (.slice y.a y.n y.p) (.slice y.ka y.kn y.kp) (w.heap.size + 1) (by omega))
  have hY1 := hy.kp hk
  have hM4 : Mb (Mx M w.heap.size (w.heap.size + 2)) (set4 w1 w.heap.size 0 (.int .i64 y.lv) (.bool y.b) (.slice y.a y.n y.p) (.slice y.ka y.kn y.kp)) := (hM2.ext he1).size hk.1
  have hlt1 := hB1.lt
  clear q0 q1 q2 q3
  obtain ⟨q0, q1, q2, q3⟩ := hB1.p4
  generalize hW : set4 w1 w.heap.size 0 (.int .i64 y.lv) (.bool y.b) (.slice y.a y.n y.p) (.slice y.ka y.kn y.kp) = W at hP1 hf hQ2 hY1 hM4
  unfold set4 at hW
  have HW := Lib.hid hW
  have HF4 := Lib.hid hf
  have HM := Lib.hid hM4
  have HQ := Lib.hid hQ2
  have HP := Lib.hid hP1
  have HY := Lib.hid hY1
  clear hBx hQ hM2 he1 hE hB1 hQ1 hy HI hk hf hM4 hQ2 hP1 hY1 hE1 hW r0 r1 r2 r3 x0 x1 x2 x3
  go_upto_region 2 with (fail)
  rw [HW.out]
  clear q0 q1 q2 q3 f0 f1 f2 f3 hlt1 HW
  go_wp2_with (fail)
  refine (int_of 1 W HM.out (by omega) (by omega)).mono ?_
  rintro e w2 ⟨d0, d1, rfl, hc, he2⟩
  obtain ⟨b2, a2, n2, p2, rfl, rfl⟩ := hc.form
  go_wp2_with (fail)
  refine (rp_Const _ b2 a2 n2 p2 1 w2 (HM.out.ext he2) hc.toV).mono ?_
  rintro e w3 ⟨c, rfl, hcc, he3⟩
  have he4 : Ext w3 (w3.alloc (.cells #[.int .i64 c.lv, .bool c.b, .slice c.a c.n c.p, .slice c.ka c.kn c.kp] 31)) := (Ext.refl w3).alloc _
  have hB4 := Blk.of_arr w3 (peA c) 31 4 rfl
  have hE4 := (he2.trans he3).trans he4
  have hsz3 := (HF4.out.trans (he2.trans he3)).size
  have hgs : w.heap.size + 2 ≤ w3.heap.size := Nat.le_trans (by have := HQ.out.lt; omega) (he2.trans he3).size
  have hmore : ∀ g, MPw M w.heap.size w3.heap.size g → Mx M w.heap.size (w.heap.size + 2) g ∨ w3.heap.size ≤ g := Mx.more (Nat.le_refl _)
  have hPS : PowS M w w3.heap.size l (ppow l 0) y c (w3.alloc (.cells #[.int .i64 c.lv, .bool c.b, .slice c.a c.n c.p, .slice c.ka c.kn c.kp] 31)) :=
    ⟨HP.out.ext hE4, HQ.out.ext hE4, hB4, (((HY.out.ext (he2.trans he3)).more hmore).ext he4), ((hcc.more hmore).ext he4).up (by omega), Mx.mb (HM.out.ext (he2.trans he3)) (by simp) (by simp), HF4.out.trans hE4, hgs⟩
  generalize hW4 : w3.alloc (.cells #[.int .i64 c.lv, .bool c.b, .slice c.a c.n c.p, .slice c.ka c.kn c.kp] 31) = W4 at hPS
  have HW4 := Lib.hid hW4
  have HPS := Lib.hid hPS
  clear he2 he3 he4 hc hcc hB4 hE4 hsz3 hmore hPS hW4 HY HQ HP HM HF4
  go_upto_region 3 with (fail)
  rw [HW4.out]
  by_cases hn0 : n ≤ 0
  · have hnt : n.toNat = 0 := by omega
    rw [hnt]
    obtain ⟨z0, z1, z2, z3⟩ := HPS.out.b.p4
    have hgl := HPS.out.b.lt
    go_wp2
    refine wp_loop_rounds 1 ?_
    rw [rounds_succ]
    go_wp2
    refine wp_loop_rounds 1 ?_
    rw [rounds_succ]
    go_wp2_with (fail)
    refine (rp_cpy _ 4 c (ppow l 0) _ HPS.out.m HPS.out.cz).mono ?_
    rintro e w5 ⟨v, rfl, hv, he5⟩
    obtain ⟨⟨q0, q1, q2, q3⟩, ⟨f0, f1, f2, f3⟩, ⟨r0, r1, r2, r3⟩, HF⟩ := retX (M := M) (w := w) (HPS.out.q.ext he5) (.inl (Mx.at (by omega))) (by omega) (HPS.out.e.trans he5) hv (fun g hg => .inl (.inl hg))
    clear he5 hv z0 z1 z2 z3 hgl
    go_wp2
    exact bodyPost_ret (v := .agg (peA v)) (by simp [results, Try.results38, go_sem, r0, r1, r2, r3]) rfl (by rw [hnt]; exact HF.out)
  · obtain ⟨N, rfl⟩ : ∃ N : Nat, n = N := ⟨n.toNat, by omega⟩
    rw [Int.toNat_natCast] at *
    have hN0 : 0 < N := by omega
    have hN1 : N ≤ 1000000 := by omega
    clear hn0 hn
    go_wp2
    go_loopw [6] (fun i wr => ∃ b : Nat, Pw b ∧ b ≤ N ∧ i = .int .i64 b ∧ Ext W4 wr) (fun i _ => 2000000 - (intOf i).toNat)
    case atStart => exact ⟨1, pw_one, hN0, rfl, Ext.refl _⟩
    case round =>
      obtain ⟨b, hb, hbN, rfl, her⟩ := hrel
      by_cases hle : b ≤ N / 2
      · go_wp2
        go_roundw
        case rel => exact ⟨b * 2, pw_two hb, by omega, by go_num, her⟩
        case measure => have := pw_pos hb; simp [intOf]; omega
      · have hNb : N / (b * 2) = 0 := Nat.div_eq_of_lt (by omega)
        have HPb : Hid (Pw b) := hb
        clear hb
        have HPS2 := Lib.hid (HPS.out.ext her)
        clear her
        go_wp2
        go_loopw [7] (fun i wr => ∃ (b e : Nat) (z : PE), ((b = 0 ∧ e = N) ∨ (Pw b ∧ b ≤ N ∧ e = N / (b * 2))) ∧ i = .int .i64 b ∧ PowS M w w3.heap.size l (ppow l e) y z wr) (fun i _ => (intOf i).toNat)
        case atStart => exact ⟨b, 0, c, .inr ⟨HPb.out, hbN, hNb.symm⟩, rfl, HPS2.out⟩
        case round =>
          obtain ⟨b, e, z, hbe, rfl, hS⟩ := hrel
          have HS := Lib.hid hS
          obtain ⟨z0, z1, z2, z3⟩ := hS.b.p4
          have hgl := hS.b.lt
          clear hS HPb HPS2 HPS hNb hle hbN
          rcases hbe with ⟨hb0, heN⟩ | ⟨hb, hbN, he⟩
          · subst hb0
            subst heN
            go_wp2_with (fail)
            refine (rp_cpy _ 4 z (ppow l e) _ HS.out.m HS.out.cz).mono ?_
            rintro e_ w5 ⟨v, rfl, hv, he5⟩
            obtain ⟨⟨q0, q1, q2, q3⟩, ⟨f0, f1, f2, f3⟩, ⟨r0, r1, r2, r3⟩, HF⟩ := retX (M := M) (w := w) (HS.out.q.ext he5) (.inl (Mx.at (by omega))) (by omega) (HS.out.e.trans he5) hv (fun g hg => .inl (.inl hg))
            clear he5 hv z0 z1 z2 z3 hgl
            go_wp2
            exact bodyPost_ret (v := .agg (peA v)) (by simp [results, Try.results38, go_sem, r0, r1, r2, r3]) rfl HF.out
          · have hbp := pw_pos hb
            have hst := pow_step N b hbp
            rw [← he] at hst
            have hNb1 : N / b ≤ N := Nat.div_le_self _ _
            have hee : e + e ≤ N := by omega
            have HPb := Lib.hid hb
            have HST := Lib.hid hst
            have nny := HS.out.cy.nn
            have HD : Hid (∀ a, Deg (a * B) (ppow l a)) := fun a => deg_ppow HDB.out nny a
            have HLe : Hid (∀ a b, a + b ≤ N → dlen (nrm (ppow l a)) + dlen (nrm (ppow l b)) ≤ 95) := fun a b hab => by
              have h1 := dlen_ppow l a
              have h2 := dlen_ppow l b
              have h3 := Nat.mul_le_mul_right (dlen (nrm l)) hab
              rw [Nat.add_mul] at h3
              have := HL.out
              omega
            have HBe : Hid (∀ a b, a + b ≤ N → (a * B + 1) * (b * B + 1) ≤ 1099511627776) := fun a b hab => Nat.le_trans (Nat.mul_le_mul (Nat.add_le_add_right (Nat.mul_le_mul_right B (by omega)) 1) (Nat.add_le_add_right (Nat.mul_le_mul_right B (by omega)) 1)) HBC.out
            clear hb hst nny
            go_wp2_with (fail)
            refine (rp_mulx _ 4 z z (ppow l e) (ppow l e) (e * B) (e * B) _ HS.out.m HS.out.cz HS.out.cz (HLe.out e e hee) (HD.out e) (HD.out e) (HBe.out e e hee)).mono ?_
            rintro e_ w5 ⟨v, rfl, hv, he5⟩
            have hS5 := ((HS.out.ext he5).put hv).sim (ppow_add l e e)
            clear z0 z1 z2 z3
            obtain ⟨z0, z1, z2, z3⟩ := (HS.out.b.ext he5).p4
            have g0 := (HS.out.b.ext he5).frozen 0
            have g1 := (HS.out.b.ext he5).frozen 1
            have g2 := (HS.out.b.ext he5).frozen 2
            have g3 := (HS.out.b.ext he5).frozen 3
            have hgl5 := (HS.out.b.ext he5).lt
            generalize hW5 : set4 w5 w3.heap.size 0 (.int .i64 v.lv) (.bool v.b) (.slice v.a v.n v.p) (.slice v.ka v.kn v.kp) = W5 at hS5
            unfold set4 at hW5
            have HW5 := Lib.hid hW5
            have HS5 := Lib.hid hS5
            clear hW5 hS5 hv he5 HS
            go_upto_region 10 with (fail)
            rw [HW5.out]
            clear z0 z1 z2 z3 g0 g1 g2 g3 hgl5 hgl
            obtain ⟨z0, z1, z2, z3⟩ := HS5.out.b.p4
            obtain ⟨y0, y1, y2, y3⟩ := HS5.out.p
            have hgl := HS5.out.b.lt
            have hyl := World.block_lt_of_cell? _ _ y0
            by_cases hbit : N / b % 2 = 0
            · have hz : (bits .and .i64 (N : Int) (b : Int) == 0) = true := by rw [beq_iff_eq]; exact (bits_pw N b (by omega) (by omega) HPb.out).2 hbit
              clear z0 z1 z2 z3 y0 y1 y2 y3
              go_wp2
              go_roundw
              case rel =>
                refine ⟨b / 2, e + e, v, ?_, by go_num, HS5.out⟩
                rcases pw_half HPb.out with h1 | ⟨h1, h2⟩
                · exact .inl ⟨by omega, by have := HST.out; rw [h1] at this hbit; omega⟩
                · exact .inr ⟨h1, by omega, by rw [← h2]; have := HST.out; omega⟩
              case measure => simp [intOf]; omega
            · have hz : (bits .and .i64 (N : Int) (b : Int) == 0) = false := by rw [beq_eq_false_iff_ne]; exact fun h => hbit ((bits_pw N b (by omega) (by omega) HPb.out).1 h)
              have he1 : e + e + 1 ≤ N := by have := HST.out; omega
              have HL1 : Hid (dlen (nrm (ppow l (e + e))) + dlen (nrm l) ≤ 95) := by
                show _ ≤ _
                have h1 := dlen_ppow l (e + e)
                have h3 := Nat.mul_le_mul_right (dlen (nrm l)) he1
                rw [Nat.add_mul, Nat.one_mul] at h3
                have := HL.out
                omega
              have HB1 : Hid (((e + e) * B + 1) * (B + 1) ≤ 1099511627776) := by
                have h := HBe.out (e + e) 1 he1
                rwa [Nat.one_mul] at h
              go_wp2_with (fail)
              refine (rp_mulx _ 4 v y (ppow l (e + e)) l ((e + e) * B) B _ HS5.out.m HS5.out.cz HS5.out.cy HL1.out (HD.out _) HDB.out HB1.out).mono ?_
              rintro e_ w6 ⟨u, rfl, hu, he6⟩
              have hS6 : PowS M w w3.heap.size l (ppow l (e + e + 1)) y u _ := (HS5.out.ext he6).put hu
              clear z0 z1 z2 z3 y0 y1 y2 y3
              obtain ⟨z0, z1, z2, z3⟩ := (HS5.out.b.ext he6).p4
              have g0 := (HS5.out.b.ext he6).frozen 0
              have g1 := (HS5.out.b.ext he6).frozen 1
              have g2 := (HS5.out.b.ext he6).frozen 2
              have g3 := (HS5.out.b.ext he6).frozen 3
              have hgl6 := (HS5.out.b.ext he6).lt
              generalize hW6 : set4 w6 w3.heap.size 0 (.int .i64 u.lv) (.bool u.b) (.slice u.a u.n u.p) (.slice u.ka u.kn u.kp) = W6 at hS6
              unfold set4 at hW6
              have HW6 := Lib.hid hW6
              have HS6 := Lib.hid hS6
              clear hW6 hS6 hu he6 HS5 hyl hgl
              go_upto_region 8 with (fail)
              rw [HW6.out]
              clear z0 z1 z2 z3 g0 g1 g2 g3 hgl6
              go_wp2
              go_roundw
              case rel =>
                refine ⟨b / 2, e + e + 1, u, ?_, by go_num, HS6.out⟩
                rcases pw_half HPb.out with h1 | ⟨h1, h2⟩
                · exact .inl ⟨by omega, by have := HST.out; rw [h1] at this hbit; omega⟩
                · exact .inr ⟨h1, by omega, by rw [← h2]; have := HST.out; omega⟩
              case measure => simp [intOf]; omega
end Go.Proofs.Ythhffpimcgmciaa

namespace Go.Proofs.Ythhffpimcgmciaa
open Go.RowKit

theorem mem_pmul {l r : List Tm} {t : Tm} (h : t ∈ pmul l r) : ∃ a ∈ l, ∃ b ∈ r, t.2 = Mo.add a.2 b.2 := by
  induction l with
  | nil => cases h
  | cons s l ih =>
    simp only [pmul, List.mem_append] at h
    rcases h with h | h
    · simp only [shift, smul, List.mem_map] at h
      obtain ⟨u, ⟨v, hv, rfl⟩, rfl⟩ := h
      exact ⟨s, List.mem_cons_self .., v, hv, Mo.add_comm' _ _⟩
    · obtain ⟨a, ha, b, hb, e⟩ := ih h
      exact ⟨a, List.mem_cons_of_mem _ ha, b, hb, e⟩
/-- a list of terms that stands for the power e of l -/
structure SPw (l : List Tm) (K B e : Nat) (r : List Tm) : Prop where
  s : Sim r (ppow l e)
  n : nrm r ≤ nrm (ppow l e)
  c : Canon r
  len : r.length ≤ K ^ e
  ex : ∀ t ∈ r, ∀ k, t.2.get k ≤ (e * B : Nat)
theorem SPw.zero (l : List Tm) (K B : Nat) : SPw l K B 0 (constL 1) :=
  ⟨Sim.refl _, Nat.le_refl _, ⟨List.pairwise_singleton .., fun t ht => by rw [List.mem_singleton.1 ht]; exact ⟨by decide, by decide⟩⟩, Nat.le_refl _, fun t ht k => by rw [List.mem_singleton.1 ht]; simp [get_zero]⟩
theorem SPw.one {l : List Tm} {K B : Nat} (hl : l.length ≤ K) (hc : Canon l) (he : ∀ t ∈ l, ∀ k, t.2.get k ≤ (B : Nat)) : SPw l K B 1 l := by
  refine ⟨?_, ?_, hc, by rw [Nat.pow_one]; exact hl, fun t ht k => by rw [Nat.one_mul]; exact he t ht k⟩
  · exact ((Sim.pmul_comm _ _).trans (pmul_one l)).symm
  · rw [nrm_ppow, Nat.pow_one]; exact Nat.le_refl _
theorem SPw.mul {l r q : List Tm} {K B a b : Nat} (h : SPw l K B a r) (k : SPw l K B b q) : SPw l K B (a + b) (norm (pmul (norm r) (norm q))) := by
  rw [norm_of_canon h.c, norm_of_canon k.c]
  have hnn : ∀ s ∈ pmul r q, s.2.nn = true := by
    intro s hs
    obtain ⟨x, hx, y, hy, e⟩ := mem_pmul hs
    have h1 := (Mo.nn_iff _).1 (h.c.2 x hx).2
    have h2 := (Mo.nn_iff _).1 (k.c.2 y hy).2
    rw [e, Mo.nn_iff]
    simp only [Mo.add]
    omega
  refine ⟨(sim_norm hnn).trans ((h.s.pmul k.s).trans (ppow_add l a b)), ?_, norm_canon _, ?_, ?_⟩
  · refine Nat.le_trans (norm_nrm _) ?_
    have h1 := Nat.mul_le_mul h.n k.n
    rw [nrm_ppow, nrm_ppow, ← Nat.pow_add] at h1
    rw [nrm_pmul, nrm_ppow]; exact h1
  · refine Nat.le_trans (norm_length _) ?_
    rw [pmul_length, Nat.pow_add]; exact Nat.mul_le_mul h.len k.len
  · intro t ht j
    obtain ⟨s, hs, e⟩ := norm_mem ht
    obtain ⟨x, hx, y, hy, e'⟩ := mem_pmul hs
    have h1 := h.ex x hx j
    have h2 := k.ex y hy j
    rw [← e, e', get_add, Nat.add_mul]
    omega
set_option maxRecDepth 100000 in
set_option maxHeartbeats 8000000 in
theorem sp_Pow (M : Nat → Prop) (v : Value) (l : List Tm) (K B : Nat) (n : Int) (w : World) (hM : Mb M w) (hP : PolyV M w v l) (hn : n ≤ 1000000) (hD : dlen (nrm l) ≤ 1099511627776) (hL : n.toNat * dlen (nrm (norm l)) + 2 ≤ 95) (hK : l.length ≤ K) (hK1 : 1 ≤ K) (hKN : K ^ n.toNat ≤ 1099511627776) (hB : ∀ t ∈ l, ∀ k, t.2.get k ≤ (B : Nat)) (hBN : n.toNat * B ≤ 1073741824) :
    Calls Try.prog 39 #[v, .int .i64 n] w fun e w' => ∃ u r, e = .returned u ∧ PolyV M w' u r ∧ SPw (norm l) K B n.toNat r ∧ Ext w w' := by
  obtain ⟨va, vc, rfl⟩ := hP.form
  have HP := Lib.hid hP
  have HL := Lib.hid hL
  have HKN := Lib.hid hKN
  have HB1 : Hid (SPw (norm l) K B 1 (norm l)) := SPw.one (Nat.le_trans (norm_length l) hK) (norm_canon l) (fun t ht k => by
    obtain ⟨s, hs, e⟩ := norm_mem ht
    rw [← e]; exact hB s hs k)
  have HBN := Lib.hid hBN
  clear hP hL hKN hK hB hBN
  go_enter Try.func39, Try.ntmps39
  go_wp2_with (fail)
  refine (int_of 1 w hM (by omega) (by omega)).mono ?_
  rintro e w1 ⟨d0, d1, rfl, hc, he1⟩
  obtain ⟨b2, a2, n2, p2, rfl, rfl⟩ := hc.form
  go_wp2_with (fail)
  refine (sp_const M b2 a2 n2 p2 1 w1 (hM.ext he1) hc.toV).mono ?_
  rintro e w2 ⟨c, rfl, hcc, he2⟩
  obtain ⟨ca, cc, rfl⟩ := hcc.form
  have he12 := he1.trans he2
  have HC := Lib.hid hcc
  clear hc hcc
  go_wp2_with (fail)
  refine (sp_normal M _ l w2 (hM.ext he12) (HP.out.ext he12) hD).mono ?_
  rintro e w3 ⟨y, rfl, hy, he3⟩
  obtain ⟨ya, yc, rfl⟩ := hy.toV.form
  have HC3 := Lib.hid (HC.out.ext he3)
  have HY3 := Lib.hid hy.toV
  have he13 := he12.trans he3
  clear hy HC he1 he2 he12 he3
  by_cases hn0 : n ≤ 0
  · have hnt : n.toNat = 0 := by omega
    go_wp2
    refine wp_loop_rounds 1 ?_
    rw [rounds_succ]
    go_wp2
    refine wp_loop_rounds 1 ?_
    rw [rounds_succ]
    go_wp2
    go_ret
    exact ⟨_, rfl, constL 1, HC3.out, SPw.zero _ _ _, he13⟩
  · obtain ⟨N, rfl⟩ : ∃ N : Nat, n = N := ⟨n.toNat, by omega⟩
    rw [Int.toNat_natCast] at *
    have hN0 : 0 < N := by omega
    have hN1 : N ≤ 1000000 := by omega
    clear hn0 hn
    go_wp2
    go_loopw [6] (fun i wr => ∃ b : Nat, Pw b ∧ b ≤ N ∧ i = .int .i64 b ∧ Ext w3 wr) (fun i _ => 2000000 - (intOf i).toNat)
    case atStart => exact ⟨1, pw_one, hN0, rfl, Ext.refl _⟩
    case round =>
      obtain ⟨b, hb, hbN, rfl, her⟩ := hrel
      by_cases hle : b ≤ N / 2
      · go_wp2
        go_roundw
        case rel => exact ⟨b * 2, pw_two hb, by omega, by go_num, her⟩
        case measure => have := pw_pos hb; simp [intOf]; omega
      · have hNb : N / (b * 2) = 0 := Nat.div_eq_of_lt (by omega)
        have HPb : Hid (Pw b) := hb
        clear hb
        go_wp2
        go_loopw [5, 7] (fun v i wr => ∃ (b e : Nat) (r : List Tm), ((b = 0 ∧ e = N) ∨ (Pw b ∧ b ≤ N ∧ e = N / (b * 2))) ∧ i = .int .i64 b ∧ SPw (norm l) K B e r ∧ PolyV M wr v r ∧ Ext w3 wr) (fun _ i _ => (intOf i).toNat)
        case atStart => exact ⟨b, 0, _, .inr ⟨HPb.out, hbN, hNb.symm⟩, rfl, SPw.zero _ _ _, HC3.out.ext her, her⟩
        case round =>
          obtain ⟨b, e, r, hbe, rfl, hSr, hV, her2⟩ := hrel
          obtain ⟨ra, rc, rfl⟩ := hV.form
          have HS := Lib.hid hSr
          have HV := Lib.hid hV
          clear hSr hV HPb hNb hle hbN
          rcases hbe with ⟨hb0, heN⟩ | ⟨hb, hbN, he⟩
          · subst hb0
            subst heN
            go_wp2
            go_ret
            exact ⟨_, _, rfl, HV.out, HS.out, he13.trans her2⟩
          · have hbp := pw_pos hb
            have hst := pow_step N b hbp
            rw [← he] at hst
            have hNb1 : N / b ≤ N := Nat.div_le_self _ _
            have hee : e + e ≤ N := by omega
            have HPb := Lib.hid hb
            have HST := Lib.hid hst
            have HLe : Hid (∀ a b r q, SPw (norm l) K B a r → SPw (norm l) K B b q → a + b ≤ N → dlen (nrm r) + dlen (nrm q) ≤ 95) := fun a b r q hr hq hab => by
              have h1 := Nat.le_trans (dlen_mono hr.n) (dlen_ppow (norm l) a)
              have h2 := Nat.le_trans (dlen_mono hq.n) (dlen_ppow (norm l) b)
              have h3 := Nat.mul_le_mul_right (dlen (nrm (norm l))) hab
              rw [Nat.add_mul] at h3
              have := HL.out
              omega
            have HKe : Hid (∀ a b r q, SPw (norm l) K B a r → SPw (norm l) K B b q → a + b ≤ N → r.length * q.length ≤ 1099511627776) := fun a b r q hr hq hab => by
              have h1 := Nat.mul_le_mul hr.len hq.len
              rw [← Nat.pow_add] at h1
              exact Nat.le_trans (Nat.le_trans h1 (Nat.pow_le_pow_right hK1 hab)) HKN.out
            have HEe : Hid (∀ a r, SPw (norm l) K B a r → a ≤ N → ∀ t ∈ r, ∀ k, t.2.get k ≤ 1073741824) := fun a r hr ha t ht k => by
              have h1 := hr.ex t ht k
              have h2 := Nat.mul_le_mul_right B ha
              have := HBN.out
              omega
            clear hb hst
            go_wp2_with (fail)
            refine (sp_mul M _ _ r r _ (hM.ext (he13.trans her2)) HV.out HV.out (HKe.out e e r r HS.out HS.out hee) (HLe.out e e r r HS.out HS.out hee) (HEe.out e r HS.out (by omega)) (HEe.out e r HS.out (by omega))).mono ?_
            rintro e_ w5 ⟨u, rfl, hu, he5⟩
            obtain ⟨ua, uc, rfl⟩ := hu.toV.form
            have HU := Lib.hid hu.toV
            have HS5 := Lib.hid (HS.out.mul HS.out)
            have her5 := her2.trans he5
            clear hu he5 her2
            generalize norm (pmul (norm r) (norm r)) = r2 at *
            by_cases hbit : N / b % 2 = 0
            · have hz : (bits .and .i64 (N : Int) (b : Int) == 0) = true := by rw [beq_iff_eq]; exact (bits_pw N b (by omega) (by omega) HPb.out).2 hbit
              go_wp2
              go_roundw
              case rel =>
                refine ⟨b / 2, e + e, r2, ?_, by go_num, HS5.out, HU.out, her5⟩
                rcases pw_half HPb.out with h1 | ⟨h1, h2⟩
                · exact .inl ⟨by omega, by have := HST.out; rw [h1] at this hbit; omega⟩
                · exact .inr ⟨h1, by omega, by rw [← h2]; have := HST.out; omega⟩
              case measure => simp [intOf]; omega
            · have hz : (bits .and .i64 (N : Int) (b : Int) == 0) = false := by rw [beq_eq_false_iff_ne]; exact fun h => hbit ((bits_pw N b (by omega) (by omega) HPb.out).1 h)
              have he1 : e + e + 1 ≤ N := by have := HST.out; omega
              go_wp2_with (fail)
              refine (sp_mul M _ _ r2 (norm l) _ (hM.ext (he13.trans her5)) HU.out (HY3.out.ext her5) (HKe.out _ 1 r2 _ HS5.out HB1.out he1) (HLe.out _ 1 r2 _ HS5.out HB1.out he1) (HEe.out _ r2 HS5.out (by omega)) (HEe.out 1 _ HB1.out (by omega))).mono ?_
              rintro e_ w6 ⟨u6, rfl, hu6, he6⟩
              obtain ⟨ua6, uc6, rfl⟩ := hu6.toV.form
              have HU6 := Lib.hid hu6.toV
              have HS6 := Lib.hid (HS5.out.mul HB1.out)
              have her6 := her5.trans he6
              clear hu6 he6 her5
              generalize norm (pmul (norm r2) (norm (norm l))) = r3 at *
              go_wp2
              go_roundw
              case rel =>
                refine ⟨b / 2, e + e + 1, r3, ?_, by go_num, HS6.out, HU6.out, her6⟩
                rcases pw_half HPb.out with h1 | ⟨h1, h2⟩
                · exact .inl ⟨by omega, by have := HST.out; rw [h1] at this hbit; omega⟩
                · exact .inr ⟨h1, by omega, by rw [← h2]; have := HST.out; omega⟩
              case measure => simp [intOf]; omega
end Go.Proofs.Ythhffpimcgmciaa

namespace Go.Proofs.Ythhffpimcgmciaa
open Go.RowKit

theorem sp_isLevel (l : Int) (w : World) : Calls Try.prog 76 #[.int .i64 l] w fun e w' => e = .returned (.bool (isLevB l)) ∧ w = w' := by
  by_cases h1 : 1 ≤ l
  · by_cases h2 : l ≤ 4
    · have H : Hid (isLevB l = true) := by show _ = _; unfold isLevB; simp [h1, h2]
      go_enter Try.func76, Try.ntmps76
      go_wp2
      go_ret
      exact ⟨by rw [H.out]; rfl, rfl⟩
    · have H : Hid (isLevB l = false) := by show _ = _; unfold isLevB; simp [h2]
      go_enter Try.func76, Try.ntmps76
      go_wp2
      go_ret
      exact ⟨by rw [H.out]; rfl, rfl⟩
  · have H : Hid (isLevB l = false) := by show _ = _; unfold isLevB; simp [h1]
    go_enter Try.func76, Try.ntmps76
    go_wp2
    go_ret
    exact ⟨by rw [H.out]; rfl, rfl⟩
/-- the four cells of a monomial -/
def SVm (b : Nat) (m : Mo) (w : World) : Prop := w.cell? ⟨b, 0, none⟩ = some (.int .i64 m.a) ∧ w.cell? ⟨b, 1, none⟩ = some (.int .i64 m.b) ∧ w.cell? ⟨b, 2, none⟩ = some (.int .i64 m.c) ∧ w.cell? ⟨b, 3, none⟩ = some (.int .i64 m.d)
theorem SVm.ext {b : Nat} {m : Mo} {w w' : World} (h : SVm b m w) (he : Ext w w') : SVm b m w' := by
  have h1 := World.block_lt_of_cell? _ _ h.1
  unfold SVm; rw [he.cell h1, he.cell h1, he.cell h1, he.cell h1]; exact h
/-- a row of one term -/
theorem one_row {M : Nat → Prop} {w : World} {b : Bool} {a : Option Addr} {n p : Nat} {c : Int} {m : Mo} (hM : Mb M w) (hc : IntV M w (.bool b) (.slice a n p) c) : PolyV M (w.alloc (.cells #[.bool b, .slice a n p, .int .i64 m.a, .int .i64 m.b, .int .i64 m.c, .int .i64 m.d] 83)) (.slice (some ⟨w.heap.size, 0, none⟩) 1 1) [(c, m)] := by
  have hEx : Ext w (w.alloc (.cells #[.bool b, .slice a n p, .int .i64 m.a, .int .i64 m.b, .int .i64 m.c, .int .i64 m.d] 83)) := (Ext.refl w).alloc _
  have hBx := Blk.of_arr w #[.bool b, .slice a n p, .int .i64 m.a, .int .i64 m.b, .int .i64 m.c, .int .i64 m.d] 83 6 rfl
  refine ⟨1, fun _ => c, fun _ => m, fun _ => .bool b, fun _ => .slice a n p, ⟨by omega, .inr ⟨w.heap.size, 0, 1, rfl, Nat.le_refl _, by unfold maxLen; omega, ⟨hBx.lt, hM.new (Nat.le_refl _)⟩, fun i hi => ?_⟩⟩, rfl, fun i hi => hc.ext hEx⟩
  have : i = 0 := by omega
  subst this
  exact ⟨hBx.cell (i := 0) (by omega), hBx.cell (i := 1) (by omega), hBx.cell (i := 2) (by omega), hBx.cell (i := 3) (by omega), hBx.cell (i := 4) (by omega), hBx.cell (i := 5) (by omega)⟩
set_option maxHeartbeats 2000000 in
theorem sp_var1 (M : Nat → Prop) (w : World) (hM : Mb M w) : Calls Try.prog 44 #[.int .i64 1] w fun e w' => ∃ u, e = .returned u ∧ PolyV M w' u [(1, ⟨1, 0, 0, 0⟩)] ∧ Ext w w' := by
  have ctr := fun W => sp_isLevel 1 W
  rw [show isLevB 1 = true by decide] at ctr
  have CTR := Lib.hid ctr
  clear ctr
  have hE1 : Ext w (w.alloc (.cells #[.int .i64 1, .int .i64 0, .int .i64 0, .int .i64 0] 81)) := (Ext.refl w).alloc _
  have hB1 := Blk.of_arr w #[.int .i64 1, .int .i64 0, .int .i64 0, .int .i64 0] 81 4 rfl
  generalize hW : w.alloc (.cells #[.int .i64 1, .int .i64 0, .int .i64 0, .int .i64 0] 81) = W at hB1 hE1
  have HW := Lib.hid hW
  have HS : Hid (SVm w.heap.size ⟨1, 0, 0, 0⟩ W.drew) := SVm.ext ⟨hB1.cell (i := 0) (by omega), hB1.cell (i := 1) (by omega), hB1.cell (i := 2) (by omega), hB1.cell (i := 3) (by omega)⟩ (Ext.refl W).drew
  have hE2 := hE1.trans (Ext.refl W).drew
  clear hW hB1 hE1
  go_enter Try.func44, Try.ntmps44
  go_wp2_with (fail)
  refine (CTR.out _).mono ?_
  rintro e w1 ⟨rfl, rfl⟩
  go_upto_region 5 with (fail)
  rw [HW.out]
  refine wp_region_u (SVm w.heap.size ⟨1, 0, 0, 0⟩) 5 (by kernel_rfl) HS.out (fun hHeld => ?_)
  ((refine wpAnyU_take 1 (oi := ?_) (v := ?_) (by kernel_rfl) (by kernel_rfl) (by kernel_rfl) (by kernel_rfl) (by first | exact hSn | exact hHeld) ?_ ?_ ?_ ?_ ?_; rotate_left 2; (simp only [List.getElem?_toArray, List.getElem?_cons_succ, List.getElem?_cons_zero]; rfl); rfl; (intro wS hSw; obtain ⟨S1, S2, S3, S4⟩ := hSw; go_simp; try with_reducible rfl); (exact fun _ _ _ h => h); (try simp only [Act.put, List.setIfInBounds_toArray, List.set_cons_zero, List.set_cons_succ])))
  ((refine wpAnyU_one 0 (o := ?_) (by kernel_rfl) ?_ ?_; rotate_left 1; (simp only [List.getElem?_toArray, List.getElem?_cons_succ, List.getElem?_cons_zero]; rfl); intro K hK); go_simp; (refine (int_of 1 _ (hM.ext hE2) (by omega) (by omega)).mono ?_); rintro e_ wz ⟨d0, d1, rfl, hc, he1⟩; go_wp2_with (fail); (try clear hSn); (have hSn := hHeld.ext he1); (refine hK.out _ _ (fun _ => hSn) ?_); clear hK K; (try simp only [Act.put, List.setIfInBounds_toArray, List.set_cons_zero, List.set_cons_succ]))
  obtain ⟨b2, a2, n2, p2, rfl, rfl⟩ := hc.form
  rename_i wz
  have HR := Lib.hid (one_row (m := ⟨1, 0, 0, 0⟩) (hM.ext (hE2.trans he1)) hc.toV)
  have he2 : Ext wz (wz.alloc (.cells #[.bool b2, .slice a2 n2 p2, .int .i64 1, .int .i64 0, .int .i64 0, .int .i64 0] 83)) := (Ext.refl wz).alloc _
  have HE := Lib.hid ((hE2.trans he1).trans he2)
  (refine wpAnyU_one 2 (o := ?_) (by kernel_rfl) ?_ ?_; rotate_left 1; (simp only [List.getElem?_toArray, List.getElem?_cons_succ, List.getElem?_cons_zero]; rfl); intro K hK)
  go_simp
  refine hK.out _ _ (fun _ => hSn) ?_
  clear hK K
  (try simp only [Act.put, List.setIfInBounds_toArray, List.set_cons_zero, List.set_cons_succ])
  (refine wpAnyU_one 3 (o := ?_) (by kernel_rfl) ?_ ?_; rotate_left 1; (simp only [List.getElem?_toArray, List.getElem?_cons_succ, List.getElem?_cons_zero]; rfl); intro K hK)
  go_simp
  refine hK.out _ _ (fun _ => hSn.ext he2) ?_
  clear hK K
  (try simp only [Act.put, List.setIfInBounds_toArray, List.set_cons_zero, List.set_cons_succ])
  (refine wpAnyU_one 4 (o := ?_) (by kernel_rfl) ?_ ?_; rotate_left 1; (simp only [List.getElem?_toArray, List.getElem?_cons_succ, List.getElem?_cons_zero]; rfl); intro K hK)
  go_simp
  refine hK.out _ _ (fun _ => hSn.ext he2) ?_
  clear hK K
  (try simp only [Act.put, List.setIfInBounds_toArray, List.set_cons_zero, List.set_cons_succ])
  refine wpAnyU_done (by kernel_rfl) ?_ _
  clear hSn hHeld hc he1 he2
  go_wp2
  go_ret
  exact ⟨_, rfl, HR.out, HE.out⟩
set_option maxHeartbeats 2000000 in
theorem sp_var2 (M : Nat → Prop) (w : World) (hM : Mb M w) : Calls Try.prog 44 #[.int .i64 2] w fun e w' => ∃ u, e = .returned u ∧ PolyV M w' u [(1, ⟨0, 1, 0, 0⟩)] ∧ Ext w w' := by
  have ctr := fun W => sp_isLevel 2 W
  rw [show isLevB 2 = true by decide] at ctr
  have CTR := Lib.hid ctr
  clear ctr
  have hE1 : Ext w (w.alloc (.cells #[.int .i64 0, .int .i64 1, .int .i64 0, .int .i64 0] 81)) := (Ext.refl w).alloc _
  have hB1 := Blk.of_arr w #[.int .i64 0, .int .i64 1, .int .i64 0, .int .i64 0] 81 4 rfl
  generalize hW : w.alloc (.cells #[.int .i64 0, .int .i64 1, .int .i64 0, .int .i64 0] 81) = W at hB1 hE1
  have HW := Lib.hid hW
  have HS : Hid (SVm w.heap.size ⟨0, 1, 0, 0⟩ W.drew) := SVm.ext ⟨hB1.cell (i := 0) (by omega), hB1.cell (i := 1) (by omega), hB1.cell (i := 2) (by omega), hB1.cell (i := 3) (by omega)⟩ (Ext.refl W).drew
  have hE2 := hE1.trans (Ext.refl W).drew
  clear hW hB1 hE1
  go_enter Try.func44, Try.ntmps44
  go_wp2_with (fail)
  refine (CTR.out _).mono ?_
  rintro e w1 ⟨rfl, rfl⟩
  go_upto_region 5 with (fail)
  rw [HW.out]
  refine wp_region_u (SVm w.heap.size ⟨0, 1, 0, 0⟩) 5 (by kernel_rfl) HS.out (fun hHeld => ?_)
  ((refine wpAnyU_take 1 (oi := ?_) (v := ?_) (by kernel_rfl) (by kernel_rfl) (by kernel_rfl) (by kernel_rfl) (by first | exact hSn | exact hHeld) ?_ ?_ ?_ ?_ ?_; rotate_left 2; (simp only [List.getElem?_toArray, List.getElem?_cons_succ, List.getElem?_cons_zero]; rfl); rfl; (intro wS hSw; obtain ⟨S1, S2, S3, S4⟩ := hSw; go_simp; try with_reducible rfl); (exact fun _ _ _ h => h); (try simp only [Act.put, List.setIfInBounds_toArray, List.set_cons_zero, List.set_cons_succ])))
  ((refine wpAnyU_one 0 (o := ?_) (by kernel_rfl) ?_ ?_; rotate_left 1; (simp only [List.getElem?_toArray, List.getElem?_cons_succ, List.getElem?_cons_zero]; rfl); intro K hK); go_simp; (refine (int_of 1 _ (hM.ext hE2) (by omega) (by omega)).mono ?_); rintro e_ wz ⟨d0, d1, rfl, hc, he1⟩; go_wp2_with (fail); (try clear hSn); (have hSn := hHeld.ext he1); (refine hK.out _ _ (fun _ => hSn) ?_); clear hK K; (try simp only [Act.put, List.setIfInBounds_toArray, List.set_cons_zero, List.set_cons_succ]))
  obtain ⟨b2, a2, n2, p2, rfl, rfl⟩ := hc.form
  rename_i wz
  have HR := Lib.hid (one_row (m := ⟨0, 1, 0, 0⟩) (hM.ext (hE2.trans he1)) hc.toV)
  have he2 : Ext wz (wz.alloc (.cells #[.bool b2, .slice a2 n2 p2, .int .i64 0, .int .i64 1, .int .i64 0, .int .i64 0] 83)) := (Ext.refl wz).alloc _
  have HE := Lib.hid ((hE2.trans he1).trans he2)
  (refine wpAnyU_one 2 (o := ?_) (by kernel_rfl) ?_ ?_; rotate_left 1; (simp only [List.getElem?_toArray, List.getElem?_cons_succ, List.getElem?_cons_zero]; rfl); intro K hK)
  go_simp
  refine hK.out _ _ (fun _ => hSn) ?_
  clear hK K
  (try simp only [Act.put, List.setIfInBounds_toArray, List.set_cons_zero, List.set_cons_succ])
  (refine wpAnyU_one 3 (o := ?_) (by kernel_rfl) ?_ ?_; rotate_left 1; (simp only [List.getElem?_toArray, List.getElem?_cons_succ, List.getElem?_cons_zero]; rfl); intro K hK)
  go_simp
  refine hK.out _ _ (fun _ => hSn.ext he2) ?_
  clear hK K
  (try simp only [Act.put, List.setIfInBounds_toArray, List.set_cons_zero, List.set_cons_succ])
  (refine wpAnyU_one 4 (o := ?_) (by kernel_rfl) ?_ ?_; rotate_left 1; (simp only [List.getElem?_toArray, List.getElem?_cons_succ, List.getElem?_cons_zero]; rfl); intro K hK)
  go_simp
  refine hK.out _ _ (fun _ => hSn.ext he2) ?_
  clear hK K
  (try simp only [Act.put, List.setIfInBounds_toArray, List.set_cons_zero, List.set_cons_succ])
  refine wpAnyU_done (by kernel_rfl) ?_ _
  clear hSn hHeld hc he1 he2
  go_wp2
  go_ret
  exact ⟨_, rfl, HR.out, HE.out⟩
set_option maxHeartbeats 2000000 in
theorem sp_var3 (M : Nat → Prop) (w : World) (hM : Mb M w) : Calls Try.prog 44 #[.int .i64 3] w fun e w' => ∃ u, e = .returned u ∧ PolyV M w' u [(1, ⟨0, 0, 1, 0⟩)] ∧ Ext w w' := by
  have ctr := fun W => sp_isLevel 3 W
  rw [show isLevB 3 = true by decide] at ctr
  have CTR := Lib.hid ctr
  clear ctr
  have hE1 : Ext w (w.alloc (.cells #[.int .i64 0, .int .i64 0, .int .i64 1, .int .i64 0] 81)) := (Ext.refl w).alloc _
  have hB1 := Blk.of_arr w #[.int .i64 0, .int .i64 0, .int .i64 1, .int .i64 0] 81 4 rfl
  generalize hW : w.alloc (.cells #[.int .i64 0, .int .i64 0, .int .i64 1, .int .i64 0] 81) = W at hB1 hE1
  have HW := Lib.hid hW
  have HS : Hid (SVm w.heap.size ⟨0, 0, 1, 0⟩ W.drew) := SVm.ext ⟨hB1.cell (i := 0) (by omega), hB1.cell (i := 1) (by omega), hB1.cell (i := 2) (by omega), hB1.cell (i := 3) (by omega)⟩ (Ext.refl W).drew
  have hE2 := hE1.trans (Ext.refl W).drew
  clear hW hB1 hE1
  go_enter Try.func44, Try.ntmps44
  go_wp2_with (fail)
  refine (CTR.out _).mono ?_
  rintro e w1 ⟨rfl, rfl⟩
  go_upto_region 5 with (fail)
  rw [HW.out]
  refine wp_region_u (SVm w.heap.size ⟨0, 0, 1, 0⟩) 5 (by kernel_rfl) HS.out (fun hHeld => ?_)
  ((refine wpAnyU_take 1 (oi := ?_) (v := ?_) (by kernel_rfl) (by kernel_rfl) (by kernel_rfl) (by kernel_rfl) (by first | exact hSn | exact hHeld) ?_ ?_ ?_ ?_ ?_; rotate_left 2; (simp only [List.getElem?_toArray, List.getElem?_cons_succ, List.getElem?_cons_zero]; rfl); rfl; (intro wS hSw; obtain ⟨S1, S2, S3, S4⟩ := hSw; go_simp; try with_reducible rfl); (exact fun _ _ _ h => h); (try simp only [Act.put, List.setIfInBounds_toArray, List.set_cons_zero, List.set_cons_succ])))
  ((refine wpAnyU_one 0 (o := ?_) (by kernel_rfl) ?_ ?_; rotate_left 1; (simp only [List.getElem?_toArray, List.getElem?_cons_succ, List.getElem?_cons_zero]; rfl); intro K hK); go_simp; (refine (int_of 1 _ (hM.ext hE2) (by omega) (by omega)).mono ?_); rintro e_ wz ⟨d0, d1, rfl, hc, he1⟩; go_wp2_with (fail); (try clear hSn); (have hSn := hHeld.ext he1); (refine hK.out _ _ (fun _ => hSn) ?_); clear hK K; (try simp only [Act.put, List.setIfInBounds_toArray, List.set_cons_zero, List.set_cons_succ]))
  obtain ⟨b2, a2, n2, p2, rfl, rfl⟩ := hc.form
  rename_i wz
  have HR := Lib.hid (one_row (m := ⟨0, 0, 1, 0⟩) (hM.ext (hE2.trans he1)) hc.toV)
  have he2 : Ext wz (wz.alloc (.cells #[.bool b2, .slice a2 n2 p2, .int .i64 0, .int .i64 0, .int .i64 1, .int .i64 0] 83)) := (Ext.refl wz).alloc _
  have HE := Lib.hid ((hE2.trans he1).trans he2)
  (refine wpAnyU_one 2 (o := ?_) (by kernel_rfl) ?_ ?_; rotate_left 1; (simp only [List.getElem?_toArray, List.getElem?_cons_succ, List.getElem?_cons_zero]; rfl); intro K hK)
  go_simp
  refine hK.out _ _ (fun _ => hSn) ?_
  clear hK K
  (try simp only [Act.put, List.setIfInBounds_toArray, List.set_cons_zero, List.set_cons_succ])
  (refine wpAnyU_one 3 (o := ?_) (by kernel_rfl) ?_ ?_; rotate_left 1; (simp only [List.getElem?_toArray, List.getElem?_cons_succ, List.getElem?_cons_zero]; rfl); intro K hK)
  go_simp
  refine hK.out _ _ (fun _ => hSn.ext he2) ?_
  clear hK K
  (try simp only [Act.put, List.setIfInBounds_toArray, List.set_cons_zero, List.set_cons_succ])
  (refine wpAnyU_one 4 (o := ?_) (by kernel_rfl) ?_ ?_; rotate_left 1; (simp only [List.getElem?_toArray, List.getElem?_cons_succ, List.getElem?_cons_zero]; rfl); intro K hK)
  go_simp
  refine hK.out _ _ (fun _ => hSn.ext he2) ?_
  clear hK K
  (try simp only [Act.put, List.setIfInBounds_toArray, List.set_cons_zero, List.set_cons_succ])
  refine wpAnyU_done (by kernel_rfl) ?_ _
  clear hSn hHeld hc he1 he2
  go_wp2
  go_ret
  exact ⟨_, rfl, HR.out, HE.out⟩
set_option maxHeartbeats 2000000 in
theorem sp_var4 (M : Nat → Prop) (w : World) (hM : Mb M w) : Calls Try.prog 44 #[.int .i64 4] w fun e w' => ∃ u, e = .returned u ∧ PolyV M w' u [(1, ⟨0, 0, 0, 1⟩)] ∧ Ext w w' := by
  have ctr := fun W => sp_isLevel 4 W
  rw [show isLevB 4 = true by decide] at ctr
  have CTR := Lib.hid ctr
  clear ctr
  have hE1 : Ext w (w.alloc (.cells #[.int .i64 0, .int .i64 0, .int .i64 0, .int .i64 1] 81)) := (Ext.refl w).alloc _
  have hB1 := Blk.of_arr w #[.int .i64 0, .int .i64 0, .int .i64 0, .int .i64 1] 81 4 rfl
  generalize hW : w.alloc (.cells #[.int .i64 0, .int .i64 0, .int .i64 0, .int .i64 1] 81) = W at hB1 hE1
  have HW := Lib.hid hW
  have HS : Hid (SVm w.heap.size ⟨0, 0, 0, 1⟩ W.drew) := SVm.ext ⟨hB1.cell (i := 0) (by omega), hB1.cell (i := 1) (by omega), hB1.cell (i := 2) (by omega), hB1.cell (i := 3) (by omega)⟩ (Ext.refl W).drew
  have hE2 := hE1.trans (Ext.refl W).drew
  clear hW hB1 hE1
  go_enter Try.func44, Try.ntmps44
  go_wp2_with (fail)
  refine (CTR.out _).mono ?_
  rintro e w1 ⟨rfl, rfl⟩
  go_upto_region 5 with (fail)
  rw [HW.out]
  refine wp_region_u (SVm w.heap.size ⟨0, 0, 0, 1⟩) 5 (by kernel_rfl) HS.out (fun hHeld => ?_)
  ((refine wpAnyU_take 1 (oi := ?_) (v := ?_) (by kernel_rfl) (by kernel_rfl) (by kernel_rfl) (by kernel_rfl) (by first | exact hSn | exact hHeld) ?_ ?_ ?_ ?_ ?_; rotate_left 2; (simp only [List.getElem?_toArray, List.getElem?_cons_succ, List.getElem?_cons_zero]; rfl); rfl; (intro wS hSw; obtain ⟨S1, S2, S3, S4⟩ := hSw; go_simp; try with_reducible rfl); (exact fun _ _ _ h => h); (try simp only [Act.put, List.setIfInBounds_toArray, List.set_cons_zero, List.set_cons_succ])))
  ((refine wpAnyU_one 0 (o := ?_) (by kernel_rfl) ?_ ?_; rotate_left 1; (simp only [List.getElem?_toArray, List.getElem?_cons_succ, List.getElem?_cons_zero]; rfl); intro K hK); go_simp; (refine (int_of 1 _ (hM.ext hE2) (by omega) (by omega)).mono ?_); rintro e_ wz ⟨d0, d1, rfl, hc, he1⟩; go_wp2_with (fail); (try clear hSn); (have hSn := hHeld.ext he1); (refine hK.out _ _ (fun _ => hSn) ?_); clear hK K; (try simp only [Act.put, List.setIfInBounds_toArray, List.set_cons_zero, List.set_cons_succ]))
  obtain ⟨b2, a2, n2, p2, rfl, rfl⟩ := hc.form
  rename_i wz
  have HR := Lib.hid (one_row (m := ⟨0, 0, 0, 1⟩) (hM.ext (hE2.trans he1)) hc.toV)
  have he2 : Ext wz (wz.alloc (.cells #[.bool b2, .slice a2 n2 p2, .int .i64 0, .int .i64 0, .int .i64 0, .int .i64 1] 83)) := (Ext.refl wz).alloc _
  have HE := Lib.hid ((hE2.trans he1).trans he2)
  (refine wpAnyU_one 2 (o := ?_) (by kernel_rfl) ?_ ?_; rotate_left 1; (simp only [List.getElem?_toArray, List.getElem?_cons_succ, List.getElem?_cons_zero]; rfl); intro K hK)
  go_simp
  refine hK.out _ _ (fun _ => hSn) ?_
  clear hK K
  (try simp only [Act.put, List.setIfInBounds_toArray, List.set_cons_zero, List.set_cons_succ])
  (refine wpAnyU_one 3 (o := ?_) (by kernel_rfl) ?_ ?_; rotate_left 1; (simp only [List.getElem?_toArray, List.getElem?_cons_succ, List.getElem?_cons_zero]; rfl); intro K hK)
  go_simp
  refine hK.out _ _ (fun _ => hSn.ext he2) ?_
  clear hK K
  (try simp only [Act.put, List.setIfInBounds_toArray, List.set_cons_zero, List.set_cons_succ])
  (refine wpAnyU_one 4 (o := ?_) (by kernel_rfl) ?_ ?_; rotate_left 1; (simp only [List.getElem?_toArray, List.getElem?_cons_succ, List.getElem?_cons_zero]; rfl); intro K hK)
  go_simp
  refine hK.out _ _ (fun _ => hSn.ext he2) ?_
  clear hK K
  (try simp only [Act.put, List.setIfInBounds_toArray, List.set_cons_zero, List.set_cons_succ])
  refine wpAnyU_done (by kernel_rfl) ?_ _
  clear hSn hHeld hc he1 he2
  go_wp2
  go_ret
  exact ⟨_, rfl, HR.out, HE.out⟩
theorem sp_var (M : Nat → Prop) (lv : Int) (w : World) (hM : Mb M w) : Calls Try.prog 44 #[.int .i64 lv] w fun e w' => ∃ u, e = .returned u ∧ PolyV M w' u (varL lv) ∧ Ext w w' := by
  by_cases h : 1 ≤ lv ∧ lv ≤ 4
  · have hv : varL lv = [(1, xp lv.toNat 1)] := by unfold varL; rw [if_pos h]
    rw [hv]
    have : lv = 1 ∨ lv = 2 ∨ lv = 3 ∨ lv = 4 := by omega
    rcases this with rfl | rfl | rfl | rfl
    · exact sp_var1 M w hM
    · exact sp_var2 M w hM
    · exact sp_var3 M w hM
    · exact sp_var4 M w hM
  · have hv : varL lv = [] := by unfold varL; rw [if_neg h]
    rw [hv]
    have ctr := fun W => sp_isLevel lv W
    rw [show isLevB lv = false by unfold isLevB; exact decide_eq_false h] at ctr
    have CTR := Lib.hid ctr
    clear ctr
    go_enter Try.func44, Try.ntmps44
    go_wp2_with (fail)
    refine (CTR.out _).mono ?_
    rintro e w1 ⟨rfl, rfl⟩
    go_wp2
    go_ret
    exact ⟨_, rfl, ⟨0, fun _ => 0, fun _ => Mo.zero, fun _ => undef, fun _ => undef, ⟨by omega, .inl ⟨rfl, rfl⟩⟩, rfl, fun i hi => by omega⟩, Ext.refl _⟩
end Go.Proofs.Ythhffpimcgmciaa

namespace Go.Proofs.Ythhffpimcgmciaa
open Go.ChangeShapes Go.WideShapes Go.ChangeAt Go.RowKit Go.Deep

section
variable {H : Type} {enc : TypeId × Value → H} {W : World}
def IRaw (W : World) (a : Option Addr) (n c : Nat) : Prop := n ≤ 9223372036854775807 ∧ (n ≤ 1099511627776 → ∃ d, NatR M0 W (.slice a n c) n d)
set_option linter.constructorNameAsVariable false in
set_option maxRecDepth 10000 in
theorem open_intA {base : Nat} {v : Value} {d : DataW H} {ps : List MemPlace} (hv : Value.okWide Try.prog W .any base 28 v) (h : DataW.Trod enc Try.prog W 0 (fun _ => true) true 28 v d ps) : ∃ b a n c, v = .agg #[.bool b, .slice a n c] ∧ IRaw W a n c := by
  obtain ⟨fuel, h⟩ := h
  obtain ⟨cs, rfl, hcs⟩ := okWide_struct Try.underlying28 hv
  rw [show Try.prog.cellsOf 28 = 2 by kernel_rfl] at hcs
  obtain ⟨v0, v1, rfl⟩ : ∃ v0 v1, cs = #[v0, v1] := by
    obtain ⟨l⟩ := cs
    match l, hcs with
    | [v0, v1], _ => exact ⟨v0, v1, rfl⟩
  obtain ⟨b, a, n, c, rfl, rfl, h1, h2⟩ := open_int (v0 := v0) (v1 := v1) h
  exact ⟨b, a, n, c, rfl, h1, h2⟩
set_option linter.constructorNameAsVariable false in
set_option maxRecDepth 10000 in
theorem open_pair8 {base : Nat} {v : Value} {d : DataW H} {ps : List MemPlace} (hv : Value.okWide Try.prog W .any base 53 v) (h : DataW.Trod enc Try.prog W 0 (fun _ => true) true 53 v d ps) : ∃ y z : Int, v = .agg #[.int .i8 y, .int .i8 z] ∧ ((-128 ≤ y ∧ y ≤ 127) ∧ (-128 ≤ z ∧ z ≤ 127)) := by
  obtain ⟨fuel, h⟩ := h
  have hu := Try.underlying53
  unfold Value.okWide at hv
  rw [hu] at hv
  obtain ⟨cs, rfl, hcs, _⟩ := hv
  rw [show Try.prog.cellsOf 53 = 2 by kernel_rfl] at hcs
  obtain ⟨v0, v1, rfl⟩ : ∃ v0 v1, cs = #[v0, v1] := by
    obtain ⟨l⟩ := cs
    match l, hcs with
    | [v0, v1], _ => exact ⟨v0, v1, rfl⟩
  have h' : DataW.trod enc Try.prog W 0 (fun _ => true) true fuel 53 [v0, v1] = some (d, ps) := h
  obtain ⟨xs, q, _, _, _, hxl, hx⟩ := DataW.trod_array hu h'
  have hce : Try.prog.cellsOf 52 = 1 := by kernel_rfl
  rw [hce] at hx
  have key : ∀ i, i < 2 → ∃ y, DataW.trod enc Try.prog W 0 (fun _ => true) true q 52 (([v0, v1].drop (i * 1)).take 1) = some y := fun i hi => by
    rw [hx i hi, List.getElem?_eq_getElem (by omega)]; exact ⟨_, rfl⟩
  obtain ⟨y0, e0⟩ := key 0 (by omega)
  obtain ⟨y1, e1⟩ := key 1 (by omega)
  obtain ⟨a, ha, _, wa⟩ := DataW.trod_int Try.underlying52 e0
  obtain ⟨b, hb, _, wb⟩ := DataW.trod_int Try.underlying52 e1
  simp at ha hb
  simp [Lit.wf, IntKind.min, IntKind.max, IntKind.signed, IntKind.bits] at wa wb
  exact ⟨a, b, by rw [ha, hb], wa, wb⟩
end
theorem scale_norm (z : Int) (l : List Tm) : norm (norm (smul z l)) = norm (pmul (norm l) [(z, Mo.zero)]) := by
  rw [norm_norm]
  have h := pmul_single (norm l) (z, Mo.zero)
  rw [shift_zero] at h
  rw [h.norm]
  refine norm_congr fun m hm => ?_
  rw [coefAt_smul, coefAt_smul, norm_coef_nn l m hm]
theorem deg_scale {B : Nat} {l : List Tm} (h : Deg B l) (z : Int) : Deg B (pmul l [(z, Mo.zero)]) := by
  have h2 := pmul_single l (z, Mo.zero)
  rw [shift_zero] at h2
  refine Deg.sim (l := smul z l) (fun m hm k => h m (fun e => hm ?_) k) h2.symm
  rw [coefAt_smul, e]; exact Int.mul_zero z
theorem nrm_var (y : Int) : nrm (varL y) ≤ 1 := by
  unfold varL; split <;> simp [nrm]
theorem tmod_bd (a : Int) (b : Nat) (hb : 0 < b) : -(b : Int) < a.tmod b ∧ a.tmod b < b := by
  have hb' : (0 : Int) < b := by omega
  rcases Int.le_total 0 a with h | h
  · have h1 := Int.tmod_eq_emod_of_nonneg (b := (b : Int)) h
    have h2 := Int.emod_nonneg a (b := (b : Int)) (by omega)
    have h3 := Int.emod_lt_of_pos a hb'
    omega
  · have h0 : 0 ≤ -a := by omega
    have h1 := Int.tmod_eq_emod_of_nonneg (b := (b : Int)) h0
    have h2 := Int.emod_nonneg (-a) (b := (b : Int)) (by omega)
    have h3 := Int.emod_lt_of_pos (-a) hb'
    rw [Int.neg_tmod] at h1
    omega
/-- the law's own boxes: the number and the exponents -/
def SBx (s : Nat) (b : Bool) (a : Option Addr) (n c : Nat) (y z : Int) (w : World) : Prop := (w.cell? ⟨s, 0, none⟩ = some (.bool b) ∧ w.cell? ⟨s, 1, none⟩ = some (.slice a n c)) ∧ w.cell? ⟨s + 1, 0, none⟩ = some (.int .i8 y) ∧ w.cell? ⟨s + 1, 1, none⟩ = some (.int .i8 z)
theorem SBx.ext {s : Nat} {b : Bool} {a : Option Addr} {n c : Nat} {y z : Int} {w w' : World} (h : SBx s b a n c y z w) (he : Ext w w') : SBx s b a n c y z w' := by
  have h1 := World.block_lt_of_cell? _ _ h.1.1
  have h2 := World.block_lt_of_cell? _ _ h.2.1
  unfold SBx; rw [he.cell h1, he.cell h1, he.cell h2, he.cell h2]; exact h
/-- .. and the polynomial -/
def SPB (s : Nat) (b : Bool) (a : Option Addr) (n c : Nat) (y z : Int) (g : Nat) (r : PE) (w : World) : Prop := SBx s b a n c y z w ∧ P4 w g r
theorem SPB.ext {s : Nat} {b : Bool} {a : Option Addr} {n c : Nat} {y z : Int} {g : Nat} {r : PE} {w w' : World} (h : SPB s b a n c y z g r w) (he : Ext w w') : SPB s b a n c y z g r w' := ⟨h.1.ext he, h.2.ext he⟩
set_option maxRecDepth 100000 in
set_option maxHeartbeats 16000000 in
theorem law_power (a0 : Option Addr) (n0 c0 : Nat) (X0 : Nat → TE) (b1 : Bool) (a1 : Option Addr) (n1 c1 : Nat) (y2 z2 : Int) (w : World) (h0 : PRaw w a0 n0 c0 X0) (h1 : IRaw w a1 n1 c1) (h2 : (-128 ≤ y2 ∧ y2 ≤ 127) ∧ (-128 ≤ z2 ∧ z2 ≤ 127)) :
    Calls Try.prog 7 #[.slice a0 n0 c0, .agg #[.bool b1, .slice a1 n1 c1], .agg #[.int .i8 y2, .int .i8 z2]] w fun e w' => e = .returned (.bool true) ∧ Ext w w' := by
  have hE0 : Ext w ((w.alloc (.cells #[.bool b1, .slice a1 n1 c1] 28)).alloc (.cells #[.int .i8 y2, .int .i8 z2] 53)) := ((Ext.refl w).alloc _).alloc _
  have hb1 := (Blk.of_arr w #[.bool b1, .slice a1 n1 c1] 28 2 rfl).alloc (.cells #[.int .i8 y2, .int .i8 z2] 53)
  have hb2 := Blk.of_arr (w.alloc (.cells #[.bool b1, .slice a1 n1 c1] 28)) #[.int .i8 y2, .int .i8 z2] 53 2 rfl
  simp only [World.size_alloc] at hb2
  have HB : Hid (SBx w.heap.size b1 a1 n1 c1 y2 z2 ((w.alloc (.cells #[.bool b1, .slice a1 n1 c1] 28)).alloc (.cells #[.int .i8 y2, .int .i8 z2] 53))) := ⟨⟨hb1.cell (i := 0) (by omega), hb1.cell (i := 1) (by omega)⟩, hb2.cell (i := 0) (by omega), hb2.cell (i := 1) (by omega)⟩
  have HR := Lib.hid h0
  have HI := Lib.hid h1
  clear h0 h1 hb1 hb2
  obtain ⟨⟨hy1, hy2⟩, hz1, hz2⟩ := h2
  have hn1 := HI.out.1
  go_enter Try.func7, Try.ntmps7
  go_wp2_with (fail)
  refine (law_fit _).mono ?_
  rintro e w1 ⟨rfl, he1⟩
  have hE1 := hE0.trans he1
  have hS1 := HB.out.ext he1
  have ctr := rf_fewp a0 n0 c0 X0 5 4 4 w1 (HR.out.1.ext hE1) HR.out.2.1
  rw [show ((5 : Nat) : Int) = 5 from rfl, show ((4 : Nat) : Int) = 4 from rfl] at ctr
  have CTR := Lib.hid ctr
  have HS1 := Lib.hid hS1
  obtain ⟨⟨A1, A2⟩, A3, A4⟩ := hS1
  have hl1 := World.block_lt_of_cell? _ _ A1
  have hl2 := World.block_lt_of_cell? _ _ A3
  clear ctr HB he1 hE0
  go_wp2_with (fail)
  refine CTR.out.mono ?_
  rintro e w2 ⟨b, rfl, hb, rfl⟩
  cases b with
  | false =>
    clear hb
    go_wp2
    go_ret
    exact ⟨rfl, hE1⟩
  | true =>
    obtain ⟨l, hl, hlen, hdl, hexp⟩ := HR.out.poly (hb.1 rfl) (by omega) (by omega)
    have HP := Lib.hid (hl.ext hE1)
    have HLEN := Lib.hid hlen
    have HEX : Hid (∀ s ∈ l, ∀ k, s.2.get k ≤ ((4 : Nat) : Int)) := fun s hs k => (hexp s hs k).1
    have HEX2 : Hid (∀ s ∈ l, ∀ k, s.2.get k ≤ 1073741824) := fun s hs k => by have := (hexp s hs k).1; omega
    have HD5 : Hid (dlen (nrm l) ≤ 5) := hdl
    have HD : Hid (dlen (nrm l) ≤ 1099511627776) := Nat.le_trans hdl (by omega)
    have HDN : Hid (dlen (nrm (norm l)) ≤ 5) := Nat.le_trans (dlen_mono (norm_nrm l)) hdl
    have HDG : Hid (Deg 4 (norm l)) := deg_of_exp HEX.out
    clear hb hl hlen hdl hexp HR CTR
    by_cases hn6 : 6 < n1
    · go_wp2
      go_ret
      exact ⟨rfl, hE1⟩
    · obtain ⟨d, hd⟩ := HI.out.2 (by omega)
      have HIV : Hid (IntV M0 w1 (.bool b1) (.slice a1 n1 c1) (sgn b1 (nv d n1))) := IntV.ext (w := w) ⟨b1, _, rfl, ⟨_, d, hd, rfl⟩, rfl⟩ hE1
      have HDZ : Hid (dlen (sgn b1 (nv d n1)).natAbs ≤ 6) := by
        show _ ≤ _
        rw [sgn_natAbs]
        exact Nat.le_trans (dlen_nv_le d n1 hd.2.1) (by omega)
      generalize sgn b1 (nv d n1) = z at HIV HDZ
      clear hd HI d
      go_upto_region 5 with (fail)
      go_quiet (fail)
      have hi := tmod_bd y2 4 (by omega)
      have hk := tmod_bd z2 3 (by omega)
      rw [show ((4 : Nat) : Int) = 4 from rfl] at hi
      rw [show ((3 : Nat) : Int) = 3 from rfl] at hk
      have w1e : wrap64 (y2.tmod 4) = y2.tmod 4 := IntWalk.wrap64_in _ (by omega)
      have w2e : wrap64 (z2.tmod 3) = z2.tmod 3 := IntWalk.wrap64_in _ (by omega)
      rw [w1e, w2e]
      generalize hiv : y2.tmod 4 = i at hi
      generalize hkv : z2.tmod 3 = k at hk
      obtain ⟨hi1, hi2⟩ := hi
      obtain ⟨hk1, hk2⟩ := hk
      clear w1e w2e hiv hkv
      have hEd : Ext w1 (w1.drewN nq) := (Ext.refl w1).drewN nq
      have hEd1 := hE1.trans hEd
      have HPd := Lib.hid (HP.out.ext hEd)
      have HId := Lib.hid (HIV.out.ext hEd)
      have HSd := Lib.hid (HS1.out.ext hEd)
      generalize hWd : w1.drewN nq = W1 at *
      clear A1 A2 A3 A4 hl1 hl2 HP HIV HS1 hEd hE1 hWd
      go_wp2_with (fail)
      refine (rp_Of M0 _ l W1 (mb0 _) HPd.out HD.out HEX2.out).mono ?_
      rintro e w2 ⟨r, rfl, hr, he2⟩
      have he3 : Ext w2 (w2.alloc (.cells #[.int .i64 r.lv, .bool r.b, .slice r.a r.n r.p, .slice r.ka r.kn r.kp] 31)) := (Ext.refl w2).alloc _
      have b5 := (Blk.of_arr w2 (peA r) 31 4 rfl).p4
      have hr3 := hr.ext he3
      have hE3 := he2.trans he3
      generalize hW2 : w2.alloc (.cells #[.int .i64 r.lv, .bool r.b, .slice r.a r.n r.p, .slice r.ka r.kn r.kp] 31) = W2 at b5 hr3 hE3
      have HW2 := Lib.hid hW2
      have HR := Lib.hid hr3
      have HB := Lib.hid b5
      have HS := Lib.hid (HSd.out.ext hE3)
      have HP := Lib.hid (HPd.out.ext hE3)
      have HI := Lib.hid (HId.out.ext hE3)
      have HE := Lib.hid (hEd1.trans hE3)
      have hd2 : Ext W2 W2.drew := (Ext.refl W2).drew
      have HS7 : Hid (SPB w.heap.size b1 a1 n1 c1 y2 z2 w2.heap.size r W2.drew) := SPB.ext ⟨HS.out, HB.out⟩ hd2
      have HRd := Lib.hid (hr3.ext hd2)
      have HPd := Lib.hid (HP.out.ext hd2)
      have HId := Lib.hid (HI.out.ext hd2)
      have HNN := Lib.hid hr3.nn
      have HL : Hid (∀ a, a ≤ 5 → a * dlen (nrm (norm l)) + 2 ≤ 95) := fun a ha => by
        have h1 := Nat.mul_le_mul ha HDN.out
        omega
      have HBB : Hid (∀ a, a ≤ 5 → (a * 4 + 1) * (a * 4 + 1) ≤ 1099511627776) := fun a ha => Nat.le_trans (Nat.mul_le_mul (show a * 4 + 1 ≤ 21 by omega) (show a * 4 + 1 ≤ 21 by omega)) (by decide)
      have HKK : Hid (∀ a, a ≤ 5 → 5 ^ a ≤ 1099511627776) := fun a ha => Nat.le_trans (Nat.pow_le_pow_right (by omega) ha) (by decide)
      have HDP : Hid (∀ a, a ≤ 5 → dlen (nrm (ppow (norm l) a)) ≤ 1099511627776) := fun a ha => by
        have h1 := dlen_ppow (norm l) a
        have h2 := HL.out a ha
        omega
      have HDD : Hid (∀ a, a ≤ 3 → Deg 12 (ppow (norm l) a)) := fun a ha => (deg_ppow HDG.out HNN.out a).mono (by omega)
      have hi3 : i.toNat ≤ 3 := by omega
      have hk3 : k.toNat ≤ 2 := by omega
      have hi5 : i.toNat ≤ 5 := by omega
      have hn7 : i ≤ 1000000 := by omega
      clear hr hr3 b5 he2 he3 hE3 hW2 HSd hEd1
      go_upto_region 7 with (fail)
      rw [HW2.out]
      refine wp_region_u (SPB w.heap.size b1 a1 n1 c1 y2 z2 w2.heap.size r) 38 (by kernel_rfl) HS7.out (fun hHeld => ?_)
      ((refine wpAnyU_take 0 (oi := ?_) (v := ?_) (by kernel_rfl) (by kernel_rfl) (by kernel_rfl) (by kernel_rfl) (by first | exact hSn | exact hHeld) ?_ ?_ ?_ ?_ ?_; rotate_left 2; (simp only [List.getElem?_toArray, List.getElem?_cons_succ, List.getElem?_cons_zero]; rfl); rfl; (intro wS hSw; obtain ⟨⟨⟨S1, S2⟩, S3, S4⟩, S5, S6, S7, S8⟩ := hSw; go_simp; try with_reducible rfl); (exact fun _ _ _ h => h); (try simp only [Act.put, List.setIfInBounds_toArray, List.set_cons_zero, List.set_cons_succ])); (refine wpAnyU_take 1 (oi := ?_) (v := ?_) (by kernel_rfl) (by kernel_rfl) (by kernel_rfl) (by kernel_rfl) (by first | exact hSn | exact hHeld) ?_ ?_ ?_ ?_ ?_; rotate_left 2; (simp only [List.getElem?_toArray, List.getElem?_cons_succ, List.getElem?_cons_zero]; rfl); rfl; (intro wS hSw; obtain ⟨⟨⟨S1, S2⟩, S3, S4⟩, S5, S6, S7, S8⟩ := hSw; go_simp; try with_reducible rfl); (exact fun _ _ _ h => h); (try simp only [Act.put, List.setIfInBounds_toArray, List.set_cons_zero, List.set_cons_succ])); (refine wpAnyU_take 3 (oi := ?_) (v := ?_) (by kernel_rfl) (by kernel_rfl) (by kernel_rfl) (by kernel_rfl) (by first | exact hSn | exact hHeld) ?_ ?_ ?_ ?_ ?_; rotate_left 2; (simp only [List.getElem?_toArray, List.getElem?_cons_succ, List.getElem?_cons_zero]; rfl); rfl; (intro wS hSw; obtain ⟨⟨⟨S1, S2⟩, S3, S4⟩, S5, S6, S7, S8⟩ := hSw; go_simp; try with_reducible rfl); (exact fun _ _ _ h => h); (try simp only [Act.put, List.setIfInBounds_toArray, List.set_cons_zero, List.set_cons_succ])); (refine wpAnyU_take 4 (oi := ?_) (v := ?_) (by kernel_rfl) (by kernel_rfl) (by kernel_rfl) (by kernel_rfl) (by first | exact hSn | exact hHeld) ?_ ?_ ?_ ?_ ?_; rotate_left 2; (simp only [List.getElem?_toArray, List.getElem?_cons_succ, List.getElem?_cons_zero]; rfl); rfl; (intro wS hSw; obtain ⟨⟨⟨S1, S2⟩, S3, S4⟩, S5, S6, S7, S8⟩ := hSw; go_simp; try with_reducible rfl); (exact fun _ _ _ h => h); (try simp only [Act.put, List.setIfInBounds_toArray, List.set_cons_zero, List.set_cons_succ])))
      ((refine wpAnyU_one 2 (o := ?_) (by kernel_rfl) ?_ ?_; rotate_left 1; (simp only [List.getElem?_toArray, List.getElem?_cons_succ, List.getElem?_cons_zero]; rfl); intro K hK); go_simp; (refine (rp_Pow M0 r (norm l) 4 i _ (mb0 _) HRd.out.pi hn7 (HL.out _ hi5) HDG.out (HBB.out _ hi5)).mono ?_); rintro e_ wz ⟨y, rfl, hy, he1⟩; go_wp2_with (fail); (try clear hSn); (have hSn := hHeld.ext he1); (refine hK.out _ _ (fun _ => hSn) ?_); clear hK K; (try simp only [Act.put, List.setIfInBounds_toArray, List.set_cons_zero, List.set_cons_succ]))
      ((refine wpAnyU_one 5 (o := ?_) (by kernel_rfl) ?_ ?_; rotate_left 1; (simp only [List.getElem?_toArray, List.getElem?_cons_succ, List.getElem?_cons_zero]; rfl); intro K hK); go_simp; (refine (sp_Pow M0 _ l 5 4 i _ (mb0 _) (HPd.out.ext he1) hn7 HD.out (HL.out _ hi5) HLEN.out (by omega) (HKK.out _ hi5) HEX.out (by omega)).mono ?_); rintro e_ wz ⟨u, q, rfl, hu, hq, he2⟩; go_wp2_with (fail); (try clear hSn); (have hSn := hHeld.ext (he1.trans he2)); (refine hK.out _ _ (fun _ => hSn) ?_); clear hK K; (try simp only [Act.put, List.setIfInBounds_toArray, List.set_cons_zero, List.set_cons_succ]))
      ((refine wpAnyU_one 6 (o := ?_) (by kernel_rfl) ?_ ?_; rotate_left 1; (simp only [List.getElem?_toArray, List.getElem?_cons_succ, List.getElem?_cons_zero]; rfl); intro K hK); go_simp; (refine (law_canonical M0 y (ppow (norm l) i.toNat) q u 12 _ (mb0 _) (hy.ext he2) hu hq.s.norm (HDP.out _ hi5) (Nat.le_trans (dlen_mono hq.n) (HDP.out _ hi5)) (HDD.out _ hi3) (by decide)).mono ?_); rintro e_ wz ⟨rfl, he3⟩; go_wp2_with (fail); (try clear hSn); (have hSn := hHeld.ext ((he1.trans he2).trans he3)); (refine hK.out _ _ (fun _ => hSn) ?_); clear hK K; (try simp only [Act.put, List.setIfInBounds_toArray, List.set_cons_zero, List.set_cons_succ]))
      have hE3 := (he1.trans he2).trans he3
      clear he1 he2 he3 hy hu hq
      ((refine wpAnyU_take 7 (oi := ?_) (v := ?_) (by kernel_rfl) (by kernel_rfl) (by kernel_rfl) (by kernel_rfl) (by first | exact hSn | exact hHeld) ?_ ?_ ?_ ?_ ?_; rotate_left 2; (simp only [List.getElem?_toArray, List.getElem?_cons_succ, List.getElem?_cons_zero]; rfl); rfl; (intro wS hSw; obtain ⟨⟨⟨S1, S2⟩, S3, S4⟩, S5, S6, S7, S8⟩ := hSw; go_simp; try with_reducible rfl); (exact fun _ _ _ h => h); (try simp only [Act.put, List.setIfInBounds_toArray, List.set_cons_zero, List.set_cons_succ])); (refine wpAnyU_take 8 (oi := ?_) (v := ?_) (by kernel_rfl) (by kernel_rfl) (by kernel_rfl) (by kernel_rfl) (by first | exact hSn | exact hHeld) ?_ ?_ ?_ ?_ ?_; rotate_left 2; (simp only [List.getElem?_toArray, List.getElem?_cons_succ, List.getElem?_cons_zero]; rfl); rfl; (intro wS hSw; obtain ⟨⟨⟨S1, S2⟩, S3, S4⟩, S5, S6, S7, S8⟩ := hSw; go_simp; try with_reducible rfl); (exact fun _ _ _ h => h); (try simp only [Act.put, List.setIfInBounds_toArray, List.set_cons_zero, List.set_cons_succ])); (refine wpAnyU_take 9 (oi := ?_) (v := ?_) (by kernel_rfl) (by kernel_rfl) (by kernel_rfl) (by kernel_rfl) (by first | exact hSn | exact hHeld) ?_ ?_ ?_ ?_ ?_; rotate_left 2; (simp only [List.getElem?_toArray, List.getElem?_cons_succ, List.getElem?_cons_zero]; rfl); rfl; (intro wS hSw; obtain ⟨⟨⟨S1, S2⟩, S3, S4⟩, S5, S6, S7, S8⟩ := hSw; go_simp; try with_reducible rfl); (exact fun _ _ _ h => h); (try simp only [Act.put, List.setIfInBounds_toArray, List.set_cons_zero, List.set_cons_succ])); (refine wpAnyU_take 10 (oi := ?_) (v := ?_) (by kernel_rfl) (by kernel_rfl) (by kernel_rfl) (by kernel_rfl) (by first | exact hSn | exact hHeld) ?_ ?_ ?_ ?_ ?_; rotate_left 2; (simp only [List.getElem?_toArray, List.getElem?_cons_succ, List.getElem?_cons_zero]; rfl); rfl; (intro wS hSw; obtain ⟨⟨⟨S1, S2⟩, S3, S4⟩, S5, S6, S7, S8⟩ := hSw; go_simp; try with_reducible rfl); (exact fun _ _ _ h => h); (try simp only [Act.put, List.setIfInBounds_toArray, List.set_cons_zero, List.set_cons_succ])); (refine wpAnyU_take 12 (oi := ?_) (v := ?_) (by kernel_rfl) (by kernel_rfl) (by kernel_rfl) (by kernel_rfl) (by first | exact hSn | exact hHeld) ?_ ?_ ?_ ?_ ?_; rotate_left 2; (simp only [List.getElem?_toArray, List.getElem?_cons_succ, List.getElem?_cons_zero]; rfl); rfl; (intro wS hSw; obtain ⟨⟨⟨S1, S2⟩, S3, S4⟩, S5, S6, S7, S8⟩ := hSw; go_simp; try with_reducible rfl); (exact fun _ _ _ h => h); (try simp only [Act.put, List.setIfInBounds_toArray, List.set_cons_zero, List.set_cons_succ])); (refine wpAnyU_take 13 (oi := ?_) (v := ?_) (by kernel_rfl) (by kernel_rfl) (by kernel_rfl) (by kernel_rfl) (by first | exact hSn | exact hHeld) ?_ ?_ ?_ ?_ ?_; rotate_left 2; (simp only [List.getElem?_toArray, List.getElem?_cons_succ, List.getElem?_cons_zero]; rfl); rfl; (intro wS hSw; obtain ⟨⟨⟨S1, S2⟩, S3, S4⟩, S5, S6, S7, S8⟩ := hSw; go_simp; try with_reducible rfl); (exact fun _ _ _ h => h); (try simp only [Act.put, List.setIfInBounds_toArray, List.set_cons_zero, List.set_cons_succ])))
      have hLz : dlen (nrm (norm l)) + dlen z.natAbs ≤ 95 := Nat.le_trans (Nat.add_le_add HDN.out HDZ.out) (by omega)
      have hLz' : dlen (nrm l) + dlen z.natAbs ≤ 95 := Nat.le_trans (Nat.add_le_add HD5.out HDZ.out) (by omega)
      ((refine wpAnyU_one 11 (o := ?_) (by kernel_rfl) ?_ ?_; rotate_left 1; (simp only [List.getElem?_toArray, List.getElem?_cons_succ, List.getElem?_cons_zero]; rfl); intro K hK); go_simp; (refine (rp_Scale M0 r (norm l) 4 b1 a1 n1 c1 z _ (mb0 _) (HRd.out.ext hE3).pi (HId.out.ext hE3) hLz HDG.out (by omega)).mono ?_); rintro e_ wz ⟨y, rfl, hy, he4⟩; go_wp2_with (fail); (try clear hSn); (have hSn := hHeld.ext (hE3.trans he4)); (refine hK.out _ _ (fun _ => hSn) ?_); clear hK K; (try simp only [Act.put, List.setIfInBounds_toArray, List.set_cons_zero, List.set_cons_succ]))
      have hE4 := hE3.trans he4
      ((refine wpAnyU_one 14 (o := ?_) (by kernel_rfl) ?_ ?_; rotate_left 1; (simp only [List.getElem?_toArray, List.getElem?_cons_succ, List.getElem?_cons_zero]; rfl); intro K hK); go_simp; (refine (sp_scale M0 _ l b1 a1 n1 c1 z _ (mb0 _) (HPd.out.ext hE4) (HId.out.ext hE4) hLz').mono ?_); rintro e_ wz ⟨u, rfl, hu, he5⟩; go_wp2_with (fail); (try clear hSn); (have hSn := hHeld.ext (hE4.trans he5)); (refine hK.out _ _ (fun _ => hSn) ?_); clear hK K; (try simp only [Act.put, List.setIfInBounds_toArray, List.set_cons_zero, List.set_cons_succ]))
      have hE5 := hE4.trans he5
      have hds1 : dlen (nrm (pmul (norm l) [(z, Mo.zero)])) ≤ 1099511627776 := by
        rw [nrm_pmul, nrm_one]
        have h1 := dlen_mul (nrm (norm l)) z.natAbs
        omega
      have hds2 : dlen (nrm (norm (smul z l))) ≤ 1099511627776 := by
        have h0 := dlen_mono (norm_nrm (smul z l))
        rw [nrm_smul] at h0
        have h1 := dlen_mul z.natAbs (nrm l)
        omega
      ((refine wpAnyU_one 15 (o := ?_) (by kernel_rfl) ?_ ?_; rotate_left 1; (simp only [List.getElem?_toArray, List.getElem?_cons_succ, List.getElem?_cons_zero]; rfl); intro K hK); go_simp; (refine (law_canonical M0 y (pmul (norm l) [(z, Mo.zero)]) (norm (smul z l)) u 4 _ (mb0 _) (hy.ext he5) hu.toV (scale_norm z l) hds1 hds2 (deg_scale HDG.out z) (by decide)).mono ?_); rintro e_ wz ⟨rfl, he6⟩; go_wp2_with (fail); (try clear hSn); (have hSn := hHeld.ext (hE5.trans he6)); (refine hK.out _ _ (fun _ => hSn) ?_); clear hK K; (try simp only [Act.put, List.setIfInBounds_toArray, List.set_cons_zero, List.set_cons_succ]))
      have hE6 := hE5.trans he6
      clear he4 he5 he6 hE3 hE4 hE5 hy hu hds1 hds2 hLz hLz'
      ((refine wpAnyU_take 16 (oi := ?_) (v := ?_) (by kernel_rfl) (by kernel_rfl) (by kernel_rfl) (by kernel_rfl) (by first | exact hSn | exact hHeld) ?_ ?_ ?_ ?_ ?_; rotate_left 2; (simp only [List.getElem?_toArray, List.getElem?_cons_succ, List.getElem?_cons_zero]; rfl); rfl; (intro wS hSw; obtain ⟨⟨⟨S1, S2⟩, S3, S4⟩, S5, S6, S7, S8⟩ := hSw; go_simp; try with_reducible rfl); (exact fun _ _ _ h => h); (try simp only [Act.put, List.setIfInBounds_toArray, List.set_cons_zero, List.set_cons_succ])); (refine wpAnyU_take 17 (oi := ?_) (v := ?_) (by kernel_rfl) (by kernel_rfl) (by kernel_rfl) (by kernel_rfl) (by first | exact hSn | exact hHeld) ?_ ?_ ?_ ?_ ?_; rotate_left 2; (simp only [List.getElem?_toArray, List.getElem?_cons_succ, List.getElem?_cons_zero]; rfl); rfl; (intro wS hSw; obtain ⟨⟨⟨S1, S2⟩, S3, S4⟩, S5, S6, S7, S8⟩ := hSw; go_simp; try with_reducible rfl); (exact fun _ _ _ h => h); (try simp only [Act.put, List.setIfInBounds_toArray, List.set_cons_zero, List.set_cons_succ])); (refine wpAnyU_take 18 (oi := ?_) (v := ?_) (by kernel_rfl) (by kernel_rfl) (by kernel_rfl) (by kernel_rfl) (by first | exact hSn | exact hHeld) ?_ ?_ ?_ ?_ ?_; rotate_left 2; (simp only [List.getElem?_toArray, List.getElem?_cons_succ, List.getElem?_cons_zero]; rfl); rfl; (intro wS hSw; obtain ⟨⟨⟨S1, S2⟩, S3, S4⟩, S5, S6, S7, S8⟩ := hSw; go_simp; try with_reducible rfl); (exact fun _ _ _ h => h); (try simp only [Act.put, List.setIfInBounds_toArray, List.set_cons_zero, List.set_cons_succ])); (refine wpAnyU_take 19 (oi := ?_) (v := ?_) (by kernel_rfl) (by kernel_rfl) (by kernel_rfl) (by kernel_rfl) (by first | exact hSn | exact hHeld) ?_ ?_ ?_ ?_ ?_; rotate_left 2; (simp only [List.getElem?_toArray, List.getElem?_cons_succ, List.getElem?_cons_zero]; rfl); rfl; (intro wS hSw; obtain ⟨⟨⟨S1, S2⟩, S3, S4⟩, S5, S6, S7, S8⟩ := hSw; go_simp; try with_reducible rfl); (exact fun _ _ _ h => h); (try simp only [Act.put, List.setIfInBounds_toArray, List.set_cons_zero, List.set_cons_succ])); (refine wpAnyU_take 21 (oi := ?_) (v := ?_) (by kernel_rfl) (by kernel_rfl) (by kernel_rfl) (by kernel_rfl) (by first | exact hSn | exact hHeld) ?_ ?_ ?_ ?_ ?_; rotate_left 2; (simp only [List.getElem?_toArray, List.getElem?_cons_succ, List.getElem?_cons_zero]; rfl); rfl; (intro wS hSw; obtain ⟨⟨⟨S1, S2⟩, S3, S4⟩, S5, S6, S7, S8⟩ := hSw; go_simp; try with_reducible rfl); (exact fun _ _ _ h => h); (try simp only [Act.put, List.setIfInBounds_toArray, List.set_cons_zero, List.set_cons_succ])))
      ((refine wpAnyU_one 20 (o := ?_) (by kernel_rfl) ?_ ?_; rotate_left 1; (simp only [List.getElem?_toArray, List.getElem?_cons_succ, List.getElem?_cons_zero]; rfl); intro K hK); go_simp; (refine (rp_Const M0 b1 a1 n1 c1 z _ (mb0 _) (HId.out.ext hE6)).mono ?_); rintro e_ wz ⟨y, rfl, hy, he4⟩; go_wp2_with (fail); (try clear hSn); (have hSn := hHeld.ext (hE6.trans he4)); (refine hK.out _ _ (fun _ => hSn) ?_); clear hK K; (try simp only [Act.put, List.setIfInBounds_toArray, List.set_cons_zero, List.set_cons_succ]))
      have hE4 := hE6.trans he4
      ((refine wpAnyU_one 22 (o := ?_) (by kernel_rfl) ?_ ?_; rotate_left 1; (simp only [List.getElem?_toArray, List.getElem?_cons_succ, List.getElem?_cons_zero]; rfl); intro K hK); go_simp; (refine (sp_const M0 b1 a1 n1 c1 z _ (mb0 _) (HId.out.ext hE4)).mono ?_); rintro e_ wz ⟨u, rfl, hu, he5⟩; go_wp2_with (fail); (try clear hSn); (have hSn := hHeld.ext (hE4.trans he5)); (refine hK.out _ _ (fun _ => hSn) ?_); clear hK K; (try simp only [Act.put, List.setIfInBounds_toArray, List.set_cons_zero, List.set_cons_succ]))
      have hE5 := hE4.trans he5
      have hds1 : dlen (nrm [(z, Mo.zero)]) ≤ 1099511627776 := by
        rw [nrm_one]; exact Nat.le_trans HDZ.out (by omega)
      have hds2 : dlen (nrm (constL z)) ≤ 1099511627776 := by
        unfold constL
        split
        · exact Nat.zero_le _
        · exact hds1
      ((refine wpAnyU_one 23 (o := ?_) (by kernel_rfl) ?_ ?_; rotate_left 1; (simp only [List.getElem?_toArray, List.getElem?_cons_succ, List.getElem?_cons_zero]; rfl); intro K hK); go_simp; (refine (law_canonical M0 y [(z, Mo.zero)] (constL z) u 0 _ (mb0 _) ((hy.up (Nat.zero_le _)).ext he5) hu (constL_norm z) hds1 hds2 (deg_const z) (by decide)).mono ?_); rintro e_ wz ⟨rfl, he6⟩; go_wp2_with (fail); (try clear hSn); (have hSn := hHeld.ext (hE5.trans he6)); (refine hK.out _ _ (fun _ => hSn) ?_); clear hK K; (try simp only [Act.put, List.setIfInBounds_toArray, List.set_cons_zero, List.set_cons_succ]))
      have hE7 := hE5.trans he6
      clear he4 he5 he6 hE6 hE4 hE5 hy hu hds1 hds2
      ((refine wpAnyU_take 24 (oi := ?_) (v := ?_) (by kernel_rfl) (by kernel_rfl) (by kernel_rfl) (by kernel_rfl) (by first | exact hSn | exact hHeld) ?_ ?_ ?_ ?_ ?_; rotate_left 2; (simp only [List.getElem?_toArray, List.getElem?_cons_succ, List.getElem?_cons_zero]; rfl); rfl; (intro wS hSw; obtain ⟨⟨⟨S1, S2⟩, S3, S4⟩, S5, S6, S7, S8⟩ := hSw; go_simp; try with_reducible rfl); (exact fun _ _ _ h => h); (try simp only [Act.put, List.setIfInBounds_toArray, List.set_cons_zero, List.set_cons_succ])); (refine wpAnyU_take 25 (oi := ?_) (v := ?_) (by kernel_rfl) (by kernel_rfl) (by kernel_rfl) (by kernel_rfl) (by first | exact hSn | exact hHeld) ?_ ?_ ?_ ?_ ?_; rotate_left 2; (simp only [List.getElem?_toArray, List.getElem?_cons_succ, List.getElem?_cons_zero]; rfl); rfl; (intro wS hSw; obtain ⟨⟨⟨S1, S2⟩, S3, S4⟩, S5, S6, S7, S8⟩ := hSw; go_simp; try with_reducible rfl); (exact fun _ _ _ h => h); (try simp only [Act.put, List.setIfInBounds_toArray, List.set_cons_zero, List.set_cons_succ])); (refine wpAnyU_take 26 (oi := ?_) (v := ?_) (by kernel_rfl) (by kernel_rfl) (by kernel_rfl) (by kernel_rfl) (by first | exact hSn | exact hHeld) ?_ ?_ ?_ ?_ ?_; rotate_left 2; (simp only [List.getElem?_toArray, List.getElem?_cons_succ, List.getElem?_cons_zero]; rfl); rfl; (intro wS hSw; obtain ⟨⟨⟨S1, S2⟩, S3, S4⟩, S5, S6, S7, S8⟩ := hSw; go_simp; try with_reducible rfl); (exact fun _ _ _ h => h); (try simp only [Act.put, List.setIfInBounds_toArray, List.set_cons_zero, List.set_cons_succ])); (refine wpAnyU_take 27 (oi := ?_) (v := ?_) (by kernel_rfl) (by kernel_rfl) (by kernel_rfl) (by kernel_rfl) (by first | exact hSn | exact hHeld) ?_ ?_ ?_ ?_ ?_; rotate_left 2; (simp only [List.getElem?_toArray, List.getElem?_cons_succ, List.getElem?_cons_zero]; rfl); rfl; (intro wS hSw; obtain ⟨⟨⟨S1, S2⟩, S3, S4⟩, S5, S6, S7, S8⟩ := hSw; go_simp; try with_reducible rfl); (exact fun _ _ _ h => h); (try simp only [Act.put, List.setIfInBounds_toArray, List.set_cons_zero, List.set_cons_succ])); (refine wpAnyU_take 28 (oi := ?_) (v := ?_) (by kernel_rfl) (by kernel_rfl) (by kernel_rfl) (by kernel_rfl) (by first | exact hSn | exact hHeld) ?_ ?_ ?_ ?_ ?_; rotate_left 2; (simp only [List.getElem?_toArray, List.getElem?_cons_succ, List.getElem?_cons_zero]; rfl); rfl; (intro wS hSw; obtain ⟨⟨⟨S1, S2⟩, S3, S4⟩, S5, S6, S7, S8⟩ := hSw; go_simp; try with_reducible rfl); (exact fun _ _ _ h => h); (try simp only [Act.put, List.setIfInBounds_toArray, List.set_cons_zero, List.set_cons_succ])); (refine wpAnyU_take 29 (oi := ?_) (v := ?_) (by kernel_rfl) (by kernel_rfl) (by kernel_rfl) (by kernel_rfl) (by first | exact hSn | exact hHeld) ?_ ?_ ?_ ?_ ?_; rotate_left 2; (simp only [List.getElem?_toArray, List.getElem?_cons_succ, List.getElem?_cons_zero]; rfl); rfl; (intro wS hSw; obtain ⟨⟨⟨S1, S2⟩, S3, S4⟩, S5, S6, S7, S8⟩ := hSw; go_simp; try with_reducible rfl); (exact fun _ _ _ h => h); (try simp only [Act.put, List.setIfInBounds_toArray, List.set_cons_zero, List.set_cons_succ])); (refine wpAnyU_take 31 (oi := ?_) (v := ?_) (by kernel_rfl) (by kernel_rfl) (by kernel_rfl) (by kernel_rfl) (by first | exact hSn | exact hHeld) ?_ ?_ ?_ ?_ ?_; rotate_left 2; (simp only [List.getElem?_toArray, List.getElem?_cons_succ, List.getElem?_cons_zero]; rfl); rfl; (intro wS hSw; obtain ⟨⟨⟨S1, S2⟩, S3, S4⟩, S5, S6, S7, S8⟩ := hSw; go_simp; try with_reducible rfl); (exact fun _ _ _ h => h); (try simp only [Act.put, List.setIfInBounds_toArray, List.set_cons_zero, List.set_cons_succ])); (refine wpAnyU_take 32 (oi := ?_) (v := ?_) (by kernel_rfl) (by kernel_rfl) (by kernel_rfl) (by kernel_rfl) (by first | exact hSn | exact hHeld) ?_ ?_ ?_ ?_ ?_; rotate_left 2; (simp only [List.getElem?_toArray, List.getElem?_cons_succ, List.getElem?_cons_zero]; rfl); rfl; (intro wS hSw; obtain ⟨⟨⟨S1, S2⟩, S3, S4⟩, S5, S6, S7, S8⟩ := hSw; go_simp; try with_reducible rfl); (exact fun _ _ _ h => h); (try simp only [Act.put, List.setIfInBounds_toArray, List.set_cons_zero, List.set_cons_succ])); (refine wpAnyU_take 33 (oi := ?_) (v := ?_) (by kernel_rfl) (by kernel_rfl) (by kernel_rfl) (by kernel_rfl) (by first | exact hSn | exact hHeld) ?_ ?_ ?_ ?_ ?_; rotate_left 2; (simp only [List.getElem?_toArray, List.getElem?_cons_succ, List.getElem?_cons_zero]; rfl); rfl; (intro wS hSw; obtain ⟨⟨⟨S1, S2⟩, S3, S4⟩, S5, S6, S7, S8⟩ := hSw; go_simp; try with_reducible rfl); (exact fun _ _ _ h => h); (try simp only [Act.put, List.setIfInBounds_toArray, List.set_cons_zero, List.set_cons_succ])))
      rw [show IntKind.i64.wrap y2 = y2 from IntWalk.i64_in _ (by omega)]
      ((refine wpAnyU_one 30 (o := ?_) (by kernel_rfl) ?_ ?_; rotate_left 1; (simp only [List.getElem?_toArray, List.getElem?_cons_succ, List.getElem?_cons_zero]; rfl); intro K hK); go_simp; (refine (rp_Var M0 y2 _ (mb0 _)).mono ?_); rintro e_ wz ⟨y, rfl, hy, he4⟩; go_wp2_with (fail); (try clear hSn); (have hSn := hHeld.ext (hE7.trans he4)); (refine hK.out _ _ (fun _ => hSn) ?_); clear hK K; (try simp only [Act.put, List.setIfInBounds_toArray, List.set_cons_zero, List.set_cons_succ]))
      have hE4 := hE7.trans he4
      ((refine wpAnyU_one 34 (o := ?_) (by kernel_rfl) ?_ ?_; rotate_left 1; (simp only [List.getElem?_toArray, List.getElem?_cons_succ, List.getElem?_cons_zero]; rfl); intro K hK); go_simp; (refine (sp_var M0 y2 _ (mb0 _)).mono ?_); rintro e_ wz ⟨u, rfl, hu, he5⟩; go_wp2_with (fail); (try clear hSn); (have hSn := hHeld.ext (hE4.trans he5)); (refine hK.out _ _ (fun _ => hSn) ?_); clear hK K; (try simp only [Act.put, List.setIfInBounds_toArray, List.set_cons_zero, List.set_cons_succ]))
      have hE5 := hE4.trans he5
      have hds1 : dlen (nrm (varL y2)) ≤ 1099511627776 := Nat.le_trans ((dlen_le_iff _ 1).2 (by have := nrm_var y2; omega)) (by omega)
      ((refine wpAnyU_one 35 (o := ?_) (by kernel_rfl) ?_ ?_; rotate_left 1; (simp only [List.getElem?_toArray, List.getElem?_cons_succ, List.getElem?_cons_zero]; rfl); intro K hK); go_simp; (refine (law_canonical M0 y (varL y2) (varL y2) u 1 _ (mb0 _) (hy.ext he5) hu rfl hds1 hds1 (deg_var y2) (by decide)).mono ?_); rintro e_ wz ⟨rfl, he6⟩; go_wp2_with (fail); (try clear hSn); (have hSn := hHeld.ext (hE5.trans he6)); (refine hK.out _ _ (fun _ => hSn) ?_); clear hK K; (try simp only [Act.put, List.setIfInBounds_toArray, List.set_cons_zero, List.set_cons_succ]))
      have hE8 := hE5.trans he6
      clear he4 he5 he6 hE7 hE4 hE5 hy hu hds1
      ((refine wpAnyU_take 36 (oi := ?_) (v := ?_) (by kernel_rfl) (by kernel_rfl) (by kernel_rfl) (by kernel_rfl) (by first | exact hSn | exact hHeld) ?_ ?_ ?_ ?_ ?_; rotate_left 2; (simp only [List.getElem?_toArray, List.getElem?_cons_succ, List.getElem?_cons_zero]; rfl); rfl; (intro wS hSw; obtain ⟨⟨⟨S1, S2⟩, S3, S4⟩, S5, S6, S7, S8⟩ := hSw; go_simp; try with_reducible rfl); (exact fun _ _ _ h => h); (try simp only [Act.put, List.setIfInBounds_toArray, List.set_cons_zero, List.set_cons_succ])); (refine wpAnyU_take 37 (oi := ?_) (v := ?_) (by kernel_rfl) (by kernel_rfl) (by kernel_rfl) (by kernel_rfl) (by first | exact hSn | exact hHeld) ?_ ?_ ?_ ?_ ?_; rotate_left 2; (simp only [List.getElem?_toArray, List.getElem?_cons_succ, List.getElem?_cons_zero]; rfl); rfl; (intro wS hSw; obtain ⟨⟨⟨S1, S2⟩, S3, S4⟩, S5, S6, S7, S8⟩ := hSw; go_simp; try with_reducible rfl); (exact fun _ _ _ h => h); (try simp only [Act.put, List.setIfInBounds_toArray, List.set_cons_zero, List.set_cons_succ])))
      refine wpAnyU_done (by kernel_rfl) ?_ _
      rename_i wz
      have hd9 : Ext wz wz.drew := (Ext.refl wz).drew
      have HS9 := Lib.hid (hSn.ext hd9)
      have HR9 := Lib.hid (HRd.out.ext (hE8.trans hd9))
      have HE9 := Lib.hid (HE.out.trans (hd2.trans (hE8.trans hd9)))
      clear hSn hHeld hE8 hd9 HS7 HRd HPd HId hd2 HS HB HP HI HR
      go_upto_region 9 with (fail)
      refine wp_region_u (SPB w.heap.size b1 a1 n1 c1 y2 z2 w2.heap.size r) 16 (by kernel_rfl) HS9.out (fun hHeld => ?_)
      ((refine wpAnyU_take 0 (oi := ?_) (v := ?_) (by kernel_rfl) (by kernel_rfl) (by kernel_rfl) (by kernel_rfl) (by first | exact hSn | exact hHeld) ?_ ?_ ?_ ?_ ?_; rotate_left 2; (simp only [List.getElem?_toArray, List.getElem?_cons_succ, List.getElem?_cons_zero]; rfl); rfl; (intro wS hSw; obtain ⟨⟨⟨S1, S2⟩, S3, S4⟩, S5, S6, S7, S8⟩ := hSw; go_simp; try with_reducible rfl); (exact fun _ _ _ h => h); (try simp only [Act.put, List.setIfInBounds_toArray, List.set_cons_zero, List.set_cons_succ])); (refine wpAnyU_take 1 (oi := ?_) (v := ?_) (by kernel_rfl) (by kernel_rfl) (by kernel_rfl) (by kernel_rfl) (by first | exact hSn | exact hHeld) ?_ ?_ ?_ ?_ ?_; rotate_left 2; (simp only [List.getElem?_toArray, List.getElem?_cons_succ, List.getElem?_cons_zero]; rfl); rfl; (intro wS hSw; obtain ⟨⟨⟨S1, S2⟩, S3, S4⟩, S5, S6, S7, S8⟩ := hSw; go_simp; try with_reducible rfl); (exact fun _ _ _ h => h); (try simp only [Act.put, List.setIfInBounds_toArray, List.set_cons_zero, List.set_cons_succ])); (refine wpAnyU_take 2 (oi := ?_) (v := ?_) (by kernel_rfl) (by kernel_rfl) (by kernel_rfl) (by kernel_rfl) (by first | exact hSn | exact hHeld) ?_ ?_ ?_ ?_ ?_; rotate_left 2; (simp only [List.getElem?_toArray, List.getElem?_cons_succ, List.getElem?_cons_zero]; rfl); rfl; (intro wS hSw; obtain ⟨⟨⟨S1, S2⟩, S3, S4⟩, S5, S6, S7, S8⟩ := hSw; go_simp; try with_reducible rfl); (exact fun _ _ _ h => h); (try simp only [Act.put, List.setIfInBounds_toArray, List.set_cons_zero, List.set_cons_succ])); (refine wpAnyU_take 3 (oi := ?_) (v := ?_) (by kernel_rfl) (by kernel_rfl) (by kernel_rfl) (by kernel_rfl) (by first | exact hSn | exact hHeld) ?_ ?_ ?_ ?_ ?_; rotate_left 2; (simp only [List.getElem?_toArray, List.getElem?_cons_succ, List.getElem?_cons_zero]; rfl); rfl; (intro wS hSw; obtain ⟨⟨⟨S1, S2⟩, S3, S4⟩, S5, S6, S7, S8⟩ := hSw; go_simp; try with_reducible rfl); (exact fun _ _ _ h => h); (try simp only [Act.put, List.setIfInBounds_toArray, List.set_cons_zero, List.set_cons_succ])); (refine wpAnyU_take 4 (oi := ?_) (v := ?_) (by kernel_rfl) (by kernel_rfl) (by kernel_rfl) (by kernel_rfl) (by first | exact hSn | exact hHeld) ?_ ?_ ?_ ?_ ?_; rotate_left 2; (simp only [List.getElem?_toArray, List.getElem?_cons_succ, List.getElem?_cons_zero]; rfl); rfl; (intro wS hSw; obtain ⟨⟨⟨S1, S2⟩, S3, S4⟩, S5, S6, S7, S8⟩ := hSw; go_simp; try with_reducible rfl); (exact fun _ _ _ h => h); (try simp only [Act.put, List.setIfInBounds_toArray, List.set_cons_zero, List.set_cons_succ])); (refine wpAnyU_take 5 (oi := ?_) (v := ?_) (by kernel_rfl) (by kernel_rfl) (by kernel_rfl) (by kernel_rfl) (by first | exact hSn | exact hHeld) ?_ ?_ ?_ ?_ ?_; rotate_left 2; (simp only [List.getElem?_toArray, List.getElem?_cons_succ, List.getElem?_cons_zero]; rfl); rfl; (intro wS hSw; obtain ⟨⟨⟨S1, S2⟩, S3, S4⟩, S5, S6, S7, S8⟩ := hSw; go_simp; try with_reducible rfl); (exact fun _ _ _ h => h); (try simp only [Act.put, List.setIfInBounds_toArray, List.set_cons_zero, List.set_cons_succ])); (refine wpAnyU_take 7 (oi := ?_) (v := ?_) (by kernel_rfl) (by kernel_rfl) (by kernel_rfl) (by kernel_rfl) (by first | exact hSn | exact hHeld) ?_ ?_ ?_ ?_ ?_; rotate_left 2; (simp only [List.getElem?_toArray, List.getElem?_cons_succ, List.getElem?_cons_zero]; rfl); rfl; (intro wS hSw; obtain ⟨⟨⟨S1, S2⟩, S3, S4⟩, S5, S6, S7, S8⟩ := hSw; go_simp; try with_reducible rfl); (exact fun _ _ _ h => h); (try simp only [Act.put, List.setIfInBounds_toArray, List.set_cons_zero, List.set_cons_succ])); (refine wpAnyU_take 8 (oi := ?_) (v := ?_) (by kernel_rfl) (by kernel_rfl) (by kernel_rfl) (by kernel_rfl) (by first | exact hSn | exact hHeld) ?_ ?_ ?_ ?_ ?_; rotate_left 2; (simp only [List.getElem?_toArray, List.getElem?_cons_succ, List.getElem?_cons_zero]; rfl); rfl; (intro wS hSw; obtain ⟨⟨⟨S1, S2⟩, S3, S4⟩, S5, S6, S7, S8⟩ := hSw; go_simp; try with_reducible rfl); (exact fun _ _ _ h => h); (try simp only [Act.put, List.setIfInBounds_toArray, List.set_cons_zero, List.set_cons_succ])); (refine wpAnyU_take 10 (oi := ?_) (v := ?_) (by kernel_rfl) (by kernel_rfl) (by kernel_rfl) (by kernel_rfl) (by first | exact hSn | exact hHeld) ?_ ?_ ?_ ?_ ?_; rotate_left 2; (simp only [List.getElem?_toArray, List.getElem?_cons_succ, List.getElem?_cons_zero]; rfl); rfl; (intro wS hSw; obtain ⟨⟨⟨S1, S2⟩, S3, S4⟩, S5, S6, S7, S8⟩ := hSw; go_simp; try with_reducible rfl); (exact fun _ _ _ h => h); (try simp only [Act.put, List.setIfInBounds_toArray, List.set_cons_zero, List.set_cons_succ])); (refine wpAnyU_take 11 (oi := ?_) (v := ?_) (by kernel_rfl) (by kernel_rfl) (by kernel_rfl) (by kernel_rfl) (by first | exact hSn | exact hHeld) ?_ ?_ ?_ ?_ ?_; rotate_left 2; (simp only [List.getElem?_toArray, List.getElem?_cons_succ, List.getElem?_cons_zero]; rfl); rfl; (intro wS hSw; obtain ⟨⟨⟨S1, S2⟩, S3, S4⟩, S5, S6, S7, S8⟩ := hSw; go_simp; try with_reducible rfl); (exact fun _ _ _ h => h); (try simp only [Act.put, List.setIfInBounds_toArray, List.set_cons_zero, List.set_cons_succ])))
      rw [show IntKind.i64.wrap (max i 0 + max k 0) = max i 0 + max k 0 from IntWalk.i64_in _ (by omega)]
      have hmv : (max i 0 + max k 0).toNat = i.toNat + k.toNat := by omega
      have hm7 : max i 0 + max k 0 ≤ 1000000 := by omega
      generalize max i 0 + max k 0 = mm at hmv hm7
      have hm5 : mm.toNat ≤ 5 := by omega
      have hk5 : k.toNat ≤ 5 := by omega
      have hk7 : k ≤ 1000000 := by omega
      ((refine wpAnyU_one 6 (o := ?_) (by kernel_rfl) ?_ ?_; rotate_left 1; (simp only [List.getElem?_toArray, List.getElem?_cons_succ, List.getElem?_cons_zero]; rfl); intro K hK); go_simp; (refine (rp_Pow M0 r (norm l) 4 mm _ (mb0 _) HR9.out.pi hm7 (HL.out _ hm5) HDG.out (HBB.out _ hm5)).mono ?_); rintro e_ wz ⟨p1, rfl, hp1, he1⟩; go_wp2_with (fail); (try clear hSn); (have hSn := hHeld.ext he1); (refine hK.out _ _ (fun _ => hSn) ?_); clear hK K; (try simp only [Act.put, List.setIfInBounds_toArray, List.set_cons_zero, List.set_cons_succ]))
      ((refine wpAnyU_one 9 (o := ?_) (by kernel_rfl) ?_ ?_; rotate_left 1; (simp only [List.getElem?_toArray, List.getElem?_cons_succ, List.getElem?_cons_zero]; rfl); intro K hK); go_simp; (refine (rp_Pow M0 r (norm l) 4 i _ (mb0 _) (HR9.out.ext he1).pi hn7 (HL.out _ hi5) HDG.out (HBB.out _ hi5)).mono ?_); rintro e_ wz ⟨p2, rfl, hp2, he2⟩; go_wp2_with (fail); (try clear hSn); (have hSn := hHeld.ext (he1.trans he2)); (refine hK.out _ _ (fun _ => hSn) ?_); clear hK K; (try simp only [Act.put, List.setIfInBounds_toArray, List.set_cons_zero, List.set_cons_succ]))
      have hE2 := he1.trans he2
      ((refine wpAnyU_one 12 (o := ?_) (by kernel_rfl) ?_ ?_; rotate_left 1; (simp only [List.getElem?_toArray, List.getElem?_cons_succ, List.getElem?_cons_zero]; rfl); intro K hK); go_simp; (refine (rp_Pow M0 r (norm l) 4 k _ (mb0 _) (HR9.out.ext hE2).pi hk7 (HL.out _ hk5) HDG.out (HBB.out _ hk5)).mono ?_); rintro e_ wz ⟨p3, rfl, hp3, he3⟩; go_wp2_with (fail); (try clear hSn); (have hSn := hHeld.ext (hE2.trans he3)); (refine hK.out _ _ (fun _ => hSn) ?_); clear hK K; (try simp only [Act.put, List.setIfInBounds_toArray, List.set_cons_zero, List.set_cons_succ]))
      have hE3 := hE2.trans he3
      have hdm : dlen (nrm (ppow (norm l) i.toNat)) + dlen (nrm (ppow (norm l) k.toNat)) ≤ 95 := by
        have h1 := dlen_ppow (norm l) i.toNat
        have h2 := dlen_ppow (norm l) k.toNat
        have h3 := Nat.mul_le_mul hi5 HDN.out
        have h4 := Nat.mul_le_mul hk5 HDN.out
        omega
      ((refine wpAnyU_one 13 (o := ?_) (by kernel_rfl) ?_ ?_; rotate_left 1; (simp only [List.getElem?_toArray, List.getElem?_cons_succ, List.getElem?_cons_zero]; rfl); intro K hK); go_simp; (refine (rp_Mul M0 p2 p3 (ppow (norm l) i.toNat) (ppow (norm l) k.toNat) 12 12 _ (mb0 _) (hp2.ext he3).pi hp3.pi hdm (HDD.out _ hi3) (HDD.out _ (by omega)) (by omega)).mono ?_); rintro e_ wz ⟨p4, rfl, hp4, he4⟩; go_wp2_with (fail); (try clear hSn); (have hSn := hHeld.ext (hE3.trans he4)); (refine hK.out _ _ (fun _ => hSn) ?_); clear hK K; (try simp only [Act.put, List.setIfInBounds_toArray, List.set_cons_zero, List.set_cons_succ]))
      have hE4 := hE3.trans he4
      have ctr := same_b p1 p4 (ppow (norm l) mm.toNat) (pmul (ppow (norm l) i.toNat) (ppow (norm l) k.toNat)) _ true (hp1.ext ((he2.trans he3).trans he4)).pi hp4.pi (by
        constructor
        · intro _; rw [hmv]; exact (ppow_add (norm l) i.toNat k.toNat).symm
        · intro _; rfl)
      have CT := Lib.hid ctr
      clear ctr hp1 hp2 hp3 hp4 he1 he2 he3 he4 hE2 hE3 hdm
      ((refine wpAnyU_one 14 (o := ?_) (by kernel_rfl) ?_ ?_; rotate_left 1; (simp only [List.getElem?_toArray, List.getElem?_cons_succ, List.getElem?_cons_zero]; rfl); intro K hK); go_simp; (refine (CT.out).mono ?_); rintro e_ wz ⟨rfl, he5⟩; go_wp2_with (fail); (try clear hSn); (have hSn := hHeld.ext (hE4.trans he5)); (refine hK.out _ _ (fun _ => hSn) ?_); clear hK K; (try simp only [Act.put, List.setIfInBounds_toArray, List.set_cons_zero, List.set_cons_succ]))
      have HEF := Lib.hid (HE9.out.trans (hE4.trans he5))
      (refine wpAnyU_one 15 (o := ?_) (by kernel_rfl) ?_ ?_; rotate_left 1; (simp only [List.getElem?_toArray, List.getElem?_cons_succ, List.getElem?_cons_zero]; rfl); intro K hK)
      go_simp
      refine hK.out _ _ (fun _ => hSn) ?_
      clear hK K
      (try simp only [Act.put, List.setIfInBounds_toArray, List.set_cons_zero, List.set_cons_succ])
      refine wpAnyU_done (by kernel_rfl) ?_ _
      clear hSn hHeld hE4 he5 CT
      go_wp2
      go_ret
      exact ⟨rfl, HEF.out⟩
end Go.Proofs.Ythhffpimcgmciaa

namespace Go.Proofs.Ythhffpimcgmciaa
open Go.ChangeShapes Go.WideShapes Go.ChangeAt Go.RowKit Go.Deep

namespace recpolyPower
theorem own : ownKnob Try.prog.godebug = none := by kernel_rfl
set_option maxRecDepth 100000 in
theorem contract (H : Type) (enc : TypeId × Value → H) (W : World) (base : Nat) (args : Array Value) (ds gs : List (DataW H)) (before : List MemPlace)
    (hval : ∀ (j : Nat) t v, Try.f7.params[j]? = some t → args[j]? = some v → Value.okWide Try.prog W .any base t v)
    (hW : DataW.Whole enc Try.prog Try.f7.params.toList Rows.recpolyPowerSpec.vars false W args.toList ds gs before) :
    Calls Try.prog 7 args W fun e W' => ∃ v, e = .returned v ∧ Rows.recpolyPowerSpec.post enc Try.prog Try.f7 false true false false W args v W' := by
  have hW' := hW
  obtain ⟨p, q, hA0, hV, rfl, hfz, hnd⟩ := hW
  have hA : DataW.TrodAll enc Try.prog W 0 (fun _ => true) true Try.f7.params.toList args.toList ds p := hA0
  rw [Try.params7] at hA hval
  obtain ⟨v0, vs0, d0, ds0, p0, q0, hargs, rfl, rfl, h0, r0⟩ := trodAll_cons hA
  obtain ⟨v1, vs1, d1, ds1, p1, q1, rfl, rfl, rfl, h1, r1⟩ := trodAll_cons r0
  obtain ⟨v2, vs2, d2, ds2, p2, q2, rfl, rfl, rfl, h2, r2⟩ := trodAll_cons r1
  obtain ⟨rfl, rfl, rfl⟩ := trodAll_nil r2
  obtain rfl : args = #[v0, v1, v2] := by cases args; simp_all
  obtain ⟨rfl, rfl⟩ := trodVars_none hV
  obtain ⟨a0, n0, c0, X0, rfl, g0⟩ := open_poly (hval 0 36 v0 rfl rfl) h0
  obtain ⟨b1, a1, n1, c1, rfl, g1⟩ := open_intA (hval 1 28 v1 rfl rfl) h1
  obtain ⟨y2, z2, rfl, g2⟩ := open_pair8 (hval 2 53 v2 rfl rfl) h2
  refine (law_power a0 n0 c0 X0 b1 a1 n1 c1 y2 z2 W g0 g1 g2).mono fun e W' ⟨he, hg⟩ => ?_
  subst he
  refine ⟨_, rfl, post_true (tb := 4) (by kernel_rfl) ?_ rfl rfl (by kernel_rfl) Try.underlying4 hW' hg⟩
  rw [Try.params7]
  intro t ht
  simp only [List.mem_cons, List.not_mem_nil, or_false, or_self] at ht
  rcases ht with rfl | rfl | rfl
  · exact ⟨by kernel_rfl, of_decide_eq_true (by kernel_rfl)⟩
  · exact ⟨by kernel_rfl, of_decide_eq_true (by kernel_rfl)⟩
  · exact ⟨by kernel_rfl, of_decide_eq_true (by kernel_rfl)⟩
set_option maxRecDepth 100000 in
theorem lifted (os : Os) (started : os.Started) (H : Type) (enc : TypeId × Value → H) :
    ReturnsInHanded {} Try.checked os 7 .any (Rows.recpolyPowerSpec.pre6 enc Try.prog Try.f7 Rows.recpolyPowerRow.domain false) (Rows.recpolyPowerSpec.post enc Try.prog Try.f7 false true false false) := by
  refine returnsInHanded_of_change (C := Try.checked) own started (by kernel_rfl) Try.func7
    (ChangeSpec.witness6 (enc := enc) (C := Try.checked) false ⟨#[], #[.slice none 0 0, .agg #[.bool false, .slice none 0 0], .agg #[.int .i8 0, .int .i8 0]], []⟩ 8 (by kernel_rfl) (by kernel_rfl) (by kernel_rfl) (by kernel_rfl)) ?_
  intro W base args ds gs before hval hW _ _
  exact contract H enc W base args ds gs before hval hW
theorem proved : Rows.RecpolyPowerSaid :=
  OpenClaim.holds_of_wide (p := Try.pinned) (s := Rows.recpolyPowerSpec) (c := Rows.recpolyPowerRow) 7 Try.f7 rfl rfl rfl rfl rfl rfl rfl ⟨rfl, rfl, rfl, rfl, rfl⟩ rfl rfl rfl rfl rfl (by kernel_rfl) Try.func7 (by kernel_rfl)
    (of_decide_eq_true (by kernel_rfl)) (by unfold Func.isWrapper; first | (rw [if_pos (by decide +kernel)]; kernel_rfl) | (rw [if_neg (by decide +kernel)]; exact ⟨rfl, rfl⟩))
    (fun os started H enc _ => lifted os started H enc)
end recpolyPower
end Go.Proofs.Ythhffpimcgmciaa
