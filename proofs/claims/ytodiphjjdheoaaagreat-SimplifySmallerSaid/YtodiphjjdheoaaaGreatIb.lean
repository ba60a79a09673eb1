/- prenex.kind, relation, Same of simple matrices. prenex.Same of simple matrices: the walk. simplify.include: frames, facts. simplify.include: the walk. -/
import Derived.Test.YtodiphjjdheoaaaGreatIa
set_option linter.unusedVariables false
set_option linter.unusedSimpArgs false

namespace Go.Proofs.YtodiphjjdheoaaaGreat
open Go.RowKit

theorem new_mx (w : World) (m : MX) : MxC (w.alloc (.cells m.A 32)) w.heap.size 0 m := by
 have hB := Blk.of_arr w m.A 32 7 rfl
 exact ⟨hB.cell (i := 0) (by omega), hB.cell (i := 1) (by omega), hB.cell (i := 2) (by omega), hB.cell (i := 3) (by omega), hB.cell (i := 4) (by omega), hB.cell (i := 5) (by omega), hB.cell (i := 6) (by omega)⟩
theorem new_mx2 (w : World) (m m' : MX) : MxC ((w.alloc (.cells m.A 32)).alloc (.cells m'.A 32)) w.heap.size 0 m ∧ MxC ((w.alloc (.cells m.A 32)).alloc (.cells m'.A 32)) (w.heap.size + 1) 0 m' := by
 have h2 := new_mx (w.alloc (.cells m.A 32)) m'
 simp only [World.size_alloc] at h2
 exact ⟨(new_mx w m).ext ((Ext.refl _).alloc _), h2⟩
set_option maxRecDepth 100000 in
set_option maxHeartbeats 4000000 in
theorem pr_kindX (y : MX) (w : World) : Calls Tryz.prog 67 #[.agg y.A] w fun e w' => e = .returned (.int .i64 (kdOf y.kd)) ∧ Ext w w' := by
 have HE := Lib.hid ((Ext.refl w).alloc (.cells y.A 32))
 obtain ⟨x0, x1, x2, x3, x4, x5, x6⟩ := new_mx w y
 generalize hW : w.alloc (.cells y.A 32) = W at *
 have HW := Lib.hid hW
 clear hW
 by_cases h1 : y.kd < 0
 ·have HK : Hid (kdOf y.kd = 0) := by show _ = _; unfold kdOf; rw [if_pos h1]
  go_enter Tryz.func67, Tryz.ntmps67
  go_upto_region 1 with (fail)
  rw [HW.out]
  go_wp2
  exact bodyPost_ret (v := .int .i64 0) (by simp [results, Tryz.results67, go_sem]) rfl ⟨by rw [HK.out], HE.out⟩
 by_cases h2 : 4 < y.kd
 ·have HK : Hid (kdOf y.kd = 0) := by show _ = _; unfold kdOf; rw [if_neg h1, if_pos h2]
  go_enter Tryz.func67, Tryz.ntmps67
  go_upto_region 1 with (fail)
  rw [HW.out]
  go_wp2
  exact bodyPost_ret (v := .int .i64 0) (by simp [results, Tryz.results67, go_sem]) rfl ⟨by rw [HK.out], HE.out⟩
 have HK : Hid (kdOf y.kd = y.kd) := by show _ = _; unfold kdOf; rw [if_neg h1, if_neg h2]
 go_enter Tryz.func67, Tryz.ntmps67
 go_upto_region 1 with (fail)
 rw [HW.out]
 go_wp2
 exact bodyPost_ret (v := .int .i64 y.kd) (by simp [results, Tryz.results67, go_sem]) rfl ⟨by rw [HK.out], HE.out⟩
set_option maxRecDepth 100000 in
theorem pr_rel (r : Int) (h1 : 1 ≤ r) (h6 : r ≤ 6) (w : World) : Calls Tryz.prog 69 #[.int .i64 r] w fun e w' => e = .returned (.int .i64 r) ∧ Ext w w' := by
 have HE := Lib.hid (Ext.refl w)
 have g1 : ¬ r < 1 := by omega
 have g6 : ¬ 6 < r := by omega
 go_enter Tryz.func69, Tryz.ntmps69
 go_wp2
 exact bodyPost_ret (v := .int .i64 r) (by simp [results, Tryz.results69, go_sem]) rfl ⟨rfl, HE.out⟩
open Classical in
noncomputable def eqT (a b : TM) : Bool := decide (a = b)
open Classical in
noncomputable def eqL (a b : List TM) : Bool := decide (a = b)
theorem eqT_true {a b : TM} : eqT a b = true ↔ a = b := by unfold eqT; simp
theorem eqL_true {a b : List TM} : eqL a b = true ↔ a = b := by unfold eqL; simp
theorem eqT_false {a b : TM} (h : a ≠ b) : eqT a b = false := by unfold eqT; simp [h]
theorem eqL_false {a b : List TM} (h : a ≠ b) : eqL a b = false := by unfold eqL; simp [h]
theorem kat_ext {a b : List TM} (hl : a.length = b.length) (h : ∀ i, i < a.length → kat a i = kat b i) : a = b := by
 apply List.ext_getElem hl
 intro i h1 h2
 have := h i h1
 unfold kat at this
 simpa [List.getD_eq_getElem?_getD, h1, h2] using this
def SameMx (f : Nat) : Prop := ∀ (M : Nat → Prop) (ya yb : MX) (ta tb : TM) (w : World), Mb M w → TMc true f M w ya ta → TMc true f M w yb tb → Calls Tryz.prog 143 #[.agg ya.A, .agg yb.A] w fun e w' => e = .returned (.bool (eqT ta tb)) ∧ Ext w w'
set_option maxRecDepth 100000 in
set_option maxHeartbeats 8000000 in
theorem eqf_walk (f : Nat) (ih : SameMx f) (M : Nat → Prop) (a a' : Option Addr) (n p n' p' : Nat) (ks ks' : List TM) (w : World) (hM : Mb M w) (h : KM (TMc true f M) M w a n p ks) (h' : KM (TMc true f M) M w a' n' p' ks') :
  Calls Tryz.prog 169 #[.slice a n p, .slice a' n' p', .func (.func 143) #[] #[]] w fun e w' => e = .returned (.bool (eqL ks ks')) ∧ Ext w w' := by
 obtain ⟨h1, h2, h3, kk, hk⟩ := h
 obtain ⟨g1, g2, g3, kk', hk'⟩ := h'
 have IH : Hid (SameMx f) := ih
 have HK := Lib.hid hk
 have HK' := Lib.hid hk'
 have HN := Lib.hid h1
 have HN' := Lib.hid g1
 have HM := Lib.hid hM
 have HE := Lib.hid (Ext.refl w)
 unfold maxLen at h3 g3
 clear hk hk' h1 g1 ih hM
 by_cases hn : n = n'
 rotate_left
 ·have hnI : ¬ (n : Int) = (n' : Int) := by omega
  have HF : Hid (eqL ks ks' = false) := eqL_false fun e => hn (by rw [HN.out, HN'.out, e])
  go_enter Tryz.func169, Tryz.ntmps169
  go_wp2
  go_ret
  exact ⟨by rw [HF.out]; rfl, HE.out⟩
 subst hn
 go_enter Tryz.func169, Tryz.ntmps169
 go_wp2
 go_loopw [17] (fun iv wr => ∃ (j : Nat), j ≤ n ∧ iv = .int .i64 (j : Int) ∧ Hid (∀ i, i < j → kat ks i = kat ks' i) ∧ Hid (Ext w wr)) (fun iv _ => n - (intOf iv).toNat)
 case atStart => exact ⟨0, Nat.zero_le _, rfl, fun i hi => absurd hi (Nat.not_lt_zero _), HE.out⟩
 case round =>
  obtain ⟨j, hj, rfl, HQ, HX⟩ := hrel
  by_cases hlt : j < n
  ·obtain ⟨⟨b, off, rfl, hb, hc⟩, ht⟩ := HK.out j hlt
   obtain ⟨⟨b', off', rfl, hb', hc'⟩, ht'⟩ := HK'.out j hlt
   obtain ⟨e0, e1, e2, e3, e4, e5, e6⟩ := hc.ext HX.out
   have hB' := hc'.ext (HX.out.alloc (.cells (kk j).A 32))
   have hT := ht.ext (HX.out.alloc (.cells (kk j).A 32) |>.alloc (.cells (kk' j).A 32))
   have hT' := ht'.ext (HX.out.alloc (.cells (kk j).A 32) |>.alloc (.cells (kk' j).A 32))
   have hX := (HX.out.alloc (.cells (kk j).A 32)).alloc (.cells (kk' j).A 32)
   obtain ⟨⟨x0, x1, x2, x3, x4, x5, x6⟩, y0, y1, y2, y3, y4, y5, y6⟩ := new_mx2 wr (kk j) (kk' j)
   have CS := Lib.hid (IH.out M (kk j) (kk' j) _ _ _ (HM.out.ext hX) hT hT')
   have HX2 := Lib.hid hX
   obtain ⟨q0, q1, q2, q3, q4, q5, q6⟩ := hB'
   clear hc hc' ht ht' hT hT' hX hb hb'
   generalize kk j = z at *
   generalize kk' j = z' at *
   have hltI : (j : Int) < (n : Int) := by omega
   generalize hW5 : wr.alloc (.cells z.A 32) = W5 at *
   have HW5 := Lib.hid hW5
   generalize hW6 : W5.alloc (.cells z'.A 32) = W6 at *
   have HW6 := Lib.hid hW6
   have HS5 : Hid (W5.heap.size = wr.heap.size + 1) := by show _ = _; rw [← hW5]; simp
   clear hW5 hW6
   go_upto_region 6 with (fail)
   rw [HW5.out]
   go_upto_region 7 with (fail)
   rw [HW6.out, HS5.out]
   go_wp2_with (fail)
   refine CS.out.mono ?_
   rintro e w2 ⟨rfl, he2⟩
   have HX3 := Lib.hid (HX2.out.trans he2)
   have HLT := Lib.hid hlt
   clear he2 CS HX2 e0 e1 e2 e3 e4 e5 e6 x0 x1 x2 x3 x4 x5 x6 y0 y1 y2 y3 y4 y5 y6 q0 q1 q2 q3 q4 q5 q6
   by_cases hs : kat ks j = kat ks' j
   ·rw [eqT_true.2 hs]
    have HQ2 : Hid (∀ i, i < j + 1 → kat ks i = kat ks' i) := fun i hi => by
     by_cases hij : i = j
     ·rw [hij]; exact hs
     ·exact HQ.out i (by omega)
    clear hs HQ
    go_wp2
    go_roundw
    case rel => exact ⟨j + 1, HLT.out, by go_num, HQ2.out, HX3.out⟩
    case measure => have := HLT.out; simp [intOf]; omega
   ·rw [eqT_false hs]
    have HF : Hid (eqL ks ks' = false) := eqL_false fun e => hs (by rw [e])
    clear hs HQ
    go_wp2
    go_ret
    exact ⟨by rw [HF.out]; rfl, HX3.out⟩
  ·obtain rfl : j = n := by omega
   have hge : ¬ (j : Int) < (j : Int) := by omega
   have HF : Hid (eqL ks ks' = true) := eqL_true.2 (kat_ext (by rw [← HN.out, ← HN'.out]) fun i hi => HQ.out i (by rw [HN.out]; exact hi))
   clear HQ
   go_wp2
   go_ret
   exact ⟨by rw [HF.out]; rfl, HX.out⟩
end Go.Proofs.YtodiphjjdheoaaaGreat

namespace Go.Proofs.YtodiphjjdheoaaaGreat
open Go.RowKit

def SMM (g g' : Nat) (y y' : MX) (w : World) : Prop := MxC w g 0 y ∧ MxC w g' 0 y'
theorem SMM.ext {g g' : Nat} {y y' : MX} {w w' : World} (h : SMM g g' y y' w) (he : Ext w w') : SMM g g' y y' w' := ⟨h.1.ext he, h.2.ext he⟩
theorem NodeOk.kd {t : TM} (h : NodeOk t) : kdOf t.kd = t.kd ∧ (t.kd = 0 ∨ t.kd = 1 ∨ t.kd = 2 ∨ t.kd = 3 ∨ t.kd = 4) := by
 have : t.kd = 0 ∨ t.kd = 1 ∨ t.kd = 2 ∨ t.kd = 3 ∨ t.kd = 4 := by
  obtain ⟨_, h | h | h⟩ := h <;> omega
 exact ⟨by unfold kdOf; rw [if_neg (by omega), if_neg (by omega)], this⟩
theorem eqT_leaf {a b : TM} (ha : NodeOk a) (hb : NodeOk b) (hk : a.kd = b.kd) (h : a.kd = 0 ∨ a.kd = 1) : eqT a b = true := by
 obtain ⟨_, h1 | h1 | h1⟩ := ha
 ·obtain ⟨_, h2 | h2 | h2⟩ := hb
  ·rw [eqT_true, a.eta, b.eta, hk, h1.2.1, h1.2.2.1, h1.2.2.2, h2.2.1, h2.2.2.1, h2.2.2.2]
  ·omega
  ·omega
 ·omega
 ·omega
theorem eqT_atom {a b : TM} (ha : NodeOk a) (hb : NodeOk b) (hk : a.kd = b.kd) (h : a.kd = 2) {bl : Bool} (hl : bl = true ↔ a.l = b.l) : (a.rl = b.rl → eqT a b = bl) ∧ (¬ a.rl = b.rl → eqT a b = false) := by
 refine ⟨fun hr => ?_, fun hr => eqT_false fun e => hr (by rw [e])⟩
 obtain ⟨_, h1 | h1 | h1⟩ := ha
 ·omega
 ·obtain ⟨_, h2 | h2 | h2⟩ := hb
  ·omega
  ·cases hbl : bl
   ·rw [hbl] at hl
    exact eqT_false fun e => absurd (hl.2 (by rw [e])) (by decide)
   ·rw [eqT_true, a.eta, b.eta, hk, hr, hl.1 hbl, h1.2.2, h2.2.2]
  ·omega
 ·omega
theorem eqT_kids {a b : TM} (ha : NodeOk a) (hb : NodeOk b) (hk : a.kd = b.kd) (h : a.kd = 3 ∨ a.kd = 4) : eqT a b = eqL a.ks b.ks := by
 obtain ⟨_, h1 | h1 | h1⟩ := ha
 ·omega
 ·omega
 ·obtain ⟨_, h2 | h2 | h2⟩ := hb
  ·omega
  ·omega
  ·by_cases e : a.ks = b.ks
   ·rw [eqL_true.2 e, eqT_true, a.eta, b.eta, hk, h1.2.1, h1.2.2, h2.2.1, h2.2.2, e]
   ·rw [eqL_false e]; exact eqT_false fun e' => e (by rw [e'])
set_option maxRecDepth 100000 in
set_option maxHeartbeats 16000000 in
theorem sameM_walk (f : Nat) (ih : SameMx f) : SameMx (f + 1) := by
 intro M ya yb ta tb w hM ha hb
 obtain ⟨⟨a1, a2, a3, a4⟩, a5⟩ := ha
 obtain ⟨⟨b1, b2, b3, b4⟩, b5⟩ := hb
 have a4 : CRx M w 4 ya.x ta.l ∧ NodeOk ta := a4
 have b4 : CRx M w 4 yb.x tb.l ∧ NodeOk tb := b4
 obtain ⟨a4, na⟩ := a4
 obtain ⟨b4, nb⟩ := b4
 have hX := ((Ext.refl w).alloc (.cells ya.A 32)).alloc (.cells yb.A 32)
 have hB : SMM w.heap.size (w.heap.size + 1) ya yb ((w.alloc (.cells ya.A 32)).alloc (.cells yb.A 32)) := new_mx2 w ya yb
 have ka := na.kd
 have kb := nb.kd
 have CKa : Hid (∀ W', Calls Tryz.prog 67 #[.agg ya.A] W' fun e w' => e = .returned (.int .i64 ta.kd) ∧ Ext W' w') := fun W' => by
  have := pr_kindX ya W'
  rwa [a1, ka.1] at this
 have CKb : Hid (∀ W', Calls Tryz.prog 67 #[.agg yb.A] W' fun e w' => e = .returned (.int .i64 tb.kd) ∧ Ext W' w') := fun W' => by
  have := pr_kindX yb W'
  rwa [b1, kb.1] at this
 have CEF : Hid (∀ W', Ext w W' → Calls Tryz.prog 169 #[.slice ya.a ya.n ya.p, .slice yb.a yb.n yb.p, .func (.func 143) #[] #[]] W' fun e w' => e = .returned (.bool (eqL ta.ks tb.ks)) ∧ Ext W' w') := fun W' he => eqf_walk f ih M ya.a yb.a ya.n ya.p yb.n yb.p ta.ks tb.ks W' (hM.ext he) (a5.ext he) (b5.ext he)
 obtain ⟨bl, hbl⟩ : ∃ bl : Bool, bl = true ↔ ta.l = tb.l := by
  by_cases e : ta.l = tb.l
  ·exact ⟨true, by simp [e]⟩
  ·exact ⟨false, by simp [e]⟩
 have CPS : Hid (∀ W', Ext w W' → Calls Tryz.prog 41 #[.agg (peA ya.x), .agg (peA yb.x)] W' fun e w' => e = .returned (.bool bl) ∧ Ext W' w') := fun W' he => by
  refine (rp_Same M ya.x yb.x ta.l tb.l W' (hM.ext he) (a4.ext he).pi (b4.ext he).pi).mono ?_
  rintro e w' ⟨b, rfl, hb, he'⟩
  refine ⟨?_, he'⟩
  have h2 : b = true ↔ bl = true := hb.trans (Iff.intro (fun hs => hbl.2 (by have := hs.norm; rwa [na.1, nb.1] at this)) fun h => by rw [hbl.1 h]; exact Sim.refl _)
  cases b <;> cases bl <;> simp at h2 ⊢
 have HEQ : Hid (ta.kd = tb.kd → (ta.kd = 0 ∨ ta.kd = 1 → eqT ta tb = true) ∧ (ta.kd = 2 → (ta.rl = tb.rl → eqT ta tb = bl) ∧ (¬ ta.rl = tb.rl → eqT ta tb = false)) ∧ (ta.kd = 3 ∨ ta.kd = 4 → eqT ta tb = eqL ta.ks tb.ks)) := fun hk => ⟨eqT_leaf na nb hk, fun h => eqT_atom na nb hk h hbl, eqT_kids na nb hk⟩
 have HNE : Hid (¬ ta.kd = tb.kd → eqT ta tb = false) := fun h => eqT_false fun e => h (by rw [e])
 have HRA : Hid (ta.kd = 2 → 1 ≤ ta.rl ∧ ta.rl ≤ 6) := fun h => by obtain ⟨_, h1 | h1 | h1⟩ := na <;> first | exact h1.2.1 | omega
 have HRB : Hid (tb.kd = 2 → 1 ≤ tb.rl ∧ tb.rl ≤ 6) := fun h => by obtain ⟨_, h1 | h1 | h1⟩ := nb <;> first | exact h1.2.1 | omega
 have ka := ka.2
 have A2 := Lib.hid a2
 have B2 := Lib.hid b2
 generalize eqT ta tb = et at *
 generalize eqL ta.ks tb.ks = el at *
 generalize ta.kd = da at *
 generalize tb.kd = db at *
 generalize ta.rl = ra at *
 generalize tb.rl = rb at *
 clear a1 b1 a2 b2 a3 b3 a4 b4 a5 b5 na nb kb hbl ih hM
 generalize hW : (w.alloc (.cells ya.A 32)).alloc (.cells yb.A 32) = W at *
 have HW := Lib.hid hW
 have HX := Lib.hid hX
 have HB := Lib.hid hB
 clear hW hX hB
 by_cases hk : da = db
 rotate_left
 ·have HF := Lib.hid (HNE.out hk)
  have hS := HB.out.ext (Ext.refl W).drew
  go_enter Tryz.func143, Tryz.ntmps143
  go_upto_region 1 with (fail)
  rw [HW.out]
  generalize w.heap.size = ga at *
  refine wp_region_u (SMM ga (ga + 1) ya yb) 5 (by kernel_rfl) hS (fun hHeld => ?_)
  have HX2 := Lib.hid (HX.out.trans (Ext.refl W).drew)
  generalize W.drew = wd at *
  (refine tkB [0, 2] ?_; (iterate 2 (refine tk1 (oi := ?_) (v := ?_) (by kernel_rfl) (by first | exact hSn | exact hHeld) ?_ ?_ ?_ ?_ ?_; rotate_left 2; (simp only [xgA, xgB, xgC]; rfl); rfl; (intro wS hSw; obtain ⟨⟨A0, A1, A2, A3, A4, A5, A6⟩, B0, B1, B2, B3, B4, B5, B6⟩ := hSw; go_simp; try with_reducible rfl); (exact fun _ _ _ h => h); (try simp only [Act.put, xgD, xgE, xgF]))); refine tkE ?_)
  ((refine wpAnyU_one 1 (o := ?_) (by kernel_rfl) ?_ ?_; rotate_left 1; (simp only [xgA, xgB, xgC]; rfl); intro K hK); go_simp; (refine (CKa.out _).mono ?_); rintro e_ u1 ⟨rfl, d1⟩; go_wp2_with (fail); (try clear hSn); (have hSn := hHeld.ext d1); (refine hK.out _ _ (fun _ => hSn) ?_); clear hK K; (try simp only [Act.put, xgD, xgE, xgF]))
  ((refine wpAnyU_one 3 (o := ?_) (by kernel_rfl) ?_ ?_; rotate_left 1; (simp only [xgA, xgB, xgC]; rfl); intro K hK); go_simp; (refine (CKb.out _).mono ?_); rintro e_ u2 ⟨rfl, d2⟩; go_wp2_with (fail); (try clear hSn); (have hSn := hHeld.ext (d1.trans d2)); (refine hK.out _ _ (fun _ => hSn) ?_); clear hK K; (try simp only [Act.put, xgD, xgE, xgF]))
  (refine tkB [4] ?_; (iterate 1 (refine tk1 (oi := ?_) (v := ?_) (by kernel_rfl) (by first | exact hSn | exact hHeld) ?_ ?_ ?_ ?_ ?_; rotate_left 2; (simp only [xgA, xgB, xgC]; rfl); rfl; (intro wS hSw; obtain ⟨⟨A0, A1, A2, A3, A4, A5, A6⟩, B0, B1, B2, B3, B4, B5, B6⟩ := hSw; go_simp; try with_reducible rfl); (exact fun _ _ _ h => h); (try simp only [Act.put, xgD, xgE, xgF]))); refine tkE ?_)
  refine wpAnyU_done (by kernel_rfl) ?_ _
  have HX3 := Lib.hid (HX2.out.trans (d1.trans d2))
  clear d1 d2 hSn hHeld
  go_wp2
  go_ret
  exact ⟨by rw [HF.out]; rfl, HX3.out⟩
 subst hk
 have HEQ2 := Lib.hid (HEQ.out rfl)
 clear HEQ HNE
 have hS := HB.out.ext (Ext.refl W).drew
 go_enter Tryz.func143, Tryz.ntmps143
 go_upto_region 1 with (fail)
 rw [HW.out]
 generalize w.heap.size = ga at *
 refine wp_region_u (SMM ga (ga + 1) ya yb) 5 (by kernel_rfl) hS (fun hHeld => ?_)
 have HX2 := Lib.hid (HX.out.trans (Ext.refl W).drew)
 have HB2 : Hid (SMM ga (ga + 1) ya yb W.drew) := hS
 generalize W.drew = wd at *
 (refine tkB [0, 2] ?_; (iterate 2 (refine tk1 (oi := ?_) (v := ?_) (by kernel_rfl) (by first | exact hSn | exact hHeld) ?_ ?_ ?_ ?_ ?_; rotate_left 2; (simp only [xgA, xgB, xgC]; rfl); rfl; (intro wS hSw; obtain ⟨⟨A0, A1, A2, A3, A4, A5, A6⟩, B0, B1, B2, B3, B4, B5, B6⟩ := hSw; go_simp; try with_reducible rfl); (exact fun _ _ _ h => h); (try simp only [Act.put, xgD, xgE, xgF]))); refine tkE ?_)
 ((refine wpAnyU_one 1 (o := ?_) (by kernel_rfl) ?_ ?_; rotate_left 1; (simp only [xgA, xgB, xgC]; rfl); intro K hK); go_simp; (refine (CKa.out _).mono ?_); rintro e_ u1 ⟨rfl, d1⟩; go_wp2_with (fail); (try clear hSn); (have hSn := hHeld.ext d1); (refine hK.out _ _ (fun _ => hSn) ?_); clear hK K; (try simp only [Act.put, xgD, xgE, xgF]))
 ((refine wpAnyU_one 3 (o := ?_) (by kernel_rfl) ?_ ?_; rotate_left 1; (simp only [xgA, xgB, xgC]; rfl); intro K hK); go_simp; (refine (CKb.out _).mono ?_); rintro e_ u2 ⟨rfl, d2⟩; go_wp2_with (fail); (try clear hSn); (have hSn := hHeld.ext (d1.trans d2)); (refine hK.out _ _ (fun _ => hSn) ?_); clear hK K; (try simp only [Act.put, xgD, xgE, xgF]))
 (refine tkB [4] ?_; (iterate 1 (refine tk1 (oi := ?_) (v := ?_) (by kernel_rfl) (by first | exact hSn | exact hHeld) ?_ ?_ ?_ ?_ ?_; rotate_left 2; (simp only [xgA, xgB, xgC]; rfl); rfl; (intro wS hSw; obtain ⟨⟨A0, A1, A2, A3, A4, A5, A6⟩, B0, B1, B2, B3, B4, B5, B6⟩ := hSw; go_simp; try with_reducible rfl); (exact fun _ _ _ h => h); (try simp only [Act.put, xgD, xgE, xgF]))); refine tkE ?_)
 refine wpAnyU_done (by kernel_rfl) ?_ _
 have HX3 := Lib.hid (HX2.out.trans (d1.trans d2))
 have HB3 := Lib.hid (HB2.out.ext (d1.trans d2))
 clear d1 d2 hSn hHeld hS HX2 HB2 HX HB
 obtain ⟨⟨x0, x1, x2, x3, x4, x5, x6⟩, y0, y1, y2, y3, y4, y5, y6⟩ := HB3.out
 go_wp2_with (fail)
 refine (CKa.out _).mono ?_
 rintro e w5 ⟨rfl, he5⟩
 have HX5 := Lib.hid (HX3.out.trans he5)
 have HB5 := Lib.hid (HB3.out.ext he5)
 clear he5 HX3 HB3 x0 x1 x2 x3 x4 x5 x6 y0 y1 y2 y3 y4 y5 y6
 obtain ⟨⟨x0, x1, x2, x3, x4, x5, x6⟩, y0, y1, y2, y3, y4, y5, y6⟩ := HB5.out
 rcases ka with rfl | rfl | rfl | rfl | rfl
 ·have HF := Lib.hid (HEQ2.out.1 (.inl rfl))
  go_wp2
  go_ret
  exact ⟨by rw [HF.out]; rfl, HX5.out⟩
 ·have HF := Lib.hid (HEQ2.out.1 (.inr rfl))
  go_wp2
  go_ret
  exact ⟨by rw [HF.out]; rfl, HX5.out⟩
 ·have h5 := HEQ2.out.2.1 rfl
  have hra := HRA.out rfl
  have hrb := HRB.out rfl
  obtain ⟨qa, hqa⟩ : ∃ q, q = ya.rl := ⟨_, rfl⟩
  obtain ⟨qb, hqb⟩ : ∃ q, q = yb.rl := ⟨_, rfl⟩
  have CRA : Hid (∀ W', Calls Tryz.prog 69 #[.int .i64 ya.rl] W' fun e w' => e = .returned (.int .i64 qa) ∧ Ext W' w') := fun W' => by
   rw [hqa]; exact pr_rel ya.rl (by rw [A2.out]; omega) (by rw [A2.out]; omega) W'
  have CRB : Hid (∀ W', Calls Tryz.prog 69 #[.int .i64 yb.rl] W' fun e w' => e = .returned (.int .i64 qb) ∧ Ext W' w') := fun W' => by
   rw [hqb]; exact pr_rel yb.rl (by rw [B2.out]; omega) (by rw [B2.out]; omega) W'
  have HF5 : Hid ((qa = qb → et = bl) ∧ (¬ qa = qb → et = false)) := by
   show _ ∧ _
   rw [hqa, hqb, A2.out, B2.out]; exact h5
  have hS5 := HB5.out.ext (Ext.refl w5).drew
  have HX5d := Lib.hid (HX5.out.trans (Ext.refl w5).drew)
  clear h5 hra hrb hqa hqb x0 x1 x2 x3 x4 x5 x6 y0 y1 y2 y3 y4 y5 y6 HEQ2 HRA HRB A2 B2 CKa CKb CEF HB5 HX5
  go_upto_region 5 with (fail)
  refine wp_region_u (SMM ga (ga + 1) ya yb) 15 (by kernel_rfl) hS5 (fun hHeld => ?_)
  generalize w5.drew = wd5 at *
  (refine tkB [0, 1, 3, 4] ?_; (iterate 4 (refine tk1 (oi := ?_) (v := ?_) (by kernel_rfl) (by first | exact hSn | exact hHeld) ?_ ?_ ?_ ?_ ?_; rotate_left 2; (simp only [xgA, xgB, xgC]; rfl); rfl; (intro wS hSw; obtain ⟨⟨A0, A1, A2, A3, A4, A5, A6⟩, B0, B1, B2, B3, B4, B5, B6⟩ := hSw; go_simp; try with_reducible rfl); (exact fun _ _ _ h => h); (try simp only [Act.put, xgD, xgE, xgF]))); refine tkE ?_)
  ((refine wpAnyU_one 2 (o := ?_) (by kernel_rfl) ?_ ?_; rotate_left 1; (simp only [xgA, xgB, xgC]; rfl); intro K hK); go_simp; (refine (CRA.out _).mono ?_); rintro e_ v1 ⟨rfl, d1⟩; go_wp2_with (fail); (try clear hSn); (have hSn := hHeld.ext d1); (refine hK.out _ _ (fun _ => hSn) ?_); clear hK K; (try simp only [Act.put, xgD, xgE, xgF]))
  ((refine wpAnyU_one 5 (o := ?_) (by kernel_rfl) ?_ ?_; rotate_left 1; (simp only [xgA, xgB, xgC]; rfl); intro K hK); go_simp; (refine (CRB.out _).mono ?_); rintro e_ v2 ⟨rfl, d2⟩; go_wp2_with (fail); (try clear hSn); (have hSn := hHeld.ext (d1.trans d2)); (refine hK.out _ _ (fun _ => hSn) ?_); clear hK K; (try simp only [Act.put, xgD, xgE, xgF]))
  by_cases hr : qa = qb
  ·have HF := Lib.hid (HF5.out.1 hr)
   subst hr
   (refine tkB [6, 7, 8, 9, 10, 11] ?_; (iterate 6 (refine tk1 (oi := ?_) (v := ?_) (by kernel_rfl) (by first | exact hSn | exact hHeld) ?_ ?_ ?_ ?_ ?_; rotate_left 2; (simp only [xgA, xgB, xgC]; rfl); rfl; (intro wS hSw; obtain ⟨⟨A0, A1, A2, A3, A4, A5, A6⟩, B0, B1, B2, B3, B4, B5, B6⟩ := hSw; go_simp; try with_reducible rfl); (exact fun _ _ _ h => h); (try simp only [Act.put, xgD, xgE, xgF]))); refine tkE ?_)
   ((refine wpAnyU_one 12 (o := ?_) (by kernel_rfl) ?_ ?_; rotate_left 1; (simp only [xgA, xgB, xgC]; rfl); intro K hK); go_simp; (refine (CPS.out _ (HX5d.out.trans (d1.trans d2))).mono ?_); rintro e_ v3 ⟨rfl, d3⟩; go_wp2_with (fail); (try clear hSn); (have hSn := hHeld.ext ((d1.trans d2).trans d3)); (refine hK.out _ _ (fun _ => hSn) ?_); clear hK K; (try simp only [Act.put, xgD, xgE, xgF]))
   (refine tkB [13, 14] ?_; (iterate 2 (refine tk1 (oi := ?_) (v := ?_) (by kernel_rfl) (by first | exact hSn | exact hHeld) ?_ ?_ ?_ ?_ ?_; rotate_left 2; (simp only [xgA, xgB, xgC]; rfl); rfl; (intro wS hSw; obtain ⟨⟨A0, A1, A2, A3, A4, A5, A6⟩, B0, B1, B2, B3, B4, B5, B6⟩ := hSw; go_simp; try with_reducible rfl); (exact fun _ _ _ h => h); (try simp only [Act.put, xgD, xgE, xgF]))); refine tkE ?_)
   refine wpAnyU_done (by kernel_rfl) ?_ _
   have HX6 := Lib.hid (HX5d.out.trans ((d1.trans d2).trans d3))
   clear d1 d2 d3 hSn hHeld hS5
   go_wp2
   go_ret
   exact ⟨by rw [HF.out]; rfl, HX6.out⟩
  ·have HF := Lib.hid (HF5.out.2 hr)
   have hrB : (qa == qb) = false := beq_eq_false_iff_ne.2 hr
   (refine tkB [6, 7] ?_; (iterate 2 (refine tk1 (oi := ?_) (v := ?_) (by kernel_rfl) (by first | exact hSn | exact hHeld) ?_ ?_ ?_ ?_ ?_; rotate_left 2; (simp only [xgA, xgB, xgC]; rfl); rfl; (intro wS hSw; obtain ⟨⟨A0, A1, A2, A3, A4, A5, A6⟩, B0, B1, B2, B3, B4, B5, B6⟩ := hSw; go_simp; try with_reducible rfl); (exact fun _ _ _ h => h); (try simp only [Act.put, xgD, xgE, xgF]))); refine tkE ?_)
   (refine tkB [8, 9, 10, 11, 12] ?_; (iterate 5 (refine ts1F (oi := ?_) (by kernel_rfl) (by first | exact hSn | exact hHeld) ?_ ?_ ?_ ?_; rotate_left 1; (simp only [xgA, xgB, xgC]; rfl); rfl; (exact fun _ _ _ h => h); (try simp only [Act.put, xgD, xgE, xgF]))); refine tkE ?_)
   (refine tkB [13, 14] ?_; (iterate 2 (refine tk1 (oi := ?_) (v := ?_) (by kernel_rfl) (by first | exact hSn | exact hHeld) ?_ ?_ ?_ ?_ ?_; rotate_left 2; (simp only [xgA, xgB, xgC]; rfl); rfl; (intro wS hSw; obtain ⟨⟨A0, A1, A2, A3, A4, A5, A6⟩, B0, B1, B2, B3, B4, B5, B6⟩ := hSw; go_simp; try with_reducible rfl); (exact fun _ _ _ h => h); (try simp only [Act.put, xgD, xgE, xgF]))); refine tkE ?_)
   refine wpAnyU_done (by kernel_rfl) ?_ _
   have HX6 := Lib.hid (HX5d.out.trans (d1.trans d2))
   clear d1 d2 hSn hHeld hS5
   go_wp2
   go_ret
   exact ⟨by rw [HF.out]; rfl, HX6.out⟩
 ·have HF := Lib.hid (HEQ2.out.2.2 (.inl rfl))
  go_wp2_with (fail)
  refine (CEF.out _ HX5.out).mono ?_
  rintro e w6 ⟨rfl, he6⟩
  have HX6 := Lib.hid (HX5.out.trans he6)
  clear he6
  go_wp2
  go_ret
  exact ⟨by rw [HF.out]; rfl, HX6.out⟩
 ·have HF := Lib.hid (HEQ2.out.2.2 (.inr rfl))
  go_wp2_with (fail)
  refine (CEF.out _ HX5.out).mono ?_
  rintro e w6 ⟨rfl, he6⟩
  have HX6 := Lib.hid (HX5.out.trans he6)
  clear he6
  go_wp2
  go_ret
  exact ⟨by rw [HF.out]; rfl, HX6.out⟩
end Go.Proofs.YtodiphjjdheoaaaGreat

namespace Go.Proofs.YtodiphjjdheoaaaGreat
open Go.RowKit

theorem Tryz.info32 : (Tryz.prog.info? 32).map (fun i => (i.zero, i.size, i.bytes)) = some (some (.agg #[.int .i64 0, .int .i64 0, .int .i64 0, .bool false, .slice none 0 0, .slice none 0 0, .slice none 0 0]), 7, 104) := by kernel_rfl
theorem mx_one (x : MX) (j : Nat) (hj : j < 7) : (arr x.A j).oneCell' = true := by
 match j, hj with
 | 0, _ => rfl
 | 1, _ => rfl
 | 2, _ => rfl
 | 3, _ => rfl
 | 4, _ => rfl
 | 5, _ => rfl
 | 6, _ => rfl
def FrI (v v' : Value) (w w' : World) : Prop := Kp (fun g => v.ownBlock = some g) w w' ∧ ∀ g, v'.ownBlock = some g → v.ownBlock = some g ∨ w.heap.size ≤ g
theorem FrI.of_ext {v : Value} {w w' : World} (h : Ext w w') : FrI v v w w' := ⟨Kp.of_ext h, fun _ hg => .inl hg⟩
theorem FrI.ext {v v' : Value} {w w' w'' : World} (h : FrI v v' w w') (he : Ext w' w'') : FrI v v' w w'' := ⟨h.1.trans (Kp.of_ext he), h.2⟩
theorem FrI.pre {v v' : Value} {w w' w'' : World} (he : Ext w w') (h : FrI v v' w' w'') : FrI v v' w w'' := ⟨(Kp.of_ext he).trans h.1, fun g hg => (h.2 g hg).imp id fun h => Nat.le_trans he.size h⟩
theorem KM.fr {c : Bool} {f : Nat} {M : Nat → Prop} {v v' : Value} {w w' : World} {a : Option Addr} {n p : Nat} {ks : List TM} (h : KM (TMc c f (MR M v)) (MR M v) w a n p ks) (hf : FrI v v' w w') : KM (TMc c f (MR M v')) (MR M v') w' a n p ks := by
 have h1 : KM (TMc c f (fun b => MR M v b ∨ MR M v' b)) (fun b => MR M v b ∨ MR M v' b) w a n p ks := h.more fun b hb => by
  rcases hb with hb | hb | hb
  ·exact .inl hb
  ·exact .inl (.inl hb)
  ·exact (hf.2 b hb).imp .inr id
 have h2 := h1.kp (w' := w') ⟨hf.1.1, fun b hb hm => hf.1.2 b hb fun h => hm (.inl (.inr h))⟩
 exact h2.more fun b hb => .inl (.inr hb)
theorem ORow.atk {f : Nat} {M : Nat → Prop} {base : Nat} {w : World} {a : Option Addr} {n p : Nat} {ks : List TM} (h : ORow f M base w (.slice a n p) ks) : n = ks.length ∧ n ≤ p ∧ p ≤ maxLen ∧ ∃ xx : Nat → MX, ∀ j, j < n → (∃ g, a = some ⟨g, 0, none⟩ ∧ base ≤ g ∧ g < w.heap.size ∧ MxC w g (j * 7) (xx j) ∧ ∀ o, w.frozen? ⟨g, o, none⟩ = false) ∧ TMc true f (MR M (.slice a n p)) w (xx j) (kat ks j) := by
 obtain ⟨xx, hO, hx⟩ := h
 rcases hO with ⟨e, h0⟩ | ⟨g, cap, F, e, hg, hB, hcc, hcm, hF⟩
 ·simp only [Value.slice.injEq] at e
  obtain ⟨rfl, rfl, rfl⟩ := e
  exact ⟨h0.symm, Nat.le_refl _, Nat.zero_le _, xx, fun i hi => absurd hi (Nat.not_lt_zero _)⟩
 ·simp only [Value.slice.injEq] at e
  obtain ⟨rfl, rfl, rfl⟩ := e
  refine ⟨rfl, hcc, hcm, xx, fun i hi => ⟨⟨g, rfl, hg, hB.lt, ?_, fun o => hB.frozen o⟩, hx i hi⟩⟩
  have hc : ∀ c, c < 7 → w.cell? ⟨g, i * 7 + c, none⟩ = some (arr (xx i).A c) := fun c hc => by
   rw [hB.cell (by omega), hF _ (by omega), pm_at _ _ _ hc]
  exact ⟨hc 0 (by omega), hc 1 (by omega), hc 2 (by omega), hc 3 (by omega), hc 4 (by omega), hc 5 (by omega), hc 6 (by omega)⟩
def RetI (o : Bool) (f : Nat) (M : Nat → Prop) (base : Nat) (v : Value) (ks : List TM) (t : TM) (w : World) (e : Ending) (w' : World) : Prop :=
 ∃ v', e = .returned (.tuple #[v', .bool (incl o t ks).2]) ∧ ((incl o t ks).2 = true → ORow f M base w' v' (incl o t ks).1) ∧ FrI v v' w w' ∧ ∀ U : World, U.heap.size ≤ base → Ext U w → Ext U w'
abbrev cmbF (o : Bool) : Value := .func (.func (if o then 109 else 108)) #[] #[]
end Go.Proofs.YtodiphjjdheoaaaGreat

namespace Go.Proofs.YtodiphjjdheoaaaGreat
open Go.RowKit

theorem pr_Same : ∀ f, SameMx f
 | 0 => fun _ _ _ _ _ _ _ h => h.elim
 | f + 1 => sameM_walk f (pr_Same f)
theorem si_Comb (o : Bool) (a b : Int) (w : World) : Calls Tryz.prog (if o then 109 else 108) #[.int .i64 a, .int .i64 b] w fun e w' => e = .returned (.tuple #[.int .i64 (comb o a b).1, .bool (comb o a b).2]) ∧ w = w' := by
 cases o
 ·exact si_Meet a b w
 ·exact si_Join a b w
set_option maxRecDepth 100000 in
set_option maxHeartbeats 16000000 in
theorem si_incl (o : Bool) (f : Nat) (M : Nat → Prop) (base : Nat) (a : Option Addr) (n p : Nat) (ks : List TM) (z : MX) (t : TM) (w : World) (hM : Mb M w) (hR : ORow (f + 1) M base w (.slice a n p) ks) (ht : TMc true (f + 1) (MR M (.slice a n p)) w z t) (hb : base ≤ w.heap.size) (hl : ks.length ≤ 1000) :
  Calls Tryz.prog 110 #[.slice a n p, .agg z.A, cmbF o] w (RetI o (f + 1) M base (.slice a n p) ks t w) := by
 obtain ⟨j0, ji, jz0, jz1, jz2⟩ := info_parts Tryz.info32
 obtain ⟨hn, h2, h3, xx, hx⟩ := hR.atk
 have hM2 : Mb (MR M (.slice a n p)) w := hR.mb hM
 have hX1 := (Ext.refl w).alloc (.cells z.A 32)
 have hB1 := new_mx w z
 have ht' := ht
 obtain ⟨⟨z1, z2, z3, z4⟩, _⟩ := ht'
 have z4 : CRx (MR M (.slice a n p)) w 4 z.x t.l ∧ NodeOk t := z4
 have HZ : Hid (z.kd = t.kd ∧ z.rl = t.rl ∧ NodeOk t) := ⟨z1, z2, z4.2⟩
 have HZP := Lib.hid z4.1
 have HT := Lib.hid ht
 have HR := Lib.hid hR
 have HM2 := Lib.hid hM2
 have HN := Lib.hid hn
 have HXX := Lib.hid hx
 have HL := Lib.hid hl
 unfold maxLen at h3
 clear z1 z2 z3 z4 ht hR hM2 hM hn hx hl
 generalize hW1 : w.alloc (.cells z.A 32) = W1 at *
 have HW1 := Lib.hid hW1
 have HX1 := Lib.hid hX1
 have HB1 := Lib.hid hB1
 have HS1 : Hid (W1.heap.size = w.heap.size + 1) := by show _ = _; rw [← hW1]; simp
 clear hW1 hX1 hB1
 go_enter Tryz.func110, Tryz.ntmps110
 go_upto_region 1 with (fail)
 rw [HW1.out]
 obtain ⟨gz, hgz⟩ : ∃ g, g = w.heap.size := ⟨_, rfl⟩
 rw [← hgz]
 have HB1 : Hid (MxC W1 gz 0 z) := by rw [hgz]; exact HB1
 clear hgz
 go_wp2
 go_loopw [14] (fun iv wr => ∃ (j : Nat), j ≤ n ∧ iv = .int .i64 (j : Int) ∧ Hid (∀ i, i < j → Nm t (kat ks i)) ∧ Hid (Ext W1 wr)) (fun iv _ => n - (intOf iv).toNat)
 case atStart => exact ⟨0, Nat.zero_le _, rfl, fun i hi => absurd hi (Nat.not_lt_zero _), Ext.refl _⟩
 case round =>
  obtain ⟨j, hj, rfl, HQ, HX⟩ := hrel
  by_cases hlt : j < n
  ·obtain ⟨⟨g, rfl, hg, hgl, hc, hfz⟩, htj⟩ := HXX.out j hlt
   have hXr : Ext w wr := HX1.out.trans HX.out
   have hEA := (Ext.refl wr).alloc (.cells (xx j).A 32)
   obtain ⟨e0, e1, e2, e3, e4, e5, e6⟩ := hc.ext hXr
   have hC3 := (hc.ext hXr).ext hEA
   have hF3 : ∀ o, (wr.alloc (.cells (xx j).A 32)).frozen? ⟨g, o, none⟩ = false := fun o => by rw [(hXr.trans hEA).frozen hgl]; exact hfz o
   have hY3 := new_mx wr (xx j)
   have hZ3 := (HB1.out.ext HX.out).ext hEA
   have hj4 := htj
   obtain ⟨⟨y1, y2, y3, y4⟩, _⟩ := hj4
   have y4 : CRx (MR M (.slice (some ⟨g, 0, none⟩) n p)) w 4 (xx j).x (kat ks j).l ∧ NodeOk (kat ks j) := y4
   have CPS : Hid (∃ bl : Bool, (bl = true ↔ (kat ks j).l = t.l) ∧ ∀ W', Ext w W' → Calls Tryz.prog 41 #[.agg (peA (xx j).x), .agg (peA z.x)] W' fun e w' => e = .returned (.bool bl) ∧ Ext W' w') := by
    obtain ⟨bl, hbl⟩ : ∃ bl : Bool, bl = true ↔ (kat ks j).l = t.l := by
     by_cases e : (kat ks j).l = t.l
     ·exact ⟨true, by simp [e]⟩
     ·exact ⟨false, by simp [e]⟩
    refine ⟨bl, hbl, fun W' he => ?_⟩
    refine (rp_Same _ (xx j).x z.x _ _ W' (HM2.out.ext he) (y4.1.ext he).pi (HZP.out.ext he).pi).mono ?_
    rintro e w' ⟨b, rfl, hb, he'⟩
    refine ⟨?_, he'⟩
    have h2 : b = true ↔ bl = true := hb.trans (Iff.intro (fun hs => hbl.2 (by have := hs.norm; rwa [y4.2.1, HZ.out.2.2.1] at this)) fun h => by rw [hbl.1 h]; exact Sim.refl _)
    cases b <;> cases bl <;> simp at h2 ⊢
   have CS : Hid (∀ W', Ext w W' → Calls Tryz.prog 143 #[.agg (xx j).A, .agg z.A] W' fun e w' => e = .returned (.bool (eqT (kat ks j) t)) ∧ Ext W' w') := fun W' he => pr_Same (f + 1) _ _ _ _ _ W' (HM2.out.ext he) (htj.ext he) (HT.out.ext he)
   have HY : Hid ((xx j).kd = (kat ks j).kd ∧ (xx j).rl = (kat ks j).rl ∧ NodeOk (kat ks j)) := ⟨y1, y2, y4.2⟩
   clear y1 y2 y3 y4 htj hc hfz HXX
   generalize xx j = y at *
   have hltI : (j : Int) < (n : Int) := by omega
   have HLT := Lib.hid hlt
   have HG := Lib.hid hg
   generalize hW3 : wr.alloc (.cells y.A 32) = W3 at *
   have HW3 := Lib.hid hW3
   have HX3 : Hid (Ext w W3) := hXr.trans hEA
   have HX13 : Hid (Ext W1 W3) := HX.out.trans hEA
   have HC3 := Lib.hid hC3
   have HF3 := Lib.hid hF3
   have HY3 := Lib.hid hY3
   have HZ3 := Lib.hid hZ3
   clear hW3 hEA hXr hC3 hF3 hY3 hZ3 hg hlt HX
   go_upto_region 4 with (fail)
   rw [HW3.out]
   generalize wr.heap.size = gy at *
   obtain ⟨b0, b1, b2, b3, b4, b5, b6⟩ := HY3.out
   obtain ⟨c0, c1, c2, c3, c4, c5, c6⟩ := HZ3.out
   by_cases hkd : y.kd = z.kd
   rotate_left
   ·have HNM : Hid (∀ i, i < j + 1 → Nm t (kat ks i)) := fun i hi => by
     by_cases hij : i = j
     ·rw [hij]
      have : ¬ (kat ks j).kd = t.kd := fun h => hkd (by rw [HY.out.1, HZ.out.1, h])
      exact ⟨fun h => this h.1, fun h => this h.1⟩
     ·exact HQ.out i (by omega)
    go_wp2
    go_roundw
    case rel => exact ⟨j + 1, HLT.out, by go_num, HNM.out, HX13.out⟩
    case measure => have := HLT.out; simp [intOf]; omega
   have HKD := Lib.hid hkd
   have hkB : (y.kd != z.kd) = false := by rw [hkd]; exact bne_self_eq_false _
   clear hkd
   have hNext : Hid (¬ ((kat ks j).kd = t.kd ∧ t.kd ≠ 2 ∧ kat ks j = t) ∧ ¬ ((kat ks j).kd = t.kd ∧ t.kd = 2 ∧ (kat ks j).l = t.l) → ∀ i, i < j + 1 → Nm t (kat ks i)) := fun h i hi => by
    by_cases hij : i = j
    ·rw [hij]; exact h
    ·exact HQ.out i (by omega)
   have HJ : Hid (j < ks.length) := by show j < ks.length; rw [← HN.out]; exact HLT.out
   by_cases h2 : z.kd = 2
   ·obtain ⟨bl, hbl, CPS⟩ := CPS.out
    have CPS := Lib.hid CPS
    have HBL := Lib.hid hbl
    clear hbl CS
    go_wp2_with (fail)
    refine (CPS.out _ HX3.out).mono ?_
    rintro e w4 ⟨rfl, he4⟩
    have HX4 := Lib.hid (HX3.out.trans he4)
    have HX14 := Lib.hid (HX13.out.trans he4)
    have hgW : g < W3.heap.size := HC3.out.lt
    have HC4 := Lib.hid (HC3.out.ext he4)
    have HY4 := Lib.hid (HY3.out.ext he4)
    have HZ4 := Lib.hid (HZ3.out.ext he4)
    have HF4 : Hid (∀ o, w4.frozen? ⟨g, o, none⟩ = false) := fun o => by rw [he4.frozen hgW]; exact HF3.out o
    clear he4 CPS HX3 HX13 HC3 HY3 HZ3 HF3 b0 b1 b2 b3 b4 b5 b6 c0 c1 c2 c3 c4 c5 c6 e0 e1 e2 e3 e4 e5 e6 hkB
    cases bl
    ·have HNM := Lib.hid (hNext.out ⟨fun h => h.2.1 (by rw [← HZ.out.1]; exact h2), fun h => absurd (HBL.out.2 h.2.2) (by decide)⟩)
     go_wp2
     go_roundw
     case rel => exact ⟨j + 1, HLT.out, by go_num, HNM.out, HX14.out⟩
     case measure => have := HLT.out; simp [intOf]; omega
    ·obtain ⟨r, hr⟩ : ∃ r, r = (comb o y.rl z.rl).1 := ⟨_, rfl⟩
     obtain ⟨ok, hok⟩ : ∃ ok, ok = (comb o y.rl z.rl).2 := ⟨_, rfl⟩
     have CC : Hid (∀ W', Calls Tryz.prog (if o then 109 else 108) #[.int .i64 y.rl, .int .i64 z.rl] W' fun e w' => e = .returned (.tuple #[.int .i64 r, .bool ok]) ∧ W' = w') := fun W' => by
      rw [hr, hok]; exact si_Comb o y.rl z.rl W'
     have HF : Hid (RetI o (f + 1) M base (.slice (some ⟨g, 0, none⟩) n p) ks t w (.returned (.tuple #[.slice (some ⟨g, 0, none⟩) n p, .bool ok])) (w4.setCell ⟨g, j * 7 + 1, none⟩ (.int .i64 r))) := by
      have hk2 : t.kd = 2 := by rw [← HZ.out.1]; exact h2
      have hkk : (kat ks j).kd = t.kd := by rw [← HY.out.1, ← HZ.out.1]; exact HKD.out
      have e1 := incl_comb o t ks j HJ.out HQ.out ⟨hkk, hk2, HBL.out.1 rfl⟩
      rw [← HY.out.2.1, ← HZ.out.2.1, ← hok] at e1
      refine ⟨_, by rw [e1], fun hh => ?_, ⟨(Kp.of_ext HX4.out).trans (Kp.set (fun g' => (Value.slice (some ⟨g, 0, none⟩) n p).ownBlock = some g') w4 (p := ⟨g, j * 7 + 1, none⟩) rfl _), fun g' hg' => .inl hg'⟩, fun U h1 h2 => (h2.trans HX4.out).set (p := ⟨g, j * 7 + 1, none⟩) (Nat.le_trans h1 HG.out) _⟩
      rw [e1] at hh ⊢
      have hcm : (comb o (kat ks j).rl t.rl).2 = true := by rw [← HY.out.2.1, ← HZ.out.2.1, ← hok]; exact hh
      obtain ⟨g', eg, _, hP⟩ := ORow.put (HR.out.ext HX4.out) j HJ.out (cmbT o (kat ks j) t) (cmbT_ok HY.out.2.2 (hkk.trans hk2) hcm) rfl rfl rfl
      simp only [Option.some.injEq, Addr.mk.injEq, and_true] at eg
      obtain rfl := eg
      have er : (cmbT o (kat ks j) t).rl = r := by rw [hr, HY.out.2.1, HZ.out.2.1]; rfl
      rw [er] at hP
      exact hP
     clear hr hok HBL HKD hNext HQ HY HZ HR HT HZP
     obtain ⟨b0, b1, b2, b3, b4, b5, b6⟩ := HY4.out
     obtain ⟨c0, c1, c2, c3, c4, c5, c6⟩ := HZ4.out
     obtain ⟨e0, e1, e2, e3, e4, e5, e6⟩ := HC4.out
     have hfz := HF4.out (j * 7 + 1)
     cases o
     ·go_wp2_with (fail)
      refine (CC.out _).mono ?_
      rintro e w5 ⟨rfl, rfl⟩
      go_wp2
      go_ret2
      exact HF.out
     ·go_wp2_with (fail)
      refine (CC.out _).mono ?_
      rintro e w5 ⟨rfl, rfl⟩
      go_wp2
      go_ret2
      exact HF.out
   ·go_wp2_with (fail)
    refine (CS.out _ HX3.out).mono ?_
    rintro e w4 ⟨rfl, he4⟩
    have HX4 := Lib.hid (HX3.out.trans he4)
    have HX14 := Lib.hid (HX13.out.trans he4)
    have hn2 : t.kd ≠ 2 := by rw [← HZ.out.1]; exact h2
    clear he4 CS CPS HX3 HX13 HC3 HY3 HZ3 HF3 b0 b1 b2 b3 b4 b5 b6 c0 c1 c2 c3 c4 c5 c6 e0 e1 e2 e3 e4 e5 e6 hkB
    by_cases heq : kat ks j = t
    ·rw [eqT_true.2 heq]
     have HF : Hid (RetI o (f + 1) M base (.slice (some ⟨g, 0, none⟩) n p) ks t w (.returned (.tuple #[.slice (some ⟨g, 0, none⟩) n p, .bool true])) w4) := by
      have e1 := incl_same o t ks j HJ.out HQ.out ⟨by rw [heq], hn2, heq⟩
      refine ⟨_, by rw [e1], fun _ => by rw [e1]; exact HR.out.ext HX4.out, FrI.of_ext HX4.out, fun U h1 h2 => h2.trans HX4.out⟩
     clear heq hn2 HKD hNext HQ HY HZ HR HT HZP
     go_wp2
     go_ret2
     exact HF.out
    ·rw [eqT_false heq]
     have HNM := Lib.hid (hNext.out ⟨fun h => heq h.2.2, fun h => hn2 h.2.1⟩)
     clear heq hn2
     go_wp2
     go_roundw
     case rel => exact ⟨j + 1, HLT.out, by go_num, HNM.out, HX14.out⟩
     case measure => have := HLT.out; simp [intOf]; omega
  ·obtain rfl : j = n := by omega
   have hge : ¬ (j : Int) < (j : Int) := by omega
   have hjn := HN.out
   have e1 := incl_none o t ks fun i hi => HQ.out i (by rw [hjn]; exact hi)
   have HI1 := Lib.hid e1
   clear e1
   have hXr := HX1.out.trans HX.out
   obtain ⟨c0, c1, c2, c3, c4, c5, c6⟩ := HB1.out.ext HX.out
   have hE5 : Ext w (wr.alloc (.cells z.A 32)) := hXr.alloc _
   subst hjn
   obtain ⟨xx, hO, hX⟩ := HR.out
   have hO5 := hO.ext hE5
   have HT5 := Lib.hid (HT.out.ext hE5)
   have HX5 : Hid (∀ j, j < ks.length → TMc true (f + 1) (MR M (.slice a ks.length p)) (wr.alloc (.cells z.A 32)) (xx j) (kat ks j)) := fun j hj => (hX j hj).ext hE5
   have hB5 := Blk.of_arr wr z.A 32 7 rfl
   have hsz5 : base ≤ (wr.alloc (.cells z.A 32)).heap.size := Nat.le_trans hb hE5.size
   have HE5 := Lib.hid hE5
   have HLT := Lib.hid hO5.lt
   have hl1 := HL.out
   clear hO hX hE5 hXr HX HR HQ HXX HT HZP HZ hj
   go_wp2_with (at_builtin; refine wpList_append_fn _ rfl (.tmp 53) (.tmp 55) _ rfl base 32 j0 _ 7 104 Tryz.underlying30 ji jz0 jz1 jz2 rfl (by omega) (.slice a ks.length p) ks.length (pm xx) rfl hO5 wr.heap.size 32 1 (arr z.A) rfl hB5 (mx_one z) ?s1 ?s2 ?s3 ?_)
   case s1 => unfold maxLen; omega
   case s2 => omega
   case s3 => rw [World.size_alloc] at hsz5; exact hsz5
   intro gg cap2 w6 hO6 hg6 hat hlt6
   replace hat : (Value.slice a ks.length p).ownBlock = some gg ∨ (wr.alloc (.cells z.A 32)).heap.size ≤ gg := by rw [World.size_alloc]; exact hat
   have HF : Hid (RetI o (f + 1) M base (.slice a ks.length p) ks t w (.returned (.tuple #[.slice (some ⟨gg, 0, none⟩) (ks.length + 1) cap2, .bool true])) w6) := by
    have e1 := HI1.out
    refine ⟨_, by rw [e1], fun _ => ?_, ⟨(Kp.of_ext HE5.out).trans (Kp.grown hg6 fun k hk => hk), fun g' hg' => ?_⟩, fun U h1 h2 => (h2.trans HE5.out).grown hg6 (fun q hq => Nat.le_trans h1 (HLT.out q hq).1)⟩
    ·rw [e1]; exact ORow.push HX5.out HT5.out hO6 hg6 hat
    ·simp only [Value.ownBlock, Option.some.injEq] at hg'
     subst hg'
     exact hat.imp id fun h => Nat.le_trans HE5.out.size h
   clear hO6 hg6 hat hO5 hB5 HX5 HT5 HE5 HLT
   go_wp2
   go_ret2
   exact HF.out
end Go.Proofs.YtodiphjjdheoaaaGreat
