/- simplify.Of over joined. simplify.joined: plain facts of its loops. simplify.joined: the walk. simplify.Of. -/
import Derived.Test.YtodiphjjdheoaaaGreatIb
set_option linter.unusedVariables false
set_option linter.unusedSimpArgs false

namespace Go.Proofs.YtodiphjjdheoaaaGreat
open Go.RowKit

def MX.b (b : Bool) : MX := ⟨tk b, 0, PE.z, none, 0, 0⟩
theorem KM.nil0 {Q : World → MX → TM → Prop} {M : Nat → Prop} {w : World} : KM Q M w none 0 0 [] := ⟨rfl, Nat.le_refl _, Nat.zero_le _, fun _ => MX.b false, fun i hi => absurd hi (Nat.not_lt_zero _)⟩
theorem smF_nil : SmF [] := ⟨fun m _ => rfl, fun m hm => absurd rfl hm, by decide⟩
theorem tmB_c (f : Nat) (M : Nat → Prop) (w : World) (b : Bool) : TMc true (f + 1) M w (MX.b b) (tmB b) := by
 refine ⟨⟨rfl, rfl, smF_nil, ?_⟩, KM.nil0⟩
 exact (show CRx M w 4 PE.z [] ∧ NodeOk (tmB b) from ⟨CR.zero _ _ _, rfl, .inl ⟨by cases b <;> decide, rfl, rfl, rfl⟩⟩)
theorem retM {M M' : Nat → Prop} {w W : World} {g f : Nat} {q : Nat → Value} {y : MX} {t : TM} (hB : Blk W g 32 7 q) (hg : M' g) (hw : w.heap.size ≤ g) (he : Ext w W) (hy : TMc true f M' W y t) (hm : ∀ g, M g → M' g) :
  ∃ WA, WA = ((((((W.setCell ⟨g, 0, none⟩ (.int .i64 y.kd)).setCell ⟨g, 1, none⟩ (.int .i64 y.rl)).setCell ⟨g, 2, none⟩ (.int .i64 y.x.lv)).setCell ⟨g, 3, none⟩ (.bool y.x.b)).setCell ⟨g, 4, none⟩ (.slice y.x.a y.x.n y.x.p)).setCell ⟨g, 5, none⟩ (.slice y.x.ka y.x.kn y.x.kp)).setCell ⟨g, 6, none⟩ (.slice y.a y.n y.p) ∧
  (W.cell? ⟨g, 0, none⟩ = some (q 0) ∧ W.cell? ⟨g, 1, none⟩ = some (q 1) ∧ W.cell? ⟨g, 2, none⟩ = some (q 2) ∧ W.cell? ⟨g, 3, none⟩ = some (q 3) ∧ W.cell? ⟨g, 4, none⟩ = some (q 4) ∧ W.cell? ⟨g, 5, none⟩ = some (q 5) ∧ W.cell? ⟨g, 6, none⟩ = some (q 6)) ∧
  (W.frozen? ⟨g, 0, none⟩ = false ∧ W.frozen? ⟨g, 1, none⟩ = false ∧ W.frozen? ⟨g, 2, none⟩ = false ∧ W.frozen? ⟨g, 3, none⟩ = false ∧ W.frozen? ⟨g, 4, none⟩ = false ∧ W.frozen? ⟨g, 5, none⟩ = false ∧ W.frozen? ⟨g, 6, none⟩ = false) ∧
  (WA.cell? ⟨g, 0, none⟩ = some (.int .i64 y.kd) ∧ WA.cell? ⟨g, 1, none⟩ = some (.int .i64 y.rl) ∧ WA.cell? ⟨g, 2, none⟩ = some (.int .i64 y.x.lv) ∧ WA.cell? ⟨g, 3, none⟩ = some (.bool y.x.b) ∧ WA.cell? ⟨g, 4, none⟩ = some (.slice y.x.a y.x.n y.x.p) ∧ WA.cell? ⟨g, 5, none⟩ = some (.slice y.x.ka y.x.kn y.x.kp) ∧ WA.cell? ⟨g, 6, none⟩ = some (.slice y.a y.n y.p)) ∧
  Hid (RetT f M w t (.returned (.agg y.A)) WA) := by
 obtain ⟨WA, h1, h2, h3, h4, hkp, hEF⟩ := fin7 (M' := M') (w := w) (.int .i64 y.kd) (.int .i64 y.rl) (.int .i64 y.x.lv) (.bool y.x.b) (.slice y.x.a y.x.n y.x.p) (.slice y.x.ka y.x.kn y.x.kp) (.slice y.a y.n y.p) hB hg hw he
 exact ⟨WA, h1, h2, h3, h4, y, rfl, (hy.kp hkp).more fun g hg => .inl (hm g hg), hEF⟩
theorem RetA.t {f : Nat} {M : Nat → Prop} {w : World} {r : Int} {l : List Tm} {e : Ending} {w' : World} (h : RetA M w r l e w') (hl : SmF l) : RetT (f + 1) M w (atomT l r) e w' := by
 obtain ⟨he, ⟨z, hz, rfl⟩ | ⟨⟨m, k, hm, h1, h4, hk⟩, y, rfl, hy⟩⟩ := h
 ·have e1 : hd l = z := hd_cst hz.symm
  refine ⟨MX.b (bits BinOp.and .i64 (sg r) (bt z.sign) != 0), rfl, ?_, he⟩
  have e2 : atomT l r = tmB (bits BinOp.and .i64 (sg r) (bt z.sign) != 0) := by unfold atomT; rw [if_pos (by rw [e1]; exact hz), e1]
  rw [e2]
  exact tmB_c f M w' _
 ·have hn : ¬ Sim l [(hd l, Mo.zero)] := fun hs => by
   have h0 := hs m
   have h2 : coefAt [(hd l, Mo.zero)] m = 0 := by
    have hne : Mo.zero ≠ m := fun e => by
     rw [← e] at hk
     have : Mo.zero.get k = 0 := by unfold Mo.get Mo.zero; repeat' split
                                    all_goals rfl
     omega
    simp [coefAt, hne]
   exact hm (h0.trans h2)
  have e2 : atomT l r = .nd 2 (arel (hd l) r) (snorm l) [] := by unfold atomT; rw [if_neg hn]
  rw [e2]
  refine ⟨⟨2, arel (hd l) r, y, none, 0, 0⟩, rfl, ⟨⟨rfl, rfl, hl.sn, ?_⟩, KM.nil0⟩, he⟩
  exact (show CRx M w' 4 y (snorm l) ∧ NodeOk (.nd 2 (arel (hd l) r) (snorm l) []) from ⟨hy, norm_snorm l, .inr (.inl ⟨rfl, arel_range _ _, rfl⟩)⟩)
theorem ofT_cases (t : TM) : (t.kd = 1 → ofT t = tmB true) ∧ (t.kd = 2 → ofT t = atomT t.l t.rl) ∧ (∀ o : Bool, t.kd = (if o then 4 else 3) → ofT t = finT o (stepL o (ofL t.ks) [])) ∧ (¬ t.kd = 1 → ¬ t.kd = 2 → ¬ t.kd = 3 → ¬ t.kd = 4 → ofT t = tmB false) := by
 cases t with
 | nd k r l ks =>
  refine ⟨fun h => ?_, fun h => ?_, fun o h => ?_, fun h1 h2 h3 h4 => ?_⟩
  ·change k = 1 at h; subst h; unfold ofT; rfl
  ·change k = 2 at h; subst h; unfold ofT; rfl
  ·change k = _ at h; subst h; cases o <;> (conv => lhs; unfold ofT) <;> rfl
  ·change ¬ k = 1 at h1; change ¬ k = 2 at h2; change ¬ k = 3 at h3; change ¬ k = 4 at h4
   unfold ofT; rw [if_neg h1, if_neg h2, if_neg h3, if_neg h4]
def JnCtr (f : Nat) : Prop := ∀ (o : Bool) (M : Nat → Prop) (y : MX) (t : TM) (w : World), Mb M w → TMc false f M w y t → t.kd = (if o then 4 else 3) → t.sz ≤ 1000 → Calls Tryz.prog 55 #[.agg y.A] w (RetT f M w (finT o (stepL o (ofL t.ks) [])))
def OfCtr (f : Nat) : Prop := ∀ (M : Nat → Prop) (y : MX) (t : TM) (w : World), Mb M w → TMc false f M w y t → t.sz ≤ 1000 → Calls Tryz.prog 15 #[.agg y.A] w (RetT f M w (ofT t))
set_option maxRecDepth 100000 in
set_option maxHeartbeats 8000000 in
theorem of_walk (f : Nat) (hj : JnCtr (f + 1)) : OfCtr (f + 1) := by
 intro M y t w hM hP hsz
 obtain ⟨hE, hX, hB, hM2⟩ := box77 hM y.A rfl
 have hP2 := (hP.more (M' := Mx M w.heap.size (w.heap.size + 2)) (Mx.more (Nat.le_refl _))).ext hE
 have hP3 := hP2
 obtain ⟨⟨a1, a2, a3, a4⟩, _⟩ := hP3
 have a4 : RawP (Mx M w.heap.size (w.heap.size + 2)) _ y.x t.l := a4
 have hx : MxC ((w.alloc (.cells y.A 32)).alloc (.cells mzA 32)) w.heap.size 0 y := (new_mx w y).ext ((Ext.refl _).alloc _)
 obtain ⟨c1, c2, c3, c4⟩ := ofT_cases t
 rw [← a1] at c1 c2 c4
 have C3 : Hid (∀ o : Bool, y.kd = (if o then 4 else 3) → ofT t = finT o (stepL o (ofL t.ks) [])) := fun o => by rw [a1]; exact c3 o
 have C1 := Lib.hid c1
 have C2 := Lib.hid c2
 have C4 := Lib.hid c4
 generalize hW0 : (w.alloc (.cells y.A 32)).alloc (.cells mzA 32) = W0 at *
 have CT : Hid (∀ b W', Calls Tryz.prog 54 #[.bool b] W' (RetT (f + 1) (Mx M w.heap.size (w.heap.size + 2)) W' (tmB b))) := fun b W' => (si_truth b W').mono fun e w' ⟨h1, h2⟩ => ⟨MX.b b, h1, tmB_c f _ w' b, h2⟩
 have CA : Hid (Calls Tryz.prog 46 #[.agg (peA y.x), .int .i64 y.rl] W0 (RetT (f + 1) (Mx M w.heap.size (w.heap.size + 2)) W0 (atomT t.l t.rl))) := by
  obtain ⟨d, tt, h1, h2, h3, h4, h5⟩ := a4
  rw [a2]
  refine (si_Atom _ d tt y.x t.rl W0 hM2 h1 h2 (Nat.le_trans (Nat.add_le_add_right h3 1) (by decide))).mono fun e w' h => ?_
  exact (h.sim h5).t a3
 have CJ : Hid (∀ o : Bool, y.kd = (if o then 4 else 3) → Calls Tryz.prog 55 #[.agg y.A] W0 (RetT (f + 1) (Mx M w.heap.size (w.heap.size + 2)) W0 (finT o (stepL o (ofL t.ks) [])))) := fun o h => hj o _ y t W0 hM2 hP2 (by rw [← a1]; exact h) hsz
 have HW0 := Lib.hid hW0
 have HE := Lib.hid hE
 have HB := Lib.hid hB
 have HX := Lib.hid hx
 clear hE hX hB hM2 hP hP2 hx hW0 a1 a2 a3 a4 c1 c2 c3 c4 hj hsz hM
 have hfin : Hid (∀ (e : Ending) (w1 : World) (s : TM), ofT t = s → RetT (f + 1) (Mx M w.heap.size (w.heap.size + 2)) W0 s e w1 → ∃ (y' : MX) (WA : World), e = .returned (.agg y'.A) ∧ WA = ((((((w1.setCell ⟨w.heap.size + 1, 0, none⟩ (.int .i64 y'.kd)).setCell ⟨w.heap.size + 1, 1, none⟩ (.int .i64 y'.rl)).setCell ⟨w.heap.size + 1, 2, none⟩ (.int .i64 y'.x.lv)).setCell ⟨w.heap.size + 1, 3, none⟩ (.bool y'.x.b)).setCell ⟨w.heap.size + 1, 4, none⟩ (.slice y'.x.a y'.x.n y'.x.p)).setCell ⟨w.heap.size + 1, 5, none⟩ (.slice y'.x.ka y'.x.kn y'.x.kp)).setCell ⟨w.heap.size + 1, 6, none⟩ (.slice y'.a y'.n y'.p) ∧
   (w1.cell? ⟨w.heap.size + 1, 0, none⟩ = some (.int .i64 0) ∧ w1.cell? ⟨w.heap.size + 1, 1, none⟩ = some (.int .i64 0) ∧ w1.cell? ⟨w.heap.size + 1, 2, none⟩ = some (.int .i64 0) ∧ w1.cell? ⟨w.heap.size + 1, 3, none⟩ = some (.bool false) ∧ w1.cell? ⟨w.heap.size + 1, 4, none⟩ = some (.slice none 0 0) ∧ w1.cell? ⟨w.heap.size + 1, 5, none⟩ = some (.slice none 0 0) ∧ w1.cell? ⟨w.heap.size + 1, 6, none⟩ = some (.slice none 0 0)) ∧
   (w1.frozen? ⟨w.heap.size + 1, 0, none⟩ = false ∧ w1.frozen? ⟨w.heap.size + 1, 1, none⟩ = false ∧ w1.frozen? ⟨w.heap.size + 1, 2, none⟩ = false ∧ w1.frozen? ⟨w.heap.size + 1, 3, none⟩ = false ∧ w1.frozen? ⟨w.heap.size + 1, 4, none⟩ = false ∧ w1.frozen? ⟨w.heap.size + 1, 5, none⟩ = false ∧ w1.frozen? ⟨w.heap.size + 1, 6, none⟩ = false) ∧
   (WA.cell? ⟨w.heap.size + 1, 0, none⟩ = some (.int .i64 y'.kd) ∧ WA.cell? ⟨w.heap.size + 1, 1, none⟩ = some (.int .i64 y'.rl) ∧ WA.cell? ⟨w.heap.size + 1, 2, none⟩ = some (.int .i64 y'.x.lv) ∧ WA.cell? ⟨w.heap.size + 1, 3, none⟩ = some (.bool y'.x.b) ∧ WA.cell? ⟨w.heap.size + 1, 4, none⟩ = some (.slice y'.x.a y'.x.n y'.x.p) ∧ WA.cell? ⟨w.heap.size + 1, 5, none⟩ = some (.slice y'.x.ka y'.x.kn y'.x.kp) ∧ WA.cell? ⟨w.heap.size + 1, 6, none⟩ = some (.slice y'.a y'.n y'.p)) ∧
   Hid (RetT (f + 1) M w (ofT t) (.returned (.agg y'.A)) WA)) := fun e w1 s hs ⟨y', he, hy', he1⟩ => by
  obtain ⟨WA, h1, h2, h3, h4, h5⟩ := retM (M := M) (w := w) (HB.out.ext he1) (Mx.at (M := M) (n := w.heap.size) (k := w.heap.size + 2) ⟨by omega, by omega⟩) (by omega) (HE.out.trans he1) hy' (fun g hg => .inl hg)
  exact ⟨y', WA, he, h1, h2, h3, h4, by rw [hs]; exact h5⟩
 clear HB HE
 obtain ⟨gz, hgz⟩ : ∃ g, g = w.heap.size := ⟨_, rfl⟩
 go_enter Tryz.func15, Tryz.ntmps15
 go_upto_region 1 with (fail)
 rw [HW0.out]
 rw [← hgz] at hfin CT CA CJ HX ⊢
 clear HW0 hgz
 obtain ⟨x0, x1, x2, x3, x4, x5, x6⟩ := HX.out
 by_cases h1 : y.kd = 1
 ·go_wp2_with (fail)
  refine (CT.out true _).mono ?_
  intro e w1 hr
  obtain ⟨y', WA, rfl, hWA, ⟨c0, c1, c2, c3, c4, c5, c6⟩, ⟨f0, f1, f2, f3, f4, f5, f6⟩, ⟨r0, r1, r2, r3, r4, r5, r6⟩, HF⟩ := hfin.out e w1 _ (C1.out h1) hr
  have HWA := Lib.hid hWA
  clear hr hWA x0 x1 x2 x3 x4 x5 x6 hfin CT CA CJ HX
  go_wp2
  rw [← HWA.out]
  clear HWA c0 c1 c2 c3 c4 c5 c6 f0 f1 f2 f3 f4 f5 f6
  exact bodyPost_ret (v := .agg y'.A) (by simp [results, Tryz.results15, go_sem, r0, r1, r2, r3, r4, r5, r6]) rfl HF.out
 by_cases h2 : y.kd = 2
 ·go_wp2_with (fail)
  refine (CA.out).mono ?_
  intro e w1 hr
  obtain ⟨y', WA, rfl, hWA, ⟨c0, c1, c2, c3, c4, c5, c6⟩, ⟨f0, f1, f2, f3, f4, f5, f6⟩, ⟨r0, r1, r2, r3, r4, r5, r6⟩, HF⟩ := hfin.out e w1 _ (C2.out h2) hr
  have HWA := Lib.hid hWA
  clear hr hWA x0 x1 x2 x3 x4 x5 x6 hfin CT CA CJ HX
  go_wp2
  rw [← HWA.out]
  clear HWA c0 c1 c2 c3 c4 c5 c6 f0 f1 f2 f3 f4 f5 f6
  exact bodyPost_ret (v := .agg y'.A) (by simp [results, Tryz.results15, go_sem, r0, r1, r2, r3, r4, r5, r6]) rfl HF.out
 by_cases h3 : y.kd = 3
 ·have hB3 : (y.kd == 3) = true := beq_iff_eq.2 h3
  have H3 := Lib.hid h3
  clear h3
  go_wp2_with (fail)
  refine (CJ.out false H3.out).mono ?_
  intro e w1 hr
  obtain ⟨y', WA, rfl, hWA, ⟨c0, c1, c2, c3, c4, c5, c6⟩, ⟨f0, f1, f2, f3, f4, f5, f6⟩, ⟨r0, r1, r2, r3, r4, r5, r6⟩, HF⟩ := hfin.out e w1 _ (C3.out false H3.out) hr
  have HWA := Lib.hid hWA
  clear hr hWA x0 x1 x2 x3 x4 x5 x6 hfin CT CA CJ HX
  go_wp2
  rw [← HWA.out]
  clear HWA c0 c1 c2 c3 c4 c5 c6 f0 f1 f2 f3 f4 f5 f6
  exact bodyPost_ret (v := .agg y'.A) (by simp [results, Tryz.results15, go_sem, r0, r1, r2, r3, r4, r5, r6]) rfl HF.out
 by_cases h4 : y.kd = 4
 ·have hB4 : (y.kd == 4) = true := beq_iff_eq.2 h4
  have H4 := Lib.hid h4
  clear h4
  go_wp2_with (fail)
  refine (CJ.out true H4.out).mono ?_
  intro e w1 hr
  obtain ⟨y', WA, rfl, hWA, ⟨c0, c1, c2, c3, c4, c5, c6⟩, ⟨f0, f1, f2, f3, f4, f5, f6⟩, ⟨r0, r1, r2, r3, r4, r5, r6⟩, HF⟩ := hfin.out e w1 _ (C3.out true H4.out) hr
  have HWA := Lib.hid hWA
  clear hr hWA x0 x1 x2 x3 x4 x5 x6 hfin CT CA CJ HX
  go_wp2
  rw [← HWA.out]
  clear HWA c0 c1 c2 c3 c4 c5 c6 f0 f1 f2 f3 f4 f5 f6
  exact bodyPost_ret (v := .agg y'.A) (by simp [results, Tryz.results15, go_sem, r0, r1, r2, r3, r4, r5, r6]) rfl HF.out
 ·go_wp2_with (fail)
  refine (CT.out false _).mono ?_
  intro e w1 hr
  obtain ⟨y', WA, rfl, hWA, ⟨c0, c1, c2, c3, c4, c5, c6⟩, ⟨f0, f1, f2, f3, f4, f5, f6⟩, ⟨r0, r1, r2, r3, r4, r5, r6⟩, HF⟩ := hfin.out e w1 _ (C4.out h1 h2 h3 h4) hr
  have HWA := Lib.hid hWA
  clear hr hWA x0 x1 x2 x3 x4 x5 x6 hfin CT CA CJ HX
  go_wp2
  rw [← HWA.out]
  clear HWA c0 c1 c2 c3 c4 c5 c6 f0 f1 f2 f3 f4 f5 f6
  exact bodyPost_ret (v := .agg y'.A) (by simp [results, Tryz.results15, go_sem, r0, r1, r2, r3, r4, r5, r6]) rfl HF.out
end Go.Proofs.YtodiphjjdheoaaaGreat

namespace Go.Proofs.YtodiphjjdheoaaaGreat
open Go.RowKit

theorem take_kat (ks : List TM) (j : Nat) (h : j < ks.length) : ks.take (j + 1) = ks.take j ++ [kat ks j] := by
 rw [List.take_add_one, List.getElem?_eq_getElem h]
 unfold kat
 rw [List.getD_eq_getElem?_getD, List.getElem?_eq_getElem h]
 rfl
theorem drop_kat (ks : List TM) (j : Nat) (h : j < ks.length) : ks = ks.take j ++ (kat ks j :: ks.drop (j + 1)) := by
 have h1 : ks.drop j = kat ks j :: ks.drop (j + 1) := by
  rw [List.drop_eq_getElem_cons h]
  unfold kat
  rw [List.getD_eq_getElem?_getD, List.getElem?_eq_getElem h]
  rfl
 rw [← h1, List.take_append_drop]
theorem inclL_step {o : Bool} {ps ks ks' : List TM} {q : Nat} (h : inclL o (ps.take q) ks = some ks') (hq : q < ps.length) (hk : (incl o (kat ps q) ks').2 = true) : inclL o (ps.take (q + 1)) ks = some (incl o (kat ps q) ks').1 := by
 rw [take_kat ps q hq, inclL_append, h, Option.bind_some]
 unfold inclL
 rw [if_pos hk]
 unfold inclL
 rfl
theorem inclL_stop {o : Bool} {ps ks ks' : List TM} {q : Nat} (h : inclL o (ps.take q) ks = some ks') (hq : q < ps.length) (hk : (incl o (kat ps q) ks').2 = false) : inclL o ps ks = none := by
 rw [drop_kat ps q hq, inclL_append, h, Option.bind_some]
 unfold inclL
 rw [if_neg (by rw [hk]; decide)]
theorem stepL_step {o : Bool} {ts ks ks' : List TM} {j : Nat} (h : stepL o (ofL (ts.take j)) [] = some ks) (hj : j < ts.length) (hk : stepT o ks (ofT (kat ts j)) = some ks') : stepL o (ofL (ts.take (j + 1))) [] = some ks' := by
 rw [ofL_map] at h ⊢
 rw [take_kat ts j hj, List.map_append, stepL_append, h, Option.bind_some, List.map_cons, List.map_nil]
 unfold stepL
 rw [hk, Option.bind_some]
 unfold stepL
 rfl
theorem stepL_stop {o : Bool} {ts ks : List TM} {j : Nat} (h : stepL o (ofL (ts.take j)) [] = some ks) (hj : j < ts.length) (hk : stepT o ks (ofT (kat ts j)) = none) : stepL o (ofL ts) [] = none := by
 rw [ofL_map] at h ⊢
 rw [drop_kat ts j hj, List.map_append, stepL_append, h, Option.bind_some, List.map_cons]
 unfold stepL
 rw [hk]
 rfl
theorem ofL_sz (ts : List TM) : szL (ofL ts) ≤ szL ts := by
 induction ts with
 | nil => unfold ofL; exact Nat.le_refl _
 | cons t ts ih =>
  have := ofT_sz t
  unfold ofL
  rw [szL_cons, szL_cons]; omega
theorem stepL_bound {o : Bool} {ts ks : List TM} {j : Nat} (h : stepL o (ofL (ts.take j)) [] = some ks) (hj : j < ts.length) : szL ks + (ofT (kat ts j)).sz ≤ szL ts ∧ (kat ts j).sz ≤ szL ts := by
 have h1 := stepL_sz _ _ _ _ h
 rw [szL_nil] at h1
 have h2 := ofL_sz (ts.take j)
 have h3 := szL_take ts (j + 1)
 rw [take_kat ts j hj, szL_append, szL_cons, szL_nil] at h3
 have h4 := ofT_sz (kat ts j)
 omega
theorem inclL_bound {o : Bool} {ps ks ks' : List TM} {q : Nat} (h : inclL o (ps.take q) ks = some ks') : szL ks' ≤ szL ks + szL ps := by
 have h1 := inclL_sz _ _ _ _ h
 have h2 := szL_take ps q
 omega
theorem stepT_parts {o : Bool} {ks : List TM} {s : TM} (h1 : ¬ s.kd = tk o) (h2 : ¬ s.kd = tk (!o)) : (s.kd = (if o then 4 else 3) → stepT o ks s = inclL o s.ks ks) ∧ (¬ s.kd = (if o then 4 else 3) → stepT o ks s = inclL o [s] ks) := by
 unfold stepT
 rw [if_neg h1, if_neg h2]
 exact ⟨fun h => by rw [if_pos h], fun h => by rw [if_neg h]⟩
theorem TMc.kids {f : Nat} {M : Nat → Prop} {w : World} {y : MX} {t : TM} (h : TMc true f M w y t) : KM (TMc true f M) M w y.a y.n y.p t.ks := by
 cases f with
 | zero => exact h.elim
 | succ f => exact h.2.up
theorem TMc.kd {c : Bool} {f : Nat} {M : Nat → Prop} {w : World} {y : MX} {t : TM} (h : TMc c f M w y t) : y.kd = t.kd := by
 cases f with
 | zero => exact h.elim
 | succ f => exact h.1.1
theorem TMc.node {f : Nat} {M : Nat → Prop} {w : World} {y : MX} {t : TM} (h : TMc true f M w y t) : NodeOk t := by
 cases f with
 | zero => exact h.elim
 | succ f =>
  have h4 : CRx M w 4 y.x t.l ∧ NodeOk t := h.1.2.2.2
  exact h4.2
theorem szL_cons1 (t : TM) : szL [t] = t.sz := by rw [szL_cons, szL_nil, Nat.add_zero]
theorem KM.one {f : Nat} {M : Nat → Prop} {w : World} {y : MX} {t : TM} (hM : Mb M w) (h : TMc true f M w y t) : KM (TMc true f M) M (w.alloc (.cells y.A 32)) (some ⟨w.heap.size, 0, none⟩) 1 1 [t] := by
 refine ⟨rfl, Nat.le_refl _, by decide, fun _ => y, fun i hi => ?_⟩
 obtain rfl : i = 0 := by omega
 exact ⟨⟨w.heap.size, 0, rfl, hM.new (Nat.le_refl _), new_mx w y⟩, h.ext ((Ext.refl w).alloc _)⟩
theorem si_inclF (o : Bool) (f : Nat) (M : Nat → Prop) (base : Nat) (a : Option Addr) (n p : Nat) (ks : List TM) (z : MX) (t : TM) (w : World) (hM : Mb M w) (hR : ORow f M base w (.slice a n p) ks) (ht : TMc true f (MR M (.slice a n p)) w z t) (hb : base ≤ w.heap.size) (hl : ks.length ≤ 1000) :
  Calls Tryz.prog 110 #[.slice a n p, .agg z.A, cmbF o] w (RetI o f M base (.slice a n p) ks t w) := by
 cases f with
 | zero => exact ht.elim
 | succ f => exact si_incl o f M base a n p ks z t w hM hR ht hb hl
end Go.Proofs.YtodiphjjdheoaaaGreat

namespace Go.Proofs.YtodiphjjdheoaaaGreat
open Go.RowKit

set_option maxRecDepth 100000 in
set_option maxHeartbeats 32000000 in
theorem joined_walk (f : Nat) (ih : OfCtr f) : JnCtr (f + 1) := by
 intro o M y t w hM hP hkd hsz
 obtain ⟨hE, hX, hB, hM2⟩ := box77 hM y.A rfl
 have hP2 := (hP.more (M' := Mx M w.heap.size (w.heap.size + 2)) (Mx.more (Nat.le_refl _))).ext hE
 have hyk : y.kd = if o then 4 else 3 := hP2.kd.trans hkd
 obtain ⟨hk1, hk2, hk3, kk, hkk⟩ := hP2.2
 have hx : MxC ((w.alloc (.cells y.A 32)).alloc (.cells mzA 32)) w.heap.size 0 y := (new_mx w y).ext ((Ext.refl _).alloc _)
 have hsK : szL t.ks ≤ 999 := by have := sz_ks t; omega
 have hMb : ∀ g, ((w.alloc (.cells y.A 32)).alloc (.cells mzA 32)).heap.size ≤ g → ¬ Mx M w.heap.size (w.heap.size + 2) g := fun g hg => hM2.new hg
 have hM3 : ∀ g, M g → Mx M w.heap.size (w.heap.size + 2) g := fun g hg => .inl hg
 have hgM : Mx M w.heap.size (w.heap.size + 2) (w.heap.size + 1) := Mx.at ⟨by omega, by omega⟩
 generalize hW0 : (w.alloc (.cells y.A 32)).alloc (.cells mzA 32) = W0 at *
 generalize Mx M w.heap.size (w.heap.size + 2) = M2 at *
 have hRET : Hid (∀ (w1 : World) (s : TM) (y' : MX), TMc true (f + 1) M2 w1 y' s → Ext W0 w1 → ∃ (WA : World), WA = ((((((w1.setCell ⟨w.heap.size + 1, 0, none⟩ (.int .i64 y'.kd)).setCell ⟨w.heap.size + 1, 1, none⟩ (.int .i64 y'.rl)).setCell ⟨w.heap.size + 1, 2, none⟩ (.int .i64 y'.x.lv)).setCell ⟨w.heap.size + 1, 3, none⟩ (.bool y'.x.b)).setCell ⟨w.heap.size + 1, 4, none⟩ (.slice y'.x.a y'.x.n y'.x.p)).setCell ⟨w.heap.size + 1, 5, none⟩ (.slice y'.x.ka y'.x.kn y'.x.kp)).setCell ⟨w.heap.size + 1, 6, none⟩ (.slice y'.a y'.n y'.p) ∧
   (w1.cell? ⟨w.heap.size + 1, 0, none⟩ = some (.int .i64 0) ∧ w1.cell? ⟨w.heap.size + 1, 1, none⟩ = some (.int .i64 0) ∧ w1.cell? ⟨w.heap.size + 1, 2, none⟩ = some (.int .i64 0) ∧ w1.cell? ⟨w.heap.size + 1, 3, none⟩ = some (.bool false) ∧ w1.cell? ⟨w.heap.size + 1, 4, none⟩ = some (.slice none 0 0) ∧ w1.cell? ⟨w.heap.size + 1, 5, none⟩ = some (.slice none 0 0) ∧ w1.cell? ⟨w.heap.size + 1, 6, none⟩ = some (.slice none 0 0)) ∧
   (w1.frozen? ⟨w.heap.size + 1, 0, none⟩ = false ∧ w1.frozen? ⟨w.heap.size + 1, 1, none⟩ = false ∧ w1.frozen? ⟨w.heap.size + 1, 2, none⟩ = false ∧ w1.frozen? ⟨w.heap.size + 1, 3, none⟩ = false ∧ w1.frozen? ⟨w.heap.size + 1, 4, none⟩ = false ∧ w1.frozen? ⟨w.heap.size + 1, 5, none⟩ = false ∧ w1.frozen? ⟨w.heap.size + 1, 6, none⟩ = false) ∧
   (WA.cell? ⟨w.heap.size + 1, 0, none⟩ = some (.int .i64 y'.kd) ∧ WA.cell? ⟨w.heap.size + 1, 1, none⟩ = some (.int .i64 y'.rl) ∧ WA.cell? ⟨w.heap.size + 1, 2, none⟩ = some (.int .i64 y'.x.lv) ∧ WA.cell? ⟨w.heap.size + 1, 3, none⟩ = some (.bool y'.x.b) ∧ WA.cell? ⟨w.heap.size + 1, 4, none⟩ = some (.slice y'.x.a y'.x.n y'.x.p) ∧ WA.cell? ⟨w.heap.size + 1, 5, none⟩ = some (.slice y'.x.ka y'.x.kn y'.x.kp) ∧ WA.cell? ⟨w.heap.size + 1, 6, none⟩ = some (.slice y'.a y'.n y'.p)) ∧
   Hid (RetT (f + 1) M w s (.returned (.agg y'.A)) WA)) := fun w1 s y' hy' he1 => by
  obtain ⟨WA, h1, h2, h3, h4, h5⟩ := retM (M := M) (w := w) (hB.ext he1) hgM (by omega) (hE.trans he1) hy' hM3
  exact ⟨WA, h1, h2, h3, h4, h5⟩
 -- one kid, simplified
 have HOF : Hid (∀ j, j < t.ks.length → ∀ (v : Value) (w1 : World), (∀ g, v.ownBlock = some g → W0.heap.size ≤ g ∧ g < w1.heap.size) → Ext W0 w1 → Calls Tryz.prog 15 #[.agg (kk j).A] w1 (RetT f (MR M2 v) w1 (ofT (kat t.ks j)))) := fun j hj v w1 hv he => by
  obtain ⟨_, h⟩ := hkk j (by rw [hk1]; exact hj)
  refine ih (MR M2 v) (kk j) (kat t.ks j) w1 (fun g hg => hg.elim (fun h => Nat.lt_of_lt_of_le (hM2 g h) he.size) fun h => (hv g h).2) ((h.more fun g hg => hg.imp id fun h => (hv g h).1).ext he) ?_
  have h1 := szL_take t.ks (j + 1)
  rw [take_kat t.ks j hj, szL_append, szL_cons] at h1
  omega
 have HKC : Hid (∀ j, j < t.ks.length → ∃ b off, y.a = some ⟨b, off, none⟩ ∧ MxC W0 b (off + j * 7) (kk j)) := fun j hj => by
  obtain ⟨⟨b, off, e, _, h⟩, _⟩ := hkk j (by rw [hk1]; exact hj)
  exact ⟨b, off, e, h⟩
 have HX := Lib.hid hx
 have HW0 := Lib.hid hW0
 have HMB := Lib.hid hMb
 have HM2 := Lib.hid hM2
 have HN := Lib.hid hk1
 have HSK := Lib.hid hsK
 have HYK := Lib.hid hyk
 unfold maxLen at hk3
 have hn1 : y.n ≤ 1000 := by rw [hk1]; exact Nat.le_trans (len_szL _) (by omega)
 clear hE hX hB hM2 hP hP2 hx hW0 hM hM3 hgM hMb hkk hk1 hsz hkd ih hsK
 obtain ⟨gz, hgz⟩ : ∃ g, g = w.heap.size := ⟨_, rfl⟩
 obtain ⟨yn, hyn⟩ : ∃ g, g = y.n := ⟨_, rfl⟩
 obtain ⟨ya, hya⟩ : ∃ g, g = y.a := ⟨_, rfl⟩
 rw [← hgz] at hRET HX
 rw [← hyn] at HN hk2 hn1
 rw [← hya] at HKC
 have x0 := HX.out.1
 have x6 := HX.out.2.2.2.2.2.2
 rw [← hyn, ← hya] at x6
 clear hyn hya
 have HGZ : Hid (gz < W0.heap.size) := HX.out.lt
 cases o
 ·rw [hyk] at x0
  have XK : Hid (W0.cell? ⟨gz, 0, none⟩ = some (.int .i64 3)) := x0
  have x0 := XK.out
  clear hyk
  go_enter Tryz.func55, Tryz.ntmps55
  go_upto_region 1 with (fail)
  rw [HW0.out, ← hgz]
  clear HW0 hgz
  go_wp2
  go_loopw [20, 6] (fun iv v wr => ∃ (j : Nat) (ks : List TM), j ≤ yn ∧ iv = .int .i64 (j : Int) ∧ Hid (stepL false (ofL (t.ks.take j)) [] = some ks) ∧ Hid (ORow f M2 W0.heap.size wr v ks) ∧ Hid (Ext W0 wr)) (fun iv _ _ => yn - (intOf iv).toNat)
  case atStart => exact ⟨0, [], Nat.zero_le _, rfl, rfl, ORow.nil _ _ _ _, Ext.refl _⟩
  case round =>
   obtain ⟨j, ks, hj, rfl, HST, HOR, HXR⟩ := hrel
   obtain ⟨va, vn, vp, rfl, hvn⟩ := HOR.out.form3
   have HVN := Lib.hid hvn
   clear hvn
   by_cases hlt : j < yn
   ·have HJ : Hid (j < t.ks.length) := by show j < t.ks.length; rw [← HN.out]; exact hlt
    obtain ⟨b, off, rfl, hc⟩ := HKC.out j HJ.out
    have hEA := (Ext.refl wr).alloc (.cells (kk j).A 32)
    obtain ⟨e0, e1, e2, e3, e4, e5, e6⟩ := hc.ext HXR.out
    have hvl : ∀ g, (Value.slice va vn vp).ownBlock = some g → W0.heap.size ≤ g ∧ g < (wr.alloc (.cells (kk j).A 32)).heap.size := fun g hg => ⟨(HOR.out.lt g hg).1, Nat.lt_of_lt_of_le (HOR.out.lt g hg).2 hEA.size⟩
    have CO := Lib.hid (HOF.out j HJ.out (.slice va vn vp) (wr.alloc (.cells (kk j).A 32)) hvl (HXR.out.trans hEA))
    obtain ⟨z0, z1, z2, z3, z4, z5, z6⟩ := new_mx wr (kk j)
    have HX7 := Lib.hid (HXR.out.trans hEA)
    have HR7 := Lib.hid (HOR.out.ext hEA)
    have HLT := Lib.hid hlt
    have hltI : (j : Int) < (yn : Int) := by omega
    clear hc hvl hlt
    generalize kk j = zk at *
    generalize hW7 : wr.alloc (.cells zk.A 32) = W7 at *
    have HW7 := Lib.hid hW7
    clear hW7 hEA
    go_upto_region 8 with (fail)
    rw [HW7.out]
    clear HW7
    go_wp2_with (fail)
    refine CO.out.mono ?_
    rintro e w8 ⟨ys, rfl, hys, he8⟩
    obtain ⟨s, hs⟩ : ∃ s, s = ofT (kat t.ks j) := ⟨_, rfl⟩
    rw [← hs] at hys
    have HSB : Hid (szL ks + s.sz ≤ 999) := by have h1 := (stepL_bound HST.out HJ.out).1; have h2 := HSK.out; rw [← hs] at h1; show _ ≤ _; omega
    have HS := Lib.hid hs
    have HYD : Hid (ys.kd = s.kd) := hys.kd
    have hmv : Mb (MR M2 (.slice va vn vp)) w8 := fun g hg => hg.elim (fun h => Nat.lt_of_lt_of_le (HM2.out g h) (HX7.out.trans he8).size) fun h => Nat.lt_of_lt_of_le ((HR7.out.ext he8).lt g h).2 (Nat.le_refl _)
    have hE9 := (Ext.refl w8).alloc (.cells ys.A 32)
    have hY9 := new_mx w8 ys
    have hm9 := hmv.ext hE9
    have hys9 := hys.ext hE9
    generalize hW9 : w8.alloc (.cells ys.A 32) = W9 at *
    have HW9 := Lib.hid hW9
    have hE10 := (Ext.refl W9).alloc (.cells ys.A 32)
    have hk10 := KM.one hm9 hys9
    have hys10 := hys9.ext hE10
    have hY10 := hY9.ext hE10
    have hC9 := hY9
    have hs9 : W9.heap.size = w8.heap.size + 1 := by rw [← hW9]; simp
    have HS9 := Lib.hid hs9
    generalize hW10 : W9.alloc (.cells ys.A 32) = W10 at *
    have HW10 := Lib.hid hW10
    have HX10 := Lib.hid (((HX7.out.trans he8).trans hE9).trans hE10)
    have HR10 := Lib.hid (((HR7.out.ext he8).ext hE9).ext hE10)
    have HYS := Lib.hid hys10
    have HK10 := Lib.hid hk10
    have HY10 := Lib.hid hY10
    have hkd : s.kd = 0 ∨ s.kd = 1 ∨ s.kd = 2 ∨ s.kd = 3 ∨ s.kd = 4 := by
     have := hys.node
     exact this.kd.2
    clear hW9 hW10 hs hys hys9 hys10 hmv hm9 hE9 hE10 hk10 hY10 hs9 CO he8 HX7 HR7 HOR HXR e0 e1 e2 e3 e4 e5 e6 z0 z1 z2 z3 z4 z5 z6 hY9
    obtain ⟨z0, z1, z2, z3, z4, z5, z6⟩ := hC9
    go_upto_region 9 with (fail)
    rw [HW9.out]
    go_upto_region 10 with (fail)
    rw [HW10.out]
    rw [HS9.out] at HK10 ⊢
    clear z0 z1 z2 z3 z4 z5 z6 HW9 HW10 HS9
    generalize w8.heap.size + 1 = g9 at *
    generalize w8.heap.size = g8 at *
    obtain ⟨q0, q1, q2, q3, q4, q5, q6⟩ := HY10.out
    clear HY10
    obtain ⟨x0', x6'⟩ : W10.cell? ⟨gz, 0, none⟩ = some (.int .i64 3) ∧ True := ⟨by rw [HX10.out.cell HGZ.out]; exact XK.out, trivial⟩
    rcases hkd with hk | hk | hk | hk | hk
    ·have hk : s.kd = 0 := hk
     have hB0 : (ys.kd == 0) = true := by rw [HYD.out, hk]; decide
     have hB1 : (ys.kd == 1) = false := by rw [HYD.out, hk]; decide
     have hB3 : (ys.kd == 3) = false := by rw [HYD.out, hk]; decide
     have HNO : Hid (stepL false (ofL t.ks) [] = none) := stepL_stop HST.out HJ.out (by rw [← HS.out]; exact stepT_o false ks s hk)
     clear hk
     obtain ⟨WA, hWA, ⟨c0, c1, c2, c3, c4, c5, c6⟩, ⟨f0, f1, f2, f3, f4, f5, f6⟩, ⟨r0, r1, r2, r3, r4, r5, r6⟩, HF⟩ := hRET.out W10 (tmB false) ⟨0, 0, ⟨0, false, none, 0, 0, none, 0, 0⟩, none, 0, 0⟩ (tmB_c f M2 W10 false) HX10.out
     try dsimp only at hWA r0 r1 r2 r3 r4 r5 r6
     have HWA := Lib.hid hWA
     have HF := Lib.hid (show RetT (f + 1) M w (finT false (stepL false (ofL t.ks) [])) _ WA from by rw [HNO.out, show finT false none = tmB false from rfl]; exact HF.out)
     clear hWA HR10 HYS HK10 HST
     go_wp2
     rw [← HWA.out]
     clear HWA c0 c1 c2 c3 c4 c5 c6 f0 f1 f2 f3 f4 f5 f6
     exact bodyPost_ret (v := .agg (MX.A ⟨0, 0, ⟨0, false, none, 0, 0, none, 0, 0⟩, none, 0, 0⟩)) (by simp [results, Tryz.results55, go_sem, r0, r1, r2, r3, r4, r5, r6]) rfl HF.out
    ·have hk : s.kd = 1 := hk
     have hB0 : (ys.kd == 0) = false := by rw [HYD.out, hk]; decide
     have hB1 : (ys.kd == 1) = true := by rw [HYD.out, hk]; decide
     have hB3 : (ys.kd == 3) = false := by rw [HYD.out, hk]; decide
     have HST2 := Lib.hid (stepL_step HST.out HJ.out (show stepT false ks (ofT (kat t.ks j)) = some ks from by rw [← HS.out]; exact stepT_n false ks s hk))
     clear hk HYS HK10 HST
     go_wp2
     go_roundw
     case rel => exact ⟨j + 1, ks, HLT.out, by go_num, HST2.out, HR10.out, HX10.out⟩
     case measure => have := HLT.out; simp [intOf]; omega
    ·have hk : s.kd = 2 := hk
     have hB0 : (ys.kd == 0) = false := by rw [HYD.out, hk]; decide
     have hB1 : (ys.kd == 1) = false := by rw [HYD.out, hk]; decide
     have hB3 : (ys.kd == 3) = false := by rw [HYD.out, hk]; decide
     have HPS : Hid (stepT false ks s = inclL false [s] ks) := (stepT_parts (by rw [hk]; decide) (by rw [hk]; decide)).2 (by rw [hk]; decide)
     have HPK := Lib.hid HK10.out
     have HPB : Hid (szL ks + szL [s] ≤ 999) := by have h1 := HSB.out; rw [← szL_cons1] at h1; exact h1
     clear hk HYS HK10
     generalize [s] = parts at *
     go_upto_region 16 with (fail)
     clear q0 q1 q2 q3 q4 q5 q6
     obtain ⟨pa, hpa⟩ : ∃ a, a = (some ⟨g9, 0, none⟩ : Option Addr) := ⟨_, rfl⟩
     rw [← hpa] at HPK ⊢
     clear hpa
     go_wp2
     go_loopw [46, 6] (fun iv v2 wr => ∃ (q : Nat) (ks2 : List TM), q ≤ 1 ∧ iv = .int .i64 (q : Int) ∧ Hid (inclL false (parts.take q) ks = some ks2) ∧ Hid (ORow f M2 W0.heap.size wr v2 ks2) ∧ Hid (KM (TMc true f (MR M2 v2)) (MR M2 v2) wr pa 1 1 parts) ∧ Hid (Ext W0 wr)) (fun iv _ _ => 1 - (intOf iv).toNat)
     case atStart => exact ⟨0, ks, Nat.zero_le _, rfl, rfl, HR10.out, HPK.out, HX10.out⟩
     case round =>
      obtain ⟨q, ks2, hq, rfl, HIN, HO2, HK2, HX2⟩ := hrel
      obtain ⟨ua, un, up, rfl, hun⟩ := HO2.out.form3
      have HUN := Lib.hid hun
      clear hun
      by_cases hlq : q < 1
      ·obtain ⟨k1, k2, k3, pk, hpk⟩ := HK2.out
       have HQ : Hid (q < parts.length) := by show q < parts.length; rw [← k1]; exact hlq
       obtain ⟨⟨b2, off2, rfl, _, hc2⟩, ht2⟩ := hpk q hlq
       obtain ⟨d0, d1, d2, d3, d4, d5, d6⟩ := hc2
       unfold maxLen at k3
       have HK1 := Lib.hid k1
       have hEC := (Ext.refl wr).alloc (.cells (pk q).A 32)
       obtain ⟨y0, y1, y2, y3, y4, y5, y6⟩ := new_mx wr (pk q)
       have HX18 := Lib.hid (HX2.out.trans hEC)
       have HK18 := Lib.hid (HK2.out.ext hEC)
       have CIN := Lib.hid (si_inclF false f M2 W0.heap.size ua un up ks2 (pk q) (kat parts q) (wr.alloc (.cells (pk q).A 32)) (HM2.out.ext HX18.out) (HO2.out.ext hEC) (ht2.ext hEC) HX18.out.size (by
        have h1 := inclL_bound HIN.out
        have h2 := HPB.out
        have h3 := len_szL ks2
        omega))
       have HLQ := Lib.hid hlq
       have hlqI : (q : Int) < 1 := by omega
       clear hpk ht2 k1 hlq HK2
       generalize pk q = zq at *
       generalize hW18 : wr.alloc (.cells zq.A 32) = W18 at *
       have HW18 := Lib.hid hW18
       clear hW18 hEC
       go_upto_region 19 with (fail)
       rw [HW18.out]
       clear HW18
       go_wp2_with (fail)
       refine CIN.out.mono ?_
       rintro e w5 ⟨v', rfl, hO', hF', hU'⟩
       have HX5 := Lib.hid (hU' W0 (Nat.le_refl _) HX18.out)
       have HK5 := Lib.hid (HK18.out.fr hF')
       have HO5 := Lib.hid hO'
       obtain ⟨ok, hok⟩ : ∃ ok, ok = (incl false (kat parts q) ks2).2 := ⟨_, rfl⟩
       rw [← hok]
       have HOK := Lib.hid hok
       clear hok hO' hF' hU' CIN HK18 HX18 HO2 d0 d1 d2 d3 d4 d5 d6 y0 y1 y2 y3 y4 y5 y6 k2 k3
       cases ok
       ·have HNO : Hid (stepL false (ofL t.ks) [] = none) := stepL_stop HST.out HJ.out (by rw [← HS.out, HPS.out]; exact inclL_stop HIN.out HQ.out HOK.out.symm)
        obtain ⟨WA, hWA, ⟨c0, c1, c2, c3, c4, c5, c6⟩, ⟨f0, f1, f2, f3, f4, f5, f6⟩, ⟨r0, r1, r2, r3, r4, r5, r6⟩, HF⟩ := hRET.out w5 (tmB false) ⟨0, 0, ⟨0, false, none, 0, 0, none, 0, 0⟩, none, 0, 0⟩ (tmB_c f M2 w5 false) HX5.out
        try dsimp only at hWA r0 r1 r2 r3 r4 r5 r6
        have HWA := Lib.hid hWA
        have HF := Lib.hid (show RetT (f + 1) M w (finT false (stepL false (ofL t.ks) [])) _ WA from by rw [HNO.out, show finT false none = tmB false from rfl]; exact HF.out)
        clear hWA HO5 HK5 HX5 HOK HIN HPK HPS HST
        go_wp2
        rw [← HWA.out]
        clear HWA c0 c1 c2 c3 c4 c5 c6 f0 f1 f2 f3 f4 f5 f6
        exact bodyPost_ret (v := .agg (MX.A ⟨0, 0, ⟨0, false, none, 0, 0, none, 0, 0⟩, none, 0, 0⟩)) (by simp [results, Tryz.results55, go_sem, r0, r1, r2, r3, r4, r5, r6]) rfl HF.out
       ·have HIN2 := Lib.hid (inclL_step HIN.out HQ.out HOK.out.symm)
        have HO6 := Lib.hid (HO5.out HOK.out.symm)
        clear HO5 HIN HOK
        go_wp2
        go_roundw
        case rel => exact ⟨q + 1, _, HLQ.out, by go_num, HIN2.out, HO6.out, HK5.out, HX5.out⟩
        case measure => have := HLQ.out; simp [intOf]; omega
      ·obtain rfl : q = 1 := by omega
       have hge : ¬ ((1 : Nat) : Int) < ((1 : Nat) : Int) := by omega
       have HST2 := Lib.hid (stepL_step HST.out HJ.out (show stepT false ks (ofT (kat t.ks j)) = some ks2 from by
        have h1 := HIN.out
        rw [HK2.out.1, List.take_length] at h1
        rw [← HS.out, HPS.out, h1]))
       clear HIN HK2 HPK HPS HST
       go_wp2
       go_roundw
       case rel => exact ⟨j + 1, ks2, HLT.out, by go_num, HST2.out, HO2.out, HX2.out⟩
       case measure => have := HLT.out; simp [intOf]; omega
    ·have hk : s.kd = 3 := hk
     have hB0 : (ys.kd == 0) = false := by rw [HYD.out, hk]; decide
     have hB1 : (ys.kd == 1) = false := by rw [HYD.out, hk]; decide
     have hB3 : (ys.kd == 3) = true := by rw [HYD.out, hk]; decide
     have HPS : Hid (stepT false ks s = inclL false s.ks ks) := (stepT_parts (by rw [hk]; decide) (by rw [hk]; decide)).1 hk
     have HPK := Lib.hid HYS.out.kids
     have HPB : Hid (szL ks + szL s.ks ≤ 999) := by have h1 := HSB.out; have h2 := sz_ks s; show _ ≤ _; omega
     have hp3 : ys.p ≤ 9223372036854775807 := HPK.out.2.2.1
     have hp2 : ys.n ≤ ys.p := HPK.out.2.1
     clear hk HK10
     generalize s.ks = parts at *
     go_upto_region 16 with (fail)
     clear q0 q1 q2 q3 q4 q5 q6
     generalize ys.a = pa at *
     generalize ys.n = pn at *
     generalize ys.p = pp at *
     go_wp2
     go_loopw [46, 6] (fun iv v2 wr => ∃ (q : Nat) (ks2 : List TM), q ≤ pn ∧ iv = .int .i64 (q : Int) ∧ Hid (inclL false (parts.take q) ks = some ks2) ∧ Hid (ORow f M2 W0.heap.size wr v2 ks2) ∧ Hid (KM (TMc true f (MR M2 v2)) (MR M2 v2) wr pa pn pp parts) ∧ Hid (Ext W0 wr)) (fun iv _ _ => pn - (intOf iv).toNat)
     case atStart => exact ⟨0, ks, Nat.zero_le _, rfl, rfl, HR10.out, HPK.out, HX10.out⟩
     case round =>
      obtain ⟨q, ks2, hq, rfl, HIN, HO2, HK2, HX2⟩ := hrel
      obtain ⟨ua, un, up, rfl, hun⟩ := HO2.out.form3
      have HUN := Lib.hid hun
      clear hun
      by_cases hlq : q < pn
      ·obtain ⟨k1, k2, k3, pk, hpk⟩ := HK2.out
       have HQ : Hid (q < parts.length) := by show q < parts.length; rw [← k1]; exact hlq
       obtain ⟨⟨b2, off2, rfl, _, hc2⟩, ht2⟩ := hpk q hlq
       obtain ⟨d0, d1, d2, d3, d4, d5, d6⟩ := hc2
       unfold maxLen at k3
       have HK1 := Lib.hid k1
       have hEC := (Ext.refl wr).alloc (.cells (pk q).A 32)
       obtain ⟨y0, y1, y2, y3, y4, y5, y6⟩ := new_mx wr (pk q)
       have HX18 := Lib.hid (HX2.out.trans hEC)
       have HK18 := Lib.hid (HK2.out.ext hEC)
       have CIN := Lib.hid (si_inclF false f M2 W0.heap.size ua un up ks2 (pk q) (kat parts q) (wr.alloc (.cells (pk q).A 32)) (HM2.out.ext HX18.out) (HO2.out.ext hEC) (ht2.ext hEC) HX18.out.size (by
        have h1 := inclL_bound HIN.out
        have h2 := HPB.out
        have h3 := len_szL ks2
        omega))
       have HLQ := Lib.hid hlq
       have hlqI : (q : Int) < (pn : Int) := by omega
       clear hpk ht2 k1 hlq HK2
       generalize pk q = zq at *
       generalize hW18 : wr.alloc (.cells zq.A 32) = W18 at *
       have HW18 := Lib.hid hW18
       clear hW18 hEC
       go_upto_region 19 with (fail)
       rw [HW18.out]
       clear HW18
       go_wp2_with (fail)
       refine CIN.out.mono ?_
       rintro e w5 ⟨v', rfl, hO', hF', hU'⟩
       have HX5 := Lib.hid (hU' W0 (Nat.le_refl _) HX18.out)
       have HK5 := Lib.hid (HK18.out.fr hF')
       have HO5 := Lib.hid hO'
       obtain ⟨ok, hok⟩ : ∃ ok, ok = (incl false (kat parts q) ks2).2 := ⟨_, rfl⟩
       rw [← hok]
       have HOK := Lib.hid hok
       clear hok hO' hF' hU' CIN HK18 HX18 HO2 d0 d1 d2 d3 d4 d5 d6 y0 y1 y2 y3 y4 y5 y6 k2 k3
       cases ok
       ·have HNO : Hid (stepL false (ofL t.ks) [] = none) := stepL_stop HST.out HJ.out (by rw [← HS.out, HPS.out]; exact inclL_stop HIN.out HQ.out HOK.out.symm)
        obtain ⟨WA, hWA, ⟨c0, c1, c2, c3, c4, c5, c6⟩, ⟨f0, f1, f2, f3, f4, f5, f6⟩, ⟨r0, r1, r2, r3, r4, r5, r6⟩, HF⟩ := hRET.out w5 (tmB false) ⟨0, 0, ⟨0, false, none, 0, 0, none, 0, 0⟩, none, 0, 0⟩ (tmB_c f M2 w5 false) HX5.out
        try dsimp only at hWA r0 r1 r2 r3 r4 r5 r6
        have HWA := Lib.hid hWA
        have HF := Lib.hid (show RetT (f + 1) M w (finT false (stepL false (ofL t.ks) [])) _ WA from by rw [HNO.out, show finT false none = tmB false from rfl]; exact HF.out)
        clear hWA HO5 HK5 HX5 HOK HIN HPK HPS HST
        go_wp2
        rw [← HWA.out]
        clear HWA c0 c1 c2 c3 c4 c5 c6 f0 f1 f2 f3 f4 f5 f6
        exact bodyPost_ret (v := .agg (MX.A ⟨0, 0, ⟨0, false, none, 0, 0, none, 0, 0⟩, none, 0, 0⟩)) (by simp [results, Tryz.results55, go_sem, r0, r1, r2, r3, r4, r5, r6]) rfl HF.out
       ·have HIN2 := Lib.hid (inclL_step HIN.out HQ.out HOK.out.symm)
        have HO6 := Lib.hid (HO5.out HOK.out.symm)
        clear HO5 HIN HOK
        go_wp2
        go_roundw
        case rel => exact ⟨q + 1, _, HLQ.out, by go_num, HIN2.out, HO6.out, HK5.out, HX5.out⟩
        case measure => have := HLQ.out; simp [intOf]; omega
      ·obtain rfl : q = pn := by omega
       have hge : ¬ ((q : Nat) : Int) < ((q : Nat) : Int) := by omega
       have HST2 := Lib.hid (stepL_step HST.out HJ.out (show stepT false ks (ofT (kat t.ks j)) = some ks2 from by
        have h1 := HIN.out
        rw [HK2.out.1, List.take_length] at h1
        rw [← HS.out, HPS.out, h1]))
       clear HIN HK2 HPK HPS HST
       go_wp2
       go_roundw
       case rel => exact ⟨j + 1, ks2, HLT.out, by go_num, HST2.out, HO2.out, HX2.out⟩
       case measure => have := HLT.out; simp [intOf]; omega
    ·have hk : s.kd = 4 := hk
     have hB0 : (ys.kd == 0) = false := by rw [HYD.out, hk]; decide
     have hB1 : (ys.kd == 1) = false := by rw [HYD.out, hk]; decide
     have hB3 : (ys.kd == 3) = false := by rw [HYD.out, hk]; decide
     have HPS : Hid (stepT false ks s = inclL false [s] ks) := (stepT_parts (by rw [hk]; decide) (by rw [hk]; decide)).2 (by rw [hk]; decide)
     have HPK := Lib.hid HK10.out
     have HPB : Hid (szL ks + szL [s] ≤ 999) := by have h1 := HSB.out; rw [← szL_cons1] at h1; exact h1
     clear hk HYS HK10
     generalize [s] = parts at *
     go_upto_region 16 with (fail)
     clear q0 q1 q2 q3 q4 q5 q6
     obtain ⟨pa, hpa⟩ : ∃ a, a = (some ⟨g9, 0, none⟩ : Option Addr) := ⟨_, rfl⟩
     rw [← hpa] at HPK ⊢
     clear hpa
     go_wp2
     go_loopw [46, 6] (fun iv v2 wr => ∃ (q : Nat) (ks2 : List TM), q ≤ 1 ∧ iv = .int .i64 (q : Int) ∧ Hid (inclL false (parts.take q) ks = some ks2) ∧ Hid (ORow f M2 W0.heap.size wr v2 ks2) ∧ Hid (KM (TMc true f (MR M2 v2)) (MR M2 v2) wr pa 1 1 parts) ∧ Hid (Ext W0 wr)) (fun iv _ _ => 1 - (intOf iv).toNat)
     case atStart => exact ⟨0, ks, Nat.zero_le _, rfl, rfl, HR10.out, HPK.out, HX10.out⟩
     case round =>
      obtain ⟨q, ks2, hq, rfl, HIN, HO2, HK2, HX2⟩ := hrel
      obtain ⟨ua, un, up, rfl, hun⟩ := HO2.out.form3
      have HUN := Lib.hid hun
      clear hun
      by_cases hlq : q < 1
      ·obtain ⟨k1, k2, k3, pk, hpk⟩ := HK2.out
       have HQ : Hid (q < parts.length) := by show q < parts.length; rw [← k1]; exact hlq
       obtain ⟨⟨b2, off2, rfl, _, hc2⟩, ht2⟩ := hpk q hlq
       obtain ⟨d0, d1, d2, d3, d4, d5, d6⟩ := hc2
       unfold maxLen at k3
       have HK1 := Lib.hid k1
       have hEC := (Ext.refl wr).alloc (.cells (pk q).A 32)
       obtain ⟨y0, y1, y2, y3, y4, y5, y6⟩ := new_mx wr (pk q)
       have HX18 := Lib.hid (HX2.out.trans hEC)
       have HK18 := Lib.hid (HK2.out.ext hEC)
       have CIN := Lib.hid (si_inclF false f M2 W0.heap.size ua un up ks2 (pk q) (kat parts q) (wr.alloc (.cells (pk q).A 32)) (HM2.out.ext HX18.out) (HO2.out.ext hEC) (ht2.ext hEC) HX18.out.size (by
        have h1 := inclL_bound HIN.out
        have h2 := HPB.out
        have h3 := len_szL ks2
        omega))
       have HLQ := Lib.hid hlq
       have hlqI : (q : Int) < 1 := by omega
       clear hpk ht2 k1 hlq HK2
       generalize pk q = zq at *
       generalize hW18 : wr.alloc (.cells zq.A 32) = W18 at *
       have HW18 := Lib.hid hW18
       clear hW18 hEC
       go_upto_region 19 with (fail)
       rw [HW18.out]
       clear HW18
       go_wp2_with (fail)
       refine CIN.out.mono ?_
       rintro e w5 ⟨v', rfl, hO', hF', hU'⟩
       have HX5 := Lib.hid (hU' W0 (Nat.le_refl _) HX18.out)
       have HK5 := Lib.hid (HK18.out.fr hF')
       have HO5 := Lib.hid hO'
       obtain ⟨ok, hok⟩ : ∃ ok, ok = (incl false (kat parts q) ks2).2 := ⟨_, rfl⟩
       rw [← hok]
       have HOK := Lib.hid hok
       clear hok hO' hF' hU' CIN HK18 HX18 HO2 d0 d1 d2 d3 d4 d5 d6 y0 y1 y2 y3 y4 y5 y6 k2 k3
       cases ok
       ·have HNO : Hid (stepL false (ofL t.ks) [] = none) := stepL_stop HST.out HJ.out (by rw [← HS.out, HPS.out]; exact inclL_stop HIN.out HQ.out HOK.out.symm)
        obtain ⟨WA, hWA, ⟨c0, c1, c2, c3, c4, c5, c6⟩, ⟨f0, f1, f2, f3, f4, f5, f6⟩, ⟨r0, r1, r2, r3, r4, r5, r6⟩, HF⟩ := hRET.out w5 (tmB false) ⟨0, 0, ⟨0, false, none, 0, 0, none, 0, 0⟩, none, 0, 0⟩ (tmB_c f M2 w5 false) HX5.out
        try dsimp only at hWA r0 r1 r2 r3 r4 r5 r6
        have HWA := Lib.hid hWA
        have HF := Lib.hid (show RetT (f + 1) M w (finT false (stepL false (ofL t.ks) [])) _ WA from by rw [HNO.out, show finT false none = tmB false from rfl]; exact HF.out)
        clear hWA HO5 HK5 HX5 HOK HIN HPK HPS HST
        go_wp2
        rw [← HWA.out]
        clear HWA c0 c1 c2 c3 c4 c5 c6 f0 f1 f2 f3 f4 f5 f6
        exact bodyPost_ret (v := .agg (MX.A ⟨0, 0, ⟨0, false, none, 0, 0, none, 0, 0⟩, none, 0, 0⟩)) (by simp [results, Tryz.results55, go_sem, r0, r1, r2, r3, r4, r5, r6]) rfl HF.out
       ·have HIN2 := Lib.hid (inclL_step HIN.out HQ.out HOK.out.symm)
        have HO6 := Lib.hid (HO5.out HOK.out.symm)
        clear HO5 HIN HOK
        go_wp2
        go_roundw
        case rel => exact ⟨q + 1, _, HLQ.out, by go_num, HIN2.out, HO6.out, HK5.out, HX5.out⟩
        case measure => have := HLQ.out; simp [intOf]; omega
      ·obtain rfl : q = 1 := by omega
       have hge : ¬ ((1 : Nat) : Int) < ((1 : Nat) : Int) := by omega
       have HST2 := Lib.hid (stepL_step HST.out HJ.out (show stepT false ks (ofT (kat t.ks j)) = some ks2 from by
        have h1 := HIN.out
        rw [HK2.out.1, List.take_length] at h1
        rw [← HS.out, HPS.out, h1]))
       clear HIN HK2 HPK HPS HST
       go_wp2
       go_roundw
       case rel => exact ⟨j + 1, ks2, HLT.out, by go_num, HST2.out, HO2.out, HX2.out⟩
       case measure => have := HLT.out; simp [intOf]; omega
   ·obtain rfl : j = yn := by omega
    have hge : ¬ (j : Int) < (j : Int) := by omega
    have HEN : Hid (stepL false (ofL t.ks) [] = some ks) := by
     have h1 := HST.out
     rw [HN.out, List.take_length] at h1
     exact h1
    have x0' : wr.cell? ⟨gz, 0, none⟩ = some (.int .i64 3) := by rw [HXR.out.cell HGZ.out]; exact XK.out
    clear HST HKC HOF
    match ks, HEN, HOR, HVN with
    | [], HEN, HOR, HVN =>
     obtain rfl : vn = 0 := HVN.out
     obtain ⟨WA, hWA, ⟨c0, c1, c2, c3, c4, c5, c6⟩, ⟨f0, f1, f2, f3, f4, f5, f6⟩, ⟨r0, r1, r2, r3, r4, r5, r6⟩, HF⟩ := hRET.out wr (tmB (!false)) ⟨1, 0, ⟨0, false, none, 0, 0, none, 0, 0⟩, none, 0, 0⟩ (tmB_c f M2 wr (!false)) HXR.out
     try dsimp only at hWA r0 r1 r2 r3 r4 r5 r6
     have HWA := Lib.hid hWA
     have HF := Lib.hid (show RetT (f + 1) M w (finT false (stepL false (ofL t.ks) [])) _ WA from by rw [HEN.out]; exact HF.out)
     clear hWA HOR
     go_wp2
     rw [← HWA.out]
     clear HWA c0 c1 c2 c3 c4 c5 c6 f0 f1 f2 f3 f4 f5 f6
     exact bodyPost_ret (v := .agg (MX.A ⟨1, 0, ⟨0, false, none, 0, 0, none, 0, 0⟩, none, 0, 0⟩)) (by simp [results, Tryz.results55, go_sem, r0, r1, r2, r3, r4, r5, r6]) rfl HF.out
    | [k], HEN, HOR, HVN =>
     have hv1 : vn = 1 := HVN.out
     have hb0 : ((vn : Int) == 0) = false := beq_eq_false_iff_ne.2 (by omega)
     have hb1 : ((vn : Int) == 1) = true := beq_iff_eq.2 (by omega)
     have hv0 : (0 : Int) < (vn : Int) := by omega
     obtain ⟨_, hvp, hvm, xx, hxx⟩ := HOR.out.atk
     unfold maxLen at hvm
     obtain ⟨⟨g, rfl, _, _, hg, _⟩, ht⟩ := hxx 0 (by omega)
     rw [kat_zero] at ht
     have ht1 := (ht.more (M' := M2) fun b hb => .inl (.inl hb)).up
     clear hv1
     generalize xx 0 = z at *
     rw [show 0 * 7 = 0 from rfl] at hg
     obtain ⟨d0, d1, d2, d3, d4, d5, d6⟩ := hg
     clear hxx ht
     obtain ⟨WA, hWA, ⟨c0, c1, c2, c3, c4, c5, c6⟩, ⟨f0, f1, f2, f3, f4, f5, f6⟩, ⟨r0, r1, r2, r3, r4, r5, r6⟩, HF⟩ := hRET.out wr k z ht1 HXR.out
     try dsimp only at hWA r0 r1 r2 r3 r4 r5 r6
     have HWA := Lib.hid hWA
     have HF := Lib.hid (show RetT (f + 1) M w (finT false (stepL false (ofL t.ks) [])) _ WA from by rw [HEN.out]; exact HF.out)
     clear hWA HOR ht1
     go_wp2
     rw [← HWA.out]
     clear HWA c0 c1 c2 c3 c4 c5 c6 f0 f1 f2 f3 f4 f5 f6
     exact bodyPost_ret (v := .agg (MX.A z)) (by simp [results, Tryz.results55, go_sem, r0, r1, r2, r3, r4, r5, r6]) rfl HF.out
    | k :: k' :: ts, HEN, HOR, HVN =>
     have hkm := HOR.out.km HMB.out
     have ht1 : TMc true (f + 1) M2 wr ⟨3, 0, ⟨0, false, none, 0, 0, none, 0, 0⟩, va, vn, vp⟩ (.nd 3 0 [] (k :: k' :: ts)) := ⟨⟨rfl, rfl, smF_nil, (show CRx M2 wr 4 PE.z [] ∧ NodeOk (.nd 3 0 [] (k :: k' :: ts)) from ⟨CR.zero _ _ _, rfl, .inr (.inr ⟨.inl rfl, rfl, rfl⟩)⟩)⟩, hkm⟩
     have hv2 : 2 ≤ vn := by rw [HVN.out]; simp
     have hb0 : ((vn : Int) == 0) = false := beq_eq_false_iff_ne.2 (by omega)
     have hb1 : ((vn : Int) == 1) = false := beq_eq_false_iff_ne.2 (by omega)
     clear hkm
     obtain ⟨WA, hWA, ⟨c0, c1, c2, c3, c4, c5, c6⟩, ⟨f0, f1, f2, f3, f4, f5, f6⟩, ⟨r0, r1, r2, r3, r4, r5, r6⟩, HF⟩ := hRET.out wr (.nd 3 0 [] (k :: k' :: ts)) ⟨3, 0, ⟨0, false, none, 0, 0, none, 0, 0⟩, va, vn, vp⟩ ht1 HXR.out
     try dsimp only at hWA r0 r1 r2 r3 r4 r5 r6
     have HWA := Lib.hid hWA
     have HF := Lib.hid (show RetT (f + 1) M w (finT false (stepL false (ofL t.ks) [])) _ WA from by rw [HEN.out]; exact HF.out)
     clear hWA HOR ht1
     go_wp2
     rw [← HWA.out]
     clear HWA c0 c1 c2 c3 c4 c5 c6 f0 f1 f2 f3 f4 f5 f6
     exact bodyPost_ret (v := .agg (MX.A ⟨3, 0, ⟨0, false, none, 0, 0, none, 0, 0⟩, va, vn, vp⟩)) (by simp [results, Tryz.results55, go_sem, r0, r1, r2, r3, r4, r5, r6]) rfl HF.out
 ·rw [hyk] at x0
  have XK : Hid (W0.cell? ⟨gz, 0, none⟩ = some (.int .i64 4)) := x0
  have x0 := XK.out
  clear hyk
  go_enter Tryz.func55, Tryz.ntmps55
  go_upto_region 1 with (fail)
  rw [HW0.out, ← hgz]
  clear HW0 hgz
  go_wp2
  go_loopw [20, 6] (fun iv v wr => ∃ (j : Nat) (ks : List TM), j ≤ yn ∧ iv = .int .i64 (j : Int) ∧ Hid (stepL true (ofL (t.ks.take j)) [] = some ks) ∧ Hid (ORow f M2 W0.heap.size wr v ks) ∧ Hid (Ext W0 wr)) (fun iv _ _ => yn - (intOf iv).toNat)
  case atStart => exact ⟨0, [], Nat.zero_le _, rfl, rfl, ORow.nil _ _ _ _, Ext.refl _⟩
  case round =>
   obtain ⟨j, ks, hj, rfl, HST, HOR, HXR⟩ := hrel
   obtain ⟨va, vn, vp, rfl, hvn⟩ := HOR.out.form3
   have HVN := Lib.hid hvn
   clear hvn
   by_cases hlt : j < yn
   ·have HJ : Hid (j < t.ks.length) := by show j < t.ks.length; rw [← HN.out]; exact hlt
    obtain ⟨b, off, rfl, hc⟩ := HKC.out j HJ.out
    have hEA := (Ext.refl wr).alloc (.cells (kk j).A 32)
    obtain ⟨e0, e1, e2, e3, e4, e5, e6⟩ := hc.ext HXR.out
    have hvl : ∀ g, (Value.slice va vn vp).ownBlock = some g → W0.heap.size ≤ g ∧ g < (wr.alloc (.cells (kk j).A 32)).heap.size := fun g hg => ⟨(HOR.out.lt g hg).1, Nat.lt_of_lt_of_le (HOR.out.lt g hg).2 hEA.size⟩
    have CO := Lib.hid (HOF.out j HJ.out (.slice va vn vp) (wr.alloc (.cells (kk j).A 32)) hvl (HXR.out.trans hEA))
    obtain ⟨z0, z1, z2, z3, z4, z5, z6⟩ := new_mx wr (kk j)
    have HX7 := Lib.hid (HXR.out.trans hEA)
    have HR7 := Lib.hid (HOR.out.ext hEA)
    have HLT := Lib.hid hlt
    have hltI : (j : Int) < (yn : Int) := by omega
    clear hc hvl hlt
    generalize kk j = zk at *
    generalize hW7 : wr.alloc (.cells zk.A 32) = W7 at *
    have HW7 := Lib.hid hW7
    clear hW7 hEA
    go_upto_region 8 with (fail)
    rw [HW7.out]
    clear HW7
    go_wp2_with (fail)
    refine CO.out.mono ?_
    rintro e w8 ⟨ys, rfl, hys, he8⟩
    obtain ⟨s, hs⟩ : ∃ s, s = ofT (kat t.ks j) := ⟨_, rfl⟩
    rw [← hs] at hys
    have HSB : Hid (szL ks + s.sz ≤ 999) := by have h1 := (stepL_bound HST.out HJ.out).1; have h2 := HSK.out; rw [← hs] at h1; show _ ≤ _; omega
    have HS := Lib.hid hs
    have HYD : Hid (ys.kd = s.kd) := hys.kd
    have hmv : Mb (MR M2 (.slice va vn vp)) w8 := fun g hg => hg.elim (fun h => Nat.lt_of_lt_of_le (HM2.out g h) (HX7.out.trans he8).size) fun h => Nat.lt_of_lt_of_le ((HR7.out.ext he8).lt g h).2 (Nat.le_refl _)
    have hE9 := (Ext.refl w8).alloc (.cells ys.A 32)
    have hY9 := new_mx w8 ys
    have hm9 := hmv.ext hE9
    have hys9 := hys.ext hE9
    generalize hW9 : w8.alloc (.cells ys.A 32) = W9 at *
    have HW9 := Lib.hid hW9
    have hE10 := (Ext.refl W9).alloc (.cells ys.A 32)
    have hk10 := KM.one hm9 hys9
    have hys10 := hys9.ext hE10
    have hY10 := hY9.ext hE10
    have hC9 := hY9
    have hs9 : W9.heap.size = w8.heap.size + 1 := by rw [← hW9]; simp
    have HS9 := Lib.hid hs9
    generalize hW10 : W9.alloc (.cells ys.A 32) = W10 at *
    have HW10 := Lib.hid hW10
    have HX10 := Lib.hid (((HX7.out.trans he8).trans hE9).trans hE10)
    have HR10 := Lib.hid (((HR7.out.ext he8).ext hE9).ext hE10)
    have HYS := Lib.hid hys10
    have HK10 := Lib.hid hk10
    have HY10 := Lib.hid hY10
    have hkd : s.kd = 0 ∨ s.kd = 1 ∨ s.kd = 2 ∨ s.kd = 3 ∨ s.kd = 4 := by
     have := hys.node
     exact this.kd.2
    clear hW9 hW10 hs hys hys9 hys10 hmv hm9 hE9 hE10 hk10 hY10 hs9 CO he8 HX7 HR7 HOR HXR e0 e1 e2 e3 e4 e5 e6 z0 z1 z2 z3 z4 z5 z6 hY9
    obtain ⟨z0, z1, z2, z3, z4, z5, z6⟩ := hC9
    go_upto_region 9 with (fail)
    rw [HW9.out]
    go_upto_region 10 with (fail)
    rw [HW10.out]
    rw [HS9.out] at HK10 ⊢
    clear z0 z1 z2 z3 z4 z5 z6 HW9 HW10 HS9
    generalize w8.heap.size + 1 = g9 at *
    generalize w8.heap.size = g8 at *
    obtain ⟨q0, q1, q2, q3, q4, q5, q6⟩ := HY10.out
    clear HY10
    obtain ⟨x0', x6'⟩ : W10.cell? ⟨gz, 0, none⟩ = some (.int .i64 4) ∧ True := ⟨by rw [HX10.out.cell HGZ.out]; exact XK.out, trivial⟩
    rcases hkd with hk | hk | hk | hk | hk
    ·have hk : s.kd = 0 := hk
     have hB0 : (ys.kd == 0) = true := by rw [HYD.out, hk]; decide
     have hB1 : (ys.kd == 1) = false := by rw [HYD.out, hk]; decide
     have hB4 : (ys.kd == 4) = false := by rw [HYD.out, hk]; decide
     have HST2 := Lib.hid (stepL_step HST.out HJ.out (show stepT true ks (ofT (kat t.ks j)) = some ks from by rw [← HS.out]; exact stepT_n true ks s hk))
     clear hk HYS HK10 HST
     go_wp2
     go_roundw
     case rel => exact ⟨j + 1, ks, HLT.out, by go_num, HST2.out, HR10.out, HX10.out⟩
     case measure => have := HLT.out; simp [intOf]; omega
    ·have hk : s.kd = 1 := hk
     have hB0 : (ys.kd == 0) = false := by rw [HYD.out, hk]; decide
     have hB1 : (ys.kd == 1) = true := by rw [HYD.out, hk]; decide
     have hB4 : (ys.kd == 4) = false := by rw [HYD.out, hk]; decide
     have HNO : Hid (stepL true (ofL t.ks) [] = none) := stepL_stop HST.out HJ.out (by rw [← HS.out]; exact stepT_o true ks s hk)
     clear hk
     obtain ⟨WA, hWA, ⟨c0, c1, c2, c3, c4, c5, c6⟩, ⟨f0, f1, f2, f3, f4, f5, f6⟩, ⟨r0, r1, r2, r3, r4, r5, r6⟩, HF⟩ := hRET.out W10 (tmB true) ⟨1, 0, ⟨0, false, none, 0, 0, none, 0, 0⟩, none, 0, 0⟩ (tmB_c f M2 W10 true) HX10.out
     try dsimp only at hWA r0 r1 r2 r3 r4 r5 r6
     have HWA := Lib.hid hWA
     have HF := Lib.hid (show RetT (f + 1) M w (finT true (stepL true (ofL t.ks) [])) _ WA from by rw [HNO.out, show finT true none = tmB true from rfl]; exact HF.out)
     clear hWA HR10 HYS HK10 HST
     go_wp2
     rw [← HWA.out]
     clear HWA c0 c1 c2 c3 c4 c5 c6 f0 f1 f2 f3 f4 f5 f6
     exact bodyPost_ret (v := .agg (MX.A ⟨1, 0, ⟨0, false, none, 0, 0, none, 0, 0⟩, none, 0, 0⟩)) (by simp [results, Tryz.results55, go_sem, r0, r1, r2, r3, r4, r5, r6]) rfl HF.out
    ·have hk : s.kd = 2 := hk
     have hB0 : (ys.kd == 0) = false := by rw [HYD.out, hk]; decide
     have hB1 : (ys.kd == 1) = false := by rw [HYD.out, hk]; decide
     have hB4 : (ys.kd == 4) = false := by rw [HYD.out, hk]; decide
     have HPS : Hid (stepT true ks s = inclL true [s] ks) := (stepT_parts (by rw [hk]; decide) (by rw [hk]; decide)).2 (by rw [hk]; decide)
     have HPK := Lib.hid HK10.out
     have HPB : Hid (szL ks + szL [s] ≤ 999) := by have h1 := HSB.out; rw [← szL_cons1] at h1; exact h1
     clear hk HYS HK10
     generalize [s] = parts at *
     go_upto_region 16 with (fail)
     clear q0 q1 q2 q3 q4 q5 q6
     obtain ⟨pa, hpa⟩ : ∃ a, a = (some ⟨g9, 0, none⟩ : Option Addr) := ⟨_, rfl⟩
     rw [← hpa] at HPK ⊢
     clear hpa
     go_wp2
     go_loopw [46, 6] (fun iv v2 wr => ∃ (q : Nat) (ks2 : List TM), q ≤ 1 ∧ iv = .int .i64 (q : Int) ∧ Hid (inclL true (parts.take q) ks = some ks2) ∧ Hid (ORow f M2 W0.heap.size wr v2 ks2) ∧ Hid (KM (TMc true f (MR M2 v2)) (MR M2 v2) wr pa 1 1 parts) ∧ Hid (Ext W0 wr)) (fun iv _ _ => 1 - (intOf iv).toNat)
     case atStart => exact ⟨0, ks, Nat.zero_le _, rfl, rfl, HR10.out, HPK.out, HX10.out⟩
     case round =>
      obtain ⟨q, ks2, hq, rfl, HIN, HO2, HK2, HX2⟩ := hrel
      obtain ⟨ua, un, up, rfl, hun⟩ := HO2.out.form3
      have HUN := Lib.hid hun
      clear hun
      by_cases hlq : q < 1
      ·obtain ⟨k1, k2, k3, pk, hpk⟩ := HK2.out
       have HQ : Hid (q < parts.length) := by show q < parts.length; rw [← k1]; exact hlq
       obtain ⟨⟨b2, off2, rfl, _, hc2⟩, ht2⟩ := hpk q hlq
       obtain ⟨d0, d1, d2, d3, d4, d5, d6⟩ := hc2
       unfold maxLen at k3
       have HK1 := Lib.hid k1
       have hEC := (Ext.refl wr).alloc (.cells (pk q).A 32)
       obtain ⟨y0, y1, y2, y3, y4, y5, y6⟩ := new_mx wr (pk q)
       have HX18 := Lib.hid (HX2.out.trans hEC)
       have HK18 := Lib.hid (HK2.out.ext hEC)
       have CIN := Lib.hid (si_inclF true f M2 W0.heap.size ua un up ks2 (pk q) (kat parts q) (wr.alloc (.cells (pk q).A 32)) (HM2.out.ext HX18.out) (HO2.out.ext hEC) (ht2.ext hEC) HX18.out.size (by
        have h1 := inclL_bound HIN.out
        have h2 := HPB.out
        have h3 := len_szL ks2
        omega))
       have HLQ := Lib.hid hlq
       have hlqI : (q : Int) < 1 := by omega
       clear hpk ht2 k1 hlq HK2
       generalize pk q = zq at *
       generalize hW18 : wr.alloc (.cells zq.A 32) = W18 at *
       have HW18 := Lib.hid hW18
       clear hW18 hEC
       go_upto_region 19 with (fail)
       rw [HW18.out]
       clear HW18
       go_wp2_with (fail)
       refine CIN.out.mono ?_
       rintro e w5 ⟨v', rfl, hO', hF', hU'⟩
       have HX5 := Lib.hid (hU' W0 (Nat.le_refl _) HX18.out)
       have HK5 := Lib.hid (HK18.out.fr hF')
       have HO5 := Lib.hid hO'
       obtain ⟨ok, hok⟩ : ∃ ok, ok = (incl true (kat parts q) ks2).2 := ⟨_, rfl⟩
       rw [← hok]
       have HOK := Lib.hid hok
       clear hok hO' hF' hU' CIN HK18 HX18 HO2 d0 d1 d2 d3 d4 d5 d6 y0 y1 y2 y3 y4 y5 y6 k2 k3
       cases ok
       ·have HNO : Hid (stepL true (ofL t.ks) [] = none) := stepL_stop HST.out HJ.out (by rw [← HS.out, HPS.out]; exact inclL_stop HIN.out HQ.out HOK.out.symm)
        obtain ⟨WA, hWA, ⟨c0, c1, c2, c3, c4, c5, c6⟩, ⟨f0, f1, f2, f3, f4, f5, f6⟩, ⟨r0, r1, r2, r3, r4, r5, r6⟩, HF⟩ := hRET.out w5 (tmB true) ⟨1, 0, ⟨0, false, none, 0, 0, none, 0, 0⟩, none, 0, 0⟩ (tmB_c f M2 w5 true) HX5.out
        try dsimp only at hWA r0 r1 r2 r3 r4 r5 r6
        have HWA := Lib.hid hWA
        have HF := Lib.hid (show RetT (f + 1) M w (finT true (stepL true (ofL t.ks) [])) _ WA from by rw [HNO.out, show finT true none = tmB true from rfl]; exact HF.out)
        clear hWA HO5 HK5 HX5 HOK HIN HPK HPS HST
        go_wp2
        rw [← HWA.out]
        clear HWA c0 c1 c2 c3 c4 c5 c6 f0 f1 f2 f3 f4 f5 f6
        exact bodyPost_ret (v := .agg (MX.A ⟨1, 0, ⟨0, false, none, 0, 0, none, 0, 0⟩, none, 0, 0⟩)) (by simp [results, Tryz.results55, go_sem, r0, r1, r2, r3, r4, r5, r6]) rfl HF.out
       ·have HIN2 := Lib.hid (inclL_step HIN.out HQ.out HOK.out.symm)
        have HO6 := Lib.hid (HO5.out HOK.out.symm)
        clear HO5 HIN HOK
        go_wp2
        go_roundw
        case rel => exact ⟨q + 1, _, HLQ.out, by go_num, HIN2.out, HO6.out, HK5.out, HX5.out⟩
        case measure => have := HLQ.out; simp [intOf]; omega
      ·obtain rfl : q = 1 := by omega
       have hge : ¬ ((1 : Nat) : Int) < ((1 : Nat) : Int) := by omega
       have HST2 := Lib.hid (stepL_step HST.out HJ.out (show stepT true ks (ofT (kat t.ks j)) = some ks2 from by
        have h1 := HIN.out
        rw [HK2.out.1, List.take_length] at h1
        rw [← HS.out, HPS.out, h1]))
       clear HIN HK2 HPK HPS HST
       go_wp2
       go_roundw
       case rel => exact ⟨j + 1, ks2, HLT.out, by go_num, HST2.out, HO2.out, HX2.out⟩
       case measure => have := HLT.out; simp [intOf]; omega
    ·have hk : s.kd = 3 := hk
     have hB0 : (ys.kd == 0) = false := by rw [HYD.out, hk]; decide
     have hB1 : (ys.kd == 1) = false := by rw [HYD.out, hk]; decide
     have hB4 : (ys.kd == 4) = false := by rw [HYD.out, hk]; decide
     have HPS : Hid (stepT true ks s = inclL true [s] ks) := (stepT_parts (by rw [hk]; decide) (by rw [hk]; decide)).2 (by rw [hk]; decide)
     have HPK := Lib.hid HK10.out
     have HPB : Hid (szL ks + szL [s] ≤ 999) := by have h1 := HSB.out; rw [← szL_cons1] at h1; exact h1
     clear hk HYS HK10
     generalize [s] = parts at *
     go_upto_region 16 with (fail)
     clear q0 q1 q2 q3 q4 q5 q6
     obtain ⟨pa, hpa⟩ : ∃ a, a = (some ⟨g9, 0, none⟩ : Option Addr) := ⟨_, rfl⟩
     rw [← hpa] at HPK ⊢
     clear hpa
     go_wp2
     go_loopw [46, 6] (fun iv v2 wr => ∃ (q : Nat) (ks2 : List TM), q ≤ 1 ∧ iv = .int .i64 (q : Int) ∧ Hid (inclL true (parts.take q) ks = some ks2) ∧ Hid (ORow f M2 W0.heap.size wr v2 ks2) ∧ Hid (KM (TMc true f (MR M2 v2)) (MR M2 v2) wr pa 1 1 parts) ∧ Hid (Ext W0 wr)) (fun iv _ _ => 1 - (intOf iv).toNat)
     case atStart => exact ⟨0, ks, Nat.zero_le _, rfl, rfl, HR10.out, HPK.out, HX10.out⟩
     case round =>
      obtain ⟨q, ks2, hq, rfl, HIN, HO2, HK2, HX2⟩ := hrel
      obtain ⟨ua, un, up, rfl, hun⟩ := HO2.out.form3
      have HUN := Lib.hid hun
      clear hun
      by_cases hlq : q < 1
      ·obtain ⟨k1, k2, k3, pk, hpk⟩ := HK2.out
       have HQ : Hid (q < parts.length) := by show q < parts.length; rw [← k1]; exact hlq
       obtain ⟨⟨b2, off2, rfl, _, hc2⟩, ht2⟩ := hpk q hlq
       obtain ⟨d0, d1, d2, d3, d4, d5, d6⟩ := hc2
       unfold maxLen at k3
       have HK1 := Lib.hid k1
       have hEC := (Ext.refl wr).alloc (.cells (pk q).A 32)
       obtain ⟨y0, y1, y2, y3, y4, y5, y6⟩ := new_mx wr (pk q)
       have HX18 := Lib.hid (HX2.out.trans hEC)
       have HK18 := Lib.hid (HK2.out.ext hEC)
       have CIN := Lib.hid (si_inclF true f M2 W0.heap.size ua un up ks2 (pk q) (kat parts q) (wr.alloc (.cells (pk q).A 32)) (HM2.out.ext HX18.out) (HO2.out.ext hEC) (ht2.ext hEC) HX18.out.size (by
        have h1 := inclL_bound HIN.out
        have h2 := HPB.out
        have h3 := len_szL ks2
        omega))
       have HLQ := Lib.hid hlq
       have hlqI : (q : Int) < 1 := by omega
       clear hpk ht2 k1 hlq HK2
       generalize pk q = zq at *
       generalize hW18 : wr.alloc (.cells zq.A 32) = W18 at *
       have HW18 := Lib.hid hW18
       clear hW18 hEC
       go_upto_region 19 with (fail)
       rw [HW18.out]
       clear HW18
       go_wp2_with (fail)
       refine CIN.out.mono ?_
       rintro e w5 ⟨v', rfl, hO', hF', hU'⟩
       have HX5 := Lib.hid (hU' W0 (Nat.le_refl _) HX18.out)
       have HK5 := Lib.hid (HK18.out.fr hF')
       have HO5 := Lib.hid hO'
       obtain ⟨ok, hok⟩ : ∃ ok, ok = (incl true (kat parts q) ks2).2 := ⟨_, rfl⟩
       rw [← hok]
       have HOK := Lib.hid hok
       clear hok hO' hF' hU' CIN HK18 HX18 HO2 d0 d1 d2 d3 d4 d5 d6 y0 y1 y2 y3 y4 y5 y6 k2 k3
       cases ok
       ·have HNO : Hid (stepL true (ofL t.ks) [] = none) := stepL_stop HST.out HJ.out (by rw [← HS.out, HPS.out]; exact inclL_stop HIN.out HQ.out HOK.out.symm)
        obtain ⟨WA, hWA, ⟨c0, c1, c2, c3, c4, c5, c6⟩, ⟨f0, f1, f2, f3, f4, f5, f6⟩, ⟨r0, r1, r2, r3, r4, r5, r6⟩, HF⟩ := hRET.out w5 (tmB true) ⟨1, 0, ⟨0, false, none, 0, 0, none, 0, 0⟩, none, 0, 0⟩ (tmB_c f M2 w5 true) HX5.out
        try dsimp only at hWA r0 r1 r2 r3 r4 r5 r6
        have HWA := Lib.hid hWA
        have HF := Lib.hid (show RetT (f + 1) M w (finT true (stepL true (ofL t.ks) [])) _ WA from by rw [HNO.out, show finT true none = tmB true from rfl]; exact HF.out)
        clear hWA HO5 HK5 HX5 HOK HIN HPK HPS HST
        go_wp2
        rw [← HWA.out]
        clear HWA c0 c1 c2 c3 c4 c5 c6 f0 f1 f2 f3 f4 f5 f6
        exact bodyPost_ret (v := .agg (MX.A ⟨1, 0, ⟨0, false, none, 0, 0, none, 0, 0⟩, none, 0, 0⟩)) (by simp [results, Tryz.results55, go_sem, r0, r1, r2, r3, r4, r5, r6]) rfl HF.out
       ·have HIN2 := Lib.hid (inclL_step HIN.out HQ.out HOK.out.symm)
        have HO6 := Lib.hid (HO5.out HOK.out.symm)
        clear HO5 HIN HOK
        go_wp2
        go_roundw
        case rel => exact ⟨q + 1, _, HLQ.out, by go_num, HIN2.out, HO6.out, HK5.out, HX5.out⟩
        case measure => have := HLQ.out; simp [intOf]; omega
      ·obtain rfl : q = 1 := by omega
       have hge : ¬ ((1 : Nat) : Int) < ((1 : Nat) : Int) := by omega
       have HST2 := Lib.hid (stepL_step HST.out HJ.out (show stepT true ks (ofT (kat t.ks j)) = some ks2 from by
        have h1 := HIN.out
        rw [HK2.out.1, List.take_length] at h1
        rw [← HS.out, HPS.out, h1]))
       clear HIN HK2 HPK HPS HST
       go_wp2
       go_roundw
       case rel => exact ⟨j + 1, ks2, HLT.out, by go_num, HST2.out, HO2.out, HX2.out⟩
       case measure => have := HLT.out; simp [intOf]; omega
    ·have hk : s.kd = 4 := hk
     have hB0 : (ys.kd == 0) = false := by rw [HYD.out, hk]; decide
     have hB1 : (ys.kd == 1) = false := by rw [HYD.out, hk]; decide
     have hB4 : (ys.kd == 4) = true := by rw [HYD.out, hk]; decide
     have HPS : Hid (stepT true ks s = inclL true s.ks ks) := (stepT_parts (by rw [hk]; decide) (by rw [hk]; decide)).1 hk
     have HPK := Lib.hid HYS.out.kids
     have HPB : Hid (szL ks + szL s.ks ≤ 999) := by have h1 := HSB.out; have h2 := sz_ks s; show _ ≤ _; omega
     have hp3 : ys.p ≤ 9223372036854775807 := HPK.out.2.2.1
     have hp2 : ys.n ≤ ys.p := HPK.out.2.1
     clear hk HK10
     generalize s.ks = parts at *
     go_upto_region 16 with (fail)
     clear q0 q1 q2 q3 q4 q5 q6
     generalize ys.a = pa at *
     generalize ys.n = pn at *
     generalize ys.p = pp at *
     go_wp2
     go_loopw [46, 6] (fun iv v2 wr => ∃ (q : Nat) (ks2 : List TM), q ≤ pn ∧ iv = .int .i64 (q : Int) ∧ Hid (inclL true (parts.take q) ks = some ks2) ∧ Hid (ORow f M2 W0.heap.size wr v2 ks2) ∧ Hid (KM (TMc true f (MR M2 v2)) (MR M2 v2) wr pa pn pp parts) ∧ Hid (Ext W0 wr)) (fun iv _ _ => pn - (intOf iv).toNat)
     case atStart => exact ⟨0, ks, Nat.zero_le _, rfl, rfl, HR10.out, HPK.out, HX10.out⟩
     case round =>
      obtain ⟨q, ks2, hq, rfl, HIN, HO2, HK2, HX2⟩ := hrel
      obtain ⟨ua, un, up, rfl, hun⟩ := HO2.out.form3
      have HUN := Lib.hid hun
      clear hun
      by_cases hlq : q < pn
      ·obtain ⟨k1, k2, k3, pk, hpk⟩ := HK2.out
       have HQ : Hid (q < parts.length) := by show q < parts.length; rw [← k1]; exact hlq
       obtain ⟨⟨b2, off2, rfl, _, hc2⟩, ht2⟩ := hpk q hlq
       obtain ⟨d0, d1, d2, d3, d4, d5, d6⟩ := hc2
       unfold maxLen at k3
       have HK1 := Lib.hid k1
       have hEC := (Ext.refl wr).alloc (.cells (pk q).A 32)
       obtain ⟨y0, y1, y2, y3, y4, y5, y6⟩ := new_mx wr (pk q)
       have HX18 := Lib.hid (HX2.out.trans hEC)
       have HK18 := Lib.hid (HK2.out.ext hEC)
       have CIN := Lib.hid (si_inclF true f M2 W0.heap.size ua un up ks2 (pk q) (kat parts q) (wr.alloc (.cells (pk q).A 32)) (HM2.out.ext HX18.out) (HO2.out.ext hEC) (ht2.ext hEC) HX18.out.size (by
        have h1 := inclL_bound HIN.out
        have h2 := HPB.out
        have h3 := len_szL ks2
        omega))
       have HLQ := Lib.hid hlq
       have hlqI : (q : Int) < (pn : Int) := by omega
       clear hpk ht2 k1 hlq HK2
       generalize pk q = zq at *
       generalize hW18 : wr.alloc (.cells zq.A 32) = W18 at *
       have HW18 := Lib.hid hW18
       clear hW18 hEC
       go_upto_region 19 with (fail)
       rw [HW18.out]
       clear HW18
       go_wp2_with (fail)
       refine CIN.out.mono ?_
       rintro e w5 ⟨v', rfl, hO', hF', hU'⟩
       have HX5 := Lib.hid (hU' W0 (Nat.le_refl _) HX18.out)
       have HK5 := Lib.hid (HK18.out.fr hF')
       have HO5 := Lib.hid hO'
       obtain ⟨ok, hok⟩ : ∃ ok, ok = (incl true (kat parts q) ks2).2 := ⟨_, rfl⟩
       rw [← hok]
       have HOK := Lib.hid hok
       clear hok hO' hF' hU' CIN HK18 HX18 HO2 d0 d1 d2 d3 d4 d5 d6 y0 y1 y2 y3 y4 y5 y6 k2 k3
       cases ok
       ·have HNO : Hid (stepL true (ofL t.ks) [] = none) := stepL_stop HST.out HJ.out (by rw [← HS.out, HPS.out]; exact inclL_stop HIN.out HQ.out HOK.out.symm)
        obtain ⟨WA, hWA, ⟨c0, c1, c2, c3, c4, c5, c6⟩, ⟨f0, f1, f2, f3, f4, f5, f6⟩, ⟨r0, r1, r2, r3, r4, r5, r6⟩, HF⟩ := hRET.out w5 (tmB true) ⟨1, 0, ⟨0, false, none, 0, 0, none, 0, 0⟩, none, 0, 0⟩ (tmB_c f M2 w5 true) HX5.out
        try dsimp only at hWA r0 r1 r2 r3 r4 r5 r6
        have HWA := Lib.hid hWA
        have HF := Lib.hid (show RetT (f + 1) M w (finT true (stepL true (ofL t.ks) [])) _ WA from by rw [HNO.out, show finT true none = tmB true from rfl]; exact HF.out)
        clear hWA HO5 HK5 HX5 HOK HIN HPK HPS HST
        go_wp2
        rw [← HWA.out]
        clear HWA c0 c1 c2 c3 c4 c5 c6 f0 f1 f2 f3 f4 f5 f6
        exact bodyPost_ret (v := .agg (MX.A ⟨1, 0, ⟨0, false, none, 0, 0, none, 0, 0⟩, none, 0, 0⟩)) (by simp [results, Tryz.results55, go_sem, r0, r1, r2, r3, r4, r5, r6]) rfl HF.out
       ·have HIN2 := Lib.hid (inclL_step HIN.out HQ.out HOK.out.symm)
        have HO6 := Lib.hid (HO5.out HOK.out.symm)
        clear HO5 HIN HOK
        go_wp2
        go_roundw
        case rel => exact ⟨q + 1, _, HLQ.out, by go_num, HIN2.out, HO6.out, HK5.out, HX5.out⟩
        case measure => have := HLQ.out; simp [intOf]; omega
      ·obtain rfl : q = pn := by omega
       have hge : ¬ ((q : Nat) : Int) < ((q : Nat) : Int) := by omega
       have HST2 := Lib.hid (stepL_step HST.out HJ.out (show stepT true ks (ofT (kat t.ks j)) = some ks2 from by
        have h1 := HIN.out
        rw [HK2.out.1, List.take_length] at h1
        rw [← HS.out, HPS.out, h1]))
       clear HIN HK2 HPK HPS HST
       go_wp2
       go_roundw
       case rel => exact ⟨j + 1, ks2, HLT.out, by go_num, HST2.out, HO2.out, HX2.out⟩
       case measure => have := HLT.out; simp [intOf]; omega
   ·obtain rfl : j = yn := by omega
    have hge : ¬ (j : Int) < (j : Int) := by omega
    have HEN : Hid (stepL true (ofL t.ks) [] = some ks) := by
     have h1 := HST.out
     rw [HN.out, List.take_length] at h1
     exact h1
    have x0' : wr.cell? ⟨gz, 0, none⟩ = some (.int .i64 4) := by rw [HXR.out.cell HGZ.out]; exact XK.out
    clear HST HKC HOF
    match ks, HEN, HOR, HVN with
    | [], HEN, HOR, HVN =>
     obtain rfl : vn = 0 := HVN.out
     obtain ⟨WA, hWA, ⟨c0, c1, c2, c3, c4, c5, c6⟩, ⟨f0, f1, f2, f3, f4, f5, f6⟩, ⟨r0, r1, r2, r3, r4, r5, r6⟩, HF⟩ := hRET.out wr (tmB (!true)) ⟨0, 0, ⟨0, false, none, 0, 0, none, 0, 0⟩, none, 0, 0⟩ (tmB_c f M2 wr (!true)) HXR.out
     try dsimp only at hWA r0 r1 r2 r3 r4 r5 r6
     have HWA := Lib.hid hWA
     have HF := Lib.hid (show RetT (f + 1) M w (finT true (stepL true (ofL t.ks) [])) _ WA from by rw [HEN.out]; exact HF.out)
     clear hWA HOR
     go_wp2
     rw [← HWA.out]
     clear HWA c0 c1 c2 c3 c4 c5 c6 f0 f1 f2 f3 f4 f5 f6
     exact bodyPost_ret (v := .agg (MX.A ⟨0, 0, ⟨0, false, none, 0, 0, none, 0, 0⟩, none, 0, 0⟩)) (by simp [results, Tryz.results55, go_sem, r0, r1, r2, r3, r4, r5, r6]) rfl HF.out
    | [k], HEN, HOR, HVN =>
     have hv1 : vn = 1 := HVN.out
     have hb0 : ((vn : Int) == 0) = false := beq_eq_false_iff_ne.2 (by omega)
     have hb1 : ((vn : Int) == 1) = true := beq_iff_eq.2 (by omega)
     have hv0 : (0 : Int) < (vn : Int) := by omega
     obtain ⟨_, hvp, hvm, xx, hxx⟩ := HOR.out.atk
     unfold maxLen at hvm
     obtain ⟨⟨g, rfl, _, _, hg, _⟩, ht⟩ := hxx 0 (by omega)
     rw [kat_zero] at ht
     have ht1 := (ht.more (M' := M2) fun b hb => .inl (.inl hb)).up
     clear hv1
     generalize xx 0 = z at *
     rw [show 0 * 7 = 0 from rfl] at hg
     obtain ⟨d0, d1, d2, d3, d4, d5, d6⟩ := hg
     clear hxx ht
     obtain ⟨WA, hWA, ⟨c0, c1, c2, c3, c4, c5, c6⟩, ⟨f0, f1, f2, f3, f4, f5, f6⟩, ⟨r0, r1, r2, r3, r4, r5, r6⟩, HF⟩ := hRET.out wr k z ht1 HXR.out
     try dsimp only at hWA r0 r1 r2 r3 r4 r5 r6
     have HWA := Lib.hid hWA
     have HF := Lib.hid (show RetT (f + 1) M w (finT true (stepL true (ofL t.ks) [])) _ WA from by rw [HEN.out]; exact HF.out)
     clear hWA HOR ht1
     go_wp2
     rw [← HWA.out]
     clear HWA c0 c1 c2 c3 c4 c5 c6 f0 f1 f2 f3 f4 f5 f6
     exact bodyPost_ret (v := .agg (MX.A z)) (by simp [results, Tryz.results55, go_sem, r0, r1, r2, r3, r4, r5, r6]) rfl HF.out
    | k :: k' :: ts, HEN, HOR, HVN =>
     have hkm := HOR.out.km HMB.out
     have ht1 : TMc true (f + 1) M2 wr ⟨4, 0, ⟨0, false, none, 0, 0, none, 0, 0⟩, va, vn, vp⟩ (.nd 4 0 [] (k :: k' :: ts)) := ⟨⟨rfl, rfl, smF_nil, (show CRx M2 wr 4 PE.z [] ∧ NodeOk (.nd 4 0 [] (k :: k' :: ts)) from ⟨CR.zero _ _ _, rfl, .inr (.inr ⟨.inr rfl, rfl, rfl⟩)⟩)⟩, hkm⟩
     have hv2 : 2 ≤ vn := by rw [HVN.out]; simp
     have hb0 : ((vn : Int) == 0) = false := beq_eq_false_iff_ne.2 (by omega)
     have hb1 : ((vn : Int) == 1) = false := beq_eq_false_iff_ne.2 (by omega)
     clear hkm
     obtain ⟨WA, hWA, ⟨c0, c1, c2, c3, c4, c5, c6⟩, ⟨f0, f1, f2, f3, f4, f5, f6⟩, ⟨r0, r1, r2, r3, r4, r5, r6⟩, HF⟩ := hRET.out wr (.nd 4 0 [] (k :: k' :: ts)) ⟨4, 0, ⟨0, false, none, 0, 0, none, 0, 0⟩, va, vn, vp⟩ ht1 HXR.out
     try dsimp only at hWA r0 r1 r2 r3 r4 r5 r6
     have HWA := Lib.hid hWA
     have HF := Lib.hid (show RetT (f + 1) M w (finT true (stepL true (ofL t.ks) [])) _ WA from by rw [HEN.out]; exact HF.out)
     clear hWA HOR ht1
     go_wp2
     rw [← HWA.out]
     clear HWA c0 c1 c2 c3 c4 c5 c6 f0 f1 f2 f3 f4 f5 f6
     exact bodyPost_ret (v := .agg (MX.A ⟨4, 0, ⟨0, false, none, 0, 0, none, 0, 0⟩, va, vn, vp⟩)) (by simp [results, Tryz.results55, go_sem, r0, r1, r2, r3, r4, r5, r6]) rfl HF.out
end Go.Proofs.YtodiphjjdheoaaaGreat

namespace Go.Proofs.YtodiphjjdheoaaaGreat
open Go.RowKit

theorem si_Of : ∀ f, OfCtr f
 | 0 => fun _ _ _ _ _ h => h.elim
 | f + 1 => of_walk f (joined_walk f (si_Of f))
end Go.Proofs.YtodiphjjdheoaaaGreat
