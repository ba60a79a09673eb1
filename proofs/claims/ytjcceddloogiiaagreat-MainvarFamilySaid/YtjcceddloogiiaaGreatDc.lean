/- mainvar.Coefs. -/
import Derived.Test.YtjcceddloogiiaaGreatDb
import Derived.Test.YtjcceddloogiiaaGreatCb
set_option linter.unusedVariables false
set_option linter.unusedSimpArgs false

namespace Go.Proofs.YtjcceddloogiiaaGreat
open Go.RowKit

theorem mb_ins {M : Nat → Prop} {w : World} {g : Nat} (h : Mb M w) (hg : g < w.heap.size) : Mb (fun b => M b ∨ b = g) w := fun b hb => hb.elim (h b) fun e => by rw [e]; exact hg
def Mix (M : Nat → Prop) (w : World) (B g N k : Nat) (S : Nat → List Tm) (R : List Tm) : Prop := ∃ f, Blk w g 33 (N * 4) f ∧ ∀ i, i < N → (i < k → CR M w 4 (f (i * 4)) (f (i * 4 + 1)) (f (i * 4 + 2)) (f (i * 4 + 3)) (S i)) ∧ (k ≤ i → CfT M w 4 4 B (f (i * 4)) (f (i * 4 + 1)) (f (i * 4 + 2)) (f (i * 4 + 3)) (S i) R)
section
variable {M : Nat → Prop} {w w' : World} {B g N k : Nat} {S : Nat → List Tm} {R : List Tm}
theorem Mix.ext (h : Mix M w B g N k S R) (he : Ext w w') : Mix M w' B g N k S R := by
 obtain ⟨f, h1, h2⟩ := h
 exact ⟨f, h1.ext he, fun i hi => ⟨fun h => ((h2 i hi).1 h).ext he, fun h => ((h2 i hi).2 h).ext he⟩⟩
theorem Mix.start (h : CKids M w 4 4 B g N S (fun _ => R)) : Mix M w B g N 0 S R := by
 obtain ⟨f, h1, h2⟩ := h
 exact ⟨f, h1, fun i hi => ⟨fun h => absurd h (Nat.not_lt_zero _), fun _ => h2 i hi⟩⟩
theorem Mix.done (h : Mix M w B g N N S R) : Kids M w 4 g N S := by
 obtain ⟨f, h1, h2⟩ := h
 exact ⟨f, h1, fun i hi => (h2 i hi).1 hi⟩
theorem Mix.at (h : Mix M w B g N k S R) (j : Nat) (hj : j < N) : (∃ e, w.cell? ⟨g, j * 4, none⟩ = some e) ∧ (∃ e, w.cell? ⟨g, j * 4 + 1, none⟩ = some e) ∧ (∃ e, w.cell? ⟨g, j * 4 + 2, none⟩ = some e) ∧ (∃ e, w.cell? ⟨g, j * 4 + 3, none⟩ = some e) ∧ (∀ o, w.frozen? ⟨g, o, none⟩ = false) ∧ g < w.heap.size := by
 obtain ⟨f, h1, h2⟩ := h
 exact ⟨⟨_, h1.cell (by omega)⟩, ⟨_, h1.cell (by omega)⟩, ⟨_, h1.cell (by omega)⟩, ⟨_, h1.cell (by omega)⟩, h1.frozen, h1.lt⟩
theorem Mix.next (h : Mix M w B g N k S R) (hk : k < N) : ∃ y : PE, KCell w g (k * 4) y ∧ CfT M w 4 4 B (.int .i64 y.lv) (.bool y.b) (.slice y.a y.n y.p) (.slice y.ka y.kn y.kp) (S k) R := by
 obtain ⟨f, hB, hc⟩ := h
 have hx := (hc k hk).2 (Nat.le_refl _)
 obtain ⟨x, e0, e1, e2, e3⟩ := hx.pe
 rw [e0, e1, e2, e3] at hx
 refine ⟨x, ⟨?_, ?_, ?_, ?_⟩, hx⟩
 ·rw [hB.cell (by omega), e0]
 ·rw [hB.cell (by omega), e1]
 ·rw [hB.cell (by omega), e2]
 ·rw [hB.cell (by omega), e3]
theorem Mix.set (h : Mix M w B g N k S R) (hg : M g) (hk : k < N) {e0 e1 e2 e3 : Value} (hc : CR M w 4 e0 e1 e2 e3 (S k)) : Mix M (set4 w g (k * 4) e0 e1 e2 e3) B g N (k + 1) S R := by
 obtain ⟨f, h1, h2⟩ := h
 refine ⟨_, h1.set4 (k * 4) e0 e1 e2 e3, fun i hi => ?_⟩
 have hkp : Kp M w (set4 w g (k * 4) e0 e1 e2 e3) := Kp.set4 hg _ _ _ _ _
 by_cases hij : i = k
 ·subst hij
  rw [upd4_0, upd4_1, upd4_2, upd4_3]; exact ⟨fun _ => hc.kp hkp, fun h => by omega⟩
 ·rw [upd4_ne _ _ _ _ _ _ _ (by omega), upd4_ne _ _ _ _ _ _ _ (by omega), upd4_ne _ _ _ _ _ _ _ (by omega), upd4_ne _ _ _ _ _ _ _ (by omega)]
  exact ⟨fun h => ((h2 i hi).1 (by omega)).kp hkp, fun h => ((h2 i hi).2 (by omega)).kp hkp⟩
end
def RetCf (M : Nat → Prop) (w : World) (l : List Tm) (L : Int) (e : Ending) (w' : World) : Prop :=
 ((Sim l [] ∧ e = .returned (.slice none 0 0)) ∨ (¬ Sim l [] ∧ ¬ (1 ≤ L ∧ L ≤ 4) ∧ ∃ g, e = .returned (.slice (some ⟨g, 0, none⟩) 1 1) ∧ w.heap.size ≤ g ∧ Kids (fun b => M b ∨ b = g) w' 4 g 1 (fun _ => l)) ∨
  (¬ Sim l [] ∧ ∃ K n g : Nat, L = K ∧ 1 ≤ K ∧ K ≤ 4 ∧ e = .returned (.slice (some ⟨g, 0, none⟩) (n + 1) (n + 1)) ∧ w.heap.size ≤ g ∧ DgR K l n ∧ Kids (fun b => M b ∨ b = g) w' 4 g (n + 1) (fun i => ck K (i : Int) l))) ∧ Ext w w'
set_option maxRecDepth 100000 in
set_option maxHeartbeats 8000000 in
theorem mv_Coefs (M : Nat → Prop) (x : PE) (l : List Tm) (L : Int) (B : Nat) (w : World) (hM : Mb M w) (h : PI M w x l) (hB : Deg B l) (hB4 : (B + 1) ^ 4 ≤ 1099511627776) (hB2 : B + 1 ≤ 1073741824) (hR : dlen (nrm l) ≤ 1099511627776) : Calls Tryz.prog 84 #[.agg (peA x), .int .i64 L] w (RetCf M w l L) := by
 have hE := (Ext.refl w).alloc (.cells (peA x) 33)
 have hBx := Blk.of_arr w (peA x) 33 4 rfl
 have hM2 : Mb (Mx M w.heap.size (w.heap.size + 1)) (w.alloc (.cells (peA x) 33)) := Mx.mb hM (by simp) (by simp)
 have h2 := (h.more (M' := Mx M w.heap.size (w.heap.size + 1)) (Mx.more (Nat.le_refl _))).ext hE
 have HI := Lib.hid h2
 have HDB := Lib.hid hB
 have HB4 := Lib.hid hB4
 have HR := Lib.hid hR
 have HB2 := Lib.hid hB2
 clear h h2 hB hB4 hR hB2
 go_enter Tryz.func84, Tryz.ntmps84
 go_wp2_with (fail)
 refine (rp_Normal _ x l _ hM2 HI.out).mono ?_
 rintro e w1 ⟨y, rfl, hy, he1⟩
 have hE1 := hE.trans he1
 have hB1 := hBx.ext he1
 have hM3 := hM2.ext he1
 obtain ⟨⟨q0, q1, q2, q3⟩, ⟨f0, f1, f2, f3⟩, ⟨r0, r1, r2, r3⟩, hk, hf⟩ := fin4 (M' := Mx M w.heap.size (w.heap.size + 1)) (w := w) (.int .i64 y.lv) (.bool y.b) (.slice y.a y.n y.p) (.slice y.ka y.kn y.kp) hB1 (Mx.at (by omega)) (Nat.le_refl _) hE1
 have HY := Lib.hid (hy.kp hk)
 have hM4 : Mb (Mx M w.heap.size (w.heap.size + 1)) (set4 w1 w.heap.size 0 (.int .i64 y.lv) (.bool y.b) (.slice y.a y.n y.p) (.slice y.ka y.kn y.kp)) := hM3.size hk.1
 have hlt1 := hB1.lt
 have hlt3 : w.heap.size < (set4 w1 w.heap.size 0 (.int .i64 y.lv) (.bool y.b) (.slice y.a y.n y.p) (.slice y.ka y.kn y.kp)).heap.size := Nat.lt_of_lt_of_le hlt1 hk.1
 clear q0 q1 q2 q3
 obtain ⟨q0, q1, q2, q3⟩ := hB1.p4
 generalize hW : set4 w1 w.heap.size 0 (.int .i64 y.lv) (.bool y.b) (.slice y.a y.n y.p) (.slice y.ka y.kn y.kp) = W at r0 r1 r2 r3 hf HY hM4 hlt3
 unfold set4 at hW
 have HW := Lib.hid hW
 have HF4 := Lib.hid hf
 have HM := Lib.hid hM4
 have HP : Hid (P4 W w.heap.size y) := ⟨r0, r1, r2, r3⟩
 clear hBx hM2 he1 hE hB1 hM3 hy HI hk hf hM4 hE1 hW hlt1 hM
 go_upto_region 2 with (fail)
 rw [HW.out]
 clear q0 q1 q2 q3 f0 f1 f2 f3 HW
 have CZ := Lib.hid (rp_IsZero _ y l W HM.out HY.out.pi)
 go_wp2_with (fail)
 refine CZ.out.mono ?_
 rintro e w2 ⟨bz, rfl, hbz, he2⟩
 have HE2 := Lib.hid (HF4.out.trans he2)
 have HBZ := Lib.hid hbz
 have HY2 := Lib.hid (HY.out.ext he2)
 have HP2 := Lib.hid (HP.out.ext he2)
 have HM2 := Lib.hid (HM.out.ext he2)
 clear hbz he2 CZ HF4 HY HP r0 r1 r2 r3 HM hlt3
 cases bz with
 | true =>
  have HF : Hid (RetCf M w l L (.returned (.slice none 0 0)) w2) := ⟨.inl ⟨HBZ.out.1 rfl, rfl⟩, HE2.out⟩
  clear HBZ HE2 HY2 HP2
  go_wp2
  exact bodyPost_ret (v := .slice none 0 0) (by simp [results, Tryz.results84, go_sem]) rfl HF.out
 | false =>
  have HZ : Hid (¬ Sim l []) := fun hs => by have := HBZ.out.2 hs; cases this
  clear HBZ
  have CL := Lib.hid (mv_isLevel L w2)
  go_wp2_with (fail)
  refine CL.out.mono ?_
  rintro e w3 ⟨rfl, rfl⟩
  by_cases hl : 1 ≤ L ∧ L ≤ 4
  ·have hlb : isLevB L = true := by unfold isLevB; simp [hl]
   obtain ⟨J, rfl⟩ : ∃ J : Nat, L = J := ⟨L.toNat, by omega⟩
   have HK : Hid (1 ≤ J ∧ J ≤ 4) := ⟨by omega, by omega⟩
   have hltb := World.block_lt_of_cell? _ _ HP2.out.1
   have HY3 := Lib.hid (HY2.out.ext (Ext.refl w2).drew)
   have HM3 := Lib.hid (HM2.out.ext (Ext.refl w2).drew)
   have HE3 := Lib.hid (HE2.out.trans (Ext.refl w2).drew)
   have hP3 := HP2.out.ext (Ext.refl w2).drew
   clear hl CL HE2 HP2 HY2 HM2
   go_upto_region 6 with (fail)
   refine wp_region_u (fun W => P4 W w.heap.size y) 7 (by kernel_rfl) hP3 (fun hHeld => ?_)
   clear hP3
   generalize w2.drew = wd at *
   (refine tkB [0, 1, 2, 3] ?_; (iterate 4 (refine tk1 (oi := ?_) (v := ?_) (by kernel_rfl) (by first | exact hSn | exact hHeld) ?_ ?_ ?_ ?_ ?_; rotate_left 2; (simp only [xgA, xgB, xgC]; rfl); rfl; (intro wS hSw; obtain ⟨S1, S2, S3, S4⟩ := hSw; go_simp; try with_reducible rfl); (exact fun _ _ _ h => h); (try simp only [Act.put, xgD, xgE, xgF]))); refine tkE ?_)
   ((refine wpAnyU_one 4 (o := ?_) (by kernel_rfl) ?_ ?_; rotate_left 1; (simp only [xgA, xgB, xgC]; rfl); intro K hK); go_simp; (refine (mv_degree J HK.out.1 HK.out.2 4 _ l y _ HY3.out).mono ?_); rintro e_ w4 ⟨n, rfl, hn, hnL, e4⟩; go_wp2_with (fail); (try clear hSn); (have hSn := hHeld.ext e4); (refine hK.out _ _ (fun _ => hSn) ?_); clear hK K; (try simp only [Act.put, xgD, xgE, xgF]))
   have hnB : n ≤ B := by
    rcases hn.2 with h0 | ⟨m, hm, hg⟩
    ·omega
    ·have := HDB.out m hm J; omega
   have hB2' := HB2.out
   have HDG := Lib.hid hn
   have hnI : (n : Int) + 1 ≤ 1099511627776 := by omega
   ((refine wpAnyU_one 5 (o := ?_) (by kernel_rfl) ?_ ?_; rotate_left 1; (simp only [xgA, xgB, xgC]; rfl); intro K hK); go_simp; (refine (mv_coefs J HK.out.1 HK.out.2 4 4 (Nat.le_refl _) _ l y n B _ (HM3.out.ext e4) (HY3.out.ext e4) HDB.out HDG.out.1 (by omega)).mono ?_); rintro e_ w5 ⟨g, rfl, hg, hkd, e5⟩; go_wp2_with (fail); (try clear hSn); (have hSn := hHeld.ext (e4.trans e5)); (refine hK.out _ _ (fun _ => hSn) ?_); clear hK K; (try simp only [Act.put, xgD, xgE, xgF]))
   (refine tkB [6] ?_; (iterate 1 (refine tk1 (oi := ?_) (v := ?_) (by kernel_rfl) (by first | exact hSn | exact hHeld) ?_ ?_ ?_ ?_ ?_; rotate_left 2; (simp only [xgA, xgB, xgC]; rfl); rfl; (intro wS hSw; obtain ⟨S1, S2, S3, S4⟩ := hSw; go_simp; try with_reducible rfl); (exact fun _ _ _ h => h); (try simp only [Act.put, xgD, xgE, xgF]))); refine tkE ?_)
   refine wpAnyU_done (by kernel_rfl) ?_ _
   have HX : Hid (Mix (fun b => Mx M w.heap.size (w.heap.size + 1) b ∨ b = g) w5 B g (n + 1) 0 (fun i => ck J (i : Int) l) l) := Mix.start hkd
   have HE5 := Lib.hid (HE3.out.trans (e4.trans e5))
   have hgw : w.heap.size < g := Nat.lt_of_lt_of_le (HM3.out.ext e4 _ (Mx.at ⟨Nat.le_refl _, Nat.lt_succ_self _⟩)) hg
   have HMB := Lib.hid (mb_ins ((HM3.out.ext e4).ext e5) hkd.lt)
   clear hHeld hSn hkd e4 e5 hg hn hnL HY3 HM3 HE3 HDB hnB hltb hlb
   go_wp2
   go_loopw [26] (fun i wr => ∃ k : Nat, k ≤ n + 1 ∧ i = .int .i64 k ∧ Hid (Mix (fun b => Mx M w.heap.size (w.heap.size + 1) b ∨ b = g) wr B g (n + 1) k (fun i => ck J (i : Int) l) l) ∧ Hid (Ext w wr) ∧ Hid (Mb (fun b => Mx M w.heap.size (w.heap.size + 1) b ∨ b = g) wr)) (fun i _ => n + 1 - (intOf i).toNat)
   case atStart => exact ⟨0, Nat.zero_le _, rfl, HX, HE5, HMB⟩
   case round =>
    clear HX HE5 HMB
    obtain ⟨k, hk, rfl, HX, HE, HMB⟩ := hrel
    by_cases hlt : k < n + 1
    ·have hltI : (k : Int) < (n : Int) + 1 := by omega
     have HLT := Lib.hid hlt
     obtain ⟨z, ⟨c0, c1, c2, c3⟩, hz⟩ := HX.out.next hlt
     have hgr : g < wr.heap.size := (HX.out.at k hlt).2.2.2.2.2
     have CN := Lib.hid (rp_Normal _ z _ wr HMB.out (hz.pi (by omega) HB4.out (by omega) HR.out))
     clear hz
     go_wp2_with (fail)
     refine CN.out.mono ?_
     rintro e w6 ⟨v, rfl, hv, he6⟩
     have hX6 := HX.out.ext he6
     obtain ⟨⟨_, k0⟩, ⟨_, k1⟩, ⟨_, k2⟩, ⟨_, k3⟩, hfr, hg6⟩ := hX6.at k hlt
     have hf0 := hfr (k * 4)
     have hf1 := hfr (k * 4 + 1)
     have hf2 := hfr (k * 4 + 2)
     have hf3 := hfr (k * 4 + 3)
     have HX7 := Lib.hid (hX6.set (.inr rfl) hlt hv)
     have HE7 := Lib.hid ((HE.out.trans he6).set4 (g := g) (by omega) (k * 4) (.int .i64 v.lv) (.bool v.b) (.slice v.a v.n v.p) (.slice v.ka v.kn v.kp))
     have HM7 : Hid (Mb (fun b => Mx M w.heap.size (w.heap.size + 1) b ∨ b = g) (set4 w6 g (k * 4) (.int .i64 v.lv) (.bool v.b) (.slice v.a v.n v.p) (.slice v.ka v.kn v.kp))) := (HMB.out.ext he6).size (by rw [size_set4]; exact Nat.le_refl _)
     clear hX6 hfr hv he6 CN HX HE HMB c0 c1 c2 c3 hgr
     go_wp2
     go_roundw
     case rel => exact ⟨k + 1, HLT.out, by go_num, HX7, HE7, HM7⟩
     case measure => have := HLT.out; simp [intOf]; omega
    ·have hkn : k = n + 1 := by omega
     have hge : ¬ (k : Int) < (n : Int) + 1 := by omega
     have HF : Hid (RetCf M w l J (.returned (.slice (some ⟨g, 0, none⟩) (n + 1) (n + 1))) wr) := by
      refine ⟨.inr (.inr ⟨HZ.out, J, n, g, rfl, HK.out.1, HK.out.2, rfl, by omega, HDG.out, ?_⟩), HE.out⟩
      have h5 := HX.out
      rw [hkn] at h5
      exact h5.done.more fun b hb => hb.elim (fun h => .inl (.inl (.inl h))) (fun h => .inl (.inr h))
     clear HX HE HMB hkn
     go_wp2
     exact bodyPost_ret (v := .slice (some ⟨g, 0, none⟩) (n + 1) (n + 1)) (by simp [results, Tryz.results84, go_sem]) rfl HF.out
  ·have hlb : isLevB L = false := by unfold isLevB; simp only [decide_eq_false_iff_not]; exact hl
   have hltb := World.block_lt_of_cell? _ _ HP2.out.1
   obtain ⟨r0, r1, r2, r3⟩ := HP2.out
   have hBk := Blk.of_arr w2 (peA y) 33 4 rfl
   have hEk := (Ext.refl w2).alloc (.cells (peA y) 33)
   have HF : Hid (RetCf M w l L (.returned (.slice (some ⟨w2.heap.size, 0, none⟩) 1 1)) (w2.alloc (.cells (peA y) 33))) := by
    refine ⟨.inr (.inl ⟨HZ.out, hl, _, rfl, HE2.out.size, ?_⟩), HE2.out.trans hEk⟩
    refine ⟨_, hBk, fun i hi => ?_⟩
    obtain rfl : i = 0 := by omega
    exact ((HY2.out.more (M' := fun b => M b ∨ b = w2.heap.size) (fun b hb => hb.elim (fun h => .inl (.inl h)) (fun h => .inr (by omega)))).ext hEk : CRx (fun b => M b ∨ b = w2.heap.size) _ 4 y l)
   clear hBk hEk HE2 HY2 HP2 hl HZ CL HM2
   go_wp2
   exact bodyPost_ret (v := .slice (some ⟨w2.heap.size, 0, none⟩) 1 1) (by simp [results, Tryz.results84, go_sem]) rfl HF.out
end Go.Proofs.YtjcceddloogiiaaGreat
