/- regular, cylinderref39.simple, both IsSimple: on matrices with all their fields. -/
import Derived.Test.YtodiphjjdheoaaaGreatLh
import Derived.Test.YtodiphjjdheoaaaGreatLd
import Derived.Test.YtodiphjjdheoaaaGreatLc
set_option linter.unusedVariables false
set_option linter.unusedSimpArgs false

namespace Go.Proofs.YtodiphjjdheoaaaGreat
open Go.RowKit

theorem RetY.iff {P Q : Prop} {w : World} {e : Ending} {w' : World} (h : RetY P w e w') (hpq : P ↔ Q) : RetY Q w e w' := by
 obtain ⟨b, h1, h2, h3⟩ := h
 exact ⟨b, h1, h2.trans hpq, h3⟩
theorem XMc.kd {w : World} : ∀ {d : Nat} {y : MX} {T : XT d}, XMc w d y T → y.kd = xkd d T
 | 0, _, _, h => h.elim
 | _ + 1, _, _, h => h.1.1
theorem rgI_of (fn : Nat) (d : Nat) (hfn : ∀ (y : MX) (T : XT d) (w : World), XMc w d y T → Calls Tryz.prog fn #[.agg y.A] w (RetY (SpX d T) w)) (y : MX) (T : XT (d + 1)) (w : World) (h : XMc w (d + 1) y T) :
  ∃ kk, RgI fn y w (cstP T.2.2.1) (sfP T.2.2.1) (blkP T.2.2.1) (fun i => xkd d (T.2.2.2.2 i)) (fun i => SpX d (T.2.2.2.2 i)) (fun i k => Nm (toTM d (T.2.2.2.2 i)) (toTM d (T.2.2.2.2 k))) (fun i k => toTM d (T.2.2.2.2 k) = toTM d (T.2.2.2.2 i)) (fun i k => (toTM d (T.2.2.2.2 k)).l = (toTM d (T.2.2.2.2 i)).l) kk := by
 obtain ⟨⟨h1, h2, h3, h4, h5⟩, ⟨h6, h7, h8⟩, kk, hk⟩ := h
 have hL : dlen (nrm (terms 6 T.2.2.1)) + 1 ≤ 1099511627776 := by have := h5.2.2; omega
 refine ⟨kk, ⟨h7, h8⟩, fun W he => ?_, fun W he => ?_, fun W he => ?_, fun W he => ?_, fun i hi => ?_, fun i hi W he => ?_, fun i hi hs hk' W he => ?_, fun i k hi hki hsi hsk W he => ?_, fun i k hi hki hsi hsk W he => ?_, fun i k hi hki => ?_⟩
 ·refine (rp_Constant M0 y.x (terms 6 T.2.2.1) W (mb0 _) ⟨6, T.2.2.1, RR.ext h3 he, .inr h4, Sim.refl _⟩).mono ?_
  rintro e w' ⟨z, ok, b, a, n, p, rfl, hz, g1, g2, g3⟩
  refine ⟨ok, b, a, n, p, rfl, ⟨fun hq => ?_, fun hq => ?_⟩, g3⟩
  ·have := g1 hq
   unfold cstP
   rw [hd_cst this.symm]; exact this
  ·cases hok : ok
   ·obtain ⟨_, m, k, q1, q2, q3, q4⟩ := g2 hok
    exfalso
    apply q1
    rw [show coefAt (terms 6 T.2.2.1) m = coefAt [(hd (terms 6 T.2.2.1), Mo.zero)] m from hq m]
    exact coefAt_zero fun t ht e => by
     rw [List.mem_singleton.1 ht] at e
     rw [← e, get_zero] at q4
     omega
   ·rfl
 ·refine (mv_snorm M0 6 T.2.2.1 y.x W (mb0 _) (RR.ext h3 he) h4 hL).mono ?_
  rintro e w' ⟨u, rfl, hu, he'⟩
  obtain ⟨q, q1, q2, q3, q4, q5, q6, q7⟩ := CRx.six hu h5.sn (norm_snorm _)
  have hiff : feqB 6 T.2.2.1 q = true ↔ sfP T.2.2.1 := (feq_iff q2 h3.ok q3).trans ⟨fun g => ⟨g.1, g.2.trans q7⟩, fun g => ⟨g.1, g.2.trans q7.symm⟩⟩
  refine ⟨u, rfl, he', fun W2 he2 => ?_, fun W2 he2 => ?_⟩
  ·refine (si_identical 6 M0 T.2.2.1 q y.x u W2 (RR.ext h3 ((he.trans he').trans he2)) (RR.ext q1 he2)).mono ?_
   rintro e w3 ⟨rfl, h⟩
   exact ⟨_, rfl, hiff, h⟩
  ·refine (rf_samePolyR 6 M0 T.2.2.1 q y.x u W2 (RR.ext h3 ((he.trans he').trans he2)) (RR.ext q1 he2)).mono ?_
   rintro e w3 ⟨rfl, h⟩
   exact ⟨_, rfl, hiff, h⟩
 ·refine (si_blank M0 T.2.2.1 y.x W (RR.ext h3 he)).mono ?_
  rintro e w3 ⟨rfl, h⟩
  exact ⟨_, rfl, Iff.rfl, h⟩
 ·refine (rf_samePolyR 6 M0 T.2.2.1 (dfl 6) y.x PE.z W (RR.ext h3 he) (dfl_rx M0 W 5)).mono ?_
  rintro e w3 ⟨rfl, h⟩
  exact ⟨_, rfl, Iff.rfl, h⟩
 ·exact ⟨(hk i hi).1, XMc.kd (hk i hi).2⟩
 ·exact hfn _ _ W (XMc.ext he (hk i hi).2)
 ·cases d with
  | zero => exact (hk i hi).2.elim
  | succ f =>
   have hlt : ∀ k, k < i → k < y.n := fun k hk => by omega
   have hKM : KM (TMc true (f + 1) M0) M0 W y.a i y.p ((List.range i).map fun k => toTM (f + 1) (T.2.2.2.2 k)) := by
    refine ⟨by rw [List.length_map, List.length_range], by omega, h8, kk, fun k hk2 => ?_⟩
    obtain ⟨⟨b, off, e, hc⟩, hx⟩ := hk k (hlt k hk2)
    refine ⟨⟨b, off, e, fun h => h, hc.ext he⟩, ?_⟩
    rw [kat_map _ _ _ hk2]
    exact SpX.tm (XMc.ext he hx) (hk' k hk2)
   refine (si_repeated f y.a i y.p _ (kk i) (toTM (f + 1) (T.2.2.2.2 i)) W hKM (SpX.tm (XMc.ext he (hk i hi).2) hs)).mono ?_
   rintro e w3 ⟨b, rfl, hb, h⟩
   refine ⟨b, rfl, hb.trans ⟨fun g k hk2 => ?_, fun g k hk2 => ?_⟩, h⟩
   ·have := g k hk2
    rwa [kat_map _ _ _ hk2] at this
   ·rw [kat_map _ _ _ hk2]; exact g k hk2
 ·have ht1 := SpX.tm (XMc.ext he (hk k (by omega)).2) hsk
  have ht2 := SpX.tm (XMc.ext he (hk i hi).2) hsi
  refine (rf_equalM d _ _ _ _ W ht1 ht2).mono ?_
  rintro e w3 ⟨rfl, h⟩
  exact ⟨_, rfl, eqT_true, h⟩
 ·have ht1 := SpX.tm (XMc.ext he (hk k (by omega)).2) hsk
  have ht2 := SpX.tm (XMc.ext he (hk i hi).2) hsi
  cases d with
  | zero => exact (hk i hi).2.elim
  | succ f =>
   have c1 : CRx M0 W 4 (kk k).x (toTM (f + 1) (T.2.2.2.2 k)).l ∧ NodeOk (toTM (f + 1) (T.2.2.2.2 k)) := ht1.1.2.2.2
   have c2 : CRx M0 W 4 (kk i).x (toTM (f + 1) (T.2.2.2.2 i)).l ∧ NodeOk (toTM (f + 1) (T.2.2.2.2 i)) := ht2.1.2.2.2
   refine (rf_samePolyB 4 M0 _ _ _ _ W c1.1 c2.1).mono ?_
   rintro e w3 ⟨rfl, h⟩
   refine ⟨_, rfl, (simB_iff c1.1.nn c2.1.nn).trans ⟨fun g => ?_, fun g => by rw [g]; exact Sim.refl _⟩, h⟩
   have := g.norm
   rwa [c1.2.1, c2.2.1] at this
 ·have e1 := toTM_kd (hk k (by omega)).2
  have e2 := toTM_kd (hk i hi).2
  show Nm _ _ ↔ ¬ (toTM d (T.2.2.2.2 k) = toTM d (T.2.2.2.2 i)) ∧ ¬ (xkd d (T.2.2.2.2 k) = 2 ∧ xkd d (T.2.2.2.2 i) = 2 ∧ (toTM d (T.2.2.2.2 k)).l = (toTM d (T.2.2.2.2 i)).l)
  rw [← e1, ← e2]
  refine ⟨fun g => ⟨fun hc => ?_, fun hc => g.2 ⟨by rw [hc.1, hc.2.1], hc.2.1, hc.2.2⟩⟩, fun g => ⟨fun hc => g.1 hc.2.2, fun hc => g.2 ⟨hc.1.trans hc.2.1, hc.2.1, hc.2.2⟩⟩⟩
  by_cases h2 : (toTM d (T.2.2.2.2 i)).kd = 2
  ·exact g.2 ⟨by rw [hc], h2, by rw [hc]⟩
  ·exact g.1 ⟨by rw [hc], h2, hc⟩
theorem spP_iff {w : World} {d : Nat} {y : MX} {T : XT (d + 1)} (h : XMc w (d + 1) y T) : SpP y (cstP T.2.2.1) (sfP T.2.2.1) (blkP T.2.2.1) (fun i => xkd d (T.2.2.2.2 i)) (fun i => SpX d (T.2.2.2.2 i)) (fun i k => Nm (toTM d (T.2.2.2.2 i)) (toTM d (T.2.2.2.2 k))) ↔ SpX (d + 1) T := by
 obtain ⟨⟨h1, h2, _⟩, ⟨h6, _⟩, _⟩ := h
 unfold SpP
 rw [h1, h2, h6]
 exact Iff.rfl
theorem si_regular : ∀ (d : Nat) (y : MX) (T : XT d) (w : World), XMc w d y T → Calls Tryz.prog 66 #[.agg y.A] w (RetY (SpX d T) w)
 | 0, _, _, _, h => h.elim
 | d + 1, y, T, w, h => by
  obtain ⟨kk, hI⟩ := rgI_of 66 d (si_regular d) y T w h
  exact (regular_walk y w _ _ _ _ _ _ _ _ kk hI).mono fun e w' hr => hr.iff (spP_iff h)
set_option maxRecDepth 100000 in
set_option maxHeartbeats 8000000 in
theorem si_IsSimple (d : Nat) (y : MX) (T : XT (d + 1)) (w : World) (h : XMc w (d + 1) y T) : Calls Tryz.prog 25 #[.agg y.A] w (RetY (IsX (d + 1) T) w) := by
 have CR : Hid (∀ W, Ext w W → Calls Tryz.prog 66 #[.agg y.A] W (RetY (SpX (d + 1) T) W)) := fun W he => si_regular (d + 1) y T W (XMc.ext he h)
 have CB : Hid (∀ W, Ext w W → Calls Tryz.prog 65 #[.agg (peA y.x)] W (RetY (blkP T.2.2.1) W)) := by
  obtain ⟨⟨h1, h2, h3, h4, h5⟩, _⟩ := h
  intro W he
  refine (si_blank M0 T.2.2.1 y.x W (RR.ext h3 he)).mono ?_
  rintro e w3 ⟨rfl, h⟩
  exact ⟨_, rfl, Iff.rfl, h⟩
 obtain ⟨⟨h1, h2, _⟩, ⟨h6, _⟩, _⟩ := h
 have HIS : Hid (IsX (d + 1) T ↔ ((y.kd = 0 ∨ y.kd = 1) ∧ y.rl = 0 ∧ blkP T.2.2.1 ∧ y.n = 0) ∨ SpX (d + 1) T) := by
  show _ ↔ _
  rw [h1, h2, h6]; exact Iff.rfl
 have HNS : Hid (y.kd = 0 ∨ y.kd = 1 → ¬ SpX (d + 1) T) := fun hk hs => by
  rw [h1] at hk
  rcases hs with hs | hs
  ·have := hs.1; omega
  ·have := hs.1; omega
 generalize IsX (d + 1) T = PI at *
 generalize SpX (d + 1) T = PS at *
 generalize blkP T.2.2.1 = blk at *
 clear h1 h2 h6
 have hX := (Ext.refl w).alloc (.cells y.A 32)
 have hB := new_mx w y
 generalize hW : w.alloc (.cells y.A 32) = W at *
 have HW := Lib.hid hW
 have HX := Lib.hid hX
 have HB := Lib.hid hB
 clear hW hX hB
 obtain ⟨x0, x1, x2, x3, x4, x5, x6⟩ := HB.out
 by_cases hk : y.kd = 0 ∨ y.kd = 1
 rotate_left
 ·have HF : Hid (PS ↔ PI) := ⟨fun hs => HIS.out.2 (.inr hs), fun hs => (HIS.out.1 hs).elim (fun hs => absurd hs.1 hk) id⟩
  have b0 : (y.kd == 0) = false := beq_eq_false_iff_ne.2 fun e => hk (.inl e)
  have b1 : (y.kd == 1) = false := beq_eq_false_iff_ne.2 fun e => hk (.inr e)
  clear hk HIS HNS CB
  go_enter Tryz.func25, Tryz.ntmps25
  go_upto_region 1 with (fail)
  rw [HW.out]
  generalize w.heap.size = g at *
  go_wp2_with (fail)
  refine (CR.out _ HX.out).mono ?_
  rintro e w2 ⟨b, rfl, hb, he2⟩
  have HR : Hid (RetY PI w (.returned (.bool b)) w2) := ⟨b, rfl, hb.trans HF.out, HX.out.trans he2⟩
  clear hb he2
  go_wp2
  go_ret
  exact HR.out
 have HP : Hid (PI ↔ y.rl = 0 ∧ blk ∧ y.n = 0) := HIS.out.trans ⟨fun hs => hs.elim And.right fun hs => absurd hs (HNS.out hk), fun hs => .inl ⟨hk, hs⟩⟩
 have b01 : (y.kd == 0) = true ∨ ((y.kd == 0) = false ∧ (y.kd == 1) = true) := by
  rcases hk with hk | hk
  ·exact .inl (beq_iff_eq.2 hk)
  ·exact .inr ⟨beq_eq_false_iff_ne.2 (by omega), beq_iff_eq.2 hk⟩
 clear hk HIS HNS CR
 by_cases hr : y.rl = 0
 rotate_left
 ·have HN : Hid (¬ PI) := fun hs => hr (HP.out.1 hs).1
  have r0 : (y.rl == 0) = false := beq_eq_false_iff_ne.2 hr
  clear hr HP CB
  rcases b01 with b0 | ⟨b0, b1⟩
  all_goals
   go_enter Tryz.func25, Tryz.ntmps25
   go_upto_region 1 with (fail)
   rw [HW.out]
   generalize w.heap.size = g at *
   go_wp2
   go_ret
   exact RetY.no HN.out HX.out
 have r0 : (y.rl == 0) = true := beq_iff_eq.2 hr
 have HP2 : Hid (PI ↔ blk ∧ y.n = 0) := HP.out.trans ⟨fun hs => hs.2, fun hs => ⟨hr, hs⟩⟩
 clear hr HP
 have n0 : ((y.n : Int) == 0) = decide (y.n = 0) := by
  by_cases hn : y.n = 0
  ·rw [decide_eq_true hn]; exact beq_iff_eq.2 (by omega)
  ·rw [decide_eq_false hn]; exact beq_eq_false_iff_ne.2 (by omega)
 rcases b01 with b0 | ⟨b0, b1⟩
 all_goals
  go_enter Tryz.func25, Tryz.ntmps25
  go_upto_region 1 with (fail)
  rw [HW.out]
  generalize w.heap.size = g at *
  go_wp2_with (fail)
  refine (CB.out _ HX.out).mono ?_
  rintro e w2 ⟨b, rfl, hb, he2⟩
  have HX2 := Lib.hid (HX.out.trans he2)
  have HB2 := Lib.hid (HB.out.ext he2)
  have HBB := Lib.hid hb
  clear hb he2 CB HX HB x0 x1 x2 x3 x4 x5 x6
  obtain ⟨x0, x1, x2, x3, x4, x5, x6⟩ := HB2.out
  cases b
  ·have HN : Hid (¬ PI) := fun hs => absurd (HBB.out.2 (HP2.out.1 hs).1) (by decide)
   go_wp2
   go_ret
   exact RetY.no HN.out HX2.out
  by_cases hn : y.n = 0
  ·have HY : Hid PI := HP2.out.2 ⟨HBB.out.1 rfl, hn⟩
   rw [decide_eq_true hn] at n0
   clear hn
   go_wp2
   go_ret
   exact RetY.yes HY.out HX2.out
  ·have HN : Hid (¬ PI) := fun hs => hn (HP2.out.1 hs).2
   rw [decide_eq_false hn] at n0
   clear hn
   go_wp2
   go_ret
   exact RetY.no HN.out HX2.out
end Go.Proofs.YtodiphjjdheoaaaGreat
