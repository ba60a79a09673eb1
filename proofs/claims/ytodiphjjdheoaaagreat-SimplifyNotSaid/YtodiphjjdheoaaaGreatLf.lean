/- simplify.repeated on simple matrices. -/
import Derived.Test.YtodiphjjdheoaaaGreatIc
set_option linter.unusedVariables false
set_option linter.unusedSimpArgs false

namespace Go.Proofs.YtodiphjjdheoaaaGreat
open Go.RowKit

def RetN (P : Prop) (w : World) (e : Ending) (w' : World) : Prop := ∃ b, e = .returned (.bool b) ∧ (b = false ↔ P) ∧ Ext w w'
set_option maxRecDepth 100000 in
set_option maxHeartbeats 16000000 in
theorem si_repeated (f : Nat) (a : Option Addr) (n p : Nat) (ks : List TM) (z : MX) (t : TM) (w : World) (hK : KM (TMc true (f + 1) M0) M0 w a n p ks) (ht : TMc true (f + 1) M0 w z t) :
  Calls Tryz.prog 116 #[.slice a n p, .agg z.A] w (RetN (∀ j, j < n → Nm t (kat ks j)) w) := by
 obtain ⟨hn1, _, h3, xx, hx⟩ := hK
 clear hn1
 have hX1 := (Ext.refl w).alloc (.cells z.A 32)
 have hB1 := new_mx w z
 have ht' := ht
 obtain ⟨⟨z1, z2, z3, z4⟩, _⟩ := ht'
 have z4 : CRx M0 w 4 z.x t.l ∧ NodeOk t := z4
 have HZ : Hid (z.kd = t.kd ∧ NodeOk t) := ⟨z1, z4.2⟩
 have HZP := Lib.hid z4.1
 have HT := Lib.hid ht
 have HXX := Lib.hid hx
 unfold maxLen at h3
 clear z1 z2 z3 z4 ht hx
 generalize hW1 : w.alloc (.cells z.A 32) = W1 at *
 have HW1 := Lib.hid hW1
 have HX1 := Lib.hid hX1
 have HB1 := Lib.hid hB1
 clear hW1 hX1 hB1
 go_enter Tryz.func116, Tryz.ntmps116
 go_upto_region 1 with (fail)
 rw [HW1.out]
 obtain ⟨gz, hgz⟩ : ∃ g, g = w.heap.size := ⟨_, rfl⟩
 rw [← hgz]
 have HB1 : Hid (MxC W1 gz 0 z) := by rw [hgz]; exact HB1
 clear hgz
 go_wp2
 go_loopw [9] (fun iv wr => ∃ (j : Nat), j ≤ n ∧ iv = .int .i64 (j : Int) ∧ Hid (∀ i, i < j → Nm t (kat ks i)) ∧ Hid (Ext W1 wr)) (fun iv _ => n - (intOf iv).toNat)
 case atStart => exact ⟨0, Nat.zero_le _, rfl, fun i hi => absurd hi (Nat.not_lt_zero _), Ext.refl _⟩
 case round =>
  obtain ⟨j, hj, rfl, HQ, HX⟩ := hrel
  by_cases hlt : j < n
  ·obtain ⟨⟨b, off, rfl, _, hc⟩, htj⟩ := HXX.out j hlt
   have hXr : Ext w wr := HX1.out.trans HX.out
   have hEA := (Ext.refl wr).alloc (.cells (xx j).A 32)
   obtain ⟨e0, e1, e2, e3, e4, e5, e6⟩ := hc.ext hXr
   have hY3 := new_mx wr (xx j)
   have hZ3 := (HB1.out.ext HX.out).ext hEA
   have hj4 := htj
   obtain ⟨⟨y1, y2, y3, y4⟩, _⟩ := hj4
   have y4 : CRx M0 w 4 (xx j).x (kat ks j).l ∧ NodeOk (kat ks j) := y4
   have CPS : Hid (∃ bl : Bool, (bl = true ↔ (kat ks j).l = t.l) ∧ ∀ W', Ext w W' → Calls Tryz.prog 41 #[.agg (peA (xx j).x), .agg (peA z.x)] W' fun e w' => e = .returned (.bool bl) ∧ Ext W' w') := by
    obtain ⟨bl, hbl⟩ : ∃ bl : Bool, bl = true ↔ (kat ks j).l = t.l := by
     by_cases e : (kat ks j).l = t.l
     ·exact ⟨true, by simp [e]⟩
     ·exact ⟨false, by simp [e]⟩
    refine ⟨bl, hbl, fun W' he => ?_⟩
    refine (rp_Same _ (xx j).x z.x _ _ W' (mb0 _) (y4.1.ext he).pi (HZP.out.ext he).pi).mono ?_
    rintro e w' ⟨b, rfl, hb, he'⟩
    refine ⟨?_, he'⟩
    have h2 : b = true ↔ bl = true := hb.trans (Iff.intro (fun hs => hbl.2 (by have := hs.norm; rwa [y4.2.1, HZ.out.2.1] at this)) fun h => by rw [hbl.1 h]; exact Sim.refl _)
    cases b <;> cases bl <;> simp at h2 ⊢
   have CS : Hid (∀ W', Ext w W' → Calls Tryz.prog 143 #[.agg (xx j).A, .agg z.A] W' fun e w' => e = .returned (.bool (eqT (kat ks j) t)) ∧ Ext W' w') := fun W' he => pr_Same (f + 1) _ _ _ _ _ W' (mb0 _) (htj.ext he) (HT.out.ext he)
   have HY : Hid ((xx j).kd = (kat ks j).kd) := y1
   clear y1 y2 y3 y4 htj hc
   generalize xx j = y at *
   have hltI : (j : Int) < (n : Int) := by omega
   have HLT := Lib.hid hlt
   generalize hW3 : wr.alloc (.cells y.A 32) = W3 at *
   have HW3 := Lib.hid hW3
   have HX3 : Hid (Ext w W3) := hXr.trans hEA
   have HX13 : Hid (Ext W1 W3) := HX.out.trans hEA
   have HY3 := Lib.hid hY3
   have HZ3 := Lib.hid hZ3
   clear hW3 hEA hXr hY3 hZ3 hlt HX
   go_upto_region 4 with (fail)
   rw [HW3.out]
   generalize wr.heap.size = gy at *
   obtain ⟨b0, b1, b2, b3, b4, b5, b6⟩ := HY3.out
   obtain ⟨c0, c1, c2, c3, c4, c5, c6⟩ := HZ3.out
   by_cases hkd : y.kd = z.kd
   rotate_left
   ·have hkB : (y.kd != z.kd) = true := by simpa using hkd
    have HNM : Hid (∀ i, i < j + 1 → Nm t (kat ks i)) := fun i hi => by
     by_cases hij : i = j
     ·rw [hij]
      have : ¬ (kat ks j).kd = t.kd := fun h => hkd (by rw [HY.out, HZ.out.1, h])
      exact ⟨fun h => this h.1, fun h => this h.1⟩
     ·exact HQ.out i (by omega)
    clear hkd
    go_wp2
    go_roundw
    case rel => exact ⟨j + 1, HLT.out, by go_num, HNM.out, HX13.out⟩
    case measure => have := HLT.out; simp [intOf]; omega
   have HKD := Lib.hid hkd
   have hkB : (y.kd != z.kd) = false := by rw [hkd]; exact bne_self_eq_false _
   have HKK : Hid ((kat ks j).kd = t.kd) := by show _ = _; rw [← HY.out, hkd]; exact HZ.out.1
   have hNext : Hid (Nm t (kat ks j) → ∀ i, i < j + 1 → Nm t (kat ks i)) := fun h i hi => by
    by_cases hij : i = j
    ·rw [hij]; exact h
    ·exact HQ.out i (by omega)
   have hBad : Hid (¬ Nm t (kat ks j) → (true = false ↔ ∀ j, j < n → Nm t (kat ks j))) := fun h => ⟨fun h' => (by cases h'), fun h' => absurd (h' j HLT.out) h⟩
   clear hkd
   by_cases h2 : z.kd = 2
   ·have h2B : (z.kd == 2) = true := beq_iff_eq.2 h2
    have h2N : (z.kd != 2) = false := by rw [h2]; rfl
    have H2 : Hid (t.kd = 2) := by show _ = _; rw [← HZ.out.1]; exact h2
    obtain ⟨bl, hbl, CPS⟩ := CPS.out
    have CPS := Lib.hid CPS
    have HBL := Lib.hid hbl
    clear hbl CS h2
    go_wp2_with (fail)
    refine (CPS.out _ HX3.out).mono ?_
    rintro e w4 ⟨rfl, he4⟩
    have HX4 := Lib.hid (HX3.out.trans he4)
    have HX14 := Lib.hid (HX13.out.trans he4)
    obtain ⟨c0, c1, c2, c3, c4, c5, c6⟩ := HZ3.out.ext he4
    clear he4 CPS HX3 HX13
    cases bl
    ·have HNM := Lib.hid (hNext.out ⟨fun h => h.2.1 H2.out, fun h => absurd (HBL.out.2 h.2.2) (by decide)⟩)
     go_wp2
     go_roundw
     case rel => exact ⟨j + 1, HLT.out, by go_num, HNM.out, HX14.out⟩
     case measure => have := HLT.out; simp [intOf]; omega
    ·have HB := Lib.hid (hBad.out fun h => h.2 ⟨HKK.out, H2.out, HBL.out.1 rfl⟩)
     go_wp2
     go_ret
     exact ⟨true, rfl, HB.out, HX4.out⟩
   ·have h2B : (z.kd == 2) = false := beq_eq_false_iff_ne.2 h2
    have h2N : (z.kd != 2) = true := by simpa using h2
    have H2 : Hid (t.kd ≠ 2) := by show _ ≠ _; rw [← HZ.out.1]; exact h2
    obtain ⟨et, het⟩ : ∃ et, et = eqT (kat ks j) t := ⟨_, rfl⟩
    have CS2 : Hid (∀ W', Ext w W' → Calls Tryz.prog 143 #[.agg y.A, .agg z.A] W' fun e w' => e = .returned (.bool et) ∧ Ext W' w') := by rw [het]; exact CS.out
    have HET : Hid (et = true ↔ kat ks j = t) := by rw [het]; exact eqT_true
    clear CPS CS het h2
    go_wp2_with (fail)
    refine (CS2.out _ HX3.out).mono ?_
    rintro e w4 ⟨rfl, he4⟩
    have HX4 := Lib.hid (HX3.out.trans he4)
    have HX14 := Lib.hid (HX13.out.trans he4)
    clear he4 CS2 HX3 HX13
    cases et
    ·have HNM := Lib.hid (hNext.out ⟨fun h => absurd (HET.out.2 h.2.2) (by decide), fun h => H2.out h.2.1⟩)
     go_wp2
     go_roundw
     case rel => exact ⟨j + 1, HLT.out, by go_num, HNM.out, HX14.out⟩
     case measure => have := HLT.out; simp [intOf]; omega
    ·have HB := Lib.hid (hBad.out fun h => h.1 ⟨HKK.out, H2.out, HET.out.1 rfl⟩)
     go_wp2
     go_ret
     exact ⟨true, rfl, HB.out, HX4.out⟩
  ·obtain rfl : j = n := by omega
   have hge : ¬ (j : Int) < (j : Int) := by omega
   have HG := Lib.hid (HX1.out.trans HX.out)
   go_wp2
   go_ret
   exact ⟨false, rfl, ⟨fun _ => HQ.out, fun _ => rfl⟩, HG.out⟩
end Go.Proofs.YtodiphjjdheoaaaGreat
