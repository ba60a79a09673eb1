/- simplify.Atoms of simple matrices. SimplifyNot: the walk. -/
import Derived.Test.YtodiphjjdheoaaaGreatLe
import Derived.Test.YtodiphjjdheoaaaGreatIc
import Derived.Test.YtodiphjjdheoaaaGreatLl
import Derived.Test.YtodiphjjdheoaaaGreatLi
import Derived.Test.YtodiphjjdheoaaaGreatJa
import Derived.Test.YtodiphjjdheoaaaGreatNj
set_option linter.unusedVariables false
set_option linter.unusedSimpArgs false

namespace Go.Proofs.YtodiphjjdheoaaaGreat
open Go.RowKit

theorem natL_take (ks : List TM) (j : Nat) (h : j < ks.length) : natL (ks.take (j + 1)) = natL (ks.take j) + natT (kat ks j) := by
 rw [take_kat ks j h, natL_append, natL_cons, natL_nil, Nat.add_zero]
theorem natL_takele (ks : List TM) (j : Nat) : natL (ks.take j) ≤ natL ks := by
 have := natL_append (ks.take j) (ks.drop j)
 rw [List.take_append_drop] at this
 omega
def AtT (f : Nat) : Prop := ∀ (y : MX) (t : TM) (w : World), TMc true f M0 w y t → natT t ≤ 100000 → Calls Tryz.prog 28 #[.agg y.A] w fun e w' => e = .returned (.int .i64 ((natT t : Nat) : Int)) ∧ Ext w w'
set_option maxRecDepth 100000 in
set_option maxHeartbeats 8000000 in
theorem atoms_walk (f : Nat) (ih : AtT f) : AtT (f + 1) := by
 intro y t w hP hle
 obtain ⟨⟨a1, a2, a3, a4⟩, hk1, hk2, hk3, kk, hkk⟩ := hP
 have a4 : CRx M0 w 4 y.x t.l ∧ NodeOk t := a4
 have hkd := a4.2.kd.2
 have N0 : Hid (∀ b : Bool, t.kd = tk b → natT t = 0) := fun b h => natT_b t b h
 have N2 : Hid (t.kd = 2 → natT t = 1) := natT_two t
 have NJ : Hid (∀ o : Bool, t.kd = (if o then 4 else 3) → natT t = natL t.ks) := fun o h => natT_join o t h
 have HLE := Lib.hid hle
 have HYD : Hid (y.kd = t.kd) := a1
 have HN := Lib.hid hk1
 unfold maxLen at hk3
 have HE := Lib.hid ((Ext.refl w).alloc (.cells y.A 32))
 obtain ⟨x0, x1, x2, x3, x4, x5, x6⟩ := new_mx w y
 have HKK := Lib.hid hkk
 have IH : Hid (AtT f) := ih
 clear a1 a2 a3 a4 hk1 hkk hle ih
 generalize natT t = nt at *
 generalize hW : w.alloc (.cells y.A 32) = W at *
 have HW := Lib.hid hW
 clear hW
 obtain ⟨yn, hyn⟩ : ∃ g, g = y.n := ⟨_, rfl⟩
 obtain ⟨ya, hya⟩ : ∃ g, g = y.a := ⟨_, rfl⟩
 rw [← hyn, ← hya] at x6
 rw [← hyn] at HN hk2
 rw [← hyn, ← hya] at HKK
 clear hyn hya
 rcases hkd with hk | hk | hk | hk | hk
 ·have HF : Hid (nt = 0) := N0.out false hk
  have h2 : (y.kd == 2) = false := by rw [HYD.out, hk]; decide
  have h3 : (y.kd == 3) = false := by rw [HYD.out, hk]; decide
  have h4 : (y.kd == 4) = false := by rw [HYD.out, hk]; decide
  clear hk HKK NJ N2 N0 IH
  go_enter Tryz.func28, Tryz.ntmps28
  go_upto_region 1 with (fail)
  rw [HW.out]
  go_wp2
  go_ret
  exact ⟨by rw [HF.out]; rfl, HE.out⟩
 ·have HF : Hid (nt = 0) := N0.out true hk
  have h2 : (y.kd == 2) = false := by rw [HYD.out, hk]; decide
  have h3 : (y.kd == 3) = false := by rw [HYD.out, hk]; decide
  have h4 : (y.kd == 4) = false := by rw [HYD.out, hk]; decide
  clear hk HKK NJ N2 N0 IH
  go_enter Tryz.func28, Tryz.ntmps28
  go_upto_region 1 with (fail)
  rw [HW.out]
  go_wp2
  go_ret
  exact ⟨by rw [HF.out]; rfl, HE.out⟩
 ·have HF : Hid (nt = 1) := N2.out hk
  have h2 : (y.kd == 2) = true := by rw [HYD.out, hk]; decide
  clear hk HKK NJ N2 N0 IH
  go_enter Tryz.func28, Tryz.ntmps28
  go_upto_region 1 with (fail)
  rw [HW.out]
  go_wp2
  go_ret
  exact ⟨by rw [HF.out]; rfl, HE.out⟩
 case' inr.inr.inr.inl =>
  have HF : Hid (nt = natL t.ks) := NJ.out false hk
  have h2 : (y.kd == 2) = false := by rw [HYD.out, hk]; decide
  have h34 : (y.kd == 3) = true := by rw [HYD.out, hk]; decide
  have h44 : (y.kd == 4) = false := by rw [HYD.out, hk]; decide
 case' inr.inr.inr.inr =>
  have HF : Hid (nt = natL t.ks) := NJ.out true hk
  have h2 : (y.kd == 2) = false := by rw [HYD.out, hk]; decide
  have h34 : (y.kd == 3) = false := by rw [HYD.out, hk]; decide
  have h44 : (y.kd == 4) = true := by rw [HYD.out, hk]; decide
 all_goals
  have HG : Hid (∀ j, j < t.ks.length → natL (t.ks.take (j + 1)) = natL (t.ks.take j) + natT (kat t.ks j) ∧ natL (t.ks.take (j + 1)) ≤ 100000) := fun j hj => by
   have h1 := natL_takele t.ks (j + 1)
   have h2 := HLE.out
   have h3 := HF.out
   exact ⟨natL_take t.ks j hj, by omega⟩
  have HFL : Hid (nt = natL (t.ks.take yn)) := by show nt = _; rw [HF.out, HN.out, List.take_length]
  have HCT : Hid (∀ j, j < t.ks.length → ∃ b off, ya = some ⟨b, off, none⟩ ∧ MxC w b (off + j * 7) (kk j) ∧ ∀ W', Ext w W' → Calls Tryz.prog 28 #[.agg (kk j).A] W' fun e w' => e = .returned (.int .i64 ((natT (kat t.ks j) : Nat) : Int)) ∧ Ext W' w') := fun j hj => by
   obtain ⟨⟨b, off, e, _, h⟩, h2⟩ := HKK.out j (by rw [HN.out]; exact hj)
   refine ⟨b, off, e, h, fun W' he => IH.out _ _ W' (h2.ext he) ?_⟩
   have := HG.out j hj
   omega
  obtain ⟨G, hG⟩ : ∃ G : Nat → Nat, ∀ j, natL (t.ks.take j) = G j := ⟨_, fun _ => rfl⟩
  obtain ⟨LF, hLF⟩ : ∃ LF : Nat → Nat, ∀ j, natT (kat t.ks j) = LF j := ⟨_, fun _ => rfl⟩
  have hg0 : G 0 = 0 := by rw [← hG]; simp [natL_nil]
  simp only [hG, hLF] at HG HFL HCT
  generalize t.ks.length = tl at *
  clear hG hLF HF HKK NJ N2 N0 IH HLE hk
  go_enter Tryz.func28, Tryz.ntmps28
  go_upto_region 1 with (fail)
  rw [HW.out]
  go_wp2
  clear x0 x1 x2 x3 x4 x5 x6
  go_loopw [16, 3] (fun iv v wr => ∃ (j : Nat), j ≤ yn ∧ iv = .int .i64 (j : Int) ∧ v = .int .i64 ((G j : Nat) : Int) ∧ Hid (Ext W wr)) (fun iv _ _ => yn - (intOf iv).toNat)
  case atStart => exact ⟨0, Nat.zero_le _, rfl, by rw [hg0]; rfl, Ext.refl _⟩
  case round =>
   obtain ⟨j, hj, rfl, rfl, HEX⟩ := hrel
   by_cases hlt : j < yn
   ·have HJ : Hid (j < tl) := by show j < tl; rw [← HN.out]; exact hlt
    obtain ⟨b, off, rfl, hc, hct⟩ := HCT.out j HJ.out
    have hXw := HE.out.trans HEX.out
    obtain ⟨e0, e1, e2, e3, e4, e5, e6⟩ := hc.ext hXw
    have hltI : (j : Int) < (yn : Int) := by omega
    have HLT := Lib.hid hlt
    have hEk := (Ext.refl wr).alloc (.cells (kk j).A 32)
    have CT := Lib.hid (hct _ (hXw.trans hEk))
    obtain ⟨hgj, hgl⟩ := HG.out j HJ.out
    have HGJ := Lib.hid hgj
    rw [hgj] at hgl
    have HEK := Lib.hid hEk
    obtain ⟨x0, x1, x2, x3, x4, x5, x6⟩ := new_mx wr (kk j)
    clear hgj hc hct hXw hEk hlt
    generalize kk j = z at *
    generalize hWk : wr.alloc (.cells z.A 32) = wk at *
    have HWk := Lib.hid hWk
    clear hWk
    go_upto_region 10 with (fail)
    rw [HWk.out]
    go_wp2_with (fail)
    refine CT.out.mono ?_
    rintro e w3 ⟨rfl, he3⟩
    have HEX3 := Lib.hid (HEX.out.trans (HEK.out.trans he3))
    clear CT he3 HEK HEX e0 e1 e2 e3 e4 e5 e6 x0 x1 x2 x3 x4 x5 x6
    generalize G j = gj at *
    generalize LF j = lj at *
    go_wp2
    go_roundw
    case rel => exact ⟨j + 1, HLT.out, by go_num, by rw [HGJ.out]; go_num, HEX3⟩
    case measure => have := HLT.out; simp [intOf]; omega
   ·obtain rfl : j = yn := by omega
    have hge : ¬ (j : Int) < (j : Int) := by omega
    have HF2 := Lib.hid (HE.out.trans HEX.out)
    clear HCT HG
    go_wp2
    go_ret
    exact ⟨by rw [HFL.out]; rfl, HF2.out⟩
theorem si_AtomsT : ∀ f, AtT f
 | 0 => fun _ _ _ h => h.elim
 | f + 1 => atoms_walk f (si_AtomsT f)
end Go.Proofs.YtodiphjjdheoaaaGreat

namespace Go.Proofs.YtodiphjjdheoaaaGreat
open Go.RowKit

structure NoI (y : MX) (s n : TM) (bs bn : Bool) (c : Nat) (z : Nat → Int) (w : World) : Prop where
 sO : ∀ W', Ext w W' → Calls Tryz.prog 15 #[.agg y.A] W' (RetT 12 M0 W' s)
 nt : ∀ u W', TMc true 12 M0 W' u s → Calls Tryz.prog 27 #[.agg u.A] W' (RetT 12 M0 W' n)
 ss : ∀ u W', TMc true 12 M0 W' u s → Calls Tryz.prog 25 #[.agg u.A] W' fun e w' => e = .returned (.bool true) ∧ Ext W' w'
 sn : ∀ u W', TMc true 12 M0 W' u n → Calls Tryz.prog 25 #[.agg u.A] W' fun e w' => e = .returned (.bool true) ∧ Ext W' w'
 ts : ∀ u a cap X W', TMc true 12 M0 W' u s → IRow M0 W' a cap X z → Calls Tryz.prog 14 #[.agg u.A, .slice a 4 cap] W' fun e w' => e = .returned (.bool bs) ∧ Ext W' w'
 tn : ∀ u a cap X W', TMc true 12 M0 W' u n → IRow M0 W' a cap X z → Calls Tryz.prog 14 #[.agg u.A, .slice a 4 cap] W' fun e w' => e = .returned (.bool bn) ∧ Ext W' w'
 ne : (bn != bs) = true
 cs : ∀ u W', TMc true 12 M0 W' u s → Calls Tryz.prog 28 #[.agg u.A] W' fun e w' => e = .returned (.int .i64 (c : Int)) ∧ Ext W' w'
 cn : ∀ u W', TMc true 12 M0 W' u n → Calls Tryz.prog 28 #[.agg u.A] W' fun e w' => e = .returned (.int .i64 (c : Int)) ∧ Ext W' w'
theorem RetY.ttN {P : Prop} (hp : P) {w : World} {e : Ending} {w' : World} (h : RetY P w e w') : e = .returned (.bool true) ∧ Ext w w' := by
 obtain ⟨b, rfl, h2, h3⟩ := h
 rw [h2.2 hp]; exact ⟨rfl, h3⟩
theorem noI (m : MT 12) (z : Nat → Int) (w : World) (hP : PMs w 12 m) (h : 0 ≤ roomM 12 m 80) (hz : ∀ i, i < 4 → dlen (z i).natAbs + 1 ≤ 2) : ∃ s n bs bn c, NoI (MT.me 12 m).X s n bs bn c z w := by
 have hok := okM 12 m 80 (by omega) (by omega) h
 have htc := tmM_c w 12 m hP hok
 have hsz := tmM_sz w 12 m 80 (by omega) h
 have hsm : SmpS (ofT (tmM w 12 m)) := ofT_smp _ (tmM_good w 12 m hP hok)
 have hs2 := ofT_sz (tmM w 12 m)
 have hnm := notT_smS hsm
 have hnt := notT_nat hsm
 have hns := natT_sz (ofT (tmM w 12 m))
 refine ⟨ofT (tmM w 12 m), notT (ofT (tmM w 12 m)), trT z (ofT (tmM w 12 m)), trT z (notT (ofT (tmM w 12 m))), natT (ofT (tmM w 12 m)), fun W' he => ?_, fun u W' hu => ?_, fun u W' hu => ?_, fun u W' hu => ?_, fun u a cap X W' hu hx => ?_, fun u a cap X W' hu hx => ?_, ?_, fun u W' hu => ?_, fun u W' hu => ?_⟩
 ·exact si_Of 12 M0 (MT.me 12 m).X (tmM w 12 m) W' (mb0 _) (htc.ext he) (by omega)
 ·exact pr_Not 12 M0 u _ W' (mb0 _) hu (by omega)
 ·obtain ⟨U, h1, h2⟩ := xt_smS W' 11 u _ hu hsm
  exact (si_IsSimple 11 u U W' h1).mono fun e w' hr => hr.ttN h2
 ·obtain ⟨U, h1, h2⟩ := xt_smS W' 11 u _ hu hnm
  exact (si_IsSimple 11 u U W' h1).mono fun e w' hr => hr.ttN h2
 ·exact rf_truth 12 u _ a cap X z W' hu hx hz
 ·exact rf_truth 12 u _ a cap X z W' hu hx hz
 ·rw [notT_tr z hsm]
  cases trT z (ofT (tmM w 12 m)) <;> rfl
 ·exact si_AtomsT 12 u _ W' hu (by omega)
 ·have := si_AtomsT 12 u _ W' hu (by omega)
  rwa [hnt] at this
set_option maxRecDepth 100000 in
set_option maxHeartbeats 32000000 in
theorem law_not (m : MT 12) (z : Nat → Int) (w : World) (hP : PMs w 12 m) (hz : ∀ i, i < 4 → (-32768 ≤ z i ∧ z i ≤ 32767)) : Calls Tryz.prog 7 #[.agg (MT.me 12 m).A, .agg #[.int .i16 (z 0), .int .i16 (z 1), .int .i16 (z 2), .int .i16 (z 3)]] w fun e w' => e = .returned (.bool true) ∧ Ext w w' := by
 have CSM : Hid (∀ W', Ext w W' → Calls Tryz.prog 12 #[.agg (MT.me 12 m).A] W' fun e w' => e = .returned (.bool (decide (0 ≤ roomM 12 m 80))) ∧ Ext W' w') := fun W' he => law_small39 m W' (PMs.ext he hP)
 have HALL : Hid (0 ≤ roomM 12 m 80 → ∃ s n bs bn c, NoI (MT.me 12 m).X s n bs bn c z w) := fun h => noI m z w hP h fun i hi => by
  have h1 := hz i hi
  have h2 := (dlen_le_iff (z i).natAbs 1).2 (by rw [Nat.pow_one]; omega)
  omega
 have HI : Hid (∀ W', Calls Tryz.prog 13 #[.agg #[.int .i16 (z 0), .int .i16 (z 1), .int .i16 (z 2), .int .i16 (z 3)]] W' fun e w' => ∃ a cap X, e = .returned (.slice a 4 cap) ∧ IRow M0 w' a cap X z ∧ Ext W' w') := fun W' => rf_integers M0 z W' (mb0 _) hz
 have hyx : (MT.me 12 m).A = ((MT.me 12 m).X).A := rfl
 rw [hyx] at CSM ⊢
 clear hP hyx hz
 generalize roomM 12 m 80 = r at *
 generalize (MT.me 12 m).X = y at *
 have HX := Lib.hid (((Ext.refl w).alloc (.cells y.A 32)).alloc (.cells #[.int .i16 (z 0), .int .i16 (z 1), .int .i16 (z 2), .int .i16 (z 3)] 34))
 have HB : Hid (MxC ((w.alloc (.cells y.A 32)).alloc (.cells #[.int .i16 (z 0), .int .i16 (z 1), .int .i16 (z 2), .int .i16 (z 3)] 34)) w.heap.size 0 y) := (new_mx w y).ext ((Ext.refl _).alloc _)
 have HQ : Hid (CQ (w.heap.size + 1) z ((w.alloc (.cells y.A 32)).alloc (.cells #[.int .i16 (z 0), .int .i16 (z 1), .int .i16 (z 2), .int .i16 (z 3)] 34))) := by
  have h2 := Blk.of_arr (w.alloc (.cells y.A 32)) #[.int .i16 (z 0), .int .i16 (z 1), .int .i16 (z 2), .int .i16 (z 3)] 34 4 rfl
  simp only [World.size_alloc] at h2
  exact ⟨h2.cell (i := 0) (by omega), h2.cell (i := 1) (by omega), h2.cell (i := 2) (by omega), h2.cell (i := 3) (by omega)⟩
 generalize hW1 : (w.alloc (.cells y.A 32)).alloc (.cells #[.int .i16 (z 0), .int .i16 (z 1), .int .i16 (z 2), .int .i16 (z 3)] 34) = W1 at *
 have HW1 := Lib.hid hW1
 clear hW1
 go_enter Tryz.func7, Tryz.ntmps7
 go_upto_region 1 with (fail)
 rw [HW1.out]
 generalize w.heap.size = g at *
 go_wp2_with (fail)
 refine (law_awake39 _).mono ?_
 rintro e w2 ⟨rfl, he2⟩
 have HX2 := Lib.hid (HX.out.trans he2)
 have HB2 := Lib.hid (HB.out.ext he2)
 have HQ2 := Lib.hid (HQ.out.ext he2)
 obtain ⟨x0, x1, x2, x3, x4, x5, x6⟩ := HB2.out
 have CS := Lib.hid (CSM.out w2 HX2.out)
 clear he2 HX HB HQ
 go_wp2_with (fail)
 refine CS.out.mono ?_
 rintro e w3 ⟨rfl, he3⟩
 have HX3 := Lib.hid (HX2.out.trans he3)
 have HB3 := Lib.hid (HB2.out.ext he3)
 have HQ3 := Lib.hid (HQ2.out.ext he3)
 clear he3 HX2 HB2 HQ2 CS x0 x1 x2 x3 x4 x5 x6
 by_cases hr : 0 ≤ r
 rotate_left 1
 ·have hD : decide (0 ≤ r) = false := decide_eq_false hr
  rw [hD]
  clear HALL CSM HB3 HQ3 HI hr hD
  go_wp2_with (fail)
  refine (law_awake39 _).mono ?_
  rintro e w4 ⟨rfl, he4⟩
  have HF := Lib.hid (HX3.out.trans he4)
  go_wp2
  go_ret
  exact ⟨rfl, HF.out⟩
 have hD : decide (0 ≤ r) = true := decide_eq_true hr
 rw [hD]
 obtain ⟨s, n, bs, bn, c, hN⟩ := HALL.out hr
 have HN := Lib.hid hN
 clear HALL CSM hr hD hN
 obtain ⟨x0, x1, x2, x3, x4, x5, x6⟩ := HB3.out
 go_wp2_with (fail)
 refine (HN.out.sO _ HX3.out).mono ?_
 rintro e w4 ⟨u, rfl, hu, he4⟩
 have hE5 := he4.trans ((Ext.refl w4).alloc (.cells u.A 32))
 have HG5 := Lib.hid (new_mx w4 u)
 have HU5 := Lib.hid (hu.ext ((Ext.refl w4).alloc (.cells u.A 32)))
 generalize hW5 : w4.alloc (.cells u.A 32) = W5 at *
 have HW5 := Lib.hid hW5
 have HX5 := Lib.hid (HX3.out.trans hE5)
 have HQ5 := Lib.hid (HQ3.out.ext hE5)
 clear hW5 hE5 hu he4 HX3 HB3 HQ3 x0 x1 x2 x3 x4 x5 x6
 go_upto_region 4 with (fail)
 rw [HW5.out]
 generalize w4.heap.size = gs at *
 clear HW5
 obtain ⟨x0, x1, x2, x3, x4, x5, x6⟩ := HG5.out
 go_wp2_with (fail)
 refine (HN.out.nt u _ HU5.out).mono ?_
 rintro e w6 ⟨v, rfl, hv, he6⟩
 have hE7 := he6.trans ((Ext.refl w6).alloc (.cells v.A 32))
 have HG7 := Lib.hid (new_mx w6 v)
 have HV7 := Lib.hid (hv.ext ((Ext.refl w6).alloc (.cells v.A 32)))
 generalize hW7 : w6.alloc (.cells v.A 32) = W7 at *
 have HW7 := Lib.hid hW7
 have HX7 := Lib.hid (HX5.out.trans hE7)
 have HQ7 := Lib.hid (HQ5.out.ext hE7)
 have HU7 := Lib.hid (HU5.out.ext hE7)
 have HGS := Lib.hid (HG5.out.ext hE7)
 clear hW7 hE7 hv he6 HX5 HQ5 HU5 HG5 x0 x1 x2 x3 x4 x5 x6
 go_upto_region 5 with (fail)
 rw [HW7.out]
 generalize w6.heap.size = gn at *
 clear HW7
 obtain ⟨q0, q1, q2, q3⟩ := HQ7.out
 go_wp2_with (fail)
 refine (HI.out _).mono ?_
 rintro e w8 ⟨a, cap, X, rfl, hI, he8⟩
 have hEd := he8.trans (Ext.refl w8).drew
 have hS : SMM gn gs v u w8.drew := ⟨HG7.out.ext hEd, HGS.out.ext hEd⟩
 have HID := Lib.hid (hI.ext (Ext.refl w8).drew)
 have HED := Lib.hid (HX7.out.trans hEd)
 have HU8 := Lib.hid (HU7.out.ext hEd)
 have HV8 := Lib.hid (HV7.out.ext hEd)
 clear hI he8 hEd HG7 HGS HQ7 HX7 HI HU7 HV7 q0 q1 q2 q3
 go_upto_region 6 with (fail)
 refine wp_region_u (SMM gn gs v u) 22 (by kernel_rfl) hS (fun hHeld => ?_)
 clear hS
 generalize w8.drew = wd at *
 have hbn : bn = !bs := by
  have := HN.out.ne
  cases bn <;> cases bs <;> simp at this ⊢
 have hcc : ((c : Int) == (c : Int)) = true := by simp
 (refine tkB [0] ?_; (iterate 1 (refine tk1 (oi := ?_) (v := ?_) (by kernel_rfl) (by first | exact hSn | exact hHeld) ?_ ?_ ?_ ?_ ?_; rotate_left 2; (simp only [xgA, xgB, xgC]; rfl); rfl; (intro wS hSw; obtain ⟨⟨A0, A1, A2, A3, A4, A5, A6⟩, B0, B1, B2, B3, B4, B5, B6⟩ := hSw; go_simp; try with_reducible rfl); (exact fun _ _ _ h => h); (try simp only [Act.put, xgD, xgE, xgF]))); refine tkE ?_)
 ((refine wpAnyU_one 1 (o := ?_) (by kernel_rfl) ?_ ?_; rotate_left 1; (simp only [xgA, xgB, xgC]; rfl); intro K hK); go_simp; (refine (HN.out.sn v _ HV8.out).mono ?_); rintro e_ v1 ⟨rfl, d1⟩; go_wp2_with (fail); (try clear hSn); (have hSn := hHeld.ext d1); (refine hK.out _ _ (fun _ => hSn) ?_); clear hK K; (try simp only [Act.put, xgD, xgE, xgF]))
 (refine tkB [2, 3] ?_; (iterate 2 (refine tk1 (oi := ?_) (v := ?_) (by kernel_rfl) (by first | exact hSn | exact hHeld) ?_ ?_ ?_ ?_ ?_; rotate_left 2; (simp only [xgA, xgB, xgC]; rfl); rfl; (intro wS hSw; obtain ⟨⟨A0, A1, A2, A3, A4, A5, A6⟩, B0, B1, B2, B3, B4, B5, B6⟩ := hSw; go_simp; try with_reducible rfl); (exact fun _ _ _ h => h); (try simp only [Act.put, xgD, xgE, xgF]))); refine tkE ?_)
 ((refine wpAnyU_one 4 (o := ?_) (by kernel_rfl) ?_ ?_; rotate_left 1; (simp only [xgA, xgB, xgC]; rfl); intro K hK); go_simp; (refine (HN.out.ss u _ (HU8.out.ext d1)).mono ?_); rintro e_ v2 ⟨rfl, d2⟩; go_wp2_with (fail); (try clear hSn); (have hSn := hHeld.ext (d1.trans d2)); (refine hK.out _ _ (fun _ => hSn) ?_); clear hK K; (try simp only [Act.put, xgD, xgE, xgF]))
 have d12 := d1.trans d2
 clear d1 d2
 (refine tkB [5, 6, 7, 8, 10, 11] ?_; (iterate 6 (refine tk1 (oi := ?_) (v := ?_) (by kernel_rfl) (by first | exact hSn | exact hHeld) ?_ ?_ ?_ ?_ ?_; rotate_left 2; (simp only [xgA, xgB, xgC]; rfl); rfl; (intro wS hSw; obtain ⟨⟨A0, A1, A2, A3, A4, A5, A6⟩, B0, B1, B2, B3, B4, B5, B6⟩ := hSw; go_simp; try with_reducible rfl); (exact fun _ _ _ h => h); (try simp only [Act.put, xgD, xgE, xgF]))); refine tkE ?_)
 ((refine wpAnyU_one 9 (o := ?_) (by kernel_rfl) ?_ ?_; rotate_left 1; (simp only [xgA, xgB, xgC]; rfl); intro K hK); go_simp; (refine (HN.out.tn v a cap X _ (HV8.out.ext d12) (HID.out.ext d12)).mono ?_); rintro e_ v3 ⟨rfl, d3⟩; go_wp2_with (fail); (try clear hSn); (have hSn := hHeld.ext (d12.trans d3)); (refine hK.out _ _ (fun _ => hSn) ?_); clear hK K; (try simp only [Act.put, xgD, xgE, xgF]))
 have d13 := d12.trans d3
 clear d12 d3
 ((refine wpAnyU_one 12 (o := ?_) (by kernel_rfl) ?_ ?_; rotate_left 1; (simp only [xgA, xgB, xgC]; rfl); intro K hK); go_simp; (refine (HN.out.ts u a cap X _ (HU8.out.ext d13) (HID.out.ext d13)).mono ?_); rintro e_ v4 ⟨rfl, d4⟩; go_wp2_with (fail); (try clear hSn); (have hSn := hHeld.ext (d13.trans d4)); (refine hK.out _ _ (fun _ => hSn) ?_); clear hK K; (try simp only [Act.put, xgD, xgE, xgF]))
 have d14 := d13.trans d4
 clear d13 d4
 subst hbn
 cases bs
 all_goals
  (refine tkB [13, 14, 15, 16, 18] ?_; (iterate 5 (refine tk1 (oi := ?_) (v := ?_) (by kernel_rfl) (by first | exact hSn | exact hHeld) ?_ ?_ ?_ ?_ ?_; rotate_left 2; (simp only [xgA, xgB, xgC]; rfl); rfl; (intro wS hSw; obtain ⟨⟨A0, A1, A2, A3, A4, A5, A6⟩, B0, B1, B2, B3, B4, B5, B6⟩ := hSw; go_simp; (try simp only [List.getElem?_cons_zero, List.getElem?_cons_succ, Option.getD_some, Sem.run_pure, Result.andThen_ok, if_true]); try with_reducible rfl); (exact fun _ _ _ h => h); (try simp only [Act.put, xgD, xgE, xgF]))); refine tkE ?_)
  ((refine wpAnyU_one 17 (o := ?_) (by kernel_rfl) ?_ ?_; rotate_left 1; (simp only [xgA, xgB, xgC]; rfl); intro K hK); go_simp; (refine (HN.out.cn v _ (HV8.out.ext d14)).mono ?_); rintro e_ v5 ⟨rfl, d5⟩; go_wp2_with (fail); (try clear hSn); (have hSn := hHeld.ext (d14.trans d5)); (refine hK.out _ _ (fun _ => hSn) ?_); clear hK K; (try simp only [Act.put, xgD, xgE, xgF]))
  have d15 := d14.trans d5
  clear d14 d5
  ((refine wpAnyU_one 19 (o := ?_) (by kernel_rfl) ?_ ?_; rotate_left 1; (simp only [xgA, xgB, xgC]; rfl); intro K hK); go_simp; (refine (HN.out.cs u _ (HU8.out.ext d15)).mono ?_); rintro e_ v6 ⟨rfl, d6⟩; go_wp2_with (fail); (try clear hSn); (have hSn := hHeld.ext (d15.trans d6)); (refine hK.out _ _ (fun _ => hSn) ?_); clear hK K; (try simp only [Act.put, xgD, xgE, xgF]))
  have HF := Lib.hid (HED.out.trans (d15.trans d6))
  clear d15 d6
  (refine tkB [20, 21] ?_; (iterate 2 (refine tk1 (oi := ?_) (v := ?_) (by kernel_rfl) (by first | exact hSn | exact hHeld) ?_ ?_ ?_ ?_ ?_; rotate_left 2; (simp only [xgA, xgB, xgC]; rfl); rfl; (intro wS hSw; obtain ⟨⟨A0, A1, A2, A3, A4, A5, A6⟩, B0, B1, B2, B3, B4, B5, B6⟩ := hSw; go_simp; (try simp only [List.getElem?_cons_zero, List.getElem?_cons_succ, Option.getD_some, Sem.run_pure, Result.andThen_ok, if_true]); try with_reducible rfl); (exact fun _ _ _ h => h); (try simp only [Act.put, xgD, xgE, xgF]))); refine tkE ?_)
  ((refine wpAnyU_one 22 (o := ?_) (by kernel_rfl) ?_ ?_; rotate_left 1; (simp only [xgA, xgB, xgC]; rfl); intro K hK); go_simp; (refine hK.out _ _ (fun h => absurd rfl h) ?_); clear hK K; refine wpAnyU_done (by kernel_rfl) ?_ _)
  go_wp2
  go_ret
  exact ⟨rfl, HF.out⟩
end Go.Proofs.YtodiphjjdheoaaaGreat
