/- The law RecpolyUni: the walk. The law RecpolyUni returns true at every input, without a panic, and leaves its arguments as they were; no conditions. -/
import Derived.Test.YthhffpimcgmciaaMw
import Derived.Test.YthhffpimcgmciaaMq
set_option linter.unusedVariables false
set_option linter.unusedSimpArgs false

namespace Go.Proofs.Ythhffpimcgmciaa
open Go.RowKit

/-- what Uni returns, in one form -/
def GUE (M : Nat → Prop) (w' : World) (L : Nat) (l : List Tm) (a : Option Addr) (n : Nat) (x : Int) : Prop :=
  (OnlyL L l → x = 0 ∧ ∃ X z, URow M w' a n n X z ∧ Sim l (upl L n z)) ∧ (¬ OnlyL L l → x = 12 ∧ n = 0)
theorem RetUE.one {M : Nat → Prop} {w w' : World} {L : Nat} {l : List Tm} {e : Ending} (h : RetUE M w L l e w') : ∃ a n x, e = .returned (.tuple #[.slice a n n, .int .i64 x]) ∧ GUE M w' L l a n x ∧ Ext w w' := by
  rcases h with ⟨ho, a, n, X, z, rfl, hU, hs, he⟩ | ⟨ho, rfl, he⟩
  · exact ⟨a, n, 0, rfl, ⟨fun _ => ⟨rfl, X, z, hU, hs⟩, fun h => absurd ho h⟩, he⟩
  · exact ⟨none, 0, 12, rfl, ⟨fun h => absurd h ho, fun _ => ⟨rfl, rfl⟩⟩, he⟩
theorem uni_okD (M : Nat → Prop) (x : PE) (l : List Tm) (D : Nat) (w : World) (hM : Mb M w) (h : PI M w x l) (hD : D + 1 ≤ 4) :
    Calls Try.prog 46 #[.agg (peA x), .int .i64 ((D : Int) + 1)] w (RetUE M w (D + 1) l) := uni_ok M x l (D + 1) w hM h (by omega) hD
set_option maxRecDepth 100000 in
set_option maxHeartbeats 16000000 in
theorem law_uni (a0 : Option Addr) (n0 c0 : Nat) (X0 : Nat → IE) (a1 : Option Addr) (n1 c1 : Nat) (X1 : Nat → TE) (lv : Int) (w : World) (h0 : URaw w a0 n0 c0 X0) (h1 : PRaw w a1 n1 c1 X1) (h2 : -9223372036854775808 ≤ lv ∧ lv ≤ 9223372036854775807) :
    Calls Try.prog 8 #[.slice a0 n0 c0, .slice a1 n1 c1, .int .i64 lv] w fun e w' => e = .returned (.bool true) ∧ Ext w w' := by
  have HU := Lib.hid h0
  have HR := Lib.hid h1
  have hnc := h0.1
  have hcm := h0.2.1
  unfold maxLen at hcm
  clear h0 h1
  go_enter Try.func8, Try.ntmps8
  go_wp2_with (fail)
  refine (law_fit _).mono ?_
  rintro e w1 ⟨rfl, he1⟩
  go_wp2_with (fail)
  refine (law_few a1 n1 c1 X1 w1 (HR.out.1.ext he1) HR.out.2.1).mono ?_
  rintro e w2 ⟨b, rfl, hb, rfl⟩
  cases b with
  | false =>
    clear hb
    go_wp2
    go_ret
    exact ⟨rfl, he1⟩
  | true =>
    obtain ⟨l, hl, hlen, hdl, hexp⟩ := HR.out.poly (hb.1 rfl) (by omega) (by omega)
    have HP := Lib.hid hl
    have HEX : Hid (∀ s ∈ l, ∀ k, s.2.get k ≤ ((6 : Nat) : Int)) := fun s hs k => (hexp s hs k).1
    have HEX2 : Hid (∀ s ∈ l, ∀ k, s.2.get k ≤ 1073741824) := fun s hs k => by have := (hexp s hs k).1; omega
    have HD : Hid (dlen (nrm l) ≤ 1099511627776) := Nat.le_trans hdl (by omega)
    clear hb hl hlen hdl hexp HR
    by_cases hn10 : n0 ≤ 10
    · have t10 : ¬ (10 : Int) < (n0 : Int) := by omega
      go_wp2
      go_loopw [29] (fun i wr => ∃ k : Nat, k ≤ n0 ∧ i = .int .i64 k ∧ Hid (∀ i, i < k → (X0 i).n ≤ 6) ∧ Hid (Ext w wr)) (fun i _ => n0 - (intOf i).toNat)
      case atStart => exact ⟨0, Nat.zero_le _, rfl, fun i hi => absurd hi (Nat.not_lt_zero _), he1⟩
      case round =>
        obtain ⟨k, hk, rfl, HX6, HER⟩ := hrel
        by_cases hlt : k < n0
        · obtain ⟨b, off, hva, hb, x0, x1, hv⟩ := HU.out.2.2.2 k hlt
          subst hva
          rw [← HER.out.cell hb] at x0 x1
          have hbw : b < wr.heap.size := by have := HER.out.size; omega
          have hn6 := hv.1
          have HEA : Hid (Ext w (wr.alloc (.cells #[.bool (X0 k).b, .slice (X0 k).a (X0 k).n (X0 k).p] 28))) := HER.out.trans ((Ext.refl wr).alloc _)
          clear hv
          by_cases h6 : (X0 k).n ≤ 6
          · have t6 : ¬ (6 : Int) < ((X0 k).n : Int) := by omega
            have HX7 : Hid (∀ i, i < k + 1 → (X0 i).n ≤ 6) := fun i hi => by
              by_cases hik : i = k
              · rw [hik]; exact h6
              · exact HX6.out i (by omega)
            go_wp2
            go_roundw
            case rel => exact ⟨k + 1, by omega, by go_num, HX7, HEA⟩
            case measure => simp [intOf]; omega
          · have t6 : (6 : Int) < ((X0 k).n : Int) := by omega
            go_wp2
            go_ret
            exact ⟨rfl, HEA.out⟩
        · obtain rfl : k = n0 := by omega
          obtain ⟨z, hz, hzn⟩ := HU.out.row hn10 HX6.out
          have HZ := Lib.hid hz
          have HZN := Lib.hid hzn
          clear hz hzn HU HX6 he1
          cases hlv : isLevB lv with
          | false =>
            go_wp2_with (fail)
            refine (fromUni_bad M0 a0 k c0 lv wr hlv).mono ?_
            rintro e w2 ⟨y, rfl, hy, he2⟩
            have hB := (Blk.of_arr w2 (peA y) 31 4 rfl).p4
            have hE3 : Ext w2 (w2.alloc (.cells (peA y) 31)) := (Ext.refl w2).alloc _
            have hyw := hy.ext hE3
            generalize hW0 : w2.alloc (.cells (peA y) 31) = W0 at hB hE3 hyw
            have HW0 : Hid (w2.alloc (.cells #[.int .i64 y.lv, .bool y.b, .slice y.a y.n y.p, .slice y.ka y.kn y.kp] 31) = W0) := hW0
            have HB := Lib.hid hB
            have HY := Lib.hid hyw
            have HE := Lib.hid ((HER.out.trans he2).trans hE3)
            have CTR := Lib.hid (rp_Of M0 _ l W0 (mb0 _) (HP.out.ext HE.out) HD.out HEX2.out)
            clear hW0 hB hE3 hyw hy he2 HER
            go_upto_region 12 with (fail)
            rw [HW0.out]
            go_wp2_with (fail)
            refine CTR.out.mono ?_
            rintro e w3 ⟨y3, rfl, hy3, he3⟩
            have CT2 := Lib.hid (uni_bad y3 lv w3 hlv)
            clear CTR HW0 hy3
            go_wp2_with (fail)
            refine CT2.out.mono ?_
            rintro e w4 ⟨rfl, he4⟩
            have HE4 := Lib.hid (he3.trans he4)
            obtain ⟨x0, x1, x2, x3⟩ := HB.out.ext HE4.out
            have hlt4 := World.block_lt_of_cell? _ _ x0
            have CT3 := Lib.hid (rp_IsZero M0 y [] w4 (mb0 _) (HY.out.ext HE4.out).pi)
            have t1 : lv < 1 ∨ 4 < lv := by unfold isLevB at hlv; simp at hlv; omega
            clear CT2 he3 he4 HB
            rcases t1 with t1 | t1
            · go_wp2_with (fail)
              refine CT3.out.mono ?_
              rintro e w5 ⟨b, rfl, hb, he5⟩
              have HF := Lib.hid ((HE.out.trans HE4.out).trans he5)
              obtain rfl : b = true := hb.2 (Sim.refl _)
              clear hb he5 x0 x1 x2 x3
              go_wp2
              go_ret
              exact ⟨rfl, HF.out⟩
            · have t2 : ¬ lv < 1 := by omega
              go_wp2_with (fail)
              refine CT3.out.mono ?_
              rintro e w5 ⟨b, rfl, hb, he5⟩
              have HF := Lib.hid ((HE.out.trans HE4.out).trans he5)
              obtain rfl : b = true := hb.2 (Sim.refl _)
              clear hb he5 x0 x1 x2 x3
              go_wp2
              go_ret
              exact ⟨rfl, HF.out⟩
          | true =>
            obtain ⟨D, rfl⟩ : ∃ D : Nat, lv = (D : Int) + 1 := ⟨(lv - 1).toNat, by unfold isLevB at hlv; simp at hlv; omega⟩
            have hD4 : D + 1 ≤ 4 := by unfold isLevB at hlv; simp at hlv; omega
            have HU7 : Hid (dlen (nrm (upl (D + 1) k z)) ≤ 1099511627776) := Nat.le_trans (upl_nrm hn10 HZN.out) (by omega)
            have HUD : Hid (Deg 9 (upl (D + 1) k z)) := upl_deg (by omega) hD4 (by omega)
            have HCAN := Lib.hid (norm_canon l)
            have HPM : Hid (∀ t ∈ norm l, PmB t.2) := fun t ht q => ⟨nn_get (HCAN.out.2 t ht).2 q, by
              obtain ⟨s, hs, e⟩ := norm_mem ht
              rw [← e]; exact HEX2.out s hs q⟩
            have HDN : Hid (dlen (nrm (norm l)) ≤ 1099511627776) := Nat.le_trans (dlen_mono (norm_nrm l)) HD.out
            have HDG : Hid (Deg 6 (norm l)) := deg_of_exp HEX.out
            clear hlv HZN
            go_wp2_with (fail)
            refine (fromUni_ok M0 a0 k c0 X0 z D wr (mb0 _) (HZ.out.ext HER.out) hD4).mono ?_
            rintro e w2 ⟨y, rfl, hy, he2⟩
            have hB := (Blk.of_arr w2 (peA y) 31 4 rfl).p4
            have hE3 : Ext w2 (w2.alloc (.cells (peA y) 31)) := (Ext.refl w2).alloc _
            have hyw := hy.ext hE3
            generalize hW0 : w2.alloc (.cells (peA y) 31) = W0 at hB hE3 hyw
            have HW0 : Hid (w2.alloc (.cells #[.int .i64 y.lv, .bool y.b, .slice y.a y.n y.p, .slice y.ka y.kn y.kp] 31) = W0) := hW0
            have HB := Lib.hid hB
            have HY := Lib.hid hyw
            have HE := Lib.hid ((HER.out.trans he2).trans hE3)
            have CTR := Lib.hid (rp_Of M0 _ l W0 (mb0 _) (HP.out.ext HE.out) HD.out HEX2.out)
            clear hW0 hB hE3 hyw hy he2 HER
            go_upto_region 12 with (fail)
            rw [HW0.out]
            go_wp2_with (fail)
            refine CTR.out.mono ?_
            rintro e w3 ⟨y3, rfl, hy3, he3⟩
            have CT2 := Lib.hid (uni_okD M0 y3 (norm l) D w3 (mb0 _) hy3.pi hD4)
            clear CTR HW0 hy3
            go_wp2_with (fail)
            refine CT2.out.mono ?_
            intro e w4 hr
            obtain ⟨ag, ng, xe, rfl, hg, he4⟩ := hr.one
            have HG := Lib.hid hg
            have HE4 := Lib.hid (he3.trans he4)
            obtain ⟨x0, x1, x2, x3⟩ := HB.out.ext HE4.out
            have hlt4 := World.block_lt_of_cell? _ _ x0
            have CT3 := Lib.hid (uni_okD M0 y (upl (D + 1) k z) D w4 (mb0 _) (HY.out.ext HE4.out).pi hD4)
            have t1 : ¬ (D : Int) + 1 < 1 := by omega
            have t4 : ¬ 4 < (D : Int) + 1 := by omega
            clear CT2 he3 he4 hr hg
            go_wp2_with (fail)
            refine CT3.out.mono ?_
            intro e w5 hr
            obtain ⟨ab, nb, xb, rfl, hb5, he5⟩ := hr.one
            obtain ⟨rfl, Xb, zb, hUb, hsb⟩ := hb5.1 (upl_only (by omega) hD4)
            have HEQ : Hid (EqU nb k zb z) := upl_inj (by omega) hD4 hsb.symm
            have HE5 := Lib.hid (HE4.out.trans he5)
            have HG5 := Lib.hid he5
            have CT4 := Lib.hid (un_same M0 ab a0 nb nb k c0 Xb X0 zb z w5 hUb (HZ.out.ext (HE.out.trans HE5.out)))
            clear CT3 hr hb5 hUb hsb he5 x0 x1 x2 x3 hlt4
            go_wp2_with (fail)
            refine CT4.out.mono ?_
            rintro e w6 ⟨b6, rfl, hb6, he6⟩
            obtain rfl : b6 = true := hb6.2 HEQ.out
            have HE6 := Lib.hid (HE5.out.trans he6)
            have HG6 := Lib.hid (HG5.out.trans he6)
            obtain ⟨x0, x1, x2, x3⟩ := HB.out.ext HE6.out
            have hlt6 := World.block_lt_of_cell? _ _ x0
            have hyl := HY.out.up hD4
            have CT5 := Lib.hid (rf_canonical 4 M0 _ y 5 w6 (hyl.ext HE6.out) (by have := hyl.lev; omega))
            clear CT4 he6 hb6 hyl HE4 HE5
            go_wp2_with (fail)
            refine CT5.out.mono ?_
            rintro e w7 ⟨rfl, he7⟩
            have HE7 := Lib.hid (HE6.out.trans he7)
            have HG7 := Lib.hid (HG6.out.trans he7)
            clear x0 x1 x2 x3 hlt6 he7 CT5 HE6
            obtain ⟨x0, x1, x2, x3⟩ := HB.out.ext HE7.out
            have hlt7 := World.block_lt_of_cell? _ _ x0
            obtain ⟨t, hRR, hTB, hSim⟩ := (HY.out.ext HE7.out).tb hD4 HU7.out HUD.out (by decide)
            have CT6 := Lib.hid (rp_To M0 _ t y w7 (mb0 _) hRR hTB)
            have HND : Hid (dlen (nrm (norm (terms (D + 1 + 1) t))) ≤ 1099511627776) := Nat.le_trans (dlen_mono (norm_nrm _)) hTB.2.2.1
            have HNN : Hid (norm (norm (terms (D + 1 + 1) t)) = norm (upl (D + 1) k z)) := by show _ = _; rw [norm_norm, hSim.norm]
            clear hRR hTB hSim
            go_wp2_with (fail)
            refine CT6.out.mono ?_
            rintro e w8 ⟨u, rfl, hu, he8⟩
            have ctr := sp_degree_ok M0 u _ D w8 (mb0 _) hu.toV HND.out (by omega)
            rw [HNN.out, upl_degree (by omega) hD4] at ctr
            have CT7 := Lib.hid ctr
            have HE8 := Lib.hid (HE7.out.trans he8)
            have HG8 := Lib.hid (HG7.out.trans he8)
            clear x0 x1 x2 x3 hlt7 he8 CT6 HE7 ctr hu
            go_wp2_with (fail)
            refine CT7.out.mono ?_
            rintro e w9 ⟨rfl, he9⟩
            have HE9 := Lib.hid (HE8.out.trans he9)
            have HG9 := Lib.hid (HG8.out.trans he9)
            have CT8 := Lib.hid (un_degree M0 a0 k c0 X0 z w9 (HZ.out.ext (HE.out.trans HE9.out)))
            clear he9 CT7 HE8
            go_wp2_with (fail)
            refine CT8.out.mono ?_
            rintro e w10 ⟨rfl, he10⟩
            have HE10 := Lib.hid (HE9.out.trans he10)
            have HG10 := Lib.hid (HG9.out.trans he10)
            have HEW := Lib.hid (HE.out.trans HE10.out)
            have CT9 := Lib.hid (sp_total M0 _ l w10 (mb0 _) (HP.out.ext HEW.out) HD.out HPM.out)
            clear he10 CT8 HE9 HEQ HU7 HUD
            go_wp2_with (fail)
            refine CT9.out.mono ?_
            rintro e w11 ⟨rfl, he11⟩
            have HE11 := Lib.hid (HEW.out.trans he11)
            have HGE := Lib.hid (HG10.out.trans he11)
            clear he11 CT9
            by_cases ho : OnlyL (D + 1) (norm l)
            · obtain ⟨rfl, Xg, zg, hUG, hSG⟩ := HG.out.1 ho
              have HUG := Lib.hid hUG
              have HSG := Lib.hid hSG
              have HTOT := Lib.hid (only_facts (by omega) hD4 HCAN.out ho)
              have HALN : Hid (AloneP ((D : Int) + 1) (norm l)) := (only_alone (L := D + 1) HCAN.out).1 ho
              clear hUG hSG ho
              by_cases hT : 0 < toM ((norm l).map (·.2))
              · obtain ⟨hLV, hTD⟩ := HTOT.out hT
                have HTD := Lib.hid hTD
                have ctr := sp_level M0 _ l w11 (mb0 _) (HP.out.ext HE11.out) HD.out
                rw [hLV, show ((D + 1 : Nat) : Int) = (D : Int) + 1 from rfl] at ctr
                have CTL := Lib.hid ctr
                clear ctr hLV hTD HTOT
                go_wp2_with (fail)
                refine CTL.out.mono ?_
                rintro e w12 ⟨rfl, he12⟩
                have HE12 := Lib.hid (HE11.out.trans he12)
                have HG12 := Lib.hid (HGE.out.trans he12)
                have CTM := Lib.hid (sp_total M0 _ l w12 (mb0 _) (HP.out.ext HE12.out) HD.out HPM.out)
                clear CTL he12
                go_wp2_with (fail)
                refine CTM.out.mono ?_
                rintro e w13 ⟨rfl, he13⟩
                have HE13 := Lib.hid (HE12.out.trans he13)
                have HG13 := Lib.hid (HG12.out.trans he13)
                have ctr := sp_degree_ok M0 _ l D w13 (mb0 _) (HP.out.ext HE13.out) HD.out (by omega)
                rw [← HTD.out] at ctr
                have CTN := Lib.hid ctr
                clear CTM he13 ctr HE12 HG12
                go_wp2_with (fail)
                refine CTN.out.mono ?_
                rintro e w14 ⟨rfl, he14⟩
                have HE14 := Lib.hid (HE13.out.trans he14)
                have HG14 := Lib.hid (HG13.out.trans he14)
                have CTO := Lib.hid (law_alone M0 _ l ((D : Int) + 1) w14 (mb0 _) (HP.out.ext HE14.out) HD.out)
                generalize toM ((norm l).map (·.2)) = TT at *
                clear CTN he14 HE13 HG13
                go_wp2_with (fail)
                refine CTO.out.mono ?_
                rintro e w15 ⟨b15, rfl, hb15, he15⟩
                obtain rfl : b15 = true := hb15.2 HALN.out
                have HE15 := Lib.hid (HE14.out.trans he15)
                have HGF := Lib.hid (HG14.out.trans he15)
                clear CTO he15 hb15 HE14 HG14
                have CTA := Lib.hid (fromUni_ok M0 ag ng ng Xg zg D w15 (mb0 _) (HUG.out.ext HGF.out) hD4)
                clear HG HB HY HZ
                go_wp2_with (fail)
                refine CTA.out.mono ?_
                rintro e wA ⟨yA, rfl, hyA, heA⟩
                have hBA := (Blk.of_arr wA (peA yA) 31 4 rfl).p4
                have hEA : Ext wA (wA.alloc (.cells (peA yA) 31)) := (Ext.refl wA).alloc _
                have hyB := (hyA.ext hEA).sim HSG.out.symm
                generalize hWA : wA.alloc (.cells (peA yA) 31) = WA at hBA hEA hyB
                have HWA : Hid (wA.alloc (.cells #[.int .i64 yA.lv, .bool yA.b, .slice yA.a yA.n yA.p, .slice yA.ka yA.kn yA.kp] 31) = WA) := hWA
                have HEB := Lib.hid ((HE15.out.trans heA).trans hEA)
                obtain ⟨tA, hRR, hTB, hSim⟩ := hyB.tb hD4 HDN.out HDG.out (by decide)
                have CTB := Lib.hid (rp_To M0 _ tA yA WA (mb0 _) hRR hTB)
                have HNDA : Hid (dlen (nrm (norm (terms (D + 1 + 1) tA))) ≤ 1099511627776) := Nat.le_trans (dlen_mono (norm_nrm _)) hTB.2.2.1
                have HNNA : Hid (norm (norm (terms (D + 1 + 1) tA)) = norm l) := by show _ = _; rw [norm_norm, hSim.norm, norm_norm]
                obtain ⟨x0, x1, x2, x3⟩ := hBA
                have hltA := World.block_lt_of_cell? _ _ x0
                clear hWA hEA hyB hyA heA hRR hTB hSim CTA
                go_upto_region 21 with (fail)
                rw [HWA.out]
                go_wp2_with (fail)
                refine CTB.out.mono ?_
                rintro e wB ⟨uB, rfl, huB, heB⟩
                have HEC := Lib.hid (HEB.out.trans heB)
                have ctr := sp_same M0 uB _ (norm (terms (D + 1 + 1) tA)) l wB (mb0 _) huB.toV (HP.out.ext HEC.out) HNDA.out HD.out
                rw [decide_eq_true HNNA.out] at ctr
                have CTC := Lib.hid ctr
                clear ctr huB heB CTB x0 x1 x2 x3 HWA
                go_wp2_with (fail)
                refine CTC.out.mono ?_
                rintro e wC ⟨rfl, heC⟩
                have HEF := Lib.hid (HEC.out.trans heC)
                clear heC CTC
                go_wp2
                go_ret
                exact ⟨rfl, HEF.out⟩
              · generalize toM ((norm l).map (·.2)) = TT at *
                have CTA := Lib.hid (fromUni_ok M0 ag ng ng Xg zg D w11 (mb0 _) (HUG.out.ext HGE.out) hD4)
                clear HG HB HY HZ
                go_wp2_with (fail)
                refine CTA.out.mono ?_
                rintro e wA ⟨yA, rfl, hyA, heA⟩
                have hBA := (Blk.of_arr wA (peA yA) 31 4 rfl).p4
                have hEA : Ext wA (wA.alloc (.cells (peA yA) 31)) := (Ext.refl wA).alloc _
                have hyB := (hyA.ext hEA).sim HSG.out.symm
                generalize hWA : wA.alloc (.cells (peA yA) 31) = WA at hBA hEA hyB
                have HWA : Hid (wA.alloc (.cells #[.int .i64 yA.lv, .bool yA.b, .slice yA.a yA.n yA.p, .slice yA.ka yA.kn yA.kp] 31) = WA) := hWA
                have HEB := Lib.hid ((HE11.out.trans heA).trans hEA)
                obtain ⟨tA, hRR, hTB, hSim⟩ := hyB.tb hD4 HDN.out HDG.out (by decide)
                have CTB := Lib.hid (rp_To M0 _ tA yA WA (mb0 _) hRR hTB)
                have HNDA : Hid (dlen (nrm (norm (terms (D + 1 + 1) tA))) ≤ 1099511627776) := Nat.le_trans (dlen_mono (norm_nrm _)) hTB.2.2.1
                have HNNA : Hid (norm (norm (terms (D + 1 + 1) tA)) = norm l) := by show _ = _; rw [norm_norm, hSim.norm, norm_norm]
                obtain ⟨x0, x1, x2, x3⟩ := hBA
                have hltA := World.block_lt_of_cell? _ _ x0
                clear hWA hEA hyB hyA heA hRR hTB hSim CTA
                go_upto_region 21 with (fail)
                rw [HWA.out]
                go_wp2_with (fail)
                refine CTB.out.mono ?_
                rintro e wB ⟨uB, rfl, huB, heB⟩
                have HEC := Lib.hid (HEB.out.trans heB)
                have ctr := sp_same M0 uB _ (norm (terms (D + 1 + 1) tA)) l wB (mb0 _) huB.toV (HP.out.ext HEC.out) HNDA.out HD.out
                rw [decide_eq_true HNNA.out] at ctr
                have CTC := Lib.hid ctr
                clear ctr huB heB CTB x0 x1 x2 x3 HWA
                go_wp2_with (fail)
                refine CTC.out.mono ?_
                rintro e wC ⟨rfl, heC⟩
                have HEF := Lib.hid (HEC.out.trans heC)
                clear heC CTC
                go_wp2
                go_ret
                exact ⟨rfl, HEF.out⟩
            · obtain ⟨rfl, rfl⟩ := HG.out.2 ho
              have hT := not_only_total HCAN.out ho
              have HNA : Hid (¬ AloneP ((D : Int) + 1) (norm l)) := fun h => ho ((only_alone (L := D + 1) HCAN.out).2 h)
              have CTL := Lib.hid (sp_level M0 _ l w11 (mb0 _) (HP.out.ext HE11.out) HD.out)
              clear ho HG
              go_wp2_with (fail)
              refine CTL.out.mono ?_
              rintro e w12 ⟨rfl, he12⟩
              have HE12 := Lib.hid (HE11.out.trans he12)
              have CTM := Lib.hid (sp_total M0 _ l w12 (mb0 _) (HP.out.ext HE12.out) HD.out HPM.out)
              clear CTL he12
              by_cases hLV : ((lvM ((norm l).map (·.2)) : Nat) : Int) = (D : Int) + 1
              · rw [hLV]
                clear hLV
                go_wp2_with (fail)
                refine CTM.out.mono ?_
                rintro e w13 ⟨rfl, he13⟩
                have HE13 := Lib.hid (HE12.out.trans he13)
                have CTN := Lib.hid (sp_degree_ok M0 _ l D w13 (mb0 _) (HP.out.ext HE13.out) HD.out (by omega))
                clear CTM he13 HE12
                go_wp2_with (fail)
                refine CTN.out.mono ?_
                rintro e w14 ⟨rfl, he14⟩
                have HE14 := Lib.hid (HE13.out.trans he14)
                have CTO := Lib.hid (law_alone M0 _ l ((D : Int) + 1) w14 (mb0 _) (HP.out.ext HE14.out) HD.out)
                generalize toM ((norm l).map (·.2)) = TT at *
                generalize dgP ((D + 1 : Nat) : Int) (norm l) = DD at *
                clear CTN he14 HE13
                by_cases hTD : TT = DD
                · subst hTD
                  go_wp2_with (fail)
                  refine CTO.out.mono ?_
                  rintro e w15 ⟨b15, rfl, hb15, he15⟩
                  have HE15 := Lib.hid (HE14.out.trans he15)
                  cases b15 with
                  | true => exact absurd (hb15.1 rfl) HNA.out
                  | false =>
                    clear CTO he15 hb15 HE14
                    go_wp2
                    go_ret
                    exact ⟨rfl, HE15.out⟩
                · have hTD' : (TT == DD) = false := by simp [hTD]
                  go_wp2
                  go_ret
                  exact ⟨rfl, HE14.out⟩
              · generalize toM ((norm l).map (·.2)) = TT at *
                generalize ((lvM ((norm l).map (·.2)) : Nat) : Int) = LL at *
                have hLV' : (LL == (D : Int) + 1) = false := by simp [hLV]
                go_wp2
                go_ret
                exact ⟨rfl, HE12.out⟩
    · have t10 : (10 : Int) < (n0 : Int) := by omega
      go_wp2
      go_ret
      exact ⟨rfl, he1⟩
end Go.Proofs.Ythhffpimcgmciaa

namespace Go.Proofs.Ythhffpimcgmciaa
open Go.ChangeShapes Go.WideShapes Go.ChangeAt Go.RowKit Go.Deep
namespace recpolyUni
theorem own : ownKnob Try.prog.godebug = none := by kernel_rfl
set_option maxRecDepth 100000 in
theorem contract (H : Type) (enc : TypeId × Value → H) (W : World) (base : Nat) (args : Array Value) (ds gs : List (DataW H)) (before : List MemPlace)
    (hval : ∀ (j : Nat) t v, Try.f8.params[j]? = some t → args[j]? = some v → Value.okWide Try.prog W .any base t v)
    (hW : DataW.Whole enc Try.prog Try.f8.params.toList Rows.recpolyUniSpec.vars false W args.toList ds gs before) :
    Calls Try.prog 8 args W fun e W' => ∃ v, e = .returned v ∧ Rows.recpolyUniSpec.post enc Try.prog Try.f8 false true false false W args v W' := by
  have hW' := hW
  obtain ⟨p, q, hA0, hV, rfl, hfz, hnd⟩ := hW
  have hA : DataW.TrodAll enc Try.prog W 0 (fun _ => true) true Try.f8.params.toList args.toList ds p := hA0
  rw [Try.params8] at hA hval
  obtain ⟨v0, vs0, d0, ds0, p0, q0, hargs, rfl, rfl, h0, r0⟩ := trodAll_cons hA
  obtain ⟨v1, vs1, d1, ds1, p1, q1, rfl, rfl, rfl, h1, r1⟩ := trodAll_cons r0
  obtain ⟨v2, vs2, d2, ds2, p2, q2, rfl, rfl, rfl, h2, r2⟩ := trodAll_cons r1
  obtain ⟨rfl, rfl, rfl⟩ := trodAll_nil r2
  obtain rfl : args = #[v0, v1, v2] := by cases args; simp_all
  obtain ⟨rfl, rfl⟩ := trodVars_none hV
  obtain ⟨a0, n0, c0, X0, rfl, g0⟩ := open_uni (hval 0 64 v0 rfl rfl) h0
  obtain ⟨a1, n1, c1, X1, rfl, g1⟩ := open_poly (hval 1 36 v1 rfl rfl) h1
  obtain ⟨z2, rfl, g2⟩ := open_i64 (hval 2 3 v2 rfl rfl) h2
  refine (law_uni a0 n0 c0 X0 a1 n1 c1 X1 z2 W g0 g1 g2).mono fun e W' ⟨he, hg⟩ => ?_
  subst he
  refine ⟨_, rfl, post_true (tb := 4) (by kernel_rfl) ?_ rfl rfl (by kernel_rfl) Try.underlying4 hW' hg⟩
  rw [Try.params8]
  intro t ht
  simp only [List.mem_cons, List.not_mem_nil, or_false, or_self] at ht
  rcases ht with rfl | rfl | rfl
  · exact ⟨by kernel_rfl, of_decide_eq_true (by kernel_rfl)⟩
  · exact ⟨by kernel_rfl, of_decide_eq_true (by kernel_rfl)⟩
  · exact ⟨by kernel_rfl, of_decide_eq_true (by kernel_rfl)⟩
set_option maxRecDepth 100000 in
theorem lifted (os : Os) (started : os.Started) (H : Type) (enc : TypeId × Value → H) :
    ReturnsInHanded {} Try.checked os 8 .any (Rows.recpolyUniSpec.pre6 enc Try.prog Try.f8 Rows.recpolyUniRow.domain false) (Rows.recpolyUniSpec.post enc Try.prog Try.f8 false true false false) := by
  refine returnsInHanded_of_change (C := Try.checked) own started (by kernel_rfl) Try.func8
    (ChangeSpec.witness6 (enc := enc) (C := Try.checked) false ⟨#[], #[.slice none 0 0, .slice none 0 0, .int .i64 0], []⟩ 8 (by kernel_rfl) (by kernel_rfl) (by kernel_rfl) (by kernel_rfl)) ?_
  intro W base args ds gs before hval hW _ _
  exact contract H enc W base args ds gs before hval hW
theorem proved : Rows.RecpolyUniSaid :=
  OpenClaim.holds_of_wide (p := Try.pinned) (s := Rows.recpolyUniSpec) (c := Rows.recpolyUniRow) 8 Try.f8 rfl rfl rfl rfl rfl rfl rfl ⟨rfl, rfl, rfl, rfl, rfl⟩ rfl rfl rfl rfl rfl (by kernel_rfl) Try.func8 (by kernel_rfl)
    (of_decide_eq_true (by kernel_rfl)) (by unfold Func.isWrapper; first | (rw [if_pos (by decide +kernel)]; kernel_rfl) | (rw [if_neg (by decide +kernel)]; exact ⟨rfl, rfl⟩))
    (fun os started H enc _ => lifted os started H enc)
end recpolyUni
end Go.Proofs.Ythhffpimcgmciaa
