/- recpoly: Uni. sparse: Degree; cylinderlaw22: alone. RecpolyUni: the arguments; sizes. -/
import Derived.Test.YthhffpimcgmciaaMv
set_option linter.unusedVariables false
set_option linter.unusedSimpArgs false

namespace Go.Proofs.Ythhffpimcgmciaa
open Go.RowKit

theorem CRx.topg {M : Nat → Prop} {w : World} {L : Nat} {x : PE} {l : List Tm} (h : CRx M w L x l) (h0 : x.lv ≠ 0) : ∃ m, coefAt l m ≠ 0 ∧ 0 < m.get x.lv.toNat := by
  obtain ⟨t, h1, h2, h3, h4⟩ := h
  obtain ⟨e0, _⟩ := h1.form
  simp only [Value.int.injEq, true_and] at e0
  obtain ⟨m, hm, hp⟩ := can_top h2 h1.ok (by rw [← e0]; exact h0)
  exact ⟨m, by rw [← h4]; exact hm, by rw [e0]; exact hp⟩
theorem not_only_top {L j : Nat} {l : List Tm} {m : Mo} (h1 : 1 ≤ j) (h4 : j ≤ 4) (hj : j ≠ L) (hm : coefAt l m ≠ 0) (hp : 0 < m.get j) : ¬ OnlyL L l := fun ho => by
  have := ho m hm j h1 h4 hj
  omega
theorem not_only_kid {D n i j : Nat} {P : Nat → List Tm} {m : Mo} (hD : D + 1 ≤ 4) (hl : ∀ i, i < n → Low D (P i)) (hi : i < n) (h1 : 1 ≤ j) (hj : j ≤ D) (hm : coefAt (P i) m ≠ 0) (hp : 0 < m.get j) : ¬ OnlyL (D + 1) (poly (D + 1) n P) := by
  have h0 : m.get (D + 1) = 0 := Classical.byContradiction fun hc => hm ((hl i hi).coef (k := D + 1) (by omega) hD hc)
  refine not_only_top (j := j) h1 (by omega) (by omega) (m := Mo.add m (xp (D + 1) (i : Int))) ?_ ?_
  · rw [coef_kid (by omega) hD (fun i hi => hl i hi) i hi m h0]; exact hm
  · rw [get_add, get_xp _ _ _ (by omega) hD, if_neg (by omega)]; omega
/-- what Uni returns -/
def RetUE (M : Nat → Prop) (w : World) (L : Nat) (l : List Tm) (e : Ending) (w' : World) : Prop :=
  (OnlyL L l ∧ ∃ a n X z, e = .returned (.tuple #[.slice a n n, .int .i64 0]) ∧ URow M w' a n n X z ∧ Sim l (upl L n z) ∧ Ext w w') ∨
  (¬ OnlyL L l ∧ e = .returned (.tuple #[.slice none 0 0, .int .i64 12]) ∧ Ext w w')
theorem uni_bad (x : PE) (lv : Int) (w : World) (hl : isLevB lv = false) :
    Calls Try.prog 46 #[.agg (peA x), .int .i64 lv] w fun e w' => e = .returned (.tuple #[.slice none 0 0, .int .i64 4]) ∧ Ext w w' := by
  have hE : Ext w (w.alloc (.cells (peA x) 31)) := (Ext.refl w).alloc _
  have ctr := rp_isLevel lv (w.alloc (.cells (peA x) 31))
  rw [hl] at ctr
  have CTR := Lib.hid ctr
  clear ctr
  go_enter Try.func46, Try.ntmps46
  go_wp2_with (fail)
  refine CTR.out.mono ?_
  rintro e w1 ⟨rfl, rfl⟩
  go_wp2
  exact bodyPost_ret (v := .tuple #[.slice none 0 0, .int .i64 4]) (by simp [results, Try.results46, go_sem]) rfl ⟨rfl, hE⟩
set_option maxRecDepth 100000 in
set_option maxHeartbeats 4000000 in
theorem uni_ok (M : Nat → Prop) (x : PE) (l : List Tm) (L : Nat) (w : World) (hM : Mb M w) (h : PI M w x l) (hL1 : 1 ≤ L) (hL4 : L ≤ 4) :
    Calls Try.prog 46 #[.agg (peA x), .int .i64 (L : Int)] w (RetUE M w L l) := by
  obtain ⟨i0, hi, hz0, hz1, hz2⟩ := info_parts Try.info28
  have hE : Ext w (w.alloc (.cells (peA x) 31)) := (Ext.refl w).alloc _
  have hBx := Blk.of_arr w (peA x) 31 4 rfl
  have hM2 : Mb (Mx M w.heap.size (w.heap.size + 1)) (w.alloc (.cells (peA x) 31)) := Mx.mb hM (by simp) (by simp)
  have h2 := (h.more (M' := Mx M w.heap.size (w.heap.size + 1)) (Mx.more (Nat.le_refl _))).ext hE
  have HI := Lib.hid h2
  have HM0 := Lib.hid hM
  have ctr := rp_isLevel (L : Int) (w.alloc (.cells (peA x) 31))
  rw [show isLevB (L : Int) = true by unfold isLevB; simp; omega] at ctr
  have CTR := Lib.hid ctr
  clear h h2 ctr hM
  go_enter Try.func46, Try.ntmps46
  go_wp2_with (fail)
  refine CTR.out.mono ?_
  rintro e wq ⟨rfl, rfl⟩
  clear CTR
  go_wp2_with (fail)
  refine (rp_can _ x l _ hM2 HI.out).mono ?_
  rintro e w1 ⟨y, rfl, hy, he1⟩
  have hE1 := hE.trans he1
  have hB1 := hBx.ext he1
  have hM3 := hM2.ext he1
  obtain ⟨⟨q0, q1, q2, q3⟩, ⟨f0, f1, f2, f3⟩, ⟨r0, r1, r2, r3⟩, hk, hf⟩ := fin4 (M' := Mx M w.heap.size (w.heap.size + 1)) (w := w) (.int .i64 y.lv) (.bool y.b) (.slice y.a y.n y.p) (.slice y.ka y.kn y.kp) hB1 (Mx.at (by omega)) (Nat.le_refl _) hE1
  have HY := Lib.hid (hy.kp hk)
  have hM4 : Mb (Mx M w.heap.size (w.heap.size + 1)) (set4 w1 w.heap.size 0 (.int .i64 y.lv) (.bool y.b) (.slice y.a y.n y.p) (.slice y.ka y.kn y.kp)) := hM3.size hk.1
  have hlt1 := hB1.lt
  clear q0 q1 q2 q3
  obtain ⟨q0, q1, q2, q3⟩ := hB1.p4
  have hlt3 : w.heap.size < (set4 w1 w.heap.size 0 (.int .i64 y.lv) (.bool y.b) (.slice y.a y.n y.p) (.slice y.ka y.kn y.kp)).heap.size := by rw [size_set4]; exact hlt1
  generalize hW : set4 w1 w.heap.size 0 (.int .i64 y.lv) (.bool y.b) (.slice y.a y.n y.p) (.slice y.ka y.kn y.kp) = W at r0 r1 r2 r3 hf HY hM4 hlt3
  unfold set4 at hW
  have HW := Lib.hid hW
  have HF4 := Lib.hid hf
  have HM := Lib.hid hM4
  clear hBx hM2 he1 hE hB1 hM3 hy HI hk hf hM4 hE1 hW
  go_upto_region 4 with (fail)
  rw [HW.out]
  clear q0 q1 q2 q3 f0 f1 f2 f3 hlt1 HW
  by_cases h0 : y.lv = 0
  · obtain ⟨zz, hz, hs⟩ := HY.out.const h0
    have HS := Lib.hid hs
    have hEa : Ext W (W.alloc (.cells #[.bool y.b, .slice y.a y.n y.p] 28)) := (Ext.refl W).alloc _
    have hBa := Blk.of_arr W #[.bool y.b, .slice y.a y.n y.p] 28 2 rfl
    have hU : URow M (W.alloc (.cells #[.bool y.b, .slice y.a y.n y.p] 28)) (some ⟨W.heap.size, 0, none⟩) 1 1 (fun _ => ⟨y.b, y.a, y.n, y.p⟩) (fun _ => zz) := by
      refine ⟨by omega, Nat.le_refl _, by unfold maxLen; omega, fun e => (by cases e), fun i hi => ?_⟩
      obtain rfl : i = 0 := by omega
      exact ⟨W.heap.size, 0, rfl, by simp, fun hg => absurd (HM0.out _ hg) (by omega), hBa.cell (i := 0) (by omega), hBa.cell (i := 1) (by omega), (hz.more Mx.less).ext hEa⟩
    have CTR := Lib.hid (un_normal M _ 1 1 _ _ _ (HM0.out.size (by simp; omega)) hU)
    have HEA := Lib.hid (HF4.out.trans hEa)
    have HP : Hid (∀ e w', RetU M (W.alloc (.cells #[.bool y.b, .slice y.a y.n y.p] 28)) (tz (fun _ => zz) 1) (fun _ => zz) e w' → ∃ a n, e = .returned (.slice a n n) ∧ RetUE M w L l (.returned (.tuple #[.slice a n n, .int .i64 0])) w') := by
      rintro e w' ⟨a2, X2, rfl, hU2, he2⟩
      refine ⟨_, _, rfl, .inl ⟨(const_only L zz).sim HS.out.symm, a2, _, X2, _, rfl, hU2, ?_, HEA.out.trans he2⟩⟩
      exact HS.out.trans ((upl_one (L := L) (z := fun _ => zz)).symm.trans upl_tz.symm)
    clear hz hs hEa hBa hU HY HEA HS
    rw [h0] at r0
    go_wp2_with (fail)
    refine CTR.out.mono ?_
    intro e w2 hr
    obtain ⟨a2, n2, rfl, hF⟩ := HP.out _ _ hr
    have HF := Lib.hid hF
    clear hr hF HP CTR r0 r1 r2 r3
    go_wp2
    exact bodyPost_ret (v := .tuple #[.slice a2 n2 n2, .int .i64 0]) (by simp [results, Try.results46, go_sem]) rfl HF.out
  · by_cases hlv : y.lv = (L : Int)
    · obtain ⟨D, hDL, hD4, _, a', p', b, off, n, cap, P, hc1, hc2, hc3, hn2, hnL, hnc, hcm, hb, hMb, hkd, hlow, hnz, hsim, _⟩ := HY.out.node_inv h0
      simp only [Value.slice.injEq] at hc3
      obtain ⟨h5, h6, h7⟩ := hc3
      rw [h5, h6, h7] at r3
      obtain rfl : L = D + 1 := by omega
      have hKR : KRow (Mx M w.heap.size (w.heap.size + 1)) W D (.slice (some ⟨b, off, none⟩) n cap) n P := ⟨hnL, .inr ⟨b, off, cap, rfl, hnc, hcm, ⟨hb, hMb⟩, hkd⟩⟩
      obtain ⟨x', hx'⟩ := hKR.x
      have hzc : ∀ i, i < n → ∃ zz : Int, ((x' i).lv = 0 → IntV M W (.bool (x' i).b) (.slice (x' i).a (x' i).n (x' i).p) zz ∧ Sim (P i) [(zz, Mo.zero)]) := fun i hi => by
        by_cases hx0 : (x' i).lv = 0
        · obtain ⟨zz, h8, h9⟩ := ((hx' i hi).2.1.up (show D ≤ 4 by omega)).const hx0
          exact ⟨zz, fun _ => ⟨h8.more Mx.less, h9⟩⟩
        · exact ⟨0, fun h => absurd h hx0⟩
      obtain ⟨zf, hzf⟩ := pick 0 hzc
      have HX := Lib.hid hx'
      have HZF := Lib.hid hzf
      have HSIM := Lib.hid hsim
      have HLOW := Lib.hid hlow
      have h0' : (y.lv == 0) = false := by simp [h0]
      have hlv' : (y.lv != ((D + 1 : Nat) : Int)) = false := by simp [hlv]
      have hlvD : y.lv = (D : Int) + 1 := by omega
      clear hKR hx' hzc hzf hsim hlow hkd hnz HY hc1 hc2
      unfold maxLen at hcm
      rw [hlvD] at r0
      have d0 : ((D : Int) + 1 == 0) = false := by simp; omega
      rw [show ((D + 1 : Nat) : Int) = (D : Int) + 1 by omega]
      go_wp2_with (first | (refine wpList_make_full _ rfl _ _ _ rfl W.heap.size 28 i0 (.agg #[.bool false, .slice none 0 0]) 2 Try.underlying64 hi hz0 hz1 .i64 .i64 _ _ n rfl rfl ?c4 ?c5 ?c2 ?c3 ?c6 ?_))
      case c2 => rw [hz2]; omega
      case c3 => unfold maxLen; omega
      case c4 => simp
      case c5 => simp
      case c6 => simp
      intro wf hown hgrow
      have hBk := Blk.made hown rfl (by omega)
      have hE1 := grown_ext hgrow
      have HE1 := Lib.hid hE1
      have hs1 : W.heap.size + 1 ≤ wf.heap.size := by have := hBk.lt; omega
      have HK1 : Hid (UK (Mx M W.heap.size (W.heap.size + 1)) wf W.heap.size n 0 zf) := UK.fresh hBk
      rw [← hE1.cell hlt3] at r0 r1 r2 r3
      have hlt4 : w.heap.size < wf.heap.size := by omega
      clear hown hgrow hBk hE1
      go_wp2
      go_loopw [32] (fun i wr => ∃ k : Nat, k ≤ n ∧ i = .int .i64 k ∧ W.heap.size + 1 ≤ wr.heap.size ∧ Hid (UK (Mx M W.heap.size (W.heap.size + 1)) wr W.heap.size n k zf) ∧ Hid (Ext W wr) ∧ Hid (∀ i, i < k → (x' i).lv = 0)) (fun i _ => n - (intOf i).toNat)
      case atStart => exact ⟨0, Nat.zero_le _, rfl, hs1, HK1, HE1, fun i hi => absurd hi (Nat.not_lt_zero _)⟩
      case round =>
        clear HK1 HE1 hs1 r0 r1 r2 r3 hlt4
        obtain ⟨k, hk, rfl, hsz, HK, HEW, HC⟩ := hrel
        by_cases hlt : k < n
        · obtain ⟨⟨b2, off2, e5, _, _, _, _, y0, y1, y2, y3⟩, hCRk, hk0, hkD, hk4⟩ := HX.out k hlt
          simp only [Option.some.injEq, Addr.mk.injEq, and_true] at e5
          obtain ⟨rfl, rfl⟩ := e5
          rw [← HEW.out.cell hb] at y0 y1 y2 y3
          have hbw : b < wr.heap.size := by omega
          have hEa : Ext wr (wr.alloc (.cells (peA (x' k)) 31)) := (Ext.refl wr).alloc _
          by_cases hx0 : (x' k).lv = 0
          · obtain ⟨hv, _⟩ := HZF.out k hlt hx0
            have hV2 : IntV (Mx M W.heap.size (W.heap.size + 1)) (wr.alloc (.cells (peA (x' k)) 31)) _ _ (zf k) := ((hv.more (Mx.more (Nat.le_refl _))).ext HEW.out).ext hEa
            have hK4 := HK.out.ext hEa
            have hcB := Blk.of_arr wr (peA (x' k)) 31 4 rfl
            have hKT := hK4.at hlt
            have hCC := hcB.p4
            have hclt := hcB.lt
            have HK5 : Hid (UK (Mx M W.heap.size (W.heap.size + 1)) (set2 (wr.alloc (.cells (peA (x' k)) 31)) W.heap.size (k * 2) (.bool (x' k).b) (.slice (x' k).a (x' k).n (x' k).p)) W.heap.size n (k + 1) zf) := hK4.set (Mx.at (by omega)) hV2
            have HE5 : Hid (Ext W (set2 (wr.alloc (.cells (peA (x' k)) 31)) W.heap.size (k * 2) (.bool (x' k).b) (.slice (x' k).a (x' k).n (x' k).p))) := (HEW.out.trans hEa).set2 (by omega) _ _ _
            have HSZ5 : Hid (W.heap.size + 1 ≤ (set2 (wr.alloc (.cells (peA (x' k)) 31)) W.heap.size (k * 2) (.bool (x' k).b) (.slice (x' k).a (x' k).n (x' k).p)).heap.size) := by show _ ≤ _; rw [size_set2]; have := hEa.size; omega
            have HC5 : Hid (∀ i, i < k + 1 → (x' i).lv = 0) := fun i hi => by
              by_cases hik : i = k
              · rw [hik]; exact hx0
              · exact HC.out i (by omega)
            rw [hx0] at y0
            clear hv hV2 hK4 hcB HK HEW HC
            generalize hWA : wr.alloc (.cells (peA (x' k)) 31) = WA at *
            have HWA := Lib.hid hWA
            obtain ⟨⟨_, k0⟩, ⟨_, k1⟩, hfr, hg4⟩ := hKT
            have hf0 := hfr (k * 2)
            have hf1 := hfr (k * 2 + 1)
            obtain ⟨s0, s1, s2, s3⟩ := hCC
            rw [hx0] at s0
            have HX0 := Lib.hid hx0
            clear hfr hWA hx0
            go_upto_region 12 with (fail)
            rw [show (#[.int .i64 0, .bool (x' k).b, .slice (x' k).a (x' k).n (x' k).p, .slice (x' k).ka (x' k).kn (x' k).kp] : Array Value) = peA (x' k) by rw [← HX0.out], HWA.out]
            clear y0 y1 y2 y3
            go_wp2
            go_roundw
            case rel => exact ⟨k + 1, by omega, by go_num, HSZ5.out, HK5, HE5, HC5⟩
            case measure => simp [intOf]; omega
          · obtain ⟨m, hm, hp⟩ := hCRk.topg hx0
            have HF : Hid (RetUE M w (D + 1) l (.returned (.tuple #[.slice none 0 0, .int .i64 12])) (wr.alloc (.cells (peA (x' k)) 31))) := .inr ⟨fun ho => not_only_kid hD4 HLOW.out hlt (by omega) (by omega) hm hp (ho.sim HSIM.out.symm), rfl, (HF4.out.trans HEW.out).trans hEa⟩
            have hx0' : ((x' k).lv == 0) = false := by simp [hx0]
            clear hm hp hCRk hEa
            go_wp2
            exact bodyPost_ret (v := .tuple #[.slice none 0 0, .int .i64 12]) (by simp [results, Try.results46, go_sem]) rfl HF.out
        · have hkn : k = n := by omega
          subst hkn
          obtain ⟨X2, hU⟩ := HK.out.row (M' := M) (fun g hg => .inl (.inl hg)) (fun hg => absurd (HM0.out _ hg) (by omega)) hnL
          have CTR := Lib.hid (un_normal M _ k k _ _ _ (HM0.out.size (by omega)) hU)
          have HP : Hid (∀ e w', RetU M wr (tz zf k) zf e w' → ∃ a n, e = .returned (.slice a n n) ∧ RetUE M w (D + 1) l (.returned (.tuple #[.slice a n n, .int .i64 0])) w') := by
            rintro e w' ⟨a2, X2, rfl, hU2, he2⟩
            have hs : Sim l (upl (D + 1) k zf) := HSIM.out.symm.trans (poly_congr _ _ _ _ fun i hi => (HZF.out i hi (HC.out i hi)).2)
            exact ⟨_, _, rfl, .inl ⟨(upl_only (by omega) hD4).sim hs.symm, a2, _, X2, _, rfl, hU2, hs.trans upl_tz.symm, (HF4.out.trans HEW.out).trans he2⟩⟩
          clear hU HK
          go_wp2_with (fail)
          refine CTR.out.mono ?_
          intro e w2 hr
          obtain ⟨a2, n2, rfl, hF⟩ := HP.out _ _ hr
          have HF := Lib.hid hF
          clear hr hF HP CTR
          go_wp2
          exact bodyPost_ret (v := .tuple #[.slice a2 n2 n2, .int .i64 0]) (by simp [results, Try.results46, go_sem]) rfl HF.out
    · obtain ⟨m, hm, hp⟩ := HY.out.topg h0
      obtain ⟨_, _, _, _, _, _, _, _, e0, _, _, _, h3, h4, _⟩ := HY.out.form
      simp only [Value.int.injEq, true_and] at e0
      have HF : Hid (RetUE M w L l (.returned (.tuple #[.slice none 0 0, .int .i64 12])) W) := .inr ⟨not_only_top (by omega) (by omega) (by omega) hm hp, rfl, HF4.out⟩
      have h0' : (y.lv == 0) = false := by simp [h0]
      have h1' : (y.lv == (L : Int)) = false := by simp [hlv]
      clear hm hp HY
      go_wp2
      exact bodyPost_ret (v := .tuple #[.slice none 0 0, .int .i64 12]) (by simp [results, Try.results46, go_sem]) rfl HF.out
end Go.Proofs.Ythhffpimcgmciaa

namespace Go.Proofs.Ythhffpimcgmciaa
open Go.RowKit

theorem dgM_xls (L n : Nat) (z : Nat → Int) (x : Nat → TE) : dgM L ((xls (n + 1) z x).map (·.2)) = max (dgM L ((xls n z x).map (·.2))) ((x n).m.get L) := by
  rw [xls_succ, List.map_append, show List.map (·.2) [(z n, (x n).m)] = [(x n).m] from rfl, dgM_snoc]
theorem dgM_xls0 (L : Nat) (z : Nat → Int) (x : Nat → TE) : dgM L ((xls 0 z x).map (·.2)) = 0 := rfl
theorem teA_get (t : TE) (j : Nat) (hj : j < 4) : arr (teA t) (2 + j) = .int .i64 (t.m.get (j + 1)) := by
  unfold arr teA Mo.get
  rcases (show j = 0 ∨ j = 1 ∨ j = 2 ∨ j = 3 by omega) with rfl | rfl | rfl | rfl <;> rfl
set_option maxRecDepth 100000 in
set_option maxHeartbeats 4000000 in
theorem sp_degree_ok (M : Nat → Prop) (v : Value) (l : List Tm) (j : Nat) (w : World) (hM : Mb M w) (hP : PolyV M w v l) (hD : dlen (nrm l) ≤ 1099511627776) (hj : j < 4) :
    Calls Try.prog 49 #[v, .int .i64 ((j : Int) + 1)] w fun e w' => e = .returned (.int .i64 (dgP ((j + 1 : Nat) : Int) (norm l))) ∧ Ext w w' := by
  have CTR := Lib.hid (sp_normal M v l w hM hP hD)
  have hlev : isLevB ((j : Int) + 1) = true := by unfold isLevB; simp; omega
  have HLV : Hid (isLevB ((j + 1 : Nat) : Int) = true) := hlev
  have HJ := Lib.hid hj
  clear hM hP hD
  go_enter Try.func49, Try.ntmps49
  go_wp2_with (fail)
  refine CTR.out.mono ?_
  rintro e w1 ⟨u, rfl, hO, he1⟩
  obtain ⟨n, z, x, hX, hl, _⟩ := hO.x
  obtain ⟨ua, uc, rfl⟩ := hX.form
  have hnL := hX.1
  have HX := Lib.hid hX
  have HL := Lib.hid hl
  have HE1 := Lib.hid he1
  clear hO hX hl he1 CTR
  by_cases hn0 : n = 0
  · subst hn0
    go_wp2
    go_ret
    exact ⟨by rw [HL.out]; rfl, HE1.out⟩
  · have hn0' : (n == 0) = false := by simp [hn0]
    have HDG : Hid (dgP ((j + 1 : Nat) : Int) (norm l) = dgM (j + 1) ((xls n z x).map (·.2))) := by
      show dgP ((j + 1 : Nat) : Int) (norm l) = _
      unfold dgP
      rw [HL.out, if_neg (fun e => hn0 (by have := congrArg List.length e; rw [xls_len] at this; exact this)), if_pos HLV.out]
      rfl
    have ctr := sp_isLevel ((j : Int) + 1) w1
    rw [hlev] at ctr
    have CTR := Lib.hid ctr
    clear ctr
    go_wp2_with (fail)
    refine CTR.out.mono ?_
    rintro e w2 ⟨rfl, rfl⟩
    clear CTR
    have HD0 : Hid (Value.int .i64 0 = .int .i64 (dgM (j + 1) ((xls 0 z x).map (·.2)))) := by rw [dgM_xls0]; exact rfl
    go_wp2
    go_loopw [6, 20] (fun d i wr => ∃ k : Nat, k ≤ n ∧ i = .int .i64 k ∧ d = .int .i64 (dgM (j + 1) ((xls k z x).map (·.2))) ∧ Ext w1 wr) (fun _ i _ => n - (intOf i).toNat)
    case atStart => exact ⟨0, Nat.zero_le _, rfl, HD0.out, Ext.refl _⟩
    case round =>
      obtain ⟨k, hk, rfl, rfl, her⟩ := hrel
      by_cases hlt : k < n
      · obtain ⟨b, off, rfl, hnc, hcm, hb, x0, x1, x2, x3, x4, x5⟩ := (HX.out.ext her).at k hlt
        have hMX := Lib.hid (dgM_xls (j + 1) k z x)
        have hEa : Ext wr (wr.alloc (.cells (teA (x k)) 83)) := (Ext.refl wr).alloc _
        have hBa := Blk.of_arr wr (teA (x k)) 83 6 rfl
        have c0 := hBa.cell (i := 2 + j) (by omega)
        rw [teA_get _ _ hj] at c0
        have hlta := hBa.lt
        have HER := Lib.hid (her.trans hEa)
        clear her hEa hBa
        generalize hWA : wr.alloc (.cells (teA (x k)) 83) = WA at *
        unfold teA at hWA
        have HWA := Lib.hid hWA
        clear hWA
        unfold maxLen at hcm
        have j1 : ((j : Int) + 1 - 1) = (j : Int) := by omega
        have j2 : (0 : Int) ≤ (j : Int) := by omega
        have j3 : (j : Int) < 4 := by omega
        go_upto_region 10 with (fail)
        rw [HWA.out]
        clear x0 x1 x2 x3 x4 x5
        generalize dgM (j + 1) (List.map (fun x => x.2) (xls k z x)) = dk at *
        go_wp2
        go_roundw
        case rel => exact ⟨k + 1, by omega, by go_num, by rw [hMX.out], HER.out⟩
        case measure => simp [intOf]; omega
      · have hkn : k = n := by omega
        subst hkn
        have HF := Lib.hid (HE1.out.trans her)
        clear her
        rw [← HDG.out]
        go_wp2
        go_ret
        exact ⟨rfl, HF.out⟩
/-- a truth value is returned -/
def RetBE (p : Prop) (w : World) (e : Ending) (w' : World) : Prop := ∃ b : Bool, e = .returned (.bool b) ∧ (b = true ↔ p) ∧ Ext w w'
theorem RetBE.t {p : Prop} {w w' : World} (h : p) (he : Ext w w') : RetBE p w (.returned (.bool true)) w' := ⟨true, rfl, ⟨fun _ => h, fun _ => rfl⟩, he⟩
theorem RetBE.f {p : Prop} {w w' : World} (h : ¬ p) (he : Ext w w') : RetBE p w (.returned (.bool false)) w' := ⟨false, rfl, ⟨fun e => (by cases e), fun e => absurd e h⟩, he⟩
def AloneU (lv : Int) (l : List Tm) (j : Nat) : Prop := ∀ t ∈ l, ∀ k : Nat, 1 ≤ k → k ≤ j → (k : Int) ≠ lv → ¬ 0 < t.2.get k
set_option maxRecDepth 100000 in
set_option maxHeartbeats 4000000 in
theorem law_alone (M : Nat → Prop) (v : Value) (l : List Tm) (lv : Int) (w : World) (hM : Mb M w) (hP : PolyV M w v l) (hD : dlen (nrm l) ≤ 1099511627776) :
    Calls Try.prog 51 #[v, .int .i64 lv] w (RetBE (AloneP lv (norm l)) w) := by
  have HM := Lib.hid hM
  have HP := Lib.hid hP
  have HD := Lib.hid hD
  clear hM hP hD
  go_enter Try.func51, Try.ntmps51
  go_wp2
  go_loopw [5] (fun i wr => ∃ j : Nat, j ≤ 4 ∧ i = .int .i64 ((j : Int) + 1) ∧ Hid (AloneU lv (norm l) j) ∧ Ext w wr) (fun i _ => 5 - (intOf i).toNat)
  case atStart => exact ⟨0, Nat.zero_le _, rfl, fun t _ k h1 h2 => by omega, Ext.refl _⟩
  case round =>
    obtain ⟨j, hj, rfl, HA, her⟩ := hrel
    by_cases hj4 : j = 4
    · subst hj4
      have HF : Hid (AloneP lv (norm l)) := fun t ht k h1 h2 h3 => HA.out t ht k h1 h2 h3
      have HER := Lib.hid her
      clear her
      go_wp2
      go_ret
      exact RetBE.t HF.out HER.out
    · have t1 : (j : Int) + 1 ≤ 4 := by omega
      by_cases hlv : (j : Int) + 1 = lv
      · have HA2 : Hid (AloneU lv (norm l) (j + 1)) := fun t ht k h1 h2 h3 => HA.out t ht k h1 (by omega) h3
        have hlv' : ((j : Int) + 1 == lv) = true := by simp [hlv]
        go_wp2
        go_roundw
        case rel => exact ⟨j + 1, by omega, by go_num, HA2, her⟩
        case measure => simp [intOf]; omega
      · have hlv' : ((j : Int) + 1 == lv) = false := by simp [hlv]
        have CTR := Lib.hid (sp_degree_ok M v l j wr (HM.out.ext her) (HP.out.ext her) HD.out (by omega))
        have HPOS := Lib.hid (dgP_pos (k := j + 1) (l := norm l) (by omega) (by omega))
        go_wp2_with (fail)
        refine CTR.out.mono ?_
        rintro e w2 ⟨rfl, he2⟩
        have her2 := her.trans he2
        clear he2 CTR her
        by_cases hp : 0 < dgP ((j + 1 : Nat) : Int) (norm l)
        · have HF : Hid (¬ AloneP lv (norm l)) := fun ha => by
            obtain ⟨t, ht, h3⟩ := HPOS.out.1 hp
            exact ha t ht (j + 1) (by omega) (by omega) (by omega) h3
          generalize dgP ((j + 1 : Nat) : Int) (norm l) = dk at *
          go_wp2
          go_ret
          exact RetBE.f HF.out her2
        · have HA2 : Hid (AloneU lv (norm l) (j + 1)) := fun t ht k h1 h2 h3 => by
            by_cases hk : k = j + 1
            · subst hk; exact fun h4 => hp (HPOS.out.2 ⟨t, ht, h4⟩)
            · exact HA.out t ht k h1 (by omega) h3
          generalize dgP ((j + 1 : Nat) : Int) (norm l) = dk at *
          clear HPOS HA
          go_wp2
          go_roundw
          case rel => exact ⟨j + 1, by omega, by go_num, HA2, her2⟩
          case measure => simp [intOf]; omega
end Go.Proofs.Ythhffpimcgmciaa

namespace Go.Proofs.Ythhffpimcgmciaa
open Go.ChangeShapes Go.WideShapes Go.ChangeAt Go.RowKit Go.Deep

/-- a row of integers by its cells, of which each with few digits is a number -/
def URaw (W : World) (a : Option Addr) (n cap : Nat) (X : Nat → IE) : Prop :=
  n ≤ cap ∧ cap ≤ maxLen ∧ (a = none → cap = 0) ∧ ∀ i, i < n → ∃ b off, a = some ⟨b, off, none⟩ ∧ b < W.heap.size ∧ W.cell? ⟨b, off + i * 2, none⟩ = some (.bool (X i).b) ∧ W.cell? ⟨b, off + i * 2 + 1, none⟩ = some (.slice (X i).a (X i).n (X i).p) ∧ IRaw W (X i).a (X i).n (X i).p
section
variable {H : Type} {enc : TypeId × Value → H} {W : World}
set_option maxRecDepth 10000 in
theorem open_uni {base : Nat} {v : Value} {d : DataW H} {ps : List MemPlace} (hv : Value.okWide Try.prog W .any base 64 v) (h : DataW.Trod enc Try.prog W 0 (fun _ => true) true 64 v d ps) : ∃ a n cap X, v = .slice a n cap ∧ URaw W a n cap X := by
  obtain ⟨fuel, h⟩ := h
  have hu : Try.prog.underlying 64 = some (.slice 28) := Try.underlying64
  have hc2 : Try.prog.cellsOf 28 = 2 := by kernel_rfl
  have hv1 : v.cells.toList = [v] := by
    obtain ⟨a, n, c, rfl⟩ := okWide_slice hu hv
    rfl
  rw [hv1] at h
  rcases open_slice hu h with ⟨h0, _⟩ | ⟨a, len, cap, m, n, D, Pl, hcs, hb, hl, hm, hmm, _, hi⟩
  · simp only [List.cons.injEq, and_true] at h0
    exact ⟨none, 0, 0, fun _ => default, h0, Nat.le_refl _, Nat.zero_le _, fun _ => rfl, fun i hi => absurd hi (Nat.not_lt_zero _)⟩
  · simp only [List.cons.injEq, and_true] at hcs
    have hsp : a.spot = none ∧ a.block < W.heap.size := by
      rw [hcs] at hv
      simp only [Value.okWide, hu, Cell.okWide, Cell.ok] at hv
      obtain ⟨_, _, _, hs, row, cells, hsh, _⟩ := hv
      refine ⟨hs, ?_⟩
      unfold World.shape? at hsh
      split at hsh
      · rename_i c e r hh
        exact (Array.getElem?_eq_some_iff.1 hh).1
      · cases hsh
    have hm2 : len ≤ m := by rw [hmm, if_pos rfl]; exact hl
    rw [hc2] at hi
    obtain ⟨b, off, sp⟩ := a
    obtain ⟨rfl, hblk⟩ := hsp
    simp only at hblk
    have hall : ∀ i, ∃ x : IE, i < len → (W.cell? ⟨b, off + i * 2, none⟩ = some (.bool x.b) ∧ W.cell? ⟨b, off + i * 2 + 1, none⟩ = some (.slice x.a x.n x.p)) ∧ IRaw W x.a x.n x.p := by
      intro i
      by_cases hil : i < len
      · obtain ⟨cs', h1, h2⟩ := hi i (by omega)
        obtain ⟨_, hlen, hat⟩ := World.cells?_some h1
        match cs', hlen with
        | [u0, u1], _ =>
          have c0 : W.cell? (((⟨b, off, none⟩ : Addr).add (i * 2)).add 0) = some u0 := hat 0 (by omega)
          have c1 : W.cell? (((⟨b, off, none⟩ : Addr).add (i * 2)).add 1) = some u1 := hat 1 (by omega)
          rw [addr_add, addr_add] at c0 c1
          obtain ⟨bb, a', n', p', rfl, rfl, hn', hd'⟩ := open_int (v0 := u0) (v1 := u1) h2
          exact ⟨⟨bb, a', n', p'⟩, fun _ => ⟨⟨c0, c1⟩, hn', hd'⟩⟩
      · exact ⟨default, fun h => absurd h hil⟩
    refine ⟨some ⟨b, off, none⟩, len, cap, fun i => (hall i).choose, hcs, hl, hm, fun e => (by cases e), fun i hi => ?_⟩
    have := (hall i).choose_spec hi
    exact ⟨b, off, rfl, hblk, this.1.1, this.1.2, this.2⟩
set_option linter.constructorNameAsVariable false in
set_option maxRecDepth 10000 in
theorem open_i64 {base : Nat} {v : Value} {d : DataW H} {ps : List MemPlace} (hv : Value.okWide Try.prog W .any base 3 v) (h : DataW.Trod enc Try.prog W 0 (fun _ => true) true 3 v d ps) : ∃ z : Int, v = .int .i64 z ∧ (-9223372036854775808 ≤ z ∧ z ≤ 9223372036854775807) := by
  obtain ⟨fuel, h⟩ := h
  obtain ⟨y, rfl⟩ := okWide_int Try.underlying3 hv
  obtain ⟨z, hz, _, hw⟩ := DataW.trod_int Try.underlying3 h
  have hz' : [Value.int .i64 y] = [.int .i64 z] := hz
  simp [Lit.wf, IntKind.min, IntKind.max, IntKind.signed, IntKind.bits] at hw
  exact ⟨z, by simpa using hz', by omega, by omega⟩
end
/-- what the law's tests let by -/
theorem URaw.row {W : World} {a : Option Addr} {n cap : Nat} {X : Nat → IE} (h : URaw W a n cap X) (hn : n ≤ 10) (hX : ∀ i, i < n → (X i).n ≤ 6) : ∃ z, URow M0 W a n cap X z ∧ ∀ i, i < n → (z i).natAbs ≤ 4294967296 ^ 6 := by
  obtain ⟨h1, h2, h3, h4⟩ := h
  have hall : ∀ i, i < n → ∃ z : Int, IntV M0 W (.bool (X i).b) (.slice (X i).a (X i).n (X i).p) z ∧ z.natAbs ≤ 4294967296 ^ 6 := fun i hi => by
    obtain ⟨b, off, _, _, _, _, h5⟩ := h4 i hi
    obtain ⟨d, hd⟩ := h5.2 (by have := hX i hi; omega)
    refine ⟨sgn (X i).b (nv d (X i).n), ⟨(X i).b, nv d (X i).n, rfl, ⟨_, d, hd, rfl⟩, rfl⟩, ?_⟩
    rw [sgn_natAbs]
    exact Nat.le_trans (Nat.le_of_lt (nv_lt d _ hd.2.1)) (Nat.pow_le_pow_right (by omega) (hX i hi))
  obtain ⟨z, hz⟩ := pick 0 hall
  refine ⟨z, ⟨by omega, h1, h2, h3, fun i hi => ?_⟩, fun i hi => (hz i hi).2⟩
  obtain ⟨b, off, e, hb, c0, c1, _⟩ := h4 i hi
  exact ⟨b, off, e, hb, fun h => h, c0, c1, (hz i hi).1⟩
theorem upl_len (L n : Nat) (z : Nat → Int) : (upl L n z).length = n := by
  unfold upl
  induction n with
  | zero => rfl
  | succ n ih => rw [poly_succ, List.length_append, ih]; simp [shift]
theorem upl_nrm {L n : Nat} {z : Nat → Int} (hn : n ≤ 10) (hz : ∀ i, i < n → (z i).natAbs ≤ 4294967296 ^ 6) : dlen (nrm (upl L n z)) ≤ 7 := by
  have h1 : nrm (upl L n z) ≤ (upl L n z).length * 4294967296 ^ 6 := by
    refine nrm_bound _ _ fun t ht => ?_
    obtain ⟨i, hi, s, hs, rfl⟩ := poly_mem ht
    simp only [List.mem_singleton] at hs
    subst hs
    exact hz i hi
  rw [upl_len] at h1
  rw [dlen_le_iff]
  have h2 : n * 4294967296 ^ 6 ≤ 10 * 4294967296 ^ 6 := Nat.mul_le_mul_right _ hn
  have h3 : 10 * 4294967296 ^ 6 < 4294967296 ^ 7 := by decide
  omega
theorem upl_deg {L n B : Nat} {z : Nat → Int} (h1 : 1 ≤ L) (h4 : L ≤ 4) (hn : n ≤ B + 1) : Deg B (upl L n z) := by
  intro m hm k
  obtain ⟨t, ht, rfl⟩ := coefAt_ex hm
  obtain ⟨i, hi, s, hs, rfl⟩ := poly_mem ht
  simp only [List.mem_singleton] at hs
  subst hs
  rw [get_add, get_zero, get_xp L k _ h1 h4]
  split <;> omega
end Go.Proofs.Ythhffpimcgmciaa
