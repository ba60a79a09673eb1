/- MainvarDegree: plain facts and the walk. -/
import Derived.Test.YtgppogaoilijcaaGreatDx
import Derived.Test.YtgppogaoilijcaaGreatDu
import Derived.Test.YtgppogaoilijcaaGreatDi
import Derived.Test.YtgppogaoilijcaaGreatDf
set_option linter.unusedVariables false
set_option linter.unusedSimpArgs false

namespace Go.Proofs.YtgppogaoilijcaaGreat
open Go.RowKit

theorem lv_lvM {l : List Tm} {k : Nat} (hl : NN l) (h : LvR l k) : k = lvM ((norm l).map (·.2)) := by
  have hs := nn_norm_sim hl
  refine Nat.le_antisymm ?_ (lvM_le_of _ fun m hm => ?_)
  · rcases h.2.2 with h0 | ⟨m, hm, hp⟩
    · omega
    · by_cases h1 : k = 0
      · omega
      have hmem : m ∈ (norm l).map (·.2) := by
        refine Classical.byContradiction fun hc => ?_
        rw [← hs m] at hm
        exact hm (coefAt_zero fun s hs e => hc (List.mem_map.2 ⟨s, hs, e⟩))
      exact Nat.le_trans (le_hiU (by omega) hp h.1) (le_lvM hmem)
  · obtain ⟨s, hs', rfl⟩ := List.mem_map.1 hm
    refine hiU_le_of (fun j hj h4 => ?_) (Nat.le_refl _)
    have hne : coefAt l s.2 ≠ 0 := by rw [← hs s.2]; exact canon_coef_ne (norm_canon l) hs'
    have := h.2.1 s.2 hne j hj h4
    omega
theorem norm_nil_iff {l : List Tm} (hl : NN l) : norm l = [] ↔ Sim l [] :=
  ⟨fun h => by have := nn_norm_sim hl; rw [h] at this; exact this.symm, fun h => h.norm⟩
theorem degs_same {l : List Tm} {L z1 z2 : Int} {w1 w2 w1' w2' : World} (hl : NN l) (h : RetDg w1 l L (.returned (.int .i64 z1)) w1') (h' : RetSd w2 l L (.returned (.int .i64 z2)) w2') : z1 = z2 := by
  obtain ⟨a, ha, h, _⟩ := h
  obtain ⟨b, hb, h', _⟩ := h'
  obtain rfl : z1 = a := by simpa using ha
  obtain rfl : z2 = b := by simpa using hb
  have hs := nn_norm_sim hl
  rcases h with ⟨h0, h1⟩ | ⟨h0, hn, h1⟩ | ⟨h0, K, n, rfl, k1, k4, h1, hd, _⟩
  · rcases h' with ⟨_, h2⟩ | ⟨g0, _⟩ | ⟨g0, _⟩
    · omega
    · exact absurd ((norm_nil_iff hl).2 h0) g0
    · exact absurd ((norm_nil_iff hl).2 h0) g0
  · rcases h' with ⟨g0, _⟩ | ⟨_, _, h2⟩ | ⟨_, K, n, rfl, k1, k4, _⟩
    · exact absurd ((norm_nil_iff hl).1 g0) h0
    · omega
    · exact absurd ⟨by omega, by omega⟩ hn
  · rcases h' with ⟨g0, _⟩ | ⟨_, hn, _⟩ | ⟨_, K', n', hK, _, _, h2, hd'⟩
    · exact absurd ((norm_nil_iff hl).1 g0) h0
    · exact absurd ⟨by omega, by omega⟩ hn
    · obtain rfl : K = K' := by omega
      have := dgr_uniq hl h0 hd (hd'.sim hs)
      omega
theorem coef_dvL {K : Nat} (h1 : 1 ≤ K) (h4 : K ≤ 4) (m : Mo) : ∀ L : List Tm, coefAt (dvL K L) m = if 0 ≤ m.get K then coefAt L (Mo.add m (xp K 1)) * (m.get K + 1) else 0
  | [] => by unfold dvL; simp [coefAt]
  | t :: L => by
    have ih := coef_dvL h1 h4 m L
    have hk : (Mo.add t.2 (xp K (-1)) = m) ↔ t.2 = Mo.add m (xp K 1) := by
      constructor
      · rintro rfl
        exact Mo.ext_get fun k _ _ => by rw [get_add, get_add, get_xp _ _ _ h1 h4, get_xp _ _ _ h1 h4]; split <;> omega
      · intro e
        rw [e]
        exact Mo.ext_get fun k _ _ => by rw [get_add, get_add, get_xp _ _ _ h1 h4, get_xp _ _ _ h1 h4]; split <;> omega
    have hg : t.2 = Mo.add m (xp K 1) → t.2.get K = m.get K + 1 := fun e => by rw [e, get_add, get_xp _ _ _ h1 h4, if_pos rfl]
    have hd : coefAt (dvL K (t :: L)) m = (if 0 < t.2.get K then (if Mo.add t.2 (xp K (-1)) = m then t.1 * t.2.get K else 0) else 0) + coefAt (dvL K L) m := by
      unfold dvL
      rw [List.filter_cons]
      split
      · rename_i hp
        rw [if_pos (by simpa using hp), List.map_cons]
        rfl
      · rename_i hp
        rw [if_neg (by simpa using hp)]; omega
    rw [hd, ih]
    simp only [coefAt]
    by_cases he : t.2 = Mo.add m (xp K 1)
    · have hge := hg he
      rw [if_pos (hk.2 he), if_pos he]
      by_cases hm : 0 ≤ m.get K
      · rw [if_pos (by omega), if_pos hm, if_pos hm, hge, Int.add_mul]
      · rw [if_neg (by omega), if_neg hm, if_neg hm]; omega
    · rw [if_neg (fun h => he (hk.1 h)), if_neg he]
      by_cases hm : 0 ≤ m.get K
      · rw [if_pos hm, if_pos hm, Int.zero_add]; split <;> omega
      · rw [if_neg hm, if_neg hm]; split <;> omega
theorem coef_dvP {K : Nat} (h1 : 1 ≤ K) (h4 : K ≤ 4) (l : List Tm) (m : Mo) : ∀ n : Nat, coefAt (poly K n (dvC K l)) m = if 0 ≤ m.get K ∧ m.get K < (n : Int) then coefAt l (Mo.add m (xp K 1)) * (m.get K + 1) else 0
  | 0 => by rw [if_neg (by omega)]; rfl
  | n + 1 => by
    have hc : coefAt (dvC K l n) (Mo.sub m (xp K (n : Int))) = if m.get K = (n : Int) then coefAt l (Mo.add m (xp K 1)) * (m.get K + 1) else 0 := by
      unfold dvC
      rw [pmul_single, coefAt_shift]
      have hz : Mo.sub (Mo.sub m (xp K (n : Int))) Mo.zero = Mo.sub m (xp K (n : Int)) := Mo.ext_get fun k _ _ => by rw [get_sub, get_zero]; omega
      simp only
      rw [hz, coefAt_smul, ck_coef h1 h4, get_sub, get_xp K K _ h1 h4, if_pos rfl]
      by_cases hb : m.get K = (n : Int)
      · rw [if_pos (by omega), if_pos hb]
        have ha : Mo.add (Mo.sub m (xp K (n : Int))) (xp K (((n + 1 : Nat) : Int))) = Mo.add m (xp K 1) := Mo.ext_get fun k _ _ => by
          rw [get_add, get_sub, get_add, get_xp _ _ _ h1 h4, get_xp _ _ _ h1 h4, get_xp _ _ _ h1 h4]; split <;> omega
        rw [ha, hb, Int.mul_comm]
        congr 1
      · rw [if_neg (by omega), if_neg hb]; omega
    rw [poly_succ, coefAt_append, coef_dvP h1 h4 l m n, coefAt_shift, hc]
    by_cases ha : 0 ≤ m.get K ∧ m.get K < (n : Int)
    · rw [if_pos ha, if_neg (by omega), if_pos (by omega)]; omega
    · rw [if_neg ha]
      by_cases hb : m.get K = (n : Int)
      · rw [if_pos hb, if_pos (by omega)]; omega
      · rw [if_neg hb, if_neg (by omega)]; omega
theorem der_same {K n : Nat} (h1 : 1 ≤ K) (h4 : K ≤ 4) {l : List Tm} (hl : NN l) (hd : DgR K l n) : Sim (dvL K (norm l)) (poly K n (dvC K l)) := fun m => by
  rw [coef_dvL h1 h4, coef_dvP h1 h4, nn_norm_sim hl]
  by_cases ha : 0 ≤ m.get K
  · rw [if_pos ha]
    by_cases hb : m.get K < (n : Int)
    · rw [if_pos ⟨ha, hb⟩]
    · rw [if_neg (by omega)]
      have : coefAt l (Mo.add m (xp K 1)) = 0 := Classical.byContradiction fun hc => by
        have := hd.1 _ hc
        rw [get_add, get_xp _ _ _ h1 h4, if_pos rfl] at this
        omega
      rw [this, Int.zero_mul]
  · rw [if_neg ha, if_neg (by omega)]
theorem der_deg {K n B : Nat} (h1 : 1 ≤ K) (h4 : K ≤ 4) {l : List Tm} (h : Deg B l) : Deg B (poly K n (dvC K l)) := fun m hm k => by
  rw [coef_dvP h1 h4] at hm
  split at hm
  · have hc : coefAt l (Mo.add m (xp K 1)) ≠ 0 := fun e => hm (by rw [e, Int.zero_mul])
    have := h _ hc k
    rw [get_add, get_xp _ _ _ h1 h4] at this
    split at this <;> omega
  · exact absurd rfl hm
theorem ders_same {l s r : List Tm} {L : Int} (hl : NN l) (hd : Deg 21 l) (hn : dlen (nrm l) ≤ 1) (h : DerR l L s) (h0 : ¬ (1 ≤ L ∧ L ≤ 4) → r = []) (h' : ∀ K : Nat, L = K → 1 ≤ K → K ≤ 4 → r = norm (dvL K (norm l))) :
    norm r = norm s ∧ dlen (nrm s) ≤ 1099511627776 ∧ dlen (nrm r) ≤ 1099511627776 ∧ Deg 21 s := by
  have hrn : dlen (nrm r) ≤ 1099511627776 := by
    by_cases hlev : 1 ≤ L ∧ L ≤ 4
    · rw [h' L.toNat (by omega) (by omega) (by omega)]
      have hD : Deg 21 (norm l) := hd.sim (nn_norm_sim hl).symm
      have g1 := dvL_nrm (K := L.toNat) (E := 21) (L := norm l) (fun t ht => hD t.2 (canon_coef_ne (norm_canon l) ht) _)
      have g2 := norm_nrm (dvL L.toNat (norm l))
      have g3 : nrm (norm (dvL L.toNat (norm l))) ≤ 21 * nrm l := Nat.le_trans g2 (Nat.le_trans g1 (Nat.mul_le_mul_left _ (norm_nrm l)))
      have g4 := dlen_mono g3
      have g5 := dlen_mul 21 (nrm l)
      have g6 : dlen 21 ≤ 1 := by decide
      omega
    · rw [h0 hlev]; decide
  rcases h with ⟨hz, rfl⟩ | ⟨hz, K, n, rfl, k1, k4, hdg, rfl⟩
  · have hr : norm r = [] := by
      by_cases hlev : 1 ≤ L ∧ L ≤ 4
      · rcases hz with hz | hz
        · rw [h' L.toNat (by omega) (by omega) (by omega), (norm_nil_iff hl).2 hz]; rfl
        · exact absurd hlev hz
      · rw [h0 hlev]; rfl
    exact ⟨hr, by decide, hrn, fun m hm => absurd rfl hm⟩
  · refine ⟨?_, ?_, hrn, der_deg k1 k4 hd⟩
    · rw [h' K rfl k1 k4, norm_norm]
      exact (der_same k1 k4 hl hdg).norm
    · have hn21 : n ≤ 21 := dg_le hdg hd
      exact Nat.le_trans (poly_dl (A := 2) (by omega) (fun i hi => dvC_dl hn i (by omega))) (by omega)
set_option maxRecDepth 100000 in
set_option maxHeartbeats 16000000 in
theorem law_degree (a1 : Option Addr) (n1 p1 : Nat) (L : Int) (w : World) (h1 : n1 ≤ 24 → ∃ L C K, NodesR M0 w (.slice a1 n1 p1) n1 L C K) : Calls Tryz.prog 10 #[.slice a1 n1 p1, .int .i64 L] w fun e w' => e = .returned (.bool true) ∧ Ext w w' := by
  have cf1 := fun W => rf_few a1 n1 p1 W
  by_cases hn1 : ¬ n1 ≤ 24
  · rw [decide_eq_false hn1] at cf1
    have CF1 := Lib.hid cf1
    clear cf1 h1
    go_enter Tryz.func10, Tryz.ntmps10
    go_wp2_with (fail)
    refine (law_fit23 _).mono ?_
    rintro e w1 ⟨rfl, he1⟩
    go_wp2_with (fail)
    refine (CF1.out _).mono ?_
    rintro e w2 ⟨rfl, rfl⟩
    go_wp2
    go_ret
    exact ⟨rfl, he1⟩
  have hn1' : n1 ≤ 24 := Decidable.not_not.1 hn1
  rw [decide_eq_true hn1'] at cf1
  have CF1 := Lib.hid cf1
  clear cf1 hn1
  obtain ⟨L1, C1, K1, h1'⟩ := h1 hn1'
  have HN1 := Lib.hid h1'
  clear h1 h1'
  go_enter Tryz.func10, Tryz.ntmps10
  go_wp2_with (fail)
  refine (law_fit23 _).mono ?_
  rintro e w1 ⟨rfl, he1⟩
  go_wp2_with (fail)
  refine (CF1.out _).mono ?_
  rintro e w2 ⟨rfl, rfl⟩
  go_wp2_with (fail)
  refine (rf_build M0 _ n1 L1 C1 K1 w1 (mb0 _) (HN1.out.ext he1)).mono ?_
  rintro e w3 ⟨x, l, rfl, hx, he3⟩
  have hEa := (Ext.refl w3).alloc (.cells (peA x) 34)
  have HP0 : Hid (P4 (w3.alloc (.cells (peA x) 34)) w3.heap.size x) := (Blk.of_arr w3 (peA x) 34 4 rfl).p4
  have HX := Lib.hid (hx.ext hEa)
  have HE := Lib.hid ((he1.trans he3).trans hEa)
  clear hx he1 he3 hEa HN1 CF1
  go_upto_region 6 with (fail)
  generalize hbx : w3.heap.size = bx at *
  generalize w3.alloc (.cells (peA x) 34) = W at *
  clear hbx
  have HNN := Lib.hid HX.out.nn
  have HDG := Lib.hid HX.out.deg
  have HNR := Lib.hid HX.out.nrm
  have CTM := Lib.hid (bt_terms x l _ HX.out)
  obtain ⟨x0, x1, x2, x3⟩ := HP0.out
  go_wp2_with (fail)
  refine CTM.out.mono ?_
  rintro e w4 ⟨v, rfl, hv, he4⟩
  obtain ⟨va, vc, rfl⟩ := hv.form
  have HV := Lib.hid hv
  have HX4 := Lib.hid (HX.out.pi.ext he4)
  have HE4 := Lib.hid (HE.out.trans he4)
  have HP4 := Lib.hid (HP0.out.ext he4)
  have CLV := Lib.hid (mv_Level M0 x l w4 (mb0 _) HX4.out)
  clear hv he4 CTM HX HE HP0 x0 x1 x2 x3
  obtain ⟨x0, x1, x2, x3⟩ := HP4.out
  go_wp2_with (fail)
  refine CLV.out.mono ?_
  rintro e w5 ⟨k, rfl, hk, he5⟩
  obtain rfl := lv_lvM HNN.out hk
  have HV5 := Lib.hid (HV.out.ext he5)
  have CSL := Lib.hid (sp_level M0 _ l w5 (mb0 _) HV5.out (Nat.le_trans HNR.out (by omega)))
  have HX5 := Lib.hid (HX4.out.ext he5)
  have HE5 := Lib.hid (HE4.out.trans he5)
  have HP5 := Lib.hid (HP4.out.ext he5)
  clear hk he5 CLV HX4 HE4 HP4 HV x0 x1 x2 x3
  go_wp2_with (fail)
  refine CSL.out.mono ?_
  rintro e w6 ⟨rfl, he6⟩
  have HV6 := Lib.hid (HV5.out.ext he6)
  have HX6 := Lib.hid (HX5.out.ext he6)
  have HE6 := Lib.hid (HE5.out.trans he6)
  have HP6 := Lib.hid (HP5.out.ext he6)
  have CDG := Lib.hid (mv_Degree M0 x l L w6 (mb0 _) HX6.out)
  clear he6 CSL HX5 HE5 HP5 HV5
  obtain ⟨x0, x1, x2, x3⟩ := HP6.out
  generalize lvM ((norm l).map (·.2)) = kl
  go_wp2_with (fail)
  refine CDG.out.mono ?_
  rintro e w7 ⟨z1, rfl, hz1, he7⟩
  have HZ1 : Hid (RetDg w6 l L (.returned (.int .i64 z1)) w7) := ⟨z1, rfl, hz1, he7⟩
  have HV7 := Lib.hid (HV6.out.ext he7)
  have HX7 := Lib.hid (HX6.out.ext he7)
  have HE7 := Lib.hid (HE6.out.trans he7)
  have HP7 := Lib.hid (HP6.out.ext he7)
  have CSD := Lib.hid (sp_degree M0 _ l L w7 (mb0 _) HV7.out (Nat.le_trans HNR.out (by omega)))
  clear hz1 he7 CDG HX6 HE6 HP6 HV6 x0 x1 x2 x3
  go_wp2_with (fail)
  refine CSD.out.mono ?_
  rintro e w8 ⟨z2, rfl, hz2, he8⟩
  obtain rfl : z1 = z2 := degs_same HNN.out HZ1.out ⟨z2, rfl, hz2, he8⟩
  have HV8 := Lib.hid (HV7.out.ext he8)
  have HX8 := Lib.hid (HX7.out.ext he8)
  have HE8 := Lib.hid (HE7.out.trans he8)
  have HP8 := Lib.hid (HP7.out.ext he8)
  have CDV := Lib.hid (mv_Derivative M0 x l L 21 w8 (mb0 _) HX8.out HDG.out (by decide) (by decide) (Nat.le_trans HNR.out (by omega)))
  clear hz2 he8 CSD HX7 HE7 HP7 HV7 HZ1
  obtain ⟨x0, x1, x2, x3⟩ := HP8.out
  go_wp2_with (fail)
  refine CDV.out.mono ?_
  rintro e w9 ⟨y, s, rfl, hy, hs, he9⟩
  have HS := Lib.hid hs
  have HV9 := Lib.hid (HV8.out.ext he9)
  have HY9 := Lib.hid hy
  have HE9 := Lib.hid (HE8.out.trans he9)
  have hD : Deg 1000 (norm l) := (HDG.out.sim (nn_norm_sim HNN.out).symm).mono (by omega)
  have CSV := Lib.hid (sp_derivative M0 _ l L w9 (mb0 _) HV9.out (Nat.le_trans HNR.out (by omega)) hD)
  clear hs hy he9 CDV HX8 HE8 HP8 HV8 x0 x1 x2 x3 hD
  go_wp2_with (fail)
  refine CSV.out.mono ?_
  rintro e w10 ⟨u, r, rfl, hu, hr0, hr1, he10⟩
  obtain ⟨g1, g2, g3, g4⟩ := ders_same HNN.out HDG.out HNR.out HS.out hr0 hr1
  have CIS := Lib.hid (law_is M0 y s r u 21 w10 (mb0 _) (HY9.out.ext he10) hu g1 g2 g3 g4 (by decide))
  have HE10 := Lib.hid (HE9.out.trans he10)
  obtain ⟨ua, uc, rfl⟩ := hu.form
  clear hu hr0 hr1 he10 CSV HY9 HE9 HV9 HS g1 g2 g3 g4
  go_wp2_with (fail)
  refine CIS.out.mono ?_
  rintro e w11 ⟨rfl, he11⟩
  have HF := Lib.hid (HE10.out.trans he11)
  clear he11 CIS HE10
  go_wp2
  go_ret
  exact ⟨rfl, HF.out⟩
end Go.Proofs.YtgppogaoilijcaaGreat
