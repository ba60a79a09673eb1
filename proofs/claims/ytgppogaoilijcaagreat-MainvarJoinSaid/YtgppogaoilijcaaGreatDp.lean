/- MainvarJoin: the walk. -/
import Derived.Test.YtgppogaoilijcaaGreatDo
import Derived.Test.YtgppogaoilijcaaGreatDf
set_option linter.unusedVariables false
set_option linter.unusedSimpArgs false

namespace Go.Proofs.YtgppogaoilijcaaGreat
open Go.RowKit

theorem polyV_nil (M : Nat → Prop) (w : World) : PolyV M w (.slice none 0 0) [] := ⟨0, fun _ => 0, fun _ => Mo.zero, fun _ => undef, fun _ => undef, ⟨Nat.zero_le _, .inl ⟨⟨none, 0, rfl, Nat.zero_le _⟩, rfl⟩⟩, rfl, fun i hi => absurd hi (Nat.not_lt_zero _)⟩
theorem canon_nil : norm [] = [] := rfl
set_option maxRecDepth 100000 in
set_option maxHeartbeats 16000000 in
theorem law_join (a : Option Addr) (n cap : Nat) (Y : Nat → SE) (L : Int) (w : World) (h : PsRaw w a n cap Y) :
    Calls Tryz.prog 5 #[.slice a n cap, .int .i64 L] w fun e w' => e = .returned (.bool true) ∧ Ext w w' := by
  obtain ⟨i0, hi0, hz0, hz1, hz2⟩ := info_parts Tryz.info115
  have HR := Lib.hid h
  have hcm := h.2.1
  have hnc := h.1
  have hnb : (n : Int) ≤ 9223372036854775807 := by unfold maxLen at hcm; omega
  clear h hcm
  go_enter Tryz.func5, Tryz.ntmps5
  go_wp2_with (fail)
  refine (law_fit23 _).mono ?_
  rintro e w1 ⟨rfl, he1⟩
  have HE1 := Lib.hid he1
  have HR1 : Hid (PsRaw w1 a n cap Y) := ⟨HR.out.1, HR.out.2.1, fun i hi => by
    obtain ⟨b, off, h1, h2, h3, X, h4, h5⟩ := HR.out.ext he1 i hi
    exact ⟨b, off, h1, h2, h3, X, h4, h5.2.1, fun j hj hL => by
      obtain ⟨d, hd⟩ := h5.2.2 j hj hL
      exact ⟨d, hd.ext he1⟩⟩⟩
  have CL := Lib.hid (law_list a n cap 5 Y w1 HR1.out (by omega))
  rw [show ((5 : Nat) : Int) = 5 from rfl] at CL
  clear he1
  go_wp2_with (fail)
  refine CL.out.mono ?_
  rintro e w2 ⟨hr, he2⟩
  have HE2 := Lib.hid (HE1.out.trans he2)
  rcases hr with rfl | ⟨ca, cp, P, rfl, hn5, hP, hK⟩
  · clear CL
    go_wp2
    go_ret
    exact ⟨rfl, HE2.out⟩
  have HP := Lib.hid hP
  have HK := Lib.hid hK
  have HE12 := Lib.hid he2
  have hn5' : n ≤ 5 := hn5
  have HDEG : Hid (∀ i, i < n → Deg 6 (norm (P i))) := fun i hi => (hP i hi).2.1.deg
  have HDL : Hid (∀ i, i < n → dlen (nrm (norm (P i))) ≤ 7) := fun i hi => (hP i hi).2.1.dl
  clear hP hK he2 CL hn5
  by_cases hlev : 1 ≤ L ∧ L ≤ 4
  · obtain ⟨j, rfl, hj4⟩ : ∃ j : Nat, L = (j : Int) + 1 ∧ j < 4 := ⟨(L - 1).toNat, by omega, by omega⟩
    have hlevB : isLevB ((j : Int) + 1) = true := by unfold isLevB; simp only [decide_eq_true_eq]; omega
    have HN : n * (6 + 1) ^ 4 ≤ 1099511627776 := Nat.le_trans (Nat.mul_le_mul_right _ hn5') (by decide)
    have CJ := Lib.hid (mv_JoinG (L := j + 1) w2 (mb0 _) HK.out (by omega) (by omega) HDEG.out HN (by omega) (A := 7) HDL.out (by omega))
    rw [show ((j + 1 : Nat) : Int) = (j : Int) + 1 from by omega] at CJ
    have CI := Lib.hid (fun W => law_inner23 ((j : Int) + 1) W)
    rw [hlevB] at CI
    have hj0 : (0 : Int) ≤ (j : Int) := Int.natCast_nonneg _
    have hj3 : (j : Int) < 4 := by omega
    clear hlev hlevB HN
    go_wp2_with (fail)
    refine CJ.out.mono ?_
    rintro e w3 ⟨x, rfl, hx, he3⟩
    have hEa := (Ext.refl w3).alloc (.cells (peA x) 34)
    have HPX : Hid (P4 (w3.alloc (.cells (peA x) 34)) w3.heap.size x) := (Blk.of_arr w3 (peA x) 34 4 rfl).p4
    have HX := Lib.hid (hx.ext hEa)
    have HE23 := Lib.hid (he3.trans hEa)
    clear hx he3 hEa CJ
    go_upto_region 7 with (fail)
    generalize hgp : w3.heap.size = gp at *
    generalize w3.alloc (.cells (peA x) 34) = W3 at *
    clear hgp
    have HGP : Hid (gp < W3.heap.size) := World.block_lt_of_cell? _ _ HPX.out.1
    go_wp2_with (fail)
    refine (CI.out _).mono ?_
    rintro e w4 ⟨rfl, rfl⟩
    clear CI
    have HE3 := Lib.hid (HE2.out.trans HE23.out)
    go_wp2
    go_loopw [30, 8] (fun iv v wr => ∃ (k c : Nat) (z : Nat → Int) (xx : Nat → TE), k ≤ n ∧ iv = .int .i64 k ∧ RowV M0 W3.heap.size wr v c z xx ∧ Hid (xls c z xx = joinT (j + 1) k P) ∧ Hid (Ext W3 wr)) (fun iv _ _ => n - (intOf iv).toNat)
    case atStart => exact ⟨0, 0, fun _ => 0, fun _ => ⟨false, none, 0, 0, Mo.zero⟩, Nat.zero_le _, rfl, ⟨Own.nil _ _ _ _ _, fun i hi => by omega⟩, (joinT_zero (j + 1) P).symm ▸ rfl, Ext.refl _⟩
    case round =>
      obtain ⟨k, c, z, xx, hk, rfl, hRV, HXL, HE⟩ := hrel
      obtain ⟨va, vc, rfl⟩ := hRV.1.form
      have HRV := Lib.hid hRV
      have hcl : c ≤ n * 8 := by
        have h1 := congrArg List.length HXL.out
        rw [xls_len] at h1
        have h2 := joinT_len (L := j + 1) (c := 8) (P := P) k (fun i hi => (HP.out i (by omega)).2.2.2.2)
        have h3 : k * 8 ≤ n * 8 := Nat.mul_le_mul_right _ hk
        omega
      by_cases hlt : k < n
      · obtain ⟨b, off, rfl, hbw, c0, X, hT, _⟩ := HR1.out.ext (HE12.out.trans (HE23.out.trans HE.out)) k hlt
        have hltI : (k : Int) < (n : Int) := by omega
        have HLT := Lib.hid hlt
        obtain ⟨hpv, _, _, hex, hl8⟩ := HP.out k hlt
        have hpv3 := hpv.ext (HE12.out.trans HE23.out)
        obtain ⟨nl, zl, xl, hpx, hpl⟩ := (hpv3.ext HE.out).x
        obtain ⟨nl', zl', xl', hpx', hpl'⟩ := hpv3.x
        have CT : Hid (Calls Tryz.prog 37 #[.slice (Y k).a (Y k).n (Y k).p, .int .i64 ((j : Int) + 1), .int .i64 (k : Int)] wr (TimesPost M0 W3.heap.size wr (timesL (j + 1) (k : Int) (P k)))) := by
          have h9 := rf_times M0 W3.heap.size (sv (Y k)) nl' zl' xl' j k wr HE.out.size ((hpx'.more (M' := Mf M0 W3.heap.size) (fun g hg => hg)).ext HE.out) hj4 (by omega) (fun i hi => by
            have := hex (zl' i, (xl' i).m) (by rw [hpl']; exact xls_mem hi) (j + 1)
            exact this)
          rw [← hpl'] at h9
          exact h9
        clear hT hpv hpv3 hpx hpl hpx' hpl' hex hRV
        go_wp2_with (fail)
        refine CT.out.mono ?_
        rintro e w5 ⟨u, m, zu, xu, rfl, hu, hun, hu0, hxu, he5⟩
        have hm8 : m ≤ 8 := by
          have h1 := congrArg List.length hxu
          rw [xls_len] at h1
          have := timesL_len (j + 1) (k : Int) (P k)
          omega
        have hr5 := HRV.out.ext he5
        have HE5 := Lib.hid (HE.out.trans he5)
        have HXU := Lib.hid hxu
        obtain ⟨ua, uc, rfl⟩ := hu.1.form
        have HOW := Lib.hid hr5.1.lt
        have hsz5 := HE5.out.size
        clear hxu he5 CT c0
        go_wp2_with (at_builtin; refine wpList_append_terms _ rfl (.tmp 35) (.tmp 39) _ rfl M0 W3.heap.size i0 _ Tryz.underlying23 hi0 hz0 hz1 hz2 rfl _ c z xx rfl hr5 _ m zu xu rfl hu hu0 (fun g hg => (HOW.out g hg).1) (by omega) hsz5 ?_)
        intro v' w6 hr6 hg6 hat
        have HF : Hid (∃ (k' c' : Nat) (z' : Nat → Int) (x' : Nat → TE), k' ≤ n ∧ Value.int .i64 ((k : Int) + 1) = .int .i64 k' ∧ RowV M0 W3.heap.size w6 v' c' z' x' ∧ Hid (xls c' z' x' = joinT (j + 1) k' P) ∧ Hid (Ext W3 w6)) :=
          ⟨k + 1, c + m, _, _, HLT.out, by simp, hr6, by show _ = _; rw [xls_rows, HXL.out, HXU.out, joinT_succ], HE5.out.grown hg6 (fun q hq => (HOW.out q hq).1)⟩
        clear hr5 hu hr6 hg6 hat hu0 hun
        go_wp2
        go_roundw
        case rel => exact HF.out
        case measure => have := HLT.out; simp [intOf]; omega
      · obtain rfl : n = k := by omega
        have hge : ¬ (n : Int) < (n : Int) := by omega
        have hPV : PolyV M0 wr (.slice va c vc) (joinT (j + 1) n P) := by
          rw [← HXL.out]
          exact HRV.out.toV (fun g _ hg => hg) (by omega)
        have hnr : ∀ i, i < n → nrm (P i) ≤ 4294967296 ^ 7 := fun i hi => Nat.le_of_lt ((dlen_le_iff _ _).1 (HP.out i hi).2.2.1)
        have hdj : dlen (nrm (joinT (j + 1) n P)) ≤ 1099511627776 := by
          have h1 := joinT_nrm (L := j + 1) (c := 4294967296 ^ 7) n hnr
          have h2 : n * 4294967296 ^ 7 < 4294967296 ^ 8 := Nat.lt_of_le_of_lt (Nat.mul_le_mul_right _ hn5') (by decide)
          exact Nat.le_trans ((dlen_le_iff _ 8).2 (Nat.lt_of_le_of_lt h1 h2)) (by omega)
        have hdp : dlen (nrm (poly (j + 1) n fun i => norm (P i))) ≤ 1099511627776 := Nat.le_trans (poly_dl (A := 7) (by omega) HDL.out) (by omega)
        have CIS := Lib.hid (law_is M0 x _ _ (.slice va c vc) 11 wr (mb0 _) (HX.out.ext HE.out) hPV (norm_joinT (by omega) (by omega) n P) hdp hdj ((deg_poly (by omega) (by omega) HDEG.out).mono (by omega)) (by decide))
        have hP4 := HPX.out.ext HE.out
        obtain ⟨y0, y1, y2, y3⟩ := hP4
        have hgl : gp < wr.heap.size := Nat.lt_of_lt_of_le HGP.out HE.out.size
        have HEE := Lib.hid (HE3.out.trans HE.out)
        clear hRV HRV hPV hnr hdj hdp
        go_wp2_with (fail)
        refine CIS.out.mono ?_
        rintro e w7 ⟨rfl, he7⟩
        have HEF := Lib.hid (HEE.out.trans he7)
        clear he7 y0 y1 y2 y3
        go_wp2
        go_ret
        exact ⟨rfl, HEF.out⟩
  · have hlevB : isLevB L = false := by unfold isLevB; simp only [decide_eq_false_iff_not]; exact hlev
    have CJ := Lib.hid (mv_JoinN (M := M0) (.slice ca n cp) L w2 hlev)
    have CI := Lib.hid (fun W => law_inner23 L W)
    rw [hlevB] at CI
    clear hlev hlevB
    go_wp2_with (fail)
    refine CJ.out.mono ?_
    rintro e w3 ⟨x, rfl, hx, he3⟩
    have hEa := (Ext.refl w3).alloc (.cells (peA x) 34)
    have HPX : Hid (P4 (w3.alloc (.cells (peA x) 34)) w3.heap.size x) := (Blk.of_arr w3 (peA x) 34 4 rfl).p4
    have CIS := Lib.hid (law_is M0 x [] [] (.slice none 0 0) 0 _ (mb0 _) (hx.ext hEa) (polyV_nil _ _) rfl (by decide) (by decide) (fun m hm => absurd rfl hm) (by decide))
    have HEE := Lib.hid (HE2.out.trans (he3.trans hEa))
    clear hx he3 hEa CJ
    go_upto_region 7 with (fail)
    generalize hgp : w3.heap.size = gp at *
    generalize w3.alloc (.cells (peA x) 34) = W3 at *
    clear hgp
    obtain ⟨y0, y1, y2, y3⟩ := HPX.out
    have hgl := World.block_lt_of_cell? _ _ y0
    go_wp2_with (fail)
    refine (CI.out _).mono ?_
    rintro e w4 ⟨rfl, rfl⟩
    clear CI
    go_wp2_with (fail)
    refine CIS.out.mono ?_
    rintro e w5 ⟨rfl, he5⟩
    have HEF := Lib.hid (HEE.out.trans he5)
    clear he5 CIS y0 y1 y2 y3
    go_wp2
    go_ret
    exact ⟨rfl, HEF.out⟩
end Go.Proofs.YtgppogaoilijcaaGreat
