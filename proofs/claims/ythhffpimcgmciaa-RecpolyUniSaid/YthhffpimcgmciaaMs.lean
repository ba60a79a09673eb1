/- The level of a canonical polynomial is that of its monomials. The law RecpolyOf returns true at every input, without a panic, and leaves its arguments as they were; no conditions. -/
import Derived.Test.YthhffpimcgmciaaMp
import Derived.Test.YthhffpimcgmciaaMr
import Derived.Test.YthhffpimcgmciaaMi
set_option linter.unusedVariables false
set_option linter.unusedSimpArgs false

namespace Go.Proofs.Ythhffpimcgmciaa
open Go.RowKit

theorem le_hiU {m : Mo} {j : Nat} (h1 : 1 ≤ j) (hp : 0 < m.get j) : ∀ {k : Nat}, j ≤ k → j ≤ hiU m k
  | 0, h => by omega
  | k + 1, h => by
    unfold hiU
    split
    · exact h
    · rename_i hn
      have : j ≠ k + 1 := fun e => hn (e ▸ hp)
      exact le_hiU h1 hp (by omega)
theorem hiU_le_of {m : Mo} {j : Nat} (h : ∀ k, j < k → k ≤ 4 → m.get k ≤ 0) : ∀ {k : Nat}, k ≤ 4 → hiU m k ≤ j
  | 0, _ => Nat.zero_le _
  | k + 1, hk => by
    unfold hiU
    split
    · rename_i hp
      refine Classical.byContradiction fun hc => ?_
      have := h (k + 1) (by omega) hk
      omega
    · exact hiU_le_of h (by omega)
theorem lvM_le_of {j : Nat} (l : List Mo) (h : ∀ m ∈ l, hiU m 4 ≤ j) : lvM l ≤ j := by
  suffices g : ∀ (l : List Mo) (k : Nat), k ≤ j → (∀ m ∈ l, hiU m 4 ≤ j) → l.foldl (fun h m => max h (hiU m 4)) k ≤ j from g l 0 (Nat.zero_le _) h
  intro l
  induction l with
  | nil => intro k hk _; exact hk
  | cons m l ih => intro k hk hm; exact ih _ (by have := hm m (List.mem_cons_self ..); show max k (hiU m 4) ≤ j; omega) (fun m hm' => hm m (List.mem_cons_of_mem _ hm'))
theorem le_lvM {l : List Mo} {m : Mo} (h : m ∈ l) : hiU m 4 ≤ lvM l := by
  suffices g : ∀ (l : List Mo) (k : Nat), k ≤ l.foldl (fun h m => max h (hiU m 4)) k ∧ ∀ m ∈ l, hiU m 4 ≤ l.foldl (fun h m => max h (hiU m 4)) k from (g l 0).2 m h
  intro l
  induction l with
  | nil => intro k; exact ⟨Nat.le_refl _, fun m hm => by cases hm⟩
  | cons m l ih =>
    intro k
    have h1 := ih (max k (hiU m 4))
    have h2 : max k (hiU m 4) ≤ (m :: l).foldl (fun h m => max h (hiU m 4)) k := h1.1
    refine ⟨by omega, fun q hq => ?_⟩
    rcases List.mem_cons.1 hq with rfl | hq
    · omega
    · exact h1.2 q hq
/-- the leading coefficient shows the level -/
theorem can_top {d : Nat} {t : RT (d + 1)} (h : isCan (d + 1) t = true) (ho : okT (d + 1) t) (hl : t.1 ≠ 0) : ∃ m, coefAt (terms (d + 1) t) m ≠ 0 ∧ 0 < m.get t.1.toNat := by
  obtain ⟨g1, g2, g3, g4, g5, g6⟩ := can_node h hl
  rw [terms_node g1.1 g1.2]
  have hlow : ∀ i, i < t.2.2.1 → Low (t.1.toNat - 1) (terms d (t.2.2.2 i)) := fun i hi => kid_low h hl i hi
  obtain ⟨m, hm⟩ := can_zero _ _ (g5 (t.2.2.1 - 1) (by omega)).2 (ho.2 _ (by omega)) g6
  have hm0 : m.get t.1.toNat = 0 := Classical.byContradiction fun hc => hm ((hlow _ (by omega)).coef (k := t.1.toNat) (by omega) (by omega) hc)
  refine ⟨Mo.add m (xp t.1.toNat ((t.2.2.1 - 1 : Nat) : Int)), ?_, ?_⟩
  · rw [coef_kid (by omega) (by omega) hlow _ (by omega) m hm0]; exact hm
  · rw [get_add, get_xp _ _ _ (by omega) (by omega), if_pos rfl, hm0]; omega
theorem coefAt_of_mem : ∀ {l : List Tm}, Canon l → ∀ {s : Tm}, s ∈ l → coefAt l s.2 = s.1
  | t :: l, h, s, hs => by
    rcases List.mem_cons.1 hs with rfl | hs
    · exact h.coef_head
    · have h1 := coefAt_of_mem h.tail hs
      have h2 := Mo.lt_ne (h.head s hs)
      simp only [coefAt]
      rw [if_neg (fun e => h2 e.symm), h1]; omega
theorem CRx.level {M : Nat → Prop} {w : World} {x : PE} {l : List Tm} (h : CRx M w 4 x (norm l)) : x.lv = (lvM ((norm l).map (·.2)) : Nat) := by
  obtain ⟨t, h1, h2, h3, h4⟩ := h
  obtain ⟨e0, _⟩ := h1.form
  simp only [Value.int.injEq, true_and] at e0
  have hlv := can_lev h2
  have hlow := can_low 5 t h2
  have hcan := norm_canon l
  suffices hs : lvM ((norm l).map (·.2)) = t.1.toNat by rw [e0, hs]; omega
  refine Nat.le_antisymm (lvM_le_of _ fun m hm => ?_) ?_
  · obtain ⟨s, hs, rfl⟩ := List.mem_map.1 hm
    refine hiU_le_of (fun k hk hk4 => ?_) (Nat.le_refl _)
    refine Classical.byContradiction fun hc => ?_
    have hne : coefAt (terms 5 t) s.2 ≠ 0 := by
      rw [h4]
      have := coefAt_of_mem hcan hs
      rw [this]
      exact (hcan.2 s hs).1
    exact hne (hlow.coef (k := k) hk hk4 (by omega))
  · by_cases h0 : t.1 = 0
    · rw [h0]; exact Nat.zero_le _
    · obtain ⟨m, hm, hp⟩ := can_top h2 h1.ok h0
      rw [h4] at hm
      have hmem : m ∈ (norm l).map (·.2) := by
        refine Classical.byContradiction fun hc => hm (coefAt_zero fun s hs e => hc (List.mem_map.2 ⟨s, hs, e⟩))
      exact Nat.le_trans (le_hiU (by omega) hp (by omega)) (le_lvM hmem)
end Go.Proofs.Ythhffpimcgmciaa

namespace Go.Proofs.Ythhffpimcgmciaa
open Go.ChangeShapes Go.WideShapes Go.ChangeAt Go.RowKit Go.Deep

theorem law_few (a : Option Addr) (n cap : Nat) (X : Nat → TE) (w : World) (h : TRaw w a n cap X) (hX : ∀ i, i < n → (X i).n ≤ 9223372036854775807) : Calls Try.prog 19 #[.slice a n cap] w (RetB (FewP n X 8 6 6) w) := by
  have ctr := rf_fewp a n cap X 8 6 6 w h hX
  rw [show ((8 : Nat) : Int) = 8 from rfl, show ((6 : Nat) : Int) = 6 from rfl] at ctr
  have CTR := Lib.hid ctr
  clear ctr h hX
  go_enter Try.func19, Try.ntmps19
  go_wp2_with (fail)
  refine CTR.out.mono ?_
  rintro e w1 ⟨b, rfl, hb, rfl⟩
  have HB := Lib.hid hb
  clear hb
  go_wp2
  go_ret
  exact ⟨b, rfl, HB.out, rfl⟩
theorem deg_of_exp {l : List Tm} {B : Nat} (h : ∀ s ∈ l, ∀ k, s.2.get k ≤ (B : Int)) : Deg B (norm l) := by
  intro m hm k
  refine Classical.byContradiction fun hc => hm (coefAt_zero fun s hs e => ?_)
  obtain ⟨t, ht, e2⟩ := norm_mem hs
  have := h t ht k
  rw [e2, e] at this
  omega
set_option maxRecDepth 100000 in
set_option maxHeartbeats 8000000 in
theorem law_of (a : Option Addr) (n cap : Nat) (X : Nat → TE) (w : World) (h : PRaw w a n cap X) : Calls Try.prog 4 #[.slice a n cap] w fun e w' => e = .returned (.bool true) ∧ Ext w w' := by
  have HR := Lib.hid h
  clear h
  go_enter Try.func4, Try.ntmps4
  go_wp2_with (fail)
  refine (law_fit _).mono ?_
  rintro e w1 ⟨rfl, he1⟩
  go_wp2_with (fail)
  refine (law_few a n cap X w1 (HR.out.1.ext he1) HR.out.2.1).mono ?_
  rintro e w2 ⟨b, rfl, hb, rfl⟩
  cases b with
  | false =>
    clear hb
    go_wp2
    go_ret
    exact ⟨rfl, he1⟩
  | true =>
    obtain ⟨l, hl, hlen, hdl, hexp⟩ := HR.out.poly (hb.1 rfl) (by omega) (by omega)
    have HP := Lib.hid (hl.ext he1)
    have HEX : Hid (∀ s ∈ l, ∀ k, s.2.get k ≤ ((6 : Nat) : Int)) := fun s hs k => (hexp s hs k).1
    have HEX2 : Hid (∀ s ∈ l, ∀ k, s.2.get k ≤ 1073741824) := fun s hs k => by have := (hexp s hs k).1; omega
    have HD : Hid (dlen (nrm l) ≤ 1099511627776) := Nat.le_trans hdl (by omega)
    have HDN : Hid (dlen (nrm (norm l)) ≤ 1099511627776) := Nat.le_trans (dlen_mono (norm_nrm l)) HD.out
    have HDG : Hid (Deg 6 (norm l)) := deg_of_exp HEX.out
    clear hb hl hlen hdl hexp HR
    go_wp2_with (fail)
    refine (rp_Of M0 _ l w1 (mb0 _) HP.out HD.out HEX2.out).mono ?_
    rintro e w2 ⟨y, rfl, hy, he2⟩
    have hE2 := he1.trans he2
    have hB := (Blk.of_arr w2 (peA y) 31 4 rfl).p4
    have hE3 : Ext w2 (w2.alloc (.cells (peA y) 31)) := (Ext.refl w2).alloc _
    have hlv := hy.level
    have hyw := hy.ext hE3
    generalize hW0 : w2.alloc (.cells (peA y) 31) = W0 at hB hE3 hyw
    have HW0 : Hid (w2.alloc (.cells #[.int .i64 y.lv, .bool y.b, .slice y.a y.n y.p, .slice y.ka y.kn y.kp] 31) = W0) := hW0
    have HS : Hid (P4 W0.drew w2.heap.size y) := hB.ext (Ext.refl W0).drew
    have HY := Lib.hid (hyw.ext (Ext.refl W0).drew)
    have HE := Lib.hid ((hE2.trans hE3).trans (Ext.refl W0).drew)
    have HPD := Lib.hid (HP.out.ext ((he2.trans hE3).trans (Ext.refl W0).drew))
    have HLV := Lib.hid hlv
    obtain ⟨t, hRR, hTB, hSim⟩ := HY.out.tb (Nat.le_refl _) HDN.out HDG.out (by decide)
    have HRR := Lib.hid hRR
    have HTB := Lib.hid hTB
    have HSM := Lib.hid hSim
    clear hW0 hB hE3 hyw hlv hy he1 he2 hE2 HP hRR hTB hSim
    go_upto_region 6 with (fail)
    rw [HW0.out]
    refine wp_region_u (fun w' => P4 w' w2.heap.size y) 17 (by kernel_rfl) HS.out (fun hHeld => ?_)
    ((refine wpAnyU_take 0 (oi := ?_) (v := ?_) (by kernel_rfl) (by kernel_rfl) (by kernel_rfl) (by kernel_rfl) (by first | exact hSn | exact hHeld) ?_ ?_ ?_ ?_ ?_; rotate_left 2; (simp only [List.getElem?_toArray, List.getElem?_cons_succ, List.getElem?_cons_zero]; rfl); rfl; (intro wS hSw; obtain ⟨S1, S2, S3, S4⟩ := hSw; go_simp; try with_reducible rfl); (exact fun _ _ _ h => h); (try simp only [Act.put, List.setIfInBounds_toArray, List.set_cons_zero, List.set_cons_succ])); (refine wpAnyU_take 1 (oi := ?_) (v := ?_) (by kernel_rfl) (by kernel_rfl) (by kernel_rfl) (by kernel_rfl) (by first | exact hSn | exact hHeld) ?_ ?_ ?_ ?_ ?_; rotate_left 2; (simp only [List.getElem?_toArray, List.getElem?_cons_succ, List.getElem?_cons_zero]; rfl); rfl; (intro wS hSw; obtain ⟨S1, S2, S3, S4⟩ := hSw; go_simp; try with_reducible rfl); (exact fun _ _ _ h => h); (try simp only [Act.put, List.setIfInBounds_toArray, List.set_cons_zero, List.set_cons_succ])))
    ((refine wpAnyU_one 2 (o := ?_) (by kernel_rfl) ?_ ?_; rotate_left 1; (simp only [List.getElem?_toArray, List.getElem?_cons_succ, List.getElem?_cons_zero]; rfl); intro K hK); go_simp; (refine (law_canonical M0 y (norm l) l _ 6 _ (mb0 _) HY.out HPD.out (norm_norm l).symm HDN.out HD.out HDG.out (by decide)).mono ?_); rintro e_ wz ⟨rfl, he1⟩; go_wp2_with (fail); (try clear hSn); (have hSn := hHeld.ext he1); (refine hK.out _ _ (fun _ => hSn) ?_); clear hK K; (try simp only [Act.put, List.setIfInBounds_toArray, List.set_cons_zero, List.set_cons_succ]))
    ((refine wpAnyU_take 3 (oi := ?_) (v := ?_) (by kernel_rfl) (by kernel_rfl) (by kernel_rfl) (by kernel_rfl) (by first | exact hSn | exact hHeld) ?_ ?_ ?_ ?_ ?_; rotate_left 2; (simp only [List.getElem?_toArray, List.getElem?_cons_succ, List.getElem?_cons_zero]; rfl); rfl; (intro wS hSw; obtain ⟨S1, S2, S3, S4⟩ := hSw; go_simp; try with_reducible rfl); (exact fun _ _ _ h => h); (try simp only [Act.put, List.setIfInBounds_toArray, List.set_cons_zero, List.set_cons_succ])); (refine wpAnyU_take 4 (oi := ?_) (v := ?_) (by kernel_rfl) (by kernel_rfl) (by kernel_rfl) (by kernel_rfl) (by first | exact hSn | exact hHeld) ?_ ?_ ?_ ?_ ?_; rotate_left 2; (simp only [List.getElem?_toArray, List.getElem?_cons_succ, List.getElem?_cons_zero]; rfl); rfl; (intro wS hSw; obtain ⟨S1, S2, S3, S4⟩ := hSw; go_simp; try with_reducible rfl); (exact fun _ _ _ h => h); (try simp only [Act.put, List.setIfInBounds_toArray, List.set_cons_zero, List.set_cons_succ])); (refine wpAnyU_take 5 (oi := ?_) (v := ?_) (by kernel_rfl) (by kernel_rfl) (by kernel_rfl) (by kernel_rfl) (by first | exact hSn | exact hHeld) ?_ ?_ ?_ ?_ ?_; rotate_left 2; (simp only [List.getElem?_toArray, List.getElem?_cons_succ, List.getElem?_cons_zero]; rfl); rfl; (intro wS hSw; obtain ⟨S1, S2, S3, S4⟩ := hSw; go_simp; try with_reducible rfl); (exact fun _ _ _ h => h); (try simp only [Act.put, List.setIfInBounds_toArray, List.set_cons_zero, List.set_cons_succ])); (refine wpAnyU_take 6 (oi := ?_) (v := ?_) (by kernel_rfl) (by kernel_rfl) (by kernel_rfl) (by kernel_rfl) (by first | exact hSn | exact hHeld) ?_ ?_ ?_ ?_ ?_; rotate_left 2; (simp only [List.getElem?_toArray, List.getElem?_cons_succ, List.getElem?_cons_zero]; rfl); rfl; (intro wS hSw; obtain ⟨S1, S2, S3, S4⟩ := hSw; go_simp; try with_reducible rfl); (exact fun _ _ _ h => h); (try simp only [Act.put, List.setIfInBounds_toArray, List.set_cons_zero, List.set_cons_succ])))
    ((refine wpAnyU_one 7 (o := ?_) (by kernel_rfl) ?_ ?_; rotate_left 1; (simp only [List.getElem?_toArray, List.getElem?_cons_succ, List.getElem?_cons_zero]; rfl); intro K hK); go_simp; (refine (sp_level M0 _ l _ (mb0 _) (HPD.out.ext he1) HD.out).mono ?_); rintro e_ wz ⟨rfl, he2⟩; go_wp2_with (fail); (try clear hSn); (have hSn := hHeld.ext (he1.trans he2)); (refine hK.out _ _ (fun _ => hSn) ?_); clear hK K; (try simp only [Act.put, List.setIfInBounds_toArray, List.set_cons_zero, List.set_cons_succ]))
    have hq : (y.lv == ((lvM ((norm l).map (·.2)) : Nat) : Int)) = true := by rw [HLV.out]; simp
    have hE2 := he1.trans he2
    clear he1 he2
    ((refine wpAnyU_take 8 (oi := ?_) (v := ?_) (by kernel_rfl) (by kernel_rfl) (by kernel_rfl) (by kernel_rfl) (by first | exact hSn | exact hHeld) ?_ ?_ ?_ ?_ ?_; rotate_left 2; (simp only [List.getElem?_toArray, List.getElem?_cons_succ, List.getElem?_cons_zero]; rfl); rfl; (intro wS hSw; obtain ⟨S1, S2, S3, S4⟩ := hSw; go_simp; try with_reducible rfl); (exact fun _ _ _ h => h); (try simp only [Act.put, List.setIfInBounds_toArray, List.set_cons_zero, List.set_cons_succ])); (refine wpAnyU_take 9 (oi := ?_) (v := ?_) (by kernel_rfl) (by kernel_rfl) (by kernel_rfl) (by kernel_rfl) (by first | exact hSn | exact hHeld) ?_ ?_ ?_ ?_ ?_; rotate_left 2; (simp only [List.getElem?_toArray, List.getElem?_cons_succ, List.getElem?_cons_zero]; rfl); rfl; (intro wS hSw; obtain ⟨S1, S2, S3, S4⟩ := hSw; go_simp; try with_reducible rfl); (exact fun _ _ _ h => h); (try simp only [Act.put, List.setIfInBounds_toArray, List.set_cons_zero, List.set_cons_succ])); (refine wpAnyU_take 10 (oi := ?_) (v := ?_) (by kernel_rfl) (by kernel_rfl) (by kernel_rfl) (by kernel_rfl) (by first | exact hSn | exact hHeld) ?_ ?_ ?_ ?_ ?_; rotate_left 2; (simp only [List.getElem?_toArray, List.getElem?_cons_succ, List.getElem?_cons_zero]; rfl); rfl; (intro wS hSw; obtain ⟨S1, S2, S3, S4⟩ := hSw; go_simp; try with_reducible rfl); (exact fun _ _ _ h => h); (try simp only [Act.put, List.setIfInBounds_toArray, List.set_cons_zero, List.set_cons_succ])); (refine wpAnyU_take 11 (oi := ?_) (v := ?_) (by kernel_rfl) (by kernel_rfl) (by kernel_rfl) (by kernel_rfl) (by first | exact hSn | exact hHeld) ?_ ?_ ?_ ?_ ?_; rotate_left 2; (simp only [List.getElem?_toArray, List.getElem?_cons_succ, List.getElem?_cons_zero]; rfl); rfl; (intro wS hSw; obtain ⟨S1, S2, S3, S4⟩ := hSw; go_simp; try with_reducible rfl); (exact fun _ _ _ h => h); (try simp only [Act.put, List.setIfInBounds_toArray, List.set_cons_zero, List.set_cons_succ])); (refine wpAnyU_take 13 (oi := ?_) (v := ?_) (by kernel_rfl) (by kernel_rfl) (by kernel_rfl) (by kernel_rfl) (by first | exact hSn | exact hHeld) ?_ ?_ ?_ ?_ ?_; rotate_left 2; (simp only [List.getElem?_toArray, List.getElem?_cons_succ, List.getElem?_cons_zero]; rfl); rfl; (intro wS hSw; obtain ⟨S1, S2, S3, S4⟩ := hSw; go_simp; try with_reducible rfl); (exact fun _ _ _ h => h); (try simp only [Act.put, List.setIfInBounds_toArray, List.set_cons_zero, List.set_cons_succ])))
    ((refine wpAnyU_one 12 (o := ?_) (by kernel_rfl) ?_ ?_; rotate_left 1; (simp only [List.getElem?_toArray, List.getElem?_cons_succ, List.getElem?_cons_zero]; rfl); intro K hK); go_simp; (refine (rp_To M0 5 t y _ (mb0 _) (RR.ext HRR.out hE2) HTB.out).mono ?_); rintro e_ wz ⟨u, rfl, hu, he3⟩; go_wp2_with (fail); (try clear hSn); (have hSn := hHeld.ext (hE2.trans he3)); (refine hK.out _ _ (fun _ => hSn) ?_); clear hK K; (try simp only [Act.put, List.setIfInBounds_toArray, List.set_cons_zero, List.set_cons_succ]))
    have HU := Lib.hid hu
    have HPZ := Lib.hid (HPD.out.ext (hE2.trans he3))
    have HNN : Hid (norm (norm (terms 5 t)) = norm l) := by show _ = _; rw [norm_norm, HSM.out.norm, norm_norm]
    have HND : Hid (dlen (nrm (norm (terms 5 t))) ≤ 1099511627776) := Nat.le_trans (dlen_mono (norm_nrm _)) HTB.out.2.2.1
    have hE3 := hE2.trans he3
    have ctr := sp_same M0 u _ (norm (terms 5 t)) l _ (mb0 _) HU.out.toV HPZ.out HND.out HD.out
    rw [decide_eq_true HNN.out] at ctr
    have CTR := Lib.hid ctr
    clear ctr hu hE2 he3 hq
    ((refine wpAnyU_one 14 (o := ?_) (by kernel_rfl) ?_ ?_; rotate_left 1; (simp only [List.getElem?_toArray, List.getElem?_cons_succ, List.getElem?_cons_zero]; rfl); intro K hK); go_simp; (refine (CTR.out).mono ?_); rintro e_ wz ⟨rfl, he4⟩; go_wp2_with (fail); (try clear hSn); (have hSn := hHeld.ext (hE3.trans he4)); (refine hK.out _ _ (fun _ => hSn) ?_); clear hK K; (try simp only [Act.put, List.setIfInBounds_toArray, List.set_cons_zero, List.set_cons_succ]))
    ((refine wpAnyU_take 15 (oi := ?_) (v := ?_) (by kernel_rfl) (by kernel_rfl) (by kernel_rfl) (by kernel_rfl) (by first | exact hSn | exact hHeld) ?_ ?_ ?_ ?_ ?_; rotate_left 2; (simp only [List.getElem?_toArray, List.getElem?_cons_succ, List.getElem?_cons_zero]; rfl); rfl; (intro wS hSw; obtain ⟨S1, S2, S3, S4⟩ := hSw; go_simp; try with_reducible rfl); (exact fun _ _ _ h => h); (try simp only [Act.put, List.setIfInBounds_toArray, List.set_cons_zero, List.set_cons_succ])))
    (refine wpAnyU_one 16 (o := ?_) (by kernel_rfl) ?_ ?_; rotate_left 1; (simp only [List.getElem?_toArray, List.getElem?_cons_succ, List.getElem?_cons_zero]; rfl); intro K hK)
    go_simp
    refine hK.out _ _ (fun _ => hSn) ?_
    clear hK K
    (try simp only [Act.put, List.setIfInBounds_toArray, List.set_cons_zero, List.set_cons_succ])
    refine wpAnyU_done (by kernel_rfl) ?_ _
    have HEF := Lib.hid (HE.out.trans (hE3.trans he4))
    clear hE3 he4 hSn hHeld
    go_wp2
    go_ret
    exact ⟨rfl, HEF.out⟩
namespace recpolyOf
theorem own : ownKnob Try.prog.godebug = none := by kernel_rfl
set_option maxRecDepth 100000 in
theorem contract (H : Type) (enc : TypeId × Value → H) (W : World) (base : Nat) (args : Array Value) (ds gs : List (DataW H)) (before : List MemPlace)
    (hval : ∀ (j : Nat) t v, Try.f4.params[j]? = some t → args[j]? = some v → Value.okWide Try.prog W .any base t v)
    (hW : DataW.Whole enc Try.prog Try.f4.params.toList Rows.recpolyOfSpec.vars false W args.toList ds gs before) :
    Calls Try.prog 4 args W fun e W' => ∃ v, e = .returned v ∧ Rows.recpolyOfSpec.post enc Try.prog Try.f4 false true false false W args v W' := by
  have hW' := hW
  obtain ⟨p, q, hA0, hV, rfl, hfz, hnd⟩ := hW
  have hA : DataW.TrodAll enc Try.prog W 0 (fun _ => true) true Try.f4.params.toList args.toList ds p := hA0
  rw [Try.params4] at hA hval
  obtain ⟨v0, vs0, d0, ds0, p0, q0, hargs, rfl, rfl, h0, r0⟩ := trodAll_cons hA
  obtain ⟨rfl, rfl, rfl⟩ := trodAll_nil r0
  obtain rfl : args = #[v0] := by cases args; simp_all
  obtain ⟨rfl, rfl⟩ := trodVars_none hV
  obtain ⟨a0, n0, c0, X0, rfl, g0⟩ := open_poly (hval 0 36 v0 rfl rfl) h0
  refine (law_of a0 n0 c0 X0 W g0).mono fun e W' ⟨he, hg⟩ => ?_
  subst he
  refine ⟨_, rfl, post_true (tb := 4) (by kernel_rfl) ?_ rfl rfl (by kernel_rfl) Try.underlying4 hW' hg⟩
  rw [Try.params4]
  intro t ht
  simp only [List.mem_cons, List.not_mem_nil, or_false, or_self] at ht
  subst ht
  exact ⟨by kernel_rfl, of_decide_eq_true (by kernel_rfl)⟩
set_option maxRecDepth 100000 in
theorem lifted (os : Os) (started : os.Started) (H : Type) (enc : TypeId × Value → H) :
    ReturnsInHanded {} Try.checked os 4 .any (Rows.recpolyOfSpec.pre6 enc Try.prog Try.f4 Rows.recpolyOfRow.domain false) (Rows.recpolyOfSpec.post enc Try.prog Try.f4 false true false false) := by
  refine returnsInHanded_of_change (C := Try.checked) own started (by kernel_rfl) Try.func4
    (ChangeSpec.witness6 (enc := enc) (C := Try.checked) false ⟨#[], #[.slice none 0 0], []⟩ 8 (by kernel_rfl) (by kernel_rfl) (by kernel_rfl) (by kernel_rfl)) ?_
  intro W base args ds gs before hval hW _ _
  exact contract H enc W base args ds gs before hval hW
theorem proved : Rows.RecpolyOfSaid :=
  OpenClaim.holds_of_wide (p := Try.pinned) (s := Rows.recpolyOfSpec) (c := Rows.recpolyOfRow) 4 Try.f4 rfl rfl rfl rfl rfl rfl rfl ⟨rfl, rfl, rfl, rfl, rfl⟩ rfl rfl rfl rfl rfl (by kernel_rfl) Try.func4 (by kernel_rfl)
    (of_decide_eq_true (by kernel_rfl)) (by unfold Func.isWrapper; first | (rw [if_pos (by decide +kernel)]; kernel_rfl) | (rw [if_neg (by decide +kernel)]; exact ⟨rfl, rfl⟩))
    (fun os started H enc _ => lifted os started H enc)
end recpolyOf
end Go.Proofs.Ythhffpimcgmciaa
