/- mainvar.OfLevel; cylinderlaw23.equal. MainvarOfLevel: the walk. -/
import Derived.Test.YtgppogaoilijcaaGreatDl
set_option linter.unusedVariables false
set_option linter.unusedSimpArgs false

namespace Go.Proofs.YtgppogaoilijcaaGreat
open Go.RowKit

def SK2 (b1 o1 b2 o2 : Nat) (x y : PE) (w : World) : Prop := KCell w b1 o1 x ∧ KCell w b2 o2 y
theorem SK2.ext {b1 o1 b2 o2 : Nat} {x y : PE} {w w' : World} (h : SK2 b1 o1 b2 o2 x y w) (he : Ext w w') : SK2 b1 o1 b2 o2 x y w' := ⟨h.1.ext (World.block_lt_of_cell? _ _ h.1.1) he, h.2.ext (World.block_lt_of_cell? _ _ h.2.1) he⟩
theorem law_equalP (M : Nat → Prop) (a b : Option Addr) (n p q : Nat) (F G : Nat → List Tm) (w : World) (h : KRow M w 4 (.slice a n p) n F) (h' : KRow M w 4 (.slice b n q) n G) (hs : ∀ i, i < n → simB (F i) (G i) = true) : Calls Tryz.prog 44 #[.slice a n p, .slice b n q] w fun e w' => e = .returned (.bool true) ∧ Ext w w' := by
  have hnL : n ≤ 1099511627776 := h.1
  have HF := Lib.hid h
  have HG := Lib.hid h'
  have HS := Lib.hid hs
  clear h h' hs
  go_enter Tryz.func44, Tryz.ntmps44
  go_wp2
  go_loopw [13] (fun i wr => ∃ k : Nat, k ≤ n ∧ i = .int .i64 k ∧ Hid (Ext w wr)) (fun i _ => n - (intOf i).toNat)
  case atStart => exact ⟨0, Nat.zero_le _, rfl, Ext.refl _⟩
  case round =>
    obtain ⟨k, hk, rfl, HE⟩ := hrel
    by_cases hlt : k < n
    · obtain ⟨b1, o1, rfl, _, _, hb1, _, e0, e1, e2, e3, c0, c1, c2, c3, hc⟩ := HF.out.at k hlt
      obtain ⟨x, rfl, rfl, rfl, rfl, hx, _⟩ := CR.pe hc
      obtain ⟨b2, o2, rfl, _, _, hb2, _, e0, e1, e2, e3, d0, d1, d2, d3, hd⟩ := HG.out.at k hlt
      obtain ⟨y, rfl, rfl, rfl, rfl, hy, _⟩ := CR.pe hd
      have hltI : (k : Int) < (n : Int) := by omega
      have HLT := Lib.hid hlt
      have hS : SK2 b1 (o1 + k * 4) b2 (o2 + k * 4) x y wr.drew := SK2.ext ⟨⟨c0, c1, c2, c3⟩, ⟨d0, d1, d2, d3⟩⟩ (HE.out.trans (Ext.refl wr).drew)
      have HB1 : Hid (b1 < wr.heap.size ∧ b2 < wr.heap.size) := ⟨Nat.lt_of_lt_of_le hb1 HE.out.size, Nat.lt_of_lt_of_le hb2 HE.out.size⟩
      have CE := Lib.hid (fun W (he : Ext w W) => rf_equal 4 M (F k) (G k) x y W ((hx : CRx M w 4 x (F k)).ext he) ((hy : CRx M w 4 y (G k)).ext he))
      have HSK := Lib.hid (HS.out k hlt)
      clear c0 c1 c2 c3 d0 d1 d2 d3 hc hd hx hy hb1 hb2
      go_upto_region 6 with (fail)
      refine wp_region_u (SK2 b1 (o1 + k * 4) b2 (o2 + k * 4) x y) 10 (by kernel_rfl) hS (fun hHeld => ?_)
      have HE2 := Lib.hid (HE.out.trans (Ext.refl wr).drew)
      clear hS HE
      generalize wr.drew = wd at *
      (refine tkB [0, 1, 2, 3, 4, 5, 6, 7] ?_; (iterate 8 (refine tk1 (oi := ?_) (v := ?_) (by kernel_rfl) (by first | exact hSn | exact hHeld) ?_ ?_ ?_ ?_ ?_; rotate_left 2; (simp only [List.getElem?_toArray, List.getElem?_cons_succ, List.getElem?_cons_zero]; rfl); rfl; (intro wS hSw; obtain ⟨⟨S1, S2, S3, S4⟩, S5, S6, S7, S8⟩ := hSw; go_simp; try with_reducible rfl); (exact fun _ _ _ h => h); (try simp only [Act.put, List.setIfInBounds_toArray, List.set_cons_zero, List.set_cons_succ]))); refine tkE ?_)
      ((refine wpAnyU_one 8 (o := ?_) (by kernel_rfl) ?_ ?_; rotate_left 1; (simp only [List.getElem?_toArray, List.getElem?_cons_succ, List.getElem?_cons_zero]; rfl); intro K hK); go_simp; (refine (CE.out _ HE2.out).mono ?_); rintro e_ w8 ⟨rfl, e8⟩; go_wp2_with (fail); (try clear hSn); (have hSn := hHeld.ext e8); (refine hK.out _ _ (fun _ => hSn) ?_); clear hK K; (try simp only [Act.put, List.setIfInBounds_toArray, List.set_cons_zero, List.set_cons_succ]))
      rw [HSK.out]
      (refine tkB [9] ?_; (iterate 1 (refine tk1 (oi := ?_) (v := ?_) (by kernel_rfl) (by first | exact hSn | exact hHeld) ?_ ?_ ?_ ?_ ?_; rotate_left 2; (simp only [List.getElem?_toArray, List.getElem?_cons_succ, List.getElem?_cons_zero]; rfl); rfl; (intro wS hSw; obtain ⟨⟨S1, S2, S3, S4⟩, S5, S6, S7, S8⟩ := hSw; go_simp; try with_reducible rfl); (exact fun _ _ _ h => h); (try simp only [Act.put, List.setIfInBounds_toArray, List.set_cons_zero, List.set_cons_succ]))); refine tkE ?_)
      refine wpAnyU_done (by kernel_rfl) ?_ _
      have HE3 := Lib.hid (HE2.out.trans e8)
      clear hHeld hSn e8 HE2 CE HSK
      go_wp2
      go_roundw
      case rel => exact ⟨k + 1, HLT.out, by go_num, HE3⟩
      case measure => have := HLT.out; simp [intOf]; omega
    · have hge : ¬ (k : Int) < (n : Int) := by omega
      have HE3 := Lib.hid HE.out
      clear HE
      go_wp2
      go_ret
      exact ⟨rfl, HE3.out⟩
def lvl (l : List Tm) : Nat := lvM (l.map (·.2))
def RetOl (M : Nat → Prop) (w : World) (N : Nat) (P : Nat → List Tm) (L : Int) (e : Ending) (w' : World) : Prop := ∃ (a : Option Addr) (c p : Nat) (σ : Nat → Nat), e = .returned (.slice a c p) ∧ Sel (fun i => decide ((lvl (norm (P i)) : Int) = L)) N c σ ∧ KRow M w' 4 (.slice a c p) c (fun i => norm (P (σ i))) ∧ Ext w w'
set_option maxRecDepth 100000 in
set_option maxHeartbeats 8000000 in
theorem mv_OfLevel (M : Nat → Prop) (a : Option Addr) (N cap : Nat) (P : Nat → List Tm) (L : Int) (w : World) (hM : Mb M w) (h : KRow M w 4 (.slice a N cap) N fun i => norm (P i)) : Calls Tryz.prog 51 #[.slice a N cap, .int .i64 L] w (RetOl M w N P L) := by
  obtain ⟨j0, ji, jz0, jz1, jz2⟩ := info_parts Tryz.info34
  have hNL : N ≤ 1099511627776 := h.1
  have HROW := Lib.hid h
  have HM := Lib.hid hM
  clear h hM
  go_enter Tryz.func51, Tryz.ntmps51
  go_wp2
  go_loopw [11, 5] (fun i v wr => ∃ (k c : Nat) (σ : Nat → Nat) (xx : Nat → PE), k ≤ N ∧ i = .int .i64 k ∧ Own wr w.heap.size 34 4 v c (px xx) ∧ Hid (∀ i, i < c → CRx (MR M v) wr 4 (xx i) (norm (P (σ i)))) ∧ Hid (Sel (fun i => decide ((lvl (norm (P i)) : Int) = L)) k c σ) ∧ Hid (Ext w wr)) (fun i _ _ => N - (intOf i).toNat)
  case atStart => exact ⟨0, 0, fun i => i, fun _ => PE.z, Nat.zero_le _, rfl, Own.nil _ _ _ _ _, fun i hi => absurd hi (Nat.not_lt_zero _), rfl, Ext.refl _⟩
  case round =>
    obtain ⟨k, c, σ, xx, hk, rfl, hO, HX, HS, HE⟩ := hrel
    obtain ⟨va, vc, rfl⟩ := hO.form
    have hcN : c ≤ 1099511627776 := by have := HS.out.len; omega
    by_cases hlt : k < N
    · obtain ⟨b, off, rfl, _, _, hb, _, e0, e1, e2, e3, c0, c1, c2, c3, hc⟩ := HROW.out.at k hlt
      obtain ⟨x, rfl, rfl, rfl, rfl, hx, _⟩ := CR.pe hc
      have hltI : (k : Int) < (N : Int) := by omega
      have HLT := Lib.hid hlt
      rw [← HE.out.cell hb] at c0 c1 c2 c3
      have hbw : b < wr.heap.size := Nat.lt_of_lt_of_le hb HE.out.size
      have hEa := (Ext.refl wr).alloc (.cells (peA x) 34)
      have HMR := Lib.hid (mr_own HM.out HE.out hO)
      have hxM : CRx (MR M (.slice va c vc)) (wr.alloc (.cells (peA x) 34)) 4 x (norm (P k)) := (((hx : CRx M w 4 x (norm (P k))).more (M' := MR M (.slice va c vc)) (fun b hb => hb.imp id fun h => (hO.lt b h).1)).ext HE.out).ext hEa
      have CN := Lib.hid (rp_Normal _ x _ _ (HMR.out.ext hEa) hxM.pi)
      have HEA := Lib.hid hEa
      have HO := Lib.hid hO
      clear hx hxM hc hEa hO
      go_wp2_with (fail)
      refine CN.out.mono ?_
      rintro e w2 ⟨y, rfl, hy, he2⟩
      have HYL : Hid (y.lv = (lvl (norm (P k)) : Int)) := hy.level
      have hEy := (Ext.refl w2).alloc (.cells (peA y) 34)
      have hPy := (Blk.of_arr w2 (peA y) 34 4 rfl).p4
      have HY := Lib.hid (hy.ext hEy)
      have HE2 := Lib.hid ((HEA.out.trans he2).trans hEy)
      clear hy he2 hEy CN c0 c1 c2 c3 HEA
      go_upto_region 6 with (fail)
      generalize hg2 : w2.heap.size = g2 at *
      generalize w2.alloc (.cells (peA y) 34) = W2 at *
      clear hg2
      obtain ⟨y0, y1, y2, y3⟩ := hPy
      have hg2 := World.block_lt_of_cell? _ _ y0
      by_cases hL : y.lv = L
      · have hLb : (y.lv == L) = true := by rw [hL]; simp
        have HS2 := Lib.hid (HS.out.take (by rw [← HYL.out, hL]; simp))
        have hO5 := (HO.out.ext HE2.out).ext ((Ext.refl W2).alloc (.cells (peA y) 34))
        have hB5 := Blk.of_arr W2 (peA y) 34 4 rfl
        have hsz5 : w.heap.size ≤ (W2.alloc (.cells (peA y) 34)).heap.size := by have := HE.out.size; have := HE2.out.size; simp; omega
        have HX5 : Hid (∀ i, i < c → CRx (MR M (.slice va c vc)) (W2.alloc (.cells (peA y) 34)) 4 (xx i) (norm (P (σ i)))) := fun i hi => ((HX.out i hi).ext HE2.out).ext ((Ext.refl W2).alloc _)
        have HZ5 := Lib.hid (HY.out.ext ((Ext.refl W2).alloc (.cells (peA y) 34)))
        have HE5 := Lib.hid ((HE.out.trans HE2.out).trans ((Ext.refl W2).alloc (.cells (peA y) 34)))
        have HLT5 := Lib.hid (HO.out.lt)
        have HONE : Hid (∀ j, j < 4 → (arr (peA y) j).oneCell' = true) := pe_one y
        clear HX HE HO HE2 HY HMR HS HYL hL
        go_wp2_with (at_builtin; refine wpList_append_fn _ rfl (.tmp 21) (.tmp 23) _ rfl w.heap.size 34 j0 _ 4 64 Tryz.underlying32 ji jz0 jz1 jz2 rfl (by omega) (.slice va c vc) c (px xx) rfl hO5 W2.heap.size 34 1 (arr (peA y)) rfl hB5 HONE.out ?s1 ?s2 ?s3 ?_)
        case s1 => unfold maxLen; omega
        case s2 => omega
        case s3 => simpa using hsz5
        intro gg cap2 w6 hO6 hg6 hat hlt6
        replace hat : (Value.slice va c vc).ownBlock = some gg ∨ (W2.alloc (.cells (peA y) 34)).heap.size ≤ gg := by rw [World.size_alloc]; exact hat
        have HF : Hid (∃ (k' c' : Nat) (σ' : Nat → Nat) (xx' : Nat → PE), k' ≤ N ∧ Value.int .i64 ((k : Int) + 1) = .int .i64 k' ∧ Own w6 w.heap.size 34 4 (.slice (some ⟨gg, 0, none⟩) (c + 1) cap2) c' (px xx') ∧ Hid (∀ i, i < c' → CRx (MR M (.slice (some ⟨gg, 0, none⟩) (c + 1) cap2)) w6 4 (xx' i) (norm (P (σ' i)))) ∧ Hid (Sel (fun i => decide ((lvl (norm (P i)) : Int) = L)) k' c' σ') ∧ Hid (Ext w w6)) := by
          refine ⟨k + 1, c + 1, snoc σ c k, snoc xx c y, HLT.out, by simp, hO6.congr fun j hj => px_app xx c y j hj, fun i hi => ?_, HS2.out, HE5.out.grown hg6 (fun q hq => (HLT5.out q hq).1)⟩
          by_cases him : i = c
          · subst him; rw [snoc_at, snoc_at]; exact keep_grownC HZ5.out hg6 hat
          · rw [snoc_lt _ _ _ _ (by omega), snoc_lt _ _ _ _ (by omega)]; exact keep_grownC (HX5.out i (by omega)) hg6 hat
        clear hO6 hg6 hat hO5 hB5 HX5 HZ5 HE5
        go_wp2
        go_roundw
        case rel => exact HF.out
        case measure => have := HLT.out; simp [intOf]; omega
      · have hLb : (y.lv == L) = false := by simp [hL]
        have HS2 := Lib.hid (HS.out.skip (by rw [← HYL.out]; simp [hL]))
        have hO2 := HO.out.ext HE2.out
        have HX2 : Hid (∀ i, i < c → CRx (MR M (.slice va c vc)) W2 4 (xx i) (norm (P (σ i)))) := fun i hi => (HX.out i hi).ext HE2.out
        have HEE := Lib.hid (HE.out.trans HE2.out)
        clear HX HS HE HO HE2 HY HMR HYL hL
        go_wp2
        go_roundw
        case rel => exact ⟨k + 1, c, σ, xx, HLT.out, by go_num, hO2, HX2, HS2, HEE⟩
        case measure => have := HLT.out; simp [intOf]; omega
    · obtain rfl : N = k := by omega
      have HF : Hid (RetOl M w N P L (.returned (.slice va c vc)) wr) := ⟨va, c, vc, σ, rfl, HS.out, Own.toK hO (fun i hi => ((HX.out i hi).more fun b hb => .inl (.inl hb))) (fun g hg hm => by have := HM.out g hm; omega) (by omega), HE.out⟩
      have hge : ¬ (N : Int) < (N : Int) := by omega
      clear HX HS HE hO
      go_wp2
      exact bodyPost_ret (v := .slice va c vc) (by simp [results, Tryz.results51, go_sem]) rfl HF.out
end Go.Proofs.YtgppogaoilijcaaGreat

namespace Go.Proofs.YtgppogaoilijcaaGreat
open Go.RowKit

theorem Sel.cnt {nz : Nat → Bool} {k c : Nat} {σ : Nat → Nat} (h : Sel nz k c σ) : c = ((List.range k).filter nz).length := by
  have := congrArg List.length h
  simpa using this
theorem Sel.uniq {nz : Nat → Bool} {k c c' : Nat} {σ σ' : Nat → Nat} (h : Sel nz k c σ) (h' : Sel nz k c' σ') : c = c' ∧ ∀ i, i < c → σ i = σ' i := by
  have hc : c = c' := by rw [h.cnt, h'.cnt]
  subst hc
  refine ⟨rfl, fun i hi => ?_⟩
  have e : (List.range c).map σ = (List.range c).map σ' := by unfold Sel at h h'; rw [h, h']
  have := congrArg (fun l => l[i]?) e
  simpa [hi] using this
def cntLt (P : Nat → Nat) (n k : Nat) : Nat := ((List.range n).filter fun i => decide (P i < k)).length
theorem cntLt_zero (P : Nat → Nat) (n : Nat) : cntLt P n 0 = 0 := by
  unfold cntLt
  rw [List.length_eq_zero_iff, List.filter_eq_nil_iff]
  intro i _; simp
theorem cntLt_all {P : Nat → Nat} {n k : Nat} (h : ∀ i, i < n → P i < k) : cntLt P n k = n := by
  unfold cntLt
  rw [List.filter_eq_self.2 (fun i hi => by simp; exact h i (by simpa using hi))]
  simp
theorem cntLt_succ (P : Nat → Nat) (n k : Nat) : cntLt P n (k + 1) = cntLt P n k + ((List.range n).filter fun i => decide (((P i : Nat) : Int) = (k : Int))).length := by
  unfold cntLt
  induction n with
  | zero => rfl
  | succ n ih =>
    rw [List.range_succ, List.filter_append, List.filter_append, List.filter_append, List.length_append, List.length_append, List.length_append, ih]
    by_cases h1 : P n < k
    · have h2 : P n < k + 1 := by omega
      have h3 : ¬ ((P n : Int) = (k : Int)) := by omega
      simp [h1, h2, h3]; omega
    · by_cases h4 : P n = k
      · have h2 : P n < k + 1 := by omega
        simp [h1, h2, h4]; omega
      · have h2 : ¬ P n < k + 1 := by omega
        have h3 : ¬ ((P n : Int) = (k : Int)) := by omega
        simp [h1, h2, h3]
theorem cntLt_le (P : Nat → Nat) (n k : Nat) : cntLt P n k ≤ n := by
  unfold cntLt
  exact Nat.le_trans (List.length_filter_le _ _) (by simp)
set_option maxRecDepth 100000 in
set_option maxHeartbeats 16000000 in
theorem law_ofLevel (a : Option Addr) (n cap : Nat) (Y : Nat → SE) (L : Int) (w : World) (h : PsRaw w a n cap Y) :
    Calls Tryz.prog 8 #[.slice a n cap, .int .i64 L] w fun e w' => e = .returned (.bool true) ∧ Ext w w' := by
  obtain ⟨j0, ji, jz0, jz1, jz2⟩ := info_parts Tryz.info34
  have HR := Lib.hid h
  have hcm := h.2.1
  have hnc := h.1
  have hnb : (n : Int) ≤ 9223372036854775807 := by unfold maxLen at hcm; omega
  clear h hcm
  go_enter Tryz.func8, Tryz.ntmps8
  go_wp2_with (fail)
  refine (law_fit23 _).mono ?_
  rintro e w1 ⟨rfl, he1⟩
  have HE1 := Lib.hid he1
  have HR1 : Hid (PsRaw w1 a n cap Y) := ⟨HR.out.1, HR.out.2.1, fun i hi => by
    obtain ⟨b, off, h1, h2, h3, X, h4, h5⟩ := HR.out.ext he1 i hi
    exact ⟨b, off, h1, h2, h3, X, h4, h5.2.1, fun j hj hL => by
      obtain ⟨d, hd⟩ := h5.2.2 j hj hL
      exact ⟨d, hd.ext he1⟩⟩⟩
  have CL := Lib.hid (law_list a n cap 8 Y w1 HR1.out (by omega))
  rw [show ((8 : Nat) : Int) = 8 from rfl] at CL
  clear he1
  go_wp2_with (fail)
  refine CL.out.mono ?_
  rintro e w2 ⟨hr, he2⟩
  have HE2 := Lib.hid (HE1.out.trans he2)
  rcases hr with rfl | ⟨ca, cp, P, rfl, hn8, hP, hK⟩
  · clear CL
    go_wp2
    go_ret
    exact ⟨rfl, HE2.out⟩
  have HP := Lib.hid hP
  have HK := Lib.hid hK
  have HE12 := Lib.hid he2
  have hnL : n ≤ 8 := hn8
  have HLV : Hid (∀ i, i < n → lvl (norm (P i)) < 5) := fun i hi => by
    obtain ⟨b, off, _, _, _, _, _, e0, e1, e2, e3, _, _, _, _, hcr⟩ := hK.at i hi
    obtain ⟨x, rfl, rfl, rfl, rfl, hx, _, _, h4⟩ := CR.pe hcr
    have := CRx.level (hx : CRx M0 w2 4 x (norm (P i)))
    show lvM _ < 5
    omega
  clear hP hK he2 CL hn8
  go_wp2
  go_loopw [23, 7] (fun i v wr => ∃ (k c : Nat) (σ : Nat → Nat) (xx : Nat → PE), k ≤ n ∧ i = .int .i64 k ∧ Own wr w2.heap.size 34 4 v c (px xx) ∧ Hid (∀ i, i < c → CRx (MR M0 v) wr 4 (xx i) (norm (P (σ i)))) ∧ Hid (Sel (fun i => decide ((lvl (norm (P i)) : Int) = L)) k c σ) ∧ Hid (Ext w2 wr)) (fun i _ _ => n - (intOf i).toNat)
  case atStart => exact ⟨0, 0, fun i => i, fun _ => PE.z, Nat.zero_le _, rfl, Own.nil _ _ _ _ _, fun i hi => absurd hi (Nat.not_lt_zero _), rfl, Ext.refl _⟩
  case round =>
    obtain ⟨k, c, σ, xx, hk, rfl, hO, HX, HS, HE⟩ := hrel
    obtain ⟨va, vc, rfl⟩ := hO.form
    have hcN : c ≤ 8 := by have := HS.out.len; omega
    by_cases hlt : k < n
    · obtain ⟨b, off, rfl, hbw, c0, X, hT, _⟩ := HR1.out.ext (HE12.out.trans HE.out) k hlt
      obtain ⟨b2, o2, rfl, _, _, hb2, _, e0, e1, e2, e3, d0, d1, d2, d3, hc⟩ := HK.out.at k hlt
      obtain ⟨x, rfl, rfl, rfl, rfl, hx, _⟩ := CR.pe hc
      have hltI : (k : Int) < (n : Int) := by omega
      have HLT := Lib.hid hlt
      obtain ⟨hpv, _, hdl, _⟩ := HP.out k hlt
      have CV := Lib.hid (sp_level M0 _ (P k) wr (mb0 _) (hpv.ext (HE12.out.trans HE.out)) hdl)
      have HXK : Hid (CRx (MR M0 (.slice va c vc)) w2 4 x (norm (P k))) := (hx : CRx M0 w2 4 x (norm (P k))).more (M' := MR M0 (.slice va c vc)) (fun b hb => hb.imp id fun h => (hO.lt b h).1)
      have HD : Hid (KCell w2 b2 (o2 + k * 4) x ∧ b2 < w2.heap.size) := ⟨⟨d0, d1, d2, d3⟩, hb2⟩
      have HO := Lib.hid hO
      clear hT hpv hdl hc hx d0 d1 d2 d3 hO hb2
      go_wp2_with (fail)
      refine CV.out.mono ?_
      rintro e w3 ⟨rfl, he3⟩
      have HE3 := Lib.hid he3
      change Hid (Ext wr w3) at HE3
      clear he3 CV c0
      by_cases hL : ((lvl (norm (P k)) : Nat) : Int) = L
      · have hLb : (((lvM ((norm (P k)).map (·.2)) : Nat) : Int) == L) = true := by simpa [lvl] using hL
        have HS2 := Lib.hid (HS.out.take (by simp [hL]))
        obtain ⟨d0, d1, d2, d3⟩ := HD.out.1.ext HD.out.2 (HE.out.trans HE3.out)
        have hb3 : b2 < w3.heap.size := Nat.lt_of_lt_of_le HD.out.2 (HE.out.trans HE3.out).size
        have hO5 := (HO.out.ext HE3.out).ext ((Ext.refl w3).alloc (.cells (peA x) 34))
        have hB5 := Blk.of_arr w3 (peA x) 34 4 rfl
        have hsz5 : w2.heap.size ≤ (w3.alloc (.cells (peA x) 34)).heap.size := by have := HE.out.size; have := HE3.out.size; simp; omega
        have HX5 : Hid (∀ i, i < c → CRx (MR M0 (.slice va c vc)) (w3.alloc (.cells (peA x) 34)) 4 (xx i) (norm (P (σ i)))) := fun i hi => ((HX.out i hi).ext HE3.out).ext ((Ext.refl w3).alloc _)
        have HZ5 := Lib.hid (HXK.out.ext ((HE.out.trans HE3.out).trans ((Ext.refl w3).alloc (.cells (peA x) 34))))
        have HE5 := Lib.hid ((HE.out.trans HE3.out).trans ((Ext.refl w3).alloc (.cells (peA x) 34)))
        have HLT5 := Lib.hid (HO.out.lt)
        have HONE : Hid (∀ j, j < 4 → (arr (peA x) j).oneCell' = true) := pe_one x
        clear HX HE HO HE3 HS hL HD HXK
        go_wp2_with (at_builtin; refine wpList_append_fn _ rfl (.tmp 32) (.tmp 37) _ rfl w2.heap.size 34 j0 _ 4 64 Tryz.underlying32 ji jz0 jz1 jz2 rfl (by omega) (.slice va c vc) c (px xx) rfl hO5 w3.heap.size 34 1 (arr (peA x)) rfl hB5 HONE.out ?s1 ?s2 ?s3 ?_)
        case s1 => unfold maxLen; omega
        case s2 => omega
        case s3 => simpa using hsz5
        intro gg cap2 w6 hO6 hg6 hat hlt6
        replace hat : (Value.slice va c vc).ownBlock = some gg ∨ (w3.alloc (.cells (peA x) 34)).heap.size ≤ gg := by rw [World.size_alloc]; exact hat
        have HF : Hid (∃ (k' c' : Nat) (σ' : Nat → Nat) (xx' : Nat → PE), k' ≤ n ∧ Value.int .i64 ((k : Int) + 1) = .int .i64 k' ∧ Own w6 w2.heap.size 34 4 (.slice (some ⟨gg, 0, none⟩) (c + 1) cap2) c' (px xx') ∧ Hid (∀ i, i < c' → CRx (MR M0 (.slice (some ⟨gg, 0, none⟩) (c + 1) cap2)) w6 4 (xx' i) (norm (P (σ' i)))) ∧ Hid (Sel (fun i => decide ((lvl (norm (P i)) : Int) = L)) k' c' σ') ∧ Hid (Ext w2 w6)) := by
          refine ⟨k + 1, c + 1, snoc σ c k, snoc xx c x, HLT.out, by simp, hO6.congr fun j hj => px_app xx c x j hj, fun i hi => ?_, HS2.out, HE5.out.grown hg6 (fun q hq => (HLT5.out q hq).1)⟩
          by_cases him : i = c
          · subst him; rw [snoc_at, snoc_at]; exact keep_grownC HZ5.out hg6 hat
          · rw [snoc_lt _ _ _ _ (by omega), snoc_lt _ _ _ _ (by omega)]; exact keep_grownC (HX5.out i (by omega)) hg6 hat
        clear hO6 hg6 hat hO5 hB5 HX5 HZ5 HE5 d0 d1 d2 d3
        go_wp2
        go_roundw
        case rel => exact HF.out
        case measure => have := HLT.out; simp [intOf]; omega
      · have hLb : (((lvM ((norm (P k)).map (·.2)) : Nat) : Int) == L) = false := by simpa [lvl] using hL
        have HS2 := Lib.hid (HS.out.skip (by simp [hL]))
        have hO2 := HO.out.ext HE3.out
        have HX2 : Hid (∀ i, i < c → CRx (MR M0 (.slice va c vc)) w3 4 (xx i) (norm (P (σ i)))) := fun i hi => (HX.out i hi).ext HE3.out
        have HEE := Lib.hid (HE.out.trans HE3.out)
        clear HX HS HE HO HE3 hL HD HXK
        go_wp2
        go_roundw
        case rel => exact ⟨k + 1, c, σ, xx, HLT.out, by go_num, hO2, HX2, HS2, HEE⟩
        case measure => have := HLT.out; simp [intOf]; omega
    · obtain rfl : n = k := by omega
      have HKW := Lib.hid (Own.toK hO (fun i hi => ((HX.out i hi).more fun b hb => .inl (.inl hb))) (fun g hg (hm : M0 g) => hm) (by omega))
      have HSW := Lib.hid HS.out
      have HEW := Lib.hid HE.out
      have hge : ¬ (n : Int) < (n : Int) := by omega
      clear HX HS HE hO
      go_wp2
      go_loopw [11, 10] (fun i v wr2 => ∃ k : Nat, k ≤ 5 ∧ i = .int .i64 k ∧ v = .int .i64 (cntLt (fun i => lvl (norm (P i))) n k) ∧ Hid (Ext wr wr2)) (fun i _ _ => 5 - (intOf i).toNat)
      case atStart => exact ⟨0, Nat.zero_le _, rfl, by rw [cntLt_zero]; rfl, Ext.refl _⟩
      case round =>
        obtain ⟨k, hk, rfl, rfl, HF⟩ := hrel
        by_cases hlt : k < 5
        · have hltI : (k : Int) ≤ 4 := by omega
          have HLT := Lib.hid hlt
          have CO := Lib.hid (mv_OfLevel M0 ca n cp P k wr (mb0 _) (HK.out.ext (HEW.out.trans HF.out)))
          have HCL := cntLt_le (fun i => lvl (norm (P i))) n k
          have HCL2 := cntLt_le (fun i => lvl (norm (P i))) n (k + 1)
          have HCS := Lib.hid (cntLt_succ (fun i => lvl (norm (P i))) n k)
          have HEF := Lib.hid HF.out
          clear HF
          go_wp2_with (fail)
          refine CO.out.mono ?_
          rintro e w4 ⟨a4, c4, p4, σ4, rfl, hS4, hK4, he4⟩
          have HEF4 := Lib.hid (HEF.out.trans he4)
          have HC4 := hS4.cnt
          have HC5 : cntLt (fun i => lvl (norm (P i))) n k + c4 = cntLt (fun i => lvl (norm (P i))) n (k + 1) := by rw [HCS.out, HC4]
          clear hS4 hK4 he4 HEF HC4
          go_wp2
          go_roundw
          case rel => exact ⟨k + 1, HLT.out, by go_num, by rw [← HC5]; go_num, HEF4⟩
          case measure => have := HLT.out; simp [intOf]; omega
        · obtain rfl : k = 5 := by omega
          have hge : ¬ ((5 : Nat) : Int) ≤ 4 := by omega
          have hAll : cntLt (fun i => lvl (norm (P i))) n 5 = n := cntLt_all HLV.out
          rw [hAll]
          have HEF := Lib.hid (HEW.out.trans HF.out)
          have CO := Lib.hid (mv_OfLevel M0 ca n cp P L wr (mb0 _) (HK.out.ext HEF.out))
          have HKW2 := Lib.hid (HKW.out.ext HF.out)
          clear HF HKW
          go_wp2_with (fail)
          refine CO.out.mono ?_
          rintro e w4 ⟨a4, c4, p4, σ4, rfl, hS4, hK4, he4⟩
          obtain ⟨rfl, hσ⟩ := Sel.uniq hS4 HSW.out
          have CE := Lib.hid (law_equalP M0 a4 va c4 p4 vc _ _ w4 hK4 (HKW2.out.ext he4) (fun i hi => by rw [hσ i hi]; simp [simB]))
          have HEF4 := Lib.hid (HE2.out.trans (HEF.out.trans he4))
          clear hS4 hK4 he4 hσ
          go_wp2_with (fail)
          refine CE.out.mono ?_
          rintro e w5 ⟨rfl, he5⟩
          have HEF5 := Lib.hid (HEF4.out.trans he5)
          clear he5
          go_wp2
          go_ret
          exact ⟨rfl, HEF5.out⟩
end Go.Proofs.YtgppogaoilijcaaGreat
