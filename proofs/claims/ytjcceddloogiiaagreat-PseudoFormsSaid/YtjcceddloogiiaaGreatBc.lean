/- pseudo.exactCoefs. -/
import Derived.Test.YtjcceddloogiiaaGreatBb
import Derived.Test.YtjcceddloogiiaaGreatNe
set_option linter.unusedVariables false
set_option linter.unusedSimpArgs false

namespace Go.Proofs.YtjcceddloogiiaaGreat
open Go.RowKit

def inB (B C : Nat) : Nat := B + (B + 1) * C
def qX (C : Nat) : Nat → Nat → Nat
 | 0, _ => 1
 | L + 1, B => (B + 2) * (qX C L (inB B C) + 1) + 3
def OkB (C : Nat) : Nat → Nat → Prop
 | 0, B => B ≤ 1000000 ∧ (B + 1) * (C + 1) ≤ 1099511627776
 | L + 1, B => (inB B C ≤ 1000000 ∧ (inB B C + 1) ^ (L + 1) ≤ 1099511627776 ∧ (inB B C + 1) * (C + 1) ≤ 1099511627776) ∧ OkB C L (inB B C)
theorem inB_mono {B B' C : Nat} (h : B ≤ B') : inB B C ≤ inB B' C := by
 have := Nat.mul_le_mul_right C (show B + 1 ≤ B' + 1 by omega)
 unfold inB; omega
theorem inB_le (B C : Nat) : B ≤ inB B C := by unfold inB; omega
theorem OkB.mono {C : Nat} : ∀ {L B B' : Nat}, B ≤ B' → OkB C L B' → OkB C L B
 | 0, B, B', h, k => ⟨by have := k.1; omega, Nat.le_trans (Nat.mul_le_mul_right _ (by omega)) k.2⟩
 | L + 1, B, B', h, k => by
  have h1 := inB_mono (C := C) h
  exact ⟨⟨Nat.le_trans h1 k.1.1, Nat.le_trans (Nat.pow_le_pow_left (by omega) _) k.1.2.1, Nat.le_trans (Nat.mul_le_mul_right _ (by omega)) k.1.2.2⟩, OkB.mono h1 k.2⟩
theorem OkB.down {C L B : Nat} (h : OkB C (L + 1) B) : OkB C L B := h.2.mono (inB_le B C)
theorem OkB.to {C B : Nat} {L E : Nat} (h : OkB C L B) (hE : E ≤ L) : OkB C E B := by
 obtain ⟨k, rfl⟩ : ∃ k, L = E + k := ⟨L - E, by omega⟩
 clear hE
 induction k with
 | zero => exact h
 | succ k ih => exact ih h.down
theorem qX_mono {C : Nat} : ∀ {L B B' : Nat}, B ≤ B' → qX C L B ≤ qX C L B'
 | 0, _, _, _ => Nat.le_refl _
 | L + 1, B, B', h => by
  have h1 := qX_mono (C := C) (L := L) (inB_mono (C := C) h)
  have := Nat.mul_le_mul (show B + 2 ≤ B' + 2 by omega) (show qX C L (inB B C) + 1 ≤ qX C L (inB B' C) + 1 by omega)
  simp only [qX]; omega
theorem qX_two (C L B : Nat) : qX C L B + 2 ≤ qX C (L + 1) B := by
 have h1 := qX_mono (C := C) (L := L) (inB_le B C)
 have h2 : 2 * (qX C L (inB B C) + 1) ≤ (B + 2) * (qX C L (inB B C) + 1) := Nat.mul_le_mul_right _ (by omega)
 simp only [qX]; omega
theorem qX_to {C B : Nat} {L E : Nat} (hE : E ≤ L) : qX C E B ≤ qX C L B := by
 obtain ⟨k, rfl⟩ : ∃ k, L = E + k := ⟨L - E, by omega⟩
 clear hE
 induction k with
 | zero => exact Nat.le_refl _
 | succ k ih => have := qX_two C (E + k) B; rw [← Nat.add_assoc]; omega
theorem qX_two_mul (C L B G : Nat) : qX C L B * (G + 2) + 2 ≤ qX C (L + 1) B * (G + 2) := by
 have h1 := Nat.mul_le_mul_right (G + 2) (qX_two C L B)
 rw [Nat.add_mul] at h1
 omega
theorem CRx.lowU {M : Nat → Prop} {w : World} {L : Nat} {x : PE} {l : List Tm} (h : CRx M w L x l) : ∃ T, Sim T l ∧ ∀ t ∈ T, ∀ k : Nat, x.lv < k → k ≤ 4 → t.2.get k = 0 := by
 obtain ⟨t, h1, h2, h3, h4⟩ := h
 obtain ⟨e0, _⟩ := h1.form
 simp only [Value.int.injEq, true_and] at e0
 have hl := can_low _ t h2
 have h0 := can_lev h2
 exact ⟨_, h4, fun s hs k hk hk4 => hl s hs k (by show t.1.toNat < k; omega) hk4⟩
def ExR (M : Nat → Prop) (L : Nat) (l r : List Tm) (A : Nat) (v : PE) (ok : Bool) (w : World) : Prop := (ok = true → ∃ q, CRx M w L v q ∧ Sim (pmul q r) l ∧ dlen (nrm q) ≤ A) ∧ (ok = false → ¬ Dv r l)
def RetEx (M : Nat → Prop) (w : World) (L : Nat) (l r : List Tm) (A : Nat) (e : Ending) (w' : World) : Prop := ∃ (v : PE) (ok : Bool), e = .returned (.tuple #[.agg (peA v), .bool ok]) ∧ ExR M L l r A v ok w' ∧ Ext w w'
def ExCtr (C G L : Nat) : Prop := ∀ (M : Nat → Prop) (l r : List Tm) (x y : PE) (B A : Nat) (w : World), Mb M w → CRx M w L x l → CRx M w 4 y r → ¬ Sim r [] → Deg B l → Deg C r → dlen (nrm l) ≤ A → dlen (nrm r) ≤ G → OkB C L B → A + qX C L B * (G + 2) ≤ 549755813888 →
 Calls Tryz.prog 114 #[.agg (peA x), .agg (peA y)] w (RetEx M w L l r (A + qX C L B * (G + 2)))
theorem RetX.exT {M : Nat → Prop} {w W : World} {L A : Nat} {l q r : List Tm} {y : PE} (h : RetX M w L q (.returned (.agg (peA y))) W) (hs : Sim (pmul q r) l) (hA : dlen (nrm q) ≤ A) : RetEx M w L l r A (.returned (.tuple #[.agg (peA y), .bool true])) W := by
 obtain ⟨y', e, h1, h2⟩ := h
 simp only [Ending.returned.injEq, Value.agg.injEq] at e
 exact ⟨y', true, by rw [e], ⟨fun _ => ⟨q, h1, hs, hA⟩, fun h => (by cases h)⟩, h2⟩
theorem RetX.exF {M : Nat → Prop} {w W : World} {L L' A : Nat} {l q r : List Tm} {y : PE} (h : RetX M w L' q (.returned (.agg (peA y))) W) (hs : ¬ Dv r l) : RetEx M w L l r A (.returned (.tuple #[.agg (peA y), .bool false])) W := by
 obtain ⟨y', e, h1, h2⟩ := h
 simp only [Ending.returned.injEq, Value.agg.injEq] at e
 exact ⟨y', false, by rw [e], ⟨fun h => (by cases h), fun _ => hs⟩, h2⟩
theorem p4_of_heap {w' wr : World} {b : Nat} {x : PE} (h : P4 wr b x) (he : w'.heap[b]? = wr.heap[b]?) : P4 w' b x := by
 have hc := fun o => World.cell?_of_block (w := wr) (w' := w') (a := ⟨b, o, none⟩) he
 obtain ⟨p0, p1, p2, p3⟩ := h
 exact ⟨(hc 0).trans p0, (hc 1).trans p1, (hc 2).trans p2, (hc 3).trans p3⟩
set_option maxRecDepth 100000 in
set_option maxHeartbeats 8000000 in
theorem ps_exactCoefs (C G E : Nat) (hE4 : E + 1 ≤ 4) (ih : ExCtr C G E) (M : Nat → Prop) (l r : List Tm) (x y : PE) (B A : Nat) (w : World) (hM : Mb M w) (h : CRx M w (E + 1) x l) (hl : x.lv = (E : Int) + 1) (hy : CRx M w 4 y r) (hyl : y.lv < x.lv) (hz : ¬ Sim r []) (hB : Deg B l) (hC : Deg C r) (hA : dlen (nrm l) ≤ A) (hG : dlen (nrm r) ≤ G) (hO : OkB C (E + 1) B) (hS : A + qX C (E + 1) B * (G + 2) ≤ 549755813888) :
  Calls Tryz.prog 170 #[.agg (peA x), .agg (peA y)] w (RetEx M w (E + 1) l r (A + qX C (E + 1) B * (G + 2))) := by
 obtain ⟨i0, hi, hz0, hz1, hz2⟩ := info_parts Tryz.info33
 obtain ⟨hE0, hX0, hY0, hB0, hM0⟩ := box2 hM x y
 obtain ⟨E', b, off, P, hlv, hE4', hEL, hb0, hn0, hka, hn2, hnL, hnc, hcm, hb, hMb, hlow, hnz, hsim, hnr, hkid⟩ := h.node (by omega)
 obtain rfl : E' = E := by omega
 have hqx := qX_two_mul C E' B G
 have hdn := deg_node hE4 (by omega) hlow hnz (hB.sim hsim.symm)
 have hNr : NN r := hy.nn
 obtain ⟨T, hT1, hT2⟩ := hy.lowU
 have HDV : Hid (∀ i, i < x.kn → ¬ Dv r (P i) → ¬ Dv r l) := fun i hi' hn hd => hn ((dv_kid hE4 hlow (g := T) (fun t ht => hT2 t ht (E' + 1) (by omega) hE4) (hd.sim hT1.symm hsim.symm) i hi').sim hT1 (Sim.refl _))
 have HCALL : Hid (∀ i, i < x.kn → ∃ c, KCell w b (off + i * 4) c ∧ ∀ (M' : Nat → Prop) W, Mb M' W → (∀ g, M' g → M g ∨ w.heap.size ≤ g) → Ext w W → Calls Tryz.prog 114 #[.agg (peA c), .agg (peA y)] W (RetEx M' W E' (P i) r (A + qX C E' B * (G + 2)))) := fun i hi' => by
  obtain ⟨c, hc1, hc2, _⟩ := hkid i hi'
  exact ⟨c, hc1, fun M' W hMW hmore he => ih M' (P i) r c y B A W hMW ((hc2.more hmore).ext he) ((hy.more hmore).ext he) hz (hdn.2 i hi') hC (Nat.le_trans (dlen_mono (Nat.le_trans (nrm_poly_kid (E' + 1) x.kn P i hi') hnr)) hA) hG hO.down (by omega)⟩
 have HFIN : Hid (∀ Q : Nat → List Tm, (∀ i, i < x.kn → Sim (pmul (Q i) r) (P i)) → Sim (pmul (poly (E' + 1) x.kn Q) r) l) := fun Q hQ => (pmul_poly_right (E' + 1) x.kn Q r).symm.trans ((poly_congr _ _ _ _ hQ).trans hsim)
 have HDQ : Hid (∀ i, i < x.kn → ∀ q, NN q → Sim (pmul q r) (P i) → Deg (inB B C) q) := fun i hi' q hq hs => (deg_factor hq hNr hz hs (hdn.2 i hi')).mono (inB_le B C)
 have hkB : x.kn ≤ inB B C + 1 := by have := hdn.1; have := inB_le B C; omega
 have hOk := hO.1
 have HMM := Lib.hid hM
 generalize hA1 : A + qX C E' B * (G + 2) = A1 at *
 have hA2 : A1 + 2 ≤ A + qX C (E' + 1) B * (G + 2) := by omega
 have hA1L : A1 + 2 ≤ 1099511627776 := by omega
 generalize A + qX C (E' + 1) B * (G + 2) = A2 at *
 obtain ⟨x0, x1, x2, x3⟩ := hX0
 obtain ⟨y0, y1, y2, y3⟩ := hY0
 have hsz0 : w.heap.size + 3 = ((((w.alloc (.cells (peA x) 33)).alloc (.cells (peA y) 33)).alloc (.cells zA 33))).heap.size := by simp
 generalize hW : ((w.alloc (.cells (peA x) 33)).alloc (.cells (peA y) 33)).alloc (.cells zA 33) = W at *
 have HW := Lib.hid hW
 have HE := Lib.hid hE0
 have HS : Hid (SP2 w.heap.size x y W) := ⟨⟨x0, x1, x2, x3⟩, ⟨y0, y1, y2, y3⟩⟩
 have HB0 := Lib.hid hB0
 have hS1 := hO.1.1
 clear hE0 hB0 hM0 h hl hy hyl hz hB hC hA hG hO hS ih hlow hnz hsim hnr hkid hdn hNr hT1 hT2 hqx hA1 hW hM
 rw [hka] at x3
 go_enter Tryz.func170, Tryz.ntmps170
 go_upto_region 1 with (fail)
 rw [HW.out]
 go_wp2_with (first | (refine wpList_make_full _ rfl _ _ _ rfl (w.heap.size + 3) 33 i0 (.agg #[.int .i64 0, .bool false, .slice none 0 0, .slice none 0 0]) 4 Tryz.underlying24 hi hz0 hz1 .i64 .i64 _ _ x.kn rfl rfl ?c4 ?c5 ?c2 ?c3 ?c6 ?_))
 case c2 => rw [hz2]; omega
 case c3 => unfold maxLen; omega
 case c4 => simp
 case c5 => simp
 case c6 => omega
 intro w1 hown hgrow
 rw [← hsz0] at hown ⊢
 have hBk := (Blk.made hown rfl (by omega)).congr (f' := zc4) (fun i _ => zc4_arr i)
 have he1 := grown_ext hgrow
 have HB1 := Lib.hid (HB0.out.ext he1)
 have HS1 := Lib.hid (HS.out.ext he1)
 have HE1 := Lib.hid (HE.out.trans he1)
 have hs1 : w.heap.size + 4 ≤ w1.heap.size := by have := hBk.lt; omega
 have HKF : Hid (Kids (Mx M w.heap.size (w.heap.size + 4)) w1 E' (w.heap.size + 3) x.kn (fun _ => [])) := Kids.fresh hBk
 clear x0 x1 x2 x3 y0 y1 y2 y3
 obtain ⟨⟨x0, x1, x2, x3⟩, _⟩ := HS1.out
 rw [hka] at x3
 clear hown hgrow hBk he1 HB0 HS HE HW
 go_wp2
 go_loopw [18] (fun i wr => ∃ (k : Nat) (Q : Nat → List Tm), k ≤ x.kn ∧ i = .int .i64 k ∧ w.heap.size + 4 ≤ wr.heap.size ∧ Hid (Kids (Mx M w.heap.size (w.heap.size + 4)) wr E' (w.heap.size + 3) x.kn (fun i => if i < k then Q i else [])) ∧ Hid (∀ i, i < k → NN (Q i) ∧ Sim (pmul (Q i) r) (P i) ∧ dlen (nrm (Q i)) ≤ A1) ∧ Hid (Ext w wr) ∧ Hid (SP2 w.heap.size x y wr) ∧ Hid (Blk wr (w.heap.size + 2) 33 4 (arr zA))) (fun i _ => x.kn - (intOf i).toNat)
 case atStart => exact ⟨0, fun _ => [], Nat.zero_le _, rfl, hs1, HKF.out.congr fun i _ => by rw [if_neg (by omega)]; exact Sim.refl _, fun i hi => absurd hi (Nat.not_lt_zero _), HE1, HS1, HB1⟩
 case round =>
  clear HKF HE1 HS1 HB1 x0 x1 x2 x3 hs1
  obtain ⟨k, Q, hk, rfl, hsz, HK, HQ, HEW, HSW, HBR⟩ := hrel
  by_cases hlt : k < x.kn
  ·obtain ⟨c, hc, hcall⟩ := HCALL.out k hlt
   obtain ⟨c0, c1, c2, c3⟩ := hc.ext hb HEW.out
   have hbw : b < wr.heap.size := Nat.lt_of_lt_of_le hb HEW.out.size
   obtain ⟨_, y0, y1, y2, y3⟩ := HSW.out
   have hEa := (Ext.refl wr).alloc (.cells (peA c) 33)
   have hltI : (k : Int) < (x.kn : Int) := by omega
   have hw1 : w.heap.size + 1 < wr.heap.size := by omega
   have hw0 : w.heap.size < wr.heap.size := by omega
   have CTR := Lib.hid (hcall (Mx M w.heap.size (w.heap.size + 4)) _ (Mx.mb (k := w.heap.size + 4) HMM.out (HEW.out.trans hEa).size (by simp; omega)) (Mx.more (Nat.le_refl _)) (HEW.out.trans hEa))
   have HEA := Lib.hid hEa
   clear hcall hEa hc hlv hka hn0 hb0 hsz0
   go_wp2_with (fail)
   refine (CTR.out).mono ?_
   rintro e w4 ⟨v, ok, rfl, hR, he4⟩
   have he5 := HEA.out.trans he4
   have hs4 := he5.size
   cases ok with
   | false =>
    have HND := Lib.hid (HDV.out k hlt (hR.2 rfl))
    obtain ⟨⟨q0, q1, q2, q3⟩, ⟨f0, f1, f2, f3⟩, ⟨r0, r1, r2, r3⟩, HF⟩ := retX (M := M) (M' := Mx M w.heap.size (w.heap.size + 3)) (w := w) (L := 0) (l := []) (y := PE.z) ((HBR.out.ext he5).ext ((Ext.refl w4).alloc (.cells (peA v) 33))) (Mx.at (by omega)) (by omega) ((HEW.out.trans he5).trans ((Ext.refl w4).alloc (.cells (peA v) 33))) (CR.zero _ _ 0) Mx.sub
    have HF2 := Lib.hid (HF.out.exF (L := E' + 1) (A := A2) HND.out)
    simp only [PE.z] at r0 r1 r2 r3
    have hw2 : w.heap.size + 2 < (w4.alloc (.cells (peA v) 33)).heap.size := by simp; omega
    clear HF hR he4 he5 HND c0 c1 c2 c3 y0 y1 y2 y3 CTR HK HQ HEW HSW HBR HCALL HFIN HDQ HDV HEA
    go_upto_region 6 with (fail)
    generalize w4.alloc (.cells (peA v) 33) = W5 at *
    clear hs4 hw1 hw0 hbw
    go_wp2
    exact bodyPost_ret (v := .tuple #[.agg (peA PE.z), .bool false]) (by simp [results, Tryz.results170, go_sem, r0, r1, r2, r3, PE.z]) rfl HF2.out
   | true =>
    obtain ⟨q, hq1, hq2, hq3⟩ := hR.1 rfl
    have hEb := (Ext.refl w4).alloc (.cells (peA v) 33)
    have he6 := he5.trans hEb
    have hq5 := hq1.ext hEb
    have hv5 : P4 (w4.alloc (.cells (peA v) 33)) w4.heap.size v := (Blk.of_arr w4 (peA v) 33 4 rfl).p4
    have hs5 : (w4.alloc (.cells (peA v) 33)).heap.size = w4.heap.size + 1 := by simp
    have HE6 := Lib.hid he6
    have HQ5 := Lib.hid (And.intro hq5 (And.intro hq2 hq3))
    have hnn := hq1.nn
    clear hR he4 he5 he6 hEb hq1 hq2 hq3 hq5 CTR HCALL HFIN HDQ HDV HEA c0 c1 c2 c3 y0 y1 y2 y3
    go_upto_region 6 with (fail)
    generalize w4.alloc (.cells (peA v) 33) = W5 at *
    obtain ⟨v0, v1, v2, v3⟩ := hv5
    have hK4 := HK.out.ext HE6.out
    obtain ⟨⟨_, k0⟩, ⟨_, k1⟩, ⟨_, k2⟩, ⟨_, k3⟩, hfr, hg4⟩ := hK4.at k hlt
    have hf0 := hfr (k * 4)
    have hf1 := hfr (k * 4 + 1)
    have hf2 := hfr (k * 4 + 2)
    have hf3 := hfr (k * 4 + 3)
    have hKs := hK4.set (Mx.at (by omega)) k hlt HQ5.out.1
    have hEs := (HEW.out.trans HE6.out).set4 (g := w.heap.size + 3) (by omega) (k * 4) (.int .i64 v.lv) (.bool v.b) (.slice v.a v.n v.p) (.slice v.ka v.kn v.kp)
    have hBs := (HBR.out.ext HE6.out).of_heap (heap_set4 W5 (w.heap.size + 3) (k * 4) (.int .i64 v.lv) (.bool v.b) (.slice v.a v.n v.p) (.slice v.ka v.kn v.kp) (w.heap.size + 2) (by omega))
    have hSs : SP2 w.heap.size x y (set4 W5 (w.heap.size + 3) (k * 4) (.int .i64 v.lv) (.bool v.b) (.slice v.a v.n v.p) (.slice v.ka v.kn v.kp)) := ⟨p4_of_heap (HSW.out.1.ext HE6.out) (heap_set4 _ _ _ _ _ _ _ _ (by omega)), p4_of_heap (HSW.out.2.ext HE6.out) (heap_set4 _ _ _ _ _ _ _ _ (by omega))⟩
    have hzs : w.heap.size + 4 ≤ (set4 W5 (w.heap.size + 3) (k * 4) (.int .i64 v.lv) (.bool v.b) (.slice v.a v.n v.p) (.slice v.ka v.kn v.kp)).heap.size := by rw [size_set4]; omega
    have HQ2 : Hid (∀ i, i < k + 1 → NN (snoc Q k q i) ∧ Sim (pmul (snoc Q k q i) r) (P i) ∧ dlen (nrm (snoc Q k q i)) ≤ A1) := fun i hi => by
     by_cases hik : i = k
     ·subst hik; rw [snoc_at]; exact ⟨hnn, HQ5.out.2⟩
     ·rw [snoc_lt _ _ _ _ (by omega)]; exact HQ.out i (by omega)
    have HK5 : Hid (Kids (Mx M w.heap.size (w.heap.size + 4)) (set4 W5 (w.heap.size + 3) (k * 4) (.int .i64 v.lv) (.bool v.b) (.slice v.a v.n v.p) (.slice v.ka v.kn v.kp)) E' (w.heap.size + 3) x.kn (fun i => if i < k + 1 then snoc Q k q i else [])) := by
     refine hKs.congr fun i _ => ?_
     by_cases hik : i = k
     ·subst hik; rw [if_pos rfl, if_pos (by omega), snoc_at]; exact Sim.refl _
     ·rw [if_neg hik]
      by_cases h3 : i < k
      ·rw [if_pos h3, if_pos (by omega), snoc_lt _ _ _ _ h3]; exact Sim.refl _
      ·rw [if_neg h3, if_neg (by omega)]; exact Sim.refl _
    have HE5 := Lib.hid hEs
    have HB5 := Lib.hid hBs
    have HS5 := Lib.hid hSs
    have HSZ5 := Lib.hid hzs
    have hw3 : w.heap.size + 3 < W5.heap.size := by omega
    have hw4 : w4.heap.size < W5.heap.size := by omega
    clear hK4 hKs hEs hBs hSs hzs hfr HK HQ HEW HSW HBR HQ5 HE6 hs5 hs4 hw0 hw1 hbw
    go_wp2
    go_roundw
    case rel => exact ⟨k + 1, snoc Q k q, by omega, by go_num, HSZ5.out, HK5, HQ2, HE5, HS5, HB5⟩
    case measure => simp [intOf]; omega
  ·obtain rfl : k = x.kn := by omega
   obtain ⟨⟨x0, _⟩, _⟩ := HSW.out
   rw [hlv] at x0
   have hkr : KRow (Mx M w.heap.size (w.heap.size + 3)) wr E' (.slice (some ⟨w.heap.size + 3, 0, none⟩) x.kn x.kn) x.kn Q := (HK.out.krow (fun g hg => .inl (hg.imp id fun h => by omega)) (fun hh => hh.elim (HMM.out.new (by omega)) (by omega)) hnL).congr fun i hi => by rw [if_pos hi]; exact Sim.refl _
   have CTR := Lib.hid (mv_Join (S := inB B C) (A := A1) wr (Mx.mb HMM.out HEW.out.size (by omega)) hkr hE4 (fun i hi => HDQ.out i hi _ (HQ.out i hi).1 (HQ.out i hi).2.1) hkB hOk.2.1 hS1 (fun i hi => (HQ.out i hi).2.2) (by omega))
   have HSI := Lib.hid (HFIN.out Q fun i hi => (HQ.out i hi).2.1)
   have HDL : Hid (dlen (nrm (poly (E' + 1) x.kn Q)) ≤ A2) := Nat.le_trans (poly_dl (A := A1) (by omega) fun i hi => (HQ.out i hi).2.2) hA2
   clear hkr HCALL HK HDQ HDV HFIN HQ hlv hka hn0 hb0 hsz0 hlt hOk
   go_wp2_with (fail)
   refine CTR.out.mono ?_
   rintro e w5 ⟨v, rfl, hv, he5⟩
   obtain ⟨⟨q0, q1, q2, q3⟩, ⟨f0, f1, f2, f3⟩, ⟨r0, r1, r2, r3⟩, HF⟩ := retX (M := M) (w := w) (HBR.out.ext he5) (Mx.at (by omega)) (by omega) (HEW.out.trans he5) hv Mx.sub
   have HF2 := Lib.hid (HF.out.exT HSI.out HDL.out)
   clear HF he5 hv CTR x0 HSI HDL
   go_wp2
   exact bodyPost_ret (v := .tuple #[.agg (peA v), .bool true]) (by simp [results, Tryz.results170, go_sem, r0, r1, r2, r3]) rfl HF2.out
end Go.Proofs.YtjcceddloogiiaaGreat
