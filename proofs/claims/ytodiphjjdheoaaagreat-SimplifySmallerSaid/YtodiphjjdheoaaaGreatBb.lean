/- mainvar.Join. -/
import Derived.Test.YtodiphjjdheoaaaGreatBa
import Derived.Test.YtodiphjjdheoaaaGreatMm
set_option linter.unusedVariables false
set_option linter.unusedSimpArgs false

namespace Go.Proofs.YtodiphjjdheoaaaGreat
open Go.RowKit

theorem KRow.low {M : Nat → Prop} {w : World} {D N cap : Nat} {a : Option Addr} {P : Nat → List Tm} (h : KRow M w D (.slice a N cap) N P) : ∃ T : Nat → List Tm, ∀ i, i < N → Sim (T i) (P i) ∧ Low D (T i) := by
 refine pick (Q := fun i T => Sim T (P i) ∧ Low D T) [] fun i hi => ?_
 obtain ⟨b, off, _, _, _, _, _, e0, e1, e2, e3, _, _, _, _, t, h1, h2, h3, h4⟩ := h.at i hi
 exact ⟨_, h4, (can_low _ t h2).mono (by show t.1.toNat ≤ D; omega)⟩
theorem poly_len_c {L c : Nat} {P : Nat → List Tm} : ∀ n, (∀ i, i < n → (P i).length ≤ c) → (poly L n P).length ≤ n * c
 | 0, _ => by rw [poly_zero]; simp
 | n + 1, h => by
  have ih := poly_len_c (L := L) n fun i hi => h i (by omega)
  have h1 := h n (by omega)
  rw [poly_succ, List.length_append, Nat.add_mul, Nat.one_mul]
  simp only [shift, List.length_map]
  omega
theorem poly_nrm_c {L c : Nat} {P : Nat → List Tm} : ∀ n, (∀ i, i < n → nrm (P i) ≤ c) → nrm (poly L n P) ≤ n * c
 | 0, _ => by rw [poly_zero]; simp [nrm]
 | n + 1, h => by
  have ih := poly_nrm_c (L := L) n fun i hi => h i (by omega)
  have h1 := h n (by omega)
  rw [poly_succ, nrm_append, nrm_shift, Nat.add_mul, Nat.one_mul]
  omega
theorem dlen_small {n : Nat} (h : n ≤ 4294967295) : dlen n ≤ 1 := by rw [dlen_le_iff, Nat.pow_one]; omega
theorem poly_dl {L A N : Nat} {P : Nat → List Tm} (hN : N ≤ 4294967295) (h : ∀ i, i < N → dlen (nrm (P i)) ≤ A) : dlen (nrm (poly L N P)) ≤ A + 2 := by
 have h1 := poly_nrm_c (L := L) (c := 4294967296 ^ A) N fun i hi => Nat.le_of_lt ((dlen_le_iff _ _).1 (h i hi))
 have h2 := dlen_mono h1
 have h3 := dlen_mul N (4294967296 ^ A)
 have h4 := dlen_small hN
 have h5 : dlen (4294967296 ^ A) ≤ A + 1 := by
  rw [dlen_le_iff]
  exact Nat.pow_lt_pow_right (by omega) (by omega)
 omega
theorem row_pi {M : Nat → Prop} {w : World} {D N cap S A : Nat} {a : Option Addr} {P : Nat → List Tm} (h : KRow M w D (.slice a N cap) N P) (hD : D + 1 ≤ 4) (hdeg : ∀ i, i < N → Deg S (P i)) (hN : N ≤ S + 1) (hS : (S + 1) ^ (D + 1) ≤ 1099511627776) (hS2 : S ≤ 1000000) (hdl : ∀ i, i < N → dlen (nrm (P i)) ≤ A) (hA : A + 2 ≤ 1099511627776) :
  PI M w ⟨(D : Int) + 1, false, none, 0, 0, a, N, cap⟩ (poly (D + 1) N P) := by
 obtain ⟨kid, hkid⟩ := pick (dfl (D + 1)) (n := N) (Q := fun i u => (∃ b off, a = some ⟨b, off, none⟩ ∧ N ≤ cap ∧ cap ≤ maxLen ∧ b < w.heap.size ∧ ¬ M b ∧ ∃ e0 e1 e2 e3, w.cell? ⟨b, off + i * 4, none⟩ = some e0 ∧ w.cell? ⟨b, off + i * 4 + 1, none⟩ = some e1 ∧ w.cell? ⟨b, off + i * 4 + 2, none⟩ = some e2 ∧ w.cell? ⟨b, off + i * 4 + 3, none⟩ = some e3 ∧ RR M w (D + 1) u e0 e1 e2 e3) ∧ isCan (D + 1) u = true ∧ okT (D + 1) u ∧ u.1 ≤ D ∧ Sim (terms (D + 1) u) (P i)) (by
  intro i hi
  obtain ⟨b, off, h1, h2, h3, h4, h5, e0, e1, e2, e3, x0, x1, x2, x3, t, g1, g2, g3, g4⟩ := h.at i hi
  exact ⟨t, ⟨b, off, h1, h2, h3, h4, h5, e0, e1, e2, e3, x0, x1, x2, x3, g1⟩, g2, g1.ok, g3, g4⟩)
 have hT : terms (D + 1 + 1) (mkT (D + 1) ((D : Int) + 1) ⟨false, 0, fun _ => 0⟩ N kid) = poly (D + 1) N (fun i => terms (D + 1) (kid i)) := by
  rw [terms_mkn _ _ _ _ _ (by omega) (by omega), show ((D : Int) + 1).toNat = D + 1 by omega]
 refine ⟨D + 1 + 1, mkT _ ((D : Int) + 1) ⟨false, 0, fun _ => 0⟩ N kid, ⟨rfl, by show -9223372036854775808 ≤ (D : Int) + 1 ∧ (D : Int) + 1 ≤ 9223372036854775807; omega, ⟨rfl, natr_nil _ _ _⟩, h.1, ?_⟩, .inr ⟨by omega, ?_, ?_, ?_⟩, ?_⟩
 ·rcases h.2 with ⟨h1, h0⟩ | ⟨b, off, cap', h1, h2, h3, h4, _⟩
  ·simp only [Value.slice.injEq] at h1
   obtain ⟨rfl, rfl, rfl⟩ := h1
   exact .inl ⟨⟨none, 0, rfl, Nat.zero_le _, fun _ => rfl⟩, rfl⟩
  ·simp only [Value.slice.injEq, true_and] at h1
   obtain ⟨rfl, rfl⟩ := h1
   refine .inr ⟨b, off, cap, rfl, h2, h3, h4, fun i hi => ?_⟩
   obtain ⟨b', off', e, _, _, _, _, hk⟩ := (hkid i hi).1
   simp only [Option.some.injEq, Addr.mk.injEq, and_true] at e
   obtain ⟨rfl, rfl⟩ := e
   exact hk
 ·rw [hT]
  refine Nat.le_trans (poly_len_c (c := (S + 1) ^ D) N fun i hi => ?_) ?_
  ·have h1 := can_len S (D + 1) (kid i) (hkid i hi).2.1 (hkid i hi).2.2.1 (sim_deg (hkid i hi).2.2.2.2 (hdeg i hi))
   refine Nat.le_trans h1 (Nat.pow_le_pow_right (by omega) ?_)
   have := (hkid i hi).2.2.2.1
   show (kid i).1.toNat ≤ D
   omega
  ·rw [Nat.pow_succ, Nat.mul_comm] at hS
   exact Nat.le_trans (Nat.mul_le_mul_right _ hN) hS
 ·rw [hT]
  have := poly_dl (L := D + 1) (A := A) (N := N) (P := fun i => terms (D + 1) (kid i)) (by omega) fun i hi => Nat.le_trans (dlen_mono (can_nrm (hkid i hi).2.1 (hkid i hi).2.2.2.2)) (hdl i hi)
  omega
 ·rw [hT]
  intro s hs k
  obtain ⟨i, hi, s', hs', rfl⟩ := poly_mem hs
  have h1 := can_exp S (D + 1) (kid i) (hkid i hi).2.1 (hkid i hi).2.2.1 (sim_deg (hkid i hi).2.2.2.2 (hdeg i hi)) s' hs' k
  show (Mo.add s'.2 (xp (D + 1) (i : Int))).get k ≤ _
  rw [get_add]
  rw [get_xp _ k _ (by omega) hD]
  split <;> omega
 ·rw [hT]
  exact poly_congr _ _ _ _ fun i hi => (hkid i hi).2.2.2.2
theorem mv_isLevel (l : Int) (w : World) : Calls Tryz.prog 124 #[.int .i64 l] w fun e w' => e = .returned (.bool (isLevB l)) ∧ w = w' := by
 by_cases h1 : 1 ≤ l
 ·by_cases h2 : l ≤ 4
  ·have H : Hid (isLevB l = true) := by show _ = _; unfold isLevB; simp [h1, h2]
   go_enter Tryz.func124, Tryz.ntmps124
   go_wp2
   go_ret
   exact ⟨by rw [H.out]; rfl, rfl⟩
  ·have H : Hid (isLevB l = false) := by show _ = _; unfold isLevB; simp [h2]
   go_enter Tryz.func124, Tryz.ntmps124
   go_wp2
   go_ret
   exact ⟨by rw [H.out]; rfl, rfl⟩
 ·have H : Hid (isLevB l = false) := by show _ = _; unfold isLevB; simp [h1]
  go_enter Tryz.func124, Tryz.ntmps124
  go_wp2
  go_ret
  exact ⟨by rw [H.out]; rfl, rfl⟩
theorem CRx.down {M : Nat → Prop} {w : World} {D : Nat} {v : PE} {l T : List Tm} (h : CRx M w 4 v l) (hs : Sim T l) (hT : Low D T) : CRx M w D v l := by
 refine CR.relev h ?_
 by_cases hc : v.lv ≤ D
 ·exact hc
 ·exfalso
  have hl := h.lev
  obtain ⟨E, b, off, P, hlv, hE4, hEL, hb0, hn0, hka, hn2, hnL, hnc, hcm, hb, hMb, hlow, hnz, hsim, hnr, hkid⟩ := h.node (by omega)
  obtain ⟨q, hq1, hq2⟩ := (dg_top hE4 (by omega) hlow hnz).2.resolve_left (by omega)
  rw [hsim q, ← hs q] at hq1
  refine hq1 (hT.coef (k := E + 1) (by omega) hE4 ?_)
  rw [hq2]; omega
set_option maxRecDepth 100000 in
set_option maxHeartbeats 4000000 in
theorem mv_Join {M : Nat → Prop} {D N cap S A : Nat} {a : Option Addr} {P : Nat → List Tm} (w : World) (hM : Mb M w) (h : KRow M w D (.slice a N cap) N P) (hD : D + 1 ≤ 4) (hdeg : ∀ i, i < N → Deg S (P i)) (hN : N ≤ S + 1) (hS : (S + 1) ^ (D + 1) ≤ 1099511627776) (hS2 : S ≤ 1000000) (hdl : ∀ i, i < N → dlen (nrm (P i)) ≤ A) (hA : A + 2 ≤ 1099511627776) :
  Calls Tryz.prog 162 #[.slice a N cap, .int .i64 ((D : Int) + 1)] w (RetX M w (D + 1) (poly (D + 1) N P)) := by
 obtain ⟨T, hT⟩ := h.low
 have HTL : Hid (Sim (poly (D + 1) N T) (poly (D + 1) N P) ∧ Low (D + 1) (poly (D + 1) N T)) := ⟨poly_congr _ _ _ _ fun i hi => (hT i hi).1, poly_low _ _ _ (by omega) hD fun i hi => by rw [Nat.add_sub_cancel]; exact (hT i hi).2⟩
 have hE := (Ext.refl w).alloc (.cells zA 29)
 have hB := Blk.of_arr w zA 29 4 rfl
 have hM2 : Mb (Mx M w.heap.size (w.heap.size + 1)) (w.alloc (.cells zA 29)) := Mx.mb hM (by simp) (by simp)
 have hpi := ((row_pi h hD hdeg hN hS hS2 hdl hA).more (M' := Mx M w.heap.size (w.heap.size + 1)) (Mx.more (Nat.le_refl _))).ext hE
 have CT := Lib.hid (rp_Normal _ _ _ _ hM2 hpi)
 have hlev : isLevB ((D : Int) + 1) = true := by unfold isLevB; simp; omega
 have CTL := Lib.hid (fun W => mv_isLevel ((D : Int) + 1) W)
 rw [hlev] at CTL
 have HE := Lib.hid hE
 have HB := Lib.hid hB
 clear hT hE hB hM2 hpi hlev h hM hdeg hN hS hS2 hdl hA
 go_enter Tryz.func162, Tryz.ntmps162
 go_wp2_with (fail)
 refine (CTL.out _).mono ?_
 rintro e w1 ⟨rfl, rfl⟩
 go_wp2_with (fail)
 refine CT.out.mono ?_
 rintro e w2 ⟨v, rfl, hv, he2⟩
 obtain ⟨⟨q0, q1, q2, q3⟩, ⟨f0, f1, f2, f3⟩, ⟨r0, r1, r2, r3⟩, HF⟩ := retX (M := M) (w := w) (L := D + 1) (HB.out.ext he2) (Mx.at (by omega)) (by omega) (HE.out.trans he2) (hv.down HTL.out.1 HTL.out.2) Mx.sub
 clear CT CTL hv he2
 go_wp2
 exact bodyPost_ret (v := .agg (peA v)) (by simp [results, Tryz.results162, go_sem, r0, r1, r2, r3]) rfl HF.out
end Go.Proofs.YtodiphjjdheoaaaGreat
