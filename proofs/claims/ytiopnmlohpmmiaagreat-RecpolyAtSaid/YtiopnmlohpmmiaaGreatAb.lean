/- recpoly.degree. -/
import Derived.Test.YtiopnmlohpmmiaaGreatNc
import Derived.Test.YtiopnmlohpmmiaaGreatAa
set_option linter.unusedVariables false
set_option linter.unusedSimpArgs false

namespace Go.Proofs.YtiopnmlohpmmiaaGreat
open Go.RowKit

/-- n is the degree of l in x_L, 0 where it is 0 -/
def DgR (L : Nat) (l : List Tm) (n : Nat) : Prop := (∀ m, coefAt l m ≠ 0 → m.get L ≤ n) ∧ (n = 0 ∨ ∃ m, coefAt l m ≠ 0 ∧ m.get L = n)
theorem DgR.sim {L n : Nat} {l r : List Tm} (h : DgR L l n) (hs : Sim l r) : DgR L r n :=
  ⟨fun m hm => h.1 m (by rw [hs m]; exact hm), h.2.imp id fun ⟨m, h1, h2⟩ => ⟨m, by rw [← hs m]; exact h1, h2⟩⟩
theorem CRx.lowc {M : Nat → Prop} {w : World} {L : Nat} {x : PE} {l : List Tm} (h : CRx M w L x l) (m : Mo) (hm : coefAt l m ≠ 0) (k : Nat) (hk : x.lv < k) (hk4 : k ≤ 4) : m.get k = 0 := by
  obtain ⟨t, h1, h2, h3, h4⟩ := h
  obtain ⟨e0, _⟩ := h1.form
  simp only [Value.int.injEq, true_and] at e0
  have hl := can_low _ t h2
  have h0 := can_lev h2
  refine Classical.byContradiction fun hc => hm ?_
  rw [← h4 m]
  exact hl.coef (k := k) (by show t.1.toNat < k; omega) hk4 hc
/-- the maximum over the first k coefficients -/
def MxR (L : Nat) (P : Nat → List Tm) (k n : Nat) : Prop := (∀ i, i < k → ∀ m, coefAt (P i) m ≠ 0 → m.get L ≤ n) ∧ (n = 0 ∨ ∃ i m, i < k ∧ coefAt (P i) m ≠ 0 ∧ m.get L = n)
theorem MxR.step {L : Nat} {P : Nat → List Tm} {k n j : Nat} (h : MxR L P k n) (hj : DgR L (P k) j) : MxR L P (k + 1) (max n j) := by
  refine ⟨fun i hi m hm => ?_, ?_⟩
  · by_cases h1 : i = k
    · subst h1; have := hj.1 m hm; omega
    · have := h.1 i (by omega) m hm; omega
  · by_cases h1 : n ≤ j
    · rw [Nat.max_eq_right h1]
      exact hj.2.imp id fun ⟨m, h2, h3⟩ => ⟨k, m, by omega, h2, h3⟩
    · rw [Nat.max_eq_left (by omega)]
      exact h.2.imp id fun ⟨i, m, h2, h3, h4⟩ => ⟨i, m, by omega, h3, h4⟩
theorem poly_coef_ex {D n : Nat} {P : Nat → List Tm} (hD : D + 1 ≤ 4) (hlow : ∀ i, i < n → Low D (P i)) {m : Mo} (hm : coefAt (poly (D + 1) n P) m ≠ 0) : ∃ e : Nat, e < n ∧ m.get (D + 1) = e ∧ coefAt (P e) (Mo.sub m (xp (D + 1) (e : Int))) ≠ 0 := by
  have h0 : 0 ≤ m.get (D + 1) := Classical.byContradiction fun hc => hm (coef_poly_neg (D + 1) n P (by omega) hD hlow m (by omega))
  obtain ⟨e, he⟩ : ∃ e : Nat, m.get (D + 1) = e := ⟨(m.get (D + 1)).toNat, by omega⟩
  rw [coef_poly (D + 1) n P (by omega) hD hlow m e he] at hm
  by_cases hen : e < n
  · rw [if_pos hen] at hm; exact ⟨e, hen, he, hm⟩
  · rw [if_neg hen] at hm; exact absurd rfl hm
theorem kid_coef {D n : Nat} {P : Nat → List Tm} (hD : D + 1 ≤ 4) (hlow : ∀ i, i < n → Low D (P i)) {i : Nat} (hi : i < n) {m : Mo} (hm : coefAt (P i) m ≠ 0) : coefAt (poly (D + 1) n P) (Mo.add m (xp (D + 1) (i : Int))) ≠ 0 := by
  have h0 : m.get (D + 1) = 0 := Classical.byContradiction fun hc => hm ((hlow i hi).coef (k := D + 1) (by omega) hD hc)
  rw [coef_kid (by omega) hD hlow i hi m h0]; exact hm
theorem dg_node {D n L j : Nat} {P : Nat → List Tm} (hD : D + 1 ≤ 4) (hlow : ∀ i, i < n → Low D (P i)) (hL : L ≤ D) (h : MxR L P n j) : DgR L (poly (D + 1) n P) j := by
  refine ⟨fun m hm => ?_, ?_⟩
  · obtain ⟨e, he, _, hc⟩ := poly_coef_ex hD hlow hm
    have := h.1 e he _ hc
    rwa [get_sub, get_xp _ _ _ (by omega) hD, if_neg (by omega), Int.sub_zero] at this
  · refine h.2.imp id fun ⟨i, m, hi, hc, hg⟩ => ⟨_, kid_coef hD hlow hi hc, ?_⟩
    rw [get_add, get_xp _ _ _ (by omega) hD, if_neg (by omega), Int.add_zero, hg]
theorem dg_top {D n : Nat} {P : Nat → List Tm} (hD : D + 1 ≤ 4) (hn : 1 ≤ n) (hlow : ∀ i, i < n → Low D (P i)) (hnz : ¬ Sim (P (n - 1)) []) : DgR (D + 1) (poly (D + 1) n P) (n - 1) := by
  refine ⟨fun m hm => ?_, .inr ?_⟩
  · obtain ⟨e, he, h1, _⟩ := poly_coef_ex hD hlow hm
    omega
  · obtain ⟨m, hm⟩ := not_sim_nil hnz
    have h0 : m.get (D + 1) = 0 := Classical.byContradiction fun hc => hm ((hlow (n - 1) (by omega)).coef (k := D + 1) (by omega) hD hc)
    refine ⟨_, kid_coef hD hlow (by omega) hm, ?_⟩
    rw [get_add, get_xp _ _ _ (by omega) hD, if_pos rfl, h0]; omega
def DegCtr (L D : Nat) : Prop := ∀ (M : Nat → Prop) (l : List Tm) (x : PE) (w : World), CRx M w D x l → Calls Tryz.prog 104 #[.agg (peA x), .int .i64 L] w fun e w' => ∃ n : Nat, e = .returned (.int .i64 n) ∧ DgR L l n ∧ n ≤ 1099511627776 ∧ Ext w w'
set_option maxRecDepth 100000 in
set_option maxHeartbeats 4000000 in
theorem degree_walk (L : Nat) (hL1 : 1 ≤ L) (hL4 : L ≤ 4) (D : Nat) (ih : ∀ E, E < D → DegCtr L E) : DegCtr L D := by
  intro M l x w h
  have hE := (Ext.refl w).alloc (.cells (peA x) 28)
  have hB := Blk.of_arr w (peA x) 28 4 rfl
  obtain ⟨x0, x1, x2, x3⟩ := hB.p4
  generalize hW : w.alloc (.cells (peA x) 28) = W at *
  have HW := Lib.hid hW
  have HE := Lib.hid hE
  have HB := Lib.hid hB
  clear hW hE hB
  by_cases h1 : x.lv < L
  · have HD : Hid (DgR L l 0) := ⟨fun m hm => by have := h.lowc m hm L h1 hL4; omega, .inl rfl⟩
    clear h
    go_enter Tryz.func104, Tryz.ntmps104
    go_upto_region 1 with (fail)
    rw [HW.out]
    go_wp2
    exact bodyPost_ret (v := .int .i64 0) (by simp [results, Tryz.results104, go_sem]) rfl ⟨0, rfl, HD.out, by omega, HE.out⟩
  obtain ⟨E, b, off, P, hlv, hE4, hEL, hb0, hn0, hka, hn2, hnL, hnc, hcm, hb, hMb, hlow, hnz, hsim, hnr, hkid⟩ := h.node (by omega)
  by_cases h2 : x.lv = L
  · have hLE : L = E + 1 := by omega
    have HD : Hid (DgR L l (x.kn - 1)) := by
      have := (dg_top hE4 (by omega) hlow hnz).sim hsim
      rw [hLE]; exact this
    have h2b : (x.lv == (L : Int)) = true := by rw [h2]; simp
    obtain ⟨k, hk⟩ : ∃ k, x.kn = k + 1 := ⟨x.kn - 1, by omega⟩
    rw [hk, Nat.add_sub_cancel] at HD
    rw [hk] at x3 hnL
    clear h hlow hnz hsim hkid hnr hLE hlv
    go_enter Tryz.func104, Tryz.ntmps104
    go_upto_region 1 with (fail)
    rw [HW.out]
    go_wp2
    exact bodyPost_ret (v := .int .i64 k) (by simp [results, Tryz.results104, go_sem]) rfl ⟨k, rfl, HD.out, by omega, HE.out⟩
  · have h2b : (x.lv == (L : Int)) = false := by simp [h2]
    have HFIN : Hid (∀ j, MxR L P x.kn j → DgR L l j) := fun j hj => (dg_node hE4 hlow (by omega) hj).sim hsim
    have HK : Hid (∀ i, i < x.kn → ∃ y, KCell w b (off + i * 4) y ∧ (∀ W', Ext w W' → Calls Tryz.prog 104 #[.agg (peA y), .int .i64 L] W' fun e w' => ∃ n : Nat, e = .returned (.int .i64 n) ∧ DgR L (P i) n ∧ n ≤ 1099511627776 ∧ Ext W' w')) := fun i hi => by
      obtain ⟨y, hy1, hy2, _⟩ := hkid i hi
      exact ⟨y, hy1, fun W' he => ih E (by omega) M (P i) y W' (hy2.ext he)⟩
    rw [hka] at x3
    clear h hlow hnz hsim hkid hnr hlv ih
    go_enter Tryz.func104, Tryz.ntmps104
    go_upto_region 1 with (fail)
    rw [HW.out]
    go_wp2
    go_loopw [5, 25] (fun hv i wr => ∃ (k n : Nat), k ≤ x.kn ∧ i = .int .i64 k ∧ hv = .int .i64 n ∧ n ≤ 1099511627776 ∧ Hid (MxR L P k n) ∧ Hid (Ext W wr)) (fun _ i _ => x.kn - (intOf i).toNat)
    case atStart => exact ⟨0, 0, by omega, rfl, rfl, by omega, ⟨fun i hi => absurd hi (Nat.not_lt_zero _), .inl rfl⟩, Ext.refl _⟩
    case round =>
      clear x0 x1 x2 x3
      obtain ⟨k, n, hk, rfl, rfl, hnLIM, HMX, HER⟩ := hrel
      by_cases hlt : k < x.kn
      · obtain ⟨y, hy, hcall⟩ := HK.out k hlt
        have hEW := HE.out.trans HER.out
        obtain ⟨e0, e1, e2, e3⟩ := hy.ext hb hEW
        have hbw : b < wr.heap.size := Nat.lt_of_lt_of_le hb hEW.size
        have hEa := (Ext.refl wr).alloc (.cells (peA y) 28)
        have CTR := Lib.hid (hcall _ (hEW.trans hEa))
        have HEA := Lib.hid (HER.out.trans hEa)
        have hltI : (k : Int) < (x.kn : Int) := by omega
        clear hcall hy hEa hEW
        go_wp2_with (fail)
        refine CTR.out.mono ?_
        rintro e w2 ⟨j, rfl, hj, hjL, he2⟩
        have HMX2 := Lib.hid (HMX.out.step hj)
        have HF := Lib.hid (HEA.out.trans he2)
        have hmx : max (n : Int) (j : Int) = ((max n j : Nat) : Int) := by omega
        clear CTR hj he2 e0 e1 e2 e3 HMX HK
        go_wp2
        go_roundw
        case rel => exact ⟨k + 1, max n j, by omega, by go_num, rfl, by omega, HMX2, HF⟩
        case measure => simp [intOf]; omega
      · obtain rfl : k = x.kn := by omega
        have HD := Lib.hid (HFIN.out n HMX.out)
        clear HK
        go_wp2
        exact bodyPost_ret (v := .int .i64 n) (by simp [results, Tryz.results104, go_sem]) rfl ⟨n, rfl, HD.out, hnLIM, HE.out.trans HER.out⟩
theorem rp_degree (L : Nat) (hL1 : 1 ≤ L) (hL4 : L ≤ 4) (D : Nat) : DegCtr L D := by
  induction D using Nat.strongRecOn with
  | _ D ih => exact degree_walk L hL1 hL4 D fun E hE => ih E hE
end Go.Proofs.YtiopnmlohpmmiaaGreat
