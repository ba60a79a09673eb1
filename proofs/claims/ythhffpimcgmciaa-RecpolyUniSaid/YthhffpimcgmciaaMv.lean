/- unipoly: rows of integers as polynomials; trim, Degree. Plain facts: polynomials in one variable among the polynomials in four. unipoly: transform (with integer.Normal), Normal, Compare, Same. recpoly: FromUni. -/
import Derived.Test.YthhffpimcgmciaaMu
set_option linter.unusedVariables false
set_option linter.unusedSimpArgs false

namespace Go.Proofs.Ythhffpimcgmciaa
open Go.RowKit

/-- the cells of an integer -/
structure IE where
  b : Bool
  a : Option Addr
  n : Nat
  p : Nat
instance : Inhabited IE := ⟨⟨false, none, 0, 0⟩⟩
/-- a row of n integers -/
def URow (M : Nat → Prop) (w : World) (a : Option Addr) (n cap : Nat) (X : Nat → IE) (z : Nat → Int) : Prop :=
  n ≤ 1099511627776 ∧ n ≤ cap ∧ cap ≤ maxLen ∧ (a = none → cap = 0) ∧ ∀ i, i < n → ∃ b off, a = some ⟨b, off, none⟩ ∧ b < w.heap.size ∧ ¬ M b ∧ w.cell? ⟨b, off + i * 2, none⟩ = some (.bool (X i).b) ∧ w.cell? ⟨b, off + i * 2 + 1, none⟩ = some (.slice (X i).a (X i).n (X i).p) ∧ IntV M w (.bool (X i).b) (.slice (X i).a (X i).n (X i).p) (z i)
section
variable {M M' : Nat → Prop} {w w' : World} {a : Option Addr} {n cap : Nat} {X : Nat → IE} {z : Nat → Int}
theorem URow.kp (h : URow M w a n cap X z) (he : Kp M w w') : URow M w' a n cap X z := by
  obtain ⟨h1, h2, h3, h4, h5⟩ := h
  refine ⟨h1, h2, h3, h4, fun i hi => ?_⟩
  obtain ⟨b, off, e, hb, hm, c0, c1, hv⟩ := h5 i hi
  exact ⟨b, off, e, Nat.lt_of_lt_of_le hb he.1, hm, by rw [he.cell hb hm]; exact c0, by rw [he.cell hb hm]; exact c1, hv.kp he⟩
theorem URow.ext (h : URow M w a n cap X z) (he : Ext w w') : URow M w' a n cap X z := h.kp (Kp.of_ext he)
theorem URow.more (h : URow M w a n cap X z) (hm : ∀ g, M' g → M g ∨ w.heap.size ≤ g) : URow M' w a n cap X z := by
  obtain ⟨h1, h2, h3, h4, h5⟩ := h
  refine ⟨h1, h2, h3, h4, fun i hi => ?_⟩
  obtain ⟨b, off, e, hb, hn, c0, c1, hv⟩ := h5 i hi
  exact ⟨b, off, e, hb, fun hg => (hm b hg).elim hn (fun h => by omega), c0, c1, hv.more hm⟩
theorem URow.cut (h : URow M w a n cap X z) {k : Nat} (hk : k ≤ n) : URow M w a k cap X z := by
  obtain ⟨h1, h2, h3, h4, h5⟩ := h
  exact ⟨by omega, by omega, h3, h4, fun i hi => h5 i (by omega)⟩
end
/-- the length without leading zeros -/
def tz (z : Nat → Int) : Nat → Nat
  | 0 => 0
  | n + 1 => if z n = 0 then tz z n else n + 1
theorem tz_le (z : Nat → Int) : ∀ n, tz z n ≤ n
  | 0 => Nat.le_refl _
  | n + 1 => by
    unfold tz
    split
    · have := tz_le z n; omega
    · exact Nat.le_refl _
theorem tz_top (z : Nat → Int) : ∀ n, tz z n = 0 ∨ z (tz z n - 1) ≠ 0
  | 0 => .inl rfl
  | n + 1 => by
    unfold tz
    split
    · exact tz_top z n
    · rename_i h; exact .inr h
theorem tz_zero (z : Nat → Int) : ∀ n i, tz z n ≤ i → i < n → z i = 0
  | 0, i, _, h => by omega
  | n + 1, i, h1, h2 => by
    unfold tz at h1
    split at h1
    · rename_i h
      by_cases hi : i = n
      · rw [hi]; exact h
      · exact tz_zero z n i h1 (by omega)
    · omega
theorem tz_step {z : Nat → Int} {n : Nat} (h0 : 0 < n) (h : z (n - 1) = 0) : tz z n = tz z (n - 1) := by
  obtain ⟨k, rfl⟩ : ∃ k, n = k + 1 := ⟨n - 1, by omega⟩
  rw [show tz z (k + 1) = if z k = 0 then tz z k else k + 1 from rfl, if_pos (show z k = 0 from h)]; rfl
theorem tz_stop {z : Nat → Int} {n : Nat} (h0 : 0 < n) (h : z (n - 1) ≠ 0) : tz z n = n := by
  obtain ⟨k, rfl⟩ : ∃ k, n = k + 1 := ⟨n - 1, by omega⟩
  rw [show tz z (k + 1) = if z k = 0 then tz z k else k + 1 from rfl, if_neg (show z k ≠ 0 from h)]
set_option maxRecDepth 100000 in
set_option maxHeartbeats 4000000 in
theorem un_trim (M : Nat → Prop) (a : Option Addr) (n cap : Nat) (X : Nat → IE) (z : Nat → Int) (w : World) (h : URow M w a n cap X z) :
    Calls Try.prog 80 #[.slice a n cap] w fun e w' => e = .returned (.slice a (tz z n) cap) ∧ Ext w w' := by
  have hn := h.1
  have hnc := h.2.1
  have hcm := h.2.2.1
  have hcn := h.2.2.2.1
  have HU := Lib.hid h
  clear h
  unfold maxLen at hcm
  go_enter Try.func80, Try.ntmps80
  go_wp2
  go_loopw [3] (fun i wr => ∃ k : Nat, k ≤ n ∧ tz z n = tz z k ∧ i = .int .i64 k ∧ Ext w wr) (fun i _ => (intOf i).toNat)
  case atStart => exact ⟨n, Nat.le_refl _, rfl, rfl, Ext.refl _⟩
  case round =>
    obtain ⟨k, hk, ht, rfl, her⟩ := hrel
    by_cases hk0 : k = 0
    · subst hk0
      have HT : Hid (tz z n = 0) := ht
      clear ht
      go_wp2
      go_ret
      exact ⟨by rw [HT.out]; rfl, her⟩
    · have hk1 : 0 < k := by omega
      obtain ⟨b, off, hva, hb, hmb, x0, x1, hv⟩ := (HU.out.ext her).2.2.2.2 (k - 1) (by omega)
      subst hva
      have HV := Lib.hid hv
      have j1 : (0 : Int) ≤ (k : Int) - 1 := by omega
      have j2 : ((k : Int) - 1).toNat = k - 1 := by omega
      have j3 : (k : Int) - 1 < (n : Int) := by omega
      clear hv
      go_wp2_with (fail)
      refine (int_sign _ _ (z (k - 1)) _ HV.out).mono ?_
      rintro e w1 ⟨rfl, he1⟩
      have her1 := her.trans he1
      clear x0 x1 hb he1 her
      by_cases hz : z (k - 1) = 0
      · have t0 : ((z (k - 1)).sign == 0) = true := by simp [hz]
        go_wp2
        go_roundw
        case rel => exact ⟨k - 1, by omega, by rw [ht, tz_step hk1 hz], by go_num, her1⟩
        case measure => simp [intOf]; omega
      · have t0 : ((z (k - 1)).sign == 0) = false := by simp [hz]
        have HT : Hid (tz z n = k) := ht.trans (tz_stop hk1 hz)
        clear ht
        go_wp2
        go_ret
        exact ⟨by rw [HT.out]; rfl, her1⟩
theorem un_degree (M : Nat → Prop) (a : Option Addr) (n cap : Nat) (X : Nat → IE) (z : Nat → Int) (w : World) (h : URow M w a n cap X z) :
    Calls Try.prog 50 #[.slice a n cap] w fun e w' => e = .returned (.int .i64 ((tz z n : Nat) - 1)) ∧ Ext w w' := by
  have HU := Lib.hid h
  have hle : tz z n ≤ 1099511627776 := Nat.le_trans (tz_le z n) h.1
  clear h
  go_enter Try.func50, Try.ntmps50
  go_wp2_with (fail)
  refine (un_trim M a n cap X z w HU.out).mono ?_
  rintro e w1 ⟨rfl, he1⟩
  go_wp2
  go_ret
  exact ⟨rfl, he1⟩
end Go.Proofs.Ythhffpimcgmciaa

namespace Go.Proofs.Ythhffpimcgmciaa
open Go.RowKit

/-- the polynomial with the coefficients z in x_L -/
def upl (L n : Nat) (z : Nat → Int) : List Tm := poly L n fun i => [(z i, Mo.zero)]
theorem upl_low (L n : Nat) (z : Nat → Int) : ∀ i, i < n → Low (L - 1) [(z i, Mo.zero)] := fun i _ => (low_const _).mono (Nat.zero_le _)
theorem upl_coef {L n : Nat} {z : Nat → Int} (h1 : 1 ≤ L) (h4 : L ≤ 4) (e : Nat) : coefAt (upl L n z) (xp L e) = if e < n then z e else 0 := by
  unfold upl
  rw [coef_poly L n _ h1 h4 (upl_low L n z) (xp L e) e (by rw [get_xp L L _ h1 h4, if_pos rfl])]
  by_cases h : e < n
  · rw [if_pos h, if_pos h]
    have : Mo.sub (xp L (e : Int)) (xp L (e : Int)) = Mo.zero := by unfold Mo.sub Mo.zero; simp
    rw [this]; simp [coefAt]
  · rw [if_neg h, if_neg h]
/-- only x_L occurs in l -/
def OnlyL (L : Nat) (l : List Tm) : Prop := ∀ m, coefAt l m ≠ 0 → ∀ k, 1 ≤ k → k ≤ 4 → k ≠ L → m.get k = 0
theorem OnlyL.sim {L : Nat} {l r : List Tm} (h : OnlyL L l) (hs : Sim l r) : OnlyL L r := fun m hm => h m (by rw [hs]; exact hm)
theorem coefAt_ex {l : List Tm} {m : Mo} (h : coefAt l m ≠ 0) : ∃ t ∈ l, t.2 = m := by
  refine Classical.byContradiction fun hc => h (coefAt_zero fun t ht e => hc ⟨t, ht, e⟩)
theorem upl_only {L n : Nat} {z : Nat → Int} (h1 : 1 ≤ L) (h4 : L ≤ 4) : OnlyL L (upl L n z) := by
  intro m hm k hk1 hk4 hkL
  obtain ⟨t, ht, rfl⟩ := coefAt_ex hm
  obtain ⟨i, hi, s, hs, rfl⟩ := poly_mem ht
  simp only [List.mem_singleton] at hs
  subst hs
  rw [get_add, get_zero, get_xp L k _ h1 h4, if_neg hkL]; rfl
theorem const_only (L : Nat) (z : Int) : OnlyL L [(z, Mo.zero)] := by
  intro m hm k _ _ _
  obtain ⟨t, ht, rfl⟩ := coefAt_ex hm
  simp only [List.mem_singleton] at ht
  subst ht; exact get_zero k
theorem upl_one {L : Nat} {z : Nat → Int} : Sim (upl L 1 z) [(z 0, Mo.zero)] := poly_one L _
theorem upl_cut {L n k : Nat} {z : Nat → Int} (h : k ≤ n) (hz : ∀ i, k ≤ i → i < n → z i = 0) : Sim (upl L k z) (upl L n z) :=
  poly_cut h fun i h1 h2 => by rw [hz i h1 h2]; exact sim_zero_const
theorem upl_tz {L n : Nat} {z : Nat → Int} : Sim (upl L (tz z n) z) (upl L n z) := upl_cut (tz_le z n) fun i h1 h2 => tz_zero z n i h1 h2
theorem tz_uniq {n n' : Nat} {z z' : Nat → Int} (h : ∀ i, (if i < n then z i else 0) = if i < n' then z' i else 0) : tz z n ≤ tz z' n' := by
  refine Classical.byContradiction fun hc => ?_
  have h0 := tz_top z n
  have h1 := tz_le z n
  have h2 := h (tz z n - 1)
  rw [if_pos (by omega)] at h2
  rcases h0 with h0 | h0
  · omega
  · split at h2
    · rename_i h3; exact h0 (h2.trans (tz_zero z' n' _ (by omega) h3))
    · exact h0 h2
theorem upl_inj {L n n' : Nat} {z z' : Nat → Int} (h1 : 1 ≤ L) (h4 : L ≤ 4) (h : Sim (upl L n z) (upl L n' z')) : tz z n = tz z' n' ∧ ∀ i, i < tz z n → z i = z' i := by
  have hc : ∀ i, (if i < n then z i else 0) = if i < n' then z' i else 0 := fun i => by rw [← upl_coef h1 h4, ← upl_coef h1 h4]; exact h _
  have e := Nat.le_antisymm (tz_uniq hc) (tz_uniq fun i => (hc i).symm)
  refine ⟨e, fun i hi => ?_⟩
  have := hc i
  rw [if_pos (by have := tz_le z n; omega), if_pos (by have := tz_le z' n'; omega)] at this
  exact this
/-- the degree in x_L of a list of monomials -/
def dgM (L : Nat) (l : List Mo) : Int := l.foldl (fun h m => max h (m.get L)) 0
theorem dgM_snoc (L : Nat) (l : List Mo) (m : Mo) : dgM L (l ++ [m]) = max (dgM L l) (m.get L) := by simp [dgM]
theorem foldmax {α : Type} (f : α → Int) : ∀ (l : List α) (k : Int), k ≤ l.foldl (fun h m => max h (f m)) k ∧ (∀ m ∈ l, f m ≤ l.foldl (fun h m => max h (f m)) k) ∧ (l.foldl (fun h m => max h (f m)) k = k ∨ ∃ m ∈ l, l.foldl (fun h m => max h (f m)) k = f m)
  | [], k => ⟨Int.le_refl _, fun m hm => absurd hm (List.not_mem_nil), .inl rfl⟩
  | x :: l, k => by
    obtain ⟨h1, h2, h3⟩ := foldmax f l (max k (f x))
    have e : (x :: l).foldl (fun h m => max h (f m)) k = l.foldl (fun h m => max h (f m)) (max k (f x)) := rfl
    rw [e]
    refine ⟨by omega, fun m hm => ?_, ?_⟩
    · rcases List.mem_cons.1 hm with rfl | hm
      · omega
      · exact h2 m hm
    · rcases h3 with h3 | ⟨m, hm, h3⟩
      · rw [h3]
        by_cases hk : f x ≤ k
        · exact .inl (by omega)
        · exact .inr ⟨x, List.mem_cons_self .., by omega⟩
      · exact .inr ⟨m, List.mem_cons_of_mem _ hm, h3⟩
theorem dgM_pos {L : Nat} {l : List Mo} : 0 < dgM L l ↔ ∃ m ∈ l, 0 < m.get L := by
  obtain ⟨h1, h2, h3⟩ := foldmax (fun m : Mo => m.get L) l 0
  refine ⟨fun h => ?_, fun ⟨m, hm, h⟩ => ?_⟩
  · rcases h3 with h3 | ⟨m, hm, h3⟩
    · exact absurd (show dgM L l = 0 from h3) (by omega)
    · exact ⟨m, hm, by have : dgM L l = m.get L := h3; omega⟩
  · have : m.get L ≤ dgM L l := h2 m hm
    omega
theorem dgM_bd {L : Nat} {l : List Mo} {B : Int} (hB : 0 ≤ B) (h : ∀ m ∈ l, m.get L ≤ B) : 0 ≤ dgM L l ∧ dgM L l ≤ B := by
  obtain ⟨h1, h2, h3⟩ := foldmax (fun m : Mo => m.get L) l 0
  refine ⟨h1, ?_⟩
  rcases h3 with h3 | ⟨m, hm, h3⟩
  · exact (show dgM L l = 0 from h3) ▸ hB
  · exact (show dgM L l = m.get L from h3) ▸ h m hm
/-- the degree that Degree returns -/
def dgP (lv : Int) (l : List Tm) : Int := if l = [] then -1 else if isLevB lv then dgM lv.toNat (l.map (·.2)) else 0
/-- alone's answer: no other variable occurs in a canonical list -/
def AloneP (lv : Int) (l : List Tm) : Prop := ∀ t ∈ l, ∀ k : Nat, 1 ≤ k → k ≤ 4 → (k : Int) ≠ lv → ¬ 0 < t.2.get k
theorem dgP_pos {k : Nat} {l : List Tm} (h1 : 1 ≤ k) (h4 : k ≤ 4) : 0 < dgP k l ↔ ∃ t ∈ l, 0 < t.2.get k := by
  unfold dgP
  by_cases hl : l = []
  · subst hl; simp
  · rw [if_neg hl, if_pos (by unfold isLevB; simp; omega), dgM_pos]
    refine ⟨fun ⟨m, hm, h⟩ => ?_, fun ⟨t, ht, h⟩ => ⟨t.2, List.mem_map_of_mem ht, h⟩⟩
    obtain ⟨t, ht, rfl⟩ := List.mem_map.1 hm
    exact ⟨t, ht, h⟩
theorem canon_mem_coef {l : List Tm} (h : Canon l) {t : Tm} (ht : t ∈ l) : coefAt l t.2 ≠ 0 := by rw [coefAt_of_mem h ht]; exact (h.2 t ht).1
theorem only_alone {L : Nat} {l : List Tm} (h : Canon l) : OnlyL L l ↔ AloneP L l := by
  refine ⟨fun ho t ht k h1 h4 hk => ?_, fun ha m hm k h1 h4 hk => ?_⟩
  · rw [ho t.2 (canon_mem_coef h ht) k h1 h4 (by omega)]; omega
  · obtain ⟨t, ht, rfl⟩ := coefAt_ex hm
    have := ha t ht k h1 h4 (by omega)
    have := nn_get (h.2 t ht).2 k
    omega
theorem sum_get (m : Mo) : sumU m 4 = m.get 1 + m.get 2 + m.get 3 + m.get 4 := by simp [sumU]
theorem only_sum {L : Nat} {m : Mo} (h1 : 1 ≤ L) (h4 : L ≤ 4) (h : ∀ k, 1 ≤ k → k ≤ 4 → k ≠ L → m.get k = 0) : sumU m 4 = m.get L := by
  rw [sum_get]
  have a1 := h 1 (by omega) (by omega)
  have a2 := h 2 (by omega) (by omega)
  have a3 := h 3 (by omega) (by omega)
  have a4 := h 4 (by omega) (by omega)
  rcases lev_cases h1 h4 with rfl | rfl | rfl | rfl <;> omega
/-- where only x_L occurs and the total degree is positive, the level is L and the total degree that in x_L -/
theorem only_facts {L : Nat} {l : List Tm} (h1 : 1 ≤ L) (h4 : L ≤ 4) (h : Canon l) (ho : OnlyL L l) (ht : 0 < toM (l.map (·.2))) : lvM (l.map (·.2)) = L ∧ toM (l.map (·.2)) = dgP L l := by
  have hm : ∀ m ∈ l.map (·.2), ∀ k, 1 ≤ k → k ≤ 4 → k ≠ L → m.get k = 0 := fun m hm => by
    obtain ⟨t, ht, rfl⟩ := List.mem_map.1 hm
    exact ho t.2 (canon_mem_coef h ht)
  obtain ⟨a1, a2, a3⟩ := foldmax (fun m : Mo => sumU m 4) (l.map (·.2)) (-1)
  obtain ⟨b1, b2, b3⟩ := foldmax (fun m : Mo => m.get L) (l.map (·.2)) 0
  have e1 : (l.map (·.2)).foldl (fun h m => max h (sumU m 4)) (-1) = toM (l.map (·.2)) := rfl
  have e2 : (l.map (·.2)).foldl (fun h m => max h (m.get L)) 0 = dgM L (l.map (·.2)) := rfl
  rw [e1] at a1 a2 a3
  rw [e2] at b1 b2 b3
  rcases a3 with a3 | ⟨m, hml, a3⟩
  · omega
  have hs := only_sum h1 h4 (hm m hml)
  have hne : l ≠ [] := fun e => by subst e; cases hml
  have hd : dgP L l = dgM L (l.map (·.2)) := by unfold dgP; rw [if_neg hne, if_pos (by unfold isLevB; simp; omega)]; rfl
  refine ⟨Nat.le_antisymm (lvM_le_of _ fun q hq => hiU_le_of (fun k hk hk4 => ?_) (Nat.le_refl _)) ?_, ?_⟩
  · rw [hm q hq k (by omega) hk4 (by omega)]; exact Int.le_refl _
  · exact Nat.le_trans (le_hiU h1 (by rw [← hs, ← a3]; exact ht) h4) (le_lvM hml)
  · rw [hd]
    refine Int.le_antisymm ?_ ?_
    · have := b2 m hml; omega
    · rcases b3 with b3 | ⟨q, hq, b3⟩
      · omega
      · have := a2 q hq
        rw [only_sum h1 h4 (hm q hq)] at this
        omega
/-- where another variable occurs, the total degree is positive -/
theorem not_only_total {L : Nat} {l : List Tm} (h : Canon l) (ho : ¬ OnlyL L l) : 0 < toM (l.map (·.2)) := by
  rw [only_alone h] at ho
  unfold AloneP at ho
  simp only [Classical.not_forall] at ho
  obtain ⟨t, ht, k, h1, h4, _, hk⟩ := ho
  have hk : 0 < t.2.get k := Classical.byContradiction hk
  obtain ⟨_, a2, _⟩ := foldmax (fun m : Mo => sumU m 4) (l.map (·.2)) (-1)
  have h3 : sumU t.2 4 ≤ toM (l.map (·.2)) := a2 t.2 (List.mem_map_of_mem ht)
  have n1 := nn_get (h.2 t ht).2 1
  have n2 := nn_get (h.2 t ht).2 2
  have n3 := nn_get (h.2 t ht).2 3
  have n4 := nn_get (h.2 t ht).2 4
  rw [sum_get] at h3
  rcases lev_cases h1 h4 with rfl | rfl | rfl | rfl <;> omega
/-- the degree of a polynomial in x_L -/
theorem upl_degree {L n : Nat} {z : Nat → Int} (h1 : 1 ≤ L) (h4 : L ≤ 4) : dgP L (norm (upl L n z)) = (tz z n : Int) - 1 := by
  have hcan := norm_canon (upl L n z)
  have hnn : ∀ e : Nat, (xp L (e : Int)).nn = true := fun e => by
    rw [Mo.nn_iff]; unfold xp
    refine ⟨?_, ?_, ?_, ?_⟩ <;> (simp only; split <;> omega)
  have hco : ∀ e : Nat, coefAt (norm (upl L n z)) (xp L (e : Int)) = if e < n then z e else 0 := fun e => by rw [norm_coef_nn _ _ (hnn e), upl_coef h1 h4]
  have hmem : ∀ t ∈ norm (upl L n z), ∃ e : Nat, t.2 = xp L (e : Int) ∧ e < tz z n := fun t ht => by
    have hc := canon_mem_coef hcan ht
    have hnt := (hcan.2 t ht).2
    obtain ⟨s, hs, hst⟩ := norm_mem ht
    obtain ⟨i, hi, q, hq, rfl⟩ := poly_mem hs
    simp only [List.mem_singleton] at hq
    subst hq
    have e2 : t.2 = xp L (i : Int) := by rw [← hst]; exact Mo.zero_add' _
    refine ⟨i, e2, Classical.byContradiction fun hc' => hc ?_⟩
    rw [e2, hco, if_pos hi]
    exact tz_zero z n i (by omega) hi
  unfold dgP
  by_cases h0 : tz z n = 0
  · have : norm (upl L n z) = [] := by
      refine List.eq_nil_iff_forall_not_mem.2 fun t ht => ?_
      obtain ⟨e, _, he⟩ := hmem t ht
      omega
    rw [if_pos this, h0]; rfl
  · have hz : z (tz z n - 1) ≠ 0 := (tz_top z n).resolve_left h0
    have hc : coefAt (norm (upl L n z)) (xp L ((tz z n - 1 : Nat) : Int)) ≠ 0 := by
      rw [hco, if_pos (by have := tz_le z n; omega)]; exact hz
    obtain ⟨t, ht, e⟩ := coefAt_ex hc
    rw [if_neg (fun e => by rw [e] at ht; cases ht), if_pos (by unfold isLevB; simp; omega)]
    obtain ⟨b1, b2, b3⟩ := foldmax (fun m : Mo => m.get L) ((norm (upl L n z)).map (·.2)) 0
    have e2 : ((norm (upl L n z)).map (·.2)).foldl (fun h m => max h (m.get L)) 0 = dgM (L : Int).toNat ((norm (upl L n z)).map (·.2)) := rfl
    rw [e2] at b1 b2 b3
    have k1 := b2 t.2 (List.mem_map_of_mem ht)
    rw [e, get_xp L L _ h1 h4, if_pos rfl] at k1
    refine Int.le_antisymm ?_ (by omega)
    rcases b3 with b3 | ⟨m, hm, b3⟩
    · omega
    · obtain ⟨s, hs, rfl⟩ := List.mem_map.1 hm
      obtain ⟨i, hi, hlt⟩ := hmem s hs
      rw [b3]
      rw [hi, get_xp L L _ h1 h4, if_pos rfl]; omega
end Go.Proofs.Ythhffpimcgmciaa

namespace Go.Proofs.Ythhffpimcgmciaa
open Go.RowKit

def set2 (w : World) (g o : Nat) (e0 e1 : Value) : World := (w.setCell ⟨g, o, none⟩ e0).setCell ⟨g, o + 1, none⟩ e1
/-- a row of N integers of one's own, of which the first k are those of z -/
def UK (M : Nat → Prop) (w : World) (g N k : Nat) (z : Nat → Int) : Prop :=
  ∃ X : Nat → IE, ∃ f, Blk w g 28 (N * 2) f ∧ ∀ i, i < k → f (i * 2) = .bool (X i).b ∧ f (i * 2 + 1) = .slice (X i).a (X i).n (X i).p ∧ IntV M w (.bool (X i).b) (.slice (X i).a (X i).n (X i).p) (z i)
section
variable {M M' : Nat → Prop} {w w' : World} {g N k : Nat} {z : Nat → Int}
theorem UK.ext (h : UK M w g N k z) (he : Ext w w') : UK M w' g N k z := by
  obtain ⟨X, f, hB, hf⟩ := h
  exact ⟨X, f, hB.ext he, fun i hi => ⟨(hf i hi).1, (hf i hi).2.1, (hf i hi).2.2.ext he⟩⟩
theorem UK.at (h : UK M w g N k z) {j : Nat} (hj : j < N) : (∃ e, w.cell? ⟨g, j * 2, none⟩ = some e) ∧ (∃ e, w.cell? ⟨g, j * 2 + 1, none⟩ = some e) ∧ (∀ o, w.frozen? ⟨g, o, none⟩ = false) ∧ g < w.heap.size := by
  obtain ⟨X, f, hB, hf⟩ := h
  exact ⟨⟨_, hB.cell (by omega)⟩, ⟨_, hB.cell (by omega)⟩, hB.frozen, hB.lt⟩
theorem UK.set (h : UK M w g N k z) (hg : M g) {b : Bool} {a : Option Addr} {n p : Nat} (hc : IntV M w (.bool b) (.slice a n p) (z k)) : UK M (set2 w g (k * 2) (.bool b) (.slice a n p)) g N (k + 1) z := by
  obtain ⟨X, f, hB, hf⟩ := h
  have hk : Kp M w (set2 w g (k * 2) (.bool b) (.slice a n p)) := (Kp.set M w (p := ⟨g, k * 2, none⟩) hg _).trans (Kp.set M _ (p := ⟨g, k * 2 + 1, none⟩) hg _)
  refine ⟨fun i => if i = k then ⟨b, a, n, p⟩ else X i, _, (hB.set (k * 2) (.bool b)).set (k * 2 + 1) (.slice a n p), fun i hi => ?_⟩
  unfold upd
  by_cases hik : i = k
  · subst hik; simp only [if_true]
    exact ⟨by rw [if_neg (by omega)], trivial, hc.kp hk⟩
  · simp only [if_neg hik]
    rw [if_neg (by omega), if_neg (by omega), if_neg (by omega), if_neg (by omega)]
    obtain ⟨h1, h2, h3⟩ := hf i (by omega)
    exact ⟨h1, h2, h3.kp hk⟩
theorem UK.row (h : UK M w g N N z) (hm : ∀ g, M' g → M g ∨ w.heap.size ≤ g) (hg : ¬ M' g) (hN : N ≤ 1099511627776) : ∃ X, URow M' w (some ⟨g, 0, none⟩) N N X z := by
  obtain ⟨X, f, hB, hf⟩ := h
  refine ⟨X, hN, Nat.le_refl _, by unfold maxLen; omega, fun e => (by cases e), fun i hi => ?_⟩
  obtain ⟨h1, h2, h3⟩ := hf i hi
  exact ⟨g, 0, rfl, hB.lt, hg, by rw [Nat.zero_add, hB.cell (by omega), h1], by rw [Nat.zero_add, hB.cell (by omega), h2], h3.more hm⟩
theorem UK.fresh {f : Nat → Value} (hB : Blk w g 28 (N * 2) f) : UK M w g N 0 z := ⟨fun _ => ⟨false, none, 0, 0⟩, f, hB, fun i hi => absurd hi (Nat.not_lt_zero _)⟩
end
theorem Ext.set2 {a w : World} (h : Ext a w) {g : Nat} (hg : a.heap.size ≤ g) (o : Nat) (e0 e1 : Value) : Ext a (Go.Proofs.Ythhffpimcgmciaa.set2 w g o e0 e1) := (h.set (p := ⟨g, o, none⟩) hg e0).set (p := ⟨g, o + 1, none⟩) hg e1
theorem size_set2 (w : World) (g o : Nat) (e0 e1 : Value) : (set2 w g o e0 e1).heap.size = w.heap.size := by simp [set2]
/-- a row of integers is returned -/
def RetU (M : Nat → Prop) (w : World) (n : Nat) (z : Nat → Int) (e : Ending) (w' : World) : Prop := ∃ a X, e = .returned (.slice a n n) ∧ URow M w' a n n X z ∧ Ext w w'
set_option maxRecDepth 100000 in
set_option maxHeartbeats 4000000 in
theorem un_transform (M : Nat → Prop) (a : Option Addr) (n cap : Nat) (X : Nat → IE) (z : Nat → Int) (w : World) (hM : Mb M w) (h : URow M w a n cap X z) :
    Calls Try.prog 98 #[.slice a n cap, .func (.func 63) #[] #[]] w (RetU M w n z) := by
  obtain ⟨i0, hi, hz0, hz1, hz2⟩ := info_parts Try.info28
  have hn := h.1
  have hnc := h.2.1
  have hcm := h.2.2.1
  have HU := Lib.hid h
  have HM := Lib.hid hM
  clear h
  unfold maxLen at hcm
  go_enter Try.func98, Try.ntmps98
  go_wp2_with (first | (refine wpList_make_full _ rfl _ _ _ rfl w.heap.size 28 i0 (.agg #[.bool false, .slice none 0 0]) 2 Try.underlying64 hi hz0 hz1 .i64 .i64 _ _ n rfl rfl ?c4 ?c5 ?c2 ?c3 ?c6 ?_))
  case c2 => rw [hz2]; omega
  case c3 => unfold maxLen; omega
  case c4 => simp
  case c5 => simp
  case c6 => simp
  intro w1 hown hgrow
  have hBk := Blk.made hown rfl (by omega)
  have HE1 := Lib.hid (grown_ext hgrow)
  have hs1 : w.heap.size + 1 ≤ w1.heap.size := by have := hBk.lt; omega
  have HK1 : Hid (UK (Mx M w.heap.size (w.heap.size + 1)) w1 w.heap.size n 0 z) := UK.fresh hBk
  clear hown hgrow hBk
  go_wp2
  go_loopw [13] (fun i wr => ∃ k : Nat, k ≤ n ∧ i = .int .i64 k ∧ w.heap.size + 1 ≤ wr.heap.size ∧ Hid (UK (Mx M w.heap.size (w.heap.size + 1)) wr w.heap.size n k z) ∧ Hid (Ext w wr)) (fun i _ => n - (intOf i).toNat)
  case atStart => exact ⟨0, Nat.zero_le _, rfl, hs1, HK1, HE1⟩
  case round =>
    clear HK1 HE1 hs1
    obtain ⟨k, hk, rfl, hsz, HK, HEW⟩ := hrel
    by_cases hlt : k < n
    · obtain ⟨b, off, hva, hb, hmb, x0, x1, hv⟩ := HU.out.2.2.2.2 k hlt
      subst hva
      rw [← HEW.out.cell hb] at x0 x1
      have hbw : b < wr.heap.size := by omega
      have hEa : Ext wr (wr.alloc (.cells #[.bool (X k).b, .slice (X k).a (X k).n (X k).p] 28)) := (Ext.refl wr).alloc _
      have hV2 : IntV (Mx M w.heap.size (w.heap.size + 1)) (wr.alloc (.cells #[.bool (X k).b, .slice (X k).a (X k).n (X k).p] 28)) _ _ (z k) := ((hv.more (Mx.more (Nat.le_refl _))).ext HEW.out).ext hEa
      have hM3 : Mb (Mx M w.heap.size (w.heap.size + 1)) (wr.alloc (.cells #[.bool (X k).b, .slice (X k).a (X k).n (X k).p] 28)) := Mx.mb HM.out (by simp; omega) (by simp; omega)
      have CTR := Lib.hid (int_normal _ _ _ _ hM3 hV2)
      have HEA := Lib.hid hEa
      clear hv hV2 hM3 hEa
      go_wp2_with (fail)
      refine (CTR.out).mono ?_
      rintro e w4 ⟨d0, d1, rfl, hc, he4⟩
      obtain ⟨b2, a2, n2, p2, rfl, rfl⟩ := hc.form
      have he5 := HEA.out.trans he4
      have hK4 := HK.out.ext he5
      obtain ⟨⟨_, k0⟩, ⟨_, k1⟩, hfr, hg4⟩ := hK4.at hlt
      have hf0 := hfr (k * 2)
      have hf1 := hfr (k * 2 + 1)
      have HK5 : Hid (UK (Mx M w.heap.size (w.heap.size + 1)) (set2 w4 w.heap.size (k * 2) (.bool b2) (.slice a2 n2 p2)) w.heap.size n (k + 1) z) := hK4.set (Mx.at (by omega)) hc.toV
      have HE5 : Hid (Ext w (set2 w4 w.heap.size (k * 2) (.bool b2) (.slice a2 n2 p2))) := (HEW.out.trans he5).set2 (by omega) _ _ _
      have HSZ5 : Hid (w.heap.size + 1 ≤ (set2 w4 w.heap.size (k * 2) (.bool b2) (.slice a2 n2 p2)).heap.size) := by show _ ≤ _; rw [size_set2]; have := he5.size; omega
      clear hK4 hfr hc he4 he5 x0 x1
      go_wp2
      go_roundw
      case rel => exact ⟨k + 1, by omega, by go_num, HSZ5.out, HK5, HE5⟩
      case measure => simp [intOf]; omega
    · have hkn : k = n := by omega
      subst hkn
      obtain ⟨X', hX'⟩ := HK.out.row (M' := M) (fun g hg => .inl (.inl hg)) (HM.out.new (Nat.le_refl _)) hn
      have HF : Hid (RetU M w k z (.returned (.slice (some ⟨w.heap.size, 0, none⟩) k k)) wr) := ⟨_, X', rfl, hX', HEW.out⟩
      clear hX'
      go_wp2
      go_ret
      exact HF.out
theorem un_normal (M : Nat → Prop) (a : Option Addr) (n cap : Nat) (X : Nat → IE) (z : Nat → Int) (w : World) (hM : Mb M w) (h : URow M w a n cap X z) :
    Calls Try.prog 78 #[.slice a n cap] w (RetU M w (tz z n) z) := by
  have HU := Lib.hid h
  have hle : tz z n ≤ n := tz_le z n
  clear h
  go_enter Try.func78, Try.ntmps78
  go_wp2_with (fail)
  refine (un_trim M a n cap X z w HU.out).mono ?_
  rintro e w1 ⟨rfl, he1⟩
  go_wp2_with (fail)
  refine (un_transform M a _ cap X z w1 (hM.ext he1) ((HU.out.ext he1).cut hle)).mono ?_
  rintro e w2 ⟨a2, X2, rfl, h2, he2⟩
  have HF : Hid (RetU M w (tz z n) z (.returned (.slice a2 (tz z n) (tz z n))) w2) := ⟨_, X2, rfl, h2, he1.trans he2⟩
  clear h2 he2 he1
  go_wp2
  go_ret
  exact HF.out
/-- equal polynomials -/
def EqU (n n' : Nat) (z z' : Nat → Int) : Prop := tz z n = tz z' n' ∧ ∀ i, i < tz z n → z i = z' i
set_option maxRecDepth 100000 in
set_option maxHeartbeats 4000000 in
theorem un_compare (M : Nat → Prop) (a a' : Option Addr) (n cap n' cap' : Nat) (X X' : Nat → IE) (z z' : Nat → Int) (w : World) (h : URow M w a n cap X z) (h' : URow M w a' n' cap' X' z') :
    Calls Try.prog 79 #[.slice a n cap, .slice a' n' cap'] w fun e w' => ∃ c : Int, e = .returned (.int .i64 c) ∧ (c = 0 ↔ EqU n n' z z') ∧ Ext w w' := by
  have HU := Lib.hid h
  have HU' := Lib.hid h'
  have hle : tz z n ≤ 1099511627776 := Nat.le_trans (tz_le z n) h.1
  have hle' : tz z' n' ≤ 1099511627776 := Nat.le_trans (tz_le z' n') h'.1
  have hcm := h.2.2.1
  have hcm' := h'.2.2.1
  have hnc : tz z n ≤ cap := Nat.le_trans (tz_le z n) h.2.1
  have hnc' : tz z' n' ≤ cap' := Nat.le_trans (tz_le z' n') h'.2.1
  have HC := Lib.hid (h.cut (tz_le z n))
  have HC' := Lib.hid (h'.cut (tz_le z' n'))
  clear h h'
  unfold maxLen at hcm hcm'
  have HD : Hid (∀ c : Int, (c = 0 ↔ EqU n n' z z') → c = 0 ∨ ¬ EqU n n' z z') := fun c hc => by
    by_cases h0 : c = 0
    · exact .inl h0
    · exact .inr fun he => h0 (hc.2 he)
  clear HD
  go_enter Try.func79, Try.ntmps79
  go_wp2_with (fail)
  refine (un_trim M a n cap X z w HU.out).mono ?_
  rintro e w1 ⟨rfl, he1⟩
  go_wp2_with (fail)
  refine (un_trim M a' n' cap' X' z' w1 (HU'.out.ext he1)).mono ?_
  rintro e w2 ⟨rfl, he2⟩
  have HE2 := Lib.hid (he1.trans he2)
  clear he1 he2
  have HE : Hid (EqU n n' z z' = (tz z n = tz z' n' ∧ ∀ i, i < tz z n → z i = z' i)) := rfl
  generalize tz z n = m at *
  generalize tz z' n' = m' at *
  by_cases h1 : m < m'
  · have hd : ((m : Int) < (m' : Int)) := by omega
    have HF : Hid ((-1 : Int) = 0 ↔ EqU n n' z z') := ⟨fun e => (by cases e), fun hq => by rw [HE.out] at hq; omega⟩
    go_wp2
    go_ret
    exact ⟨_, rfl, HF.out, HE2.out⟩
  · have hd : ¬ ((m : Int) < (m' : Int)) := by omega
    by_cases h2 : m' < m
    · have hd2 : ((m' : Int) < (m : Int)) := by omega
      have HF : Hid ((1 : Int) = 0 ↔ EqU n n' z z') := ⟨fun e => (by cases e), fun hq => by rw [HE.out] at hq; omega⟩
      go_wp2
      go_ret
      exact ⟨_, rfl, HF.out, HE2.out⟩
    · obtain rfl : m = m' := by omega
      go_wp2
      go_loopw [5] (fun i wr => ∃ k : Nat, k ≤ m ∧ i = .int .i64 ((k : Int) - 1) ∧ Hid (∀ j, k ≤ j → j < m → z j = z' j) ∧ Hid (Ext w wr)) (fun i _ => (intOf i + 1).toNat)
      case atStart => exact ⟨m, Nat.le_refl _, rfl, fun j h1 h2 => by omega, HE2⟩
      case round =>
        obtain ⟨k, hk, rfl, HZ, HER⟩ := hrel
        by_cases hk0 : k = 0
        · subst hk0
          have HF : Hid (EqU n n' z z') := (by show EqU n n' z z'; rw [HE.out]; exact ⟨trivial, fun i hi => HZ.out i (Nat.zero_le _) hi⟩)
          go_wp2
          go_ret
          exact ⟨_, rfl, ⟨fun _ => HF.out, fun _ => rfl⟩, HER.out⟩
        · obtain ⟨j, hj⟩ : ∃ j, j = k - 1 := ⟨k - 1, rfl⟩
          have hkj : k = j + 1 := by omega
          obtain ⟨b, off, hva, hb, hmb, x0, x1, hv⟩ := (HC.out.ext HER.out).2.2.2.2 j (by omega)
          obtain ⟨b', off', hva', hb', hmb', y0, y1, hv'⟩ := (HC'.out.ext HER.out).2.2.2.2 j (by omega)
          subst hva hva'
          have HV := Lib.hid hv
          have HV' := Lib.hid hv'
          have j1 : (0 : Int) ≤ (k : Int) - 1 := by omega
          have j2 : ((k : Int) - 1).toNat = j := by omega
          have j3 : (k : Int) - 1 < (m : Int) := by omega
          have j4 : (0 : Int) ≤ (j : Int) := by omega
          have j5 : (j : Int) < (m : Int) := by omega
          rw [show (k : Int) - 1 = (j : Int) by omega]
          clear hv hv' hmb hmb' hj j1 j2 j3
          go_wp2
          go_still_tail 8, (by kernel_rfl)
          change wpList _ _ _ _ _ wr.drew
          go_wp2_with (fail)
          refine (int_cmp _ _ _ _ (z j) (z' j) _ (HV.out.ext ((Ext.refl wr).drew)) (HV'.out.ext ((Ext.refl wr).drew))).mono ?_
          rintro e w3 ⟨rfl, he3⟩
          have HE3 := Lib.hid (HER.out.trans (((Ext.refl wr).drew).trans he3))
          clear x0 x1 y0 y1 hb hb' he3
          by_cases hz : z j = z' j
          · have t0 : (cmpZ (z j) (z' j)) = 0 := by unfold cmpZ; rw [hz]; simp
            have HZ2 : Hid (∀ i, j ≤ i → i < m → z i = z' i) := fun i h1 h2 => by
              by_cases hij : i = j
              · rw [hij]; exact hz
              · exact HZ.out i (by omega) h2
            clear hz
            rw [t0]
            clear t0
            go_wp2
            go_roundw
            case rel => exact ⟨j, by omega, by go_num, HZ2, HE3⟩
            case measure => simp [intOf]
          · have t1 : (cmpZ (z j) (z' j)) ≠ 0 := by unfold cmpZ; split <;> (try split) <;> omega
            have HF : Hid (cmpZ (z j) (z' j) = 0 ↔ EqU n n' z z') := ⟨fun e => absurd e t1, fun hq => by rw [HE.out] at hq; exact absurd (hq.2 j (by omega)) hz⟩
            have t0 : (cmpZ (z j) (z' j) == 0) = false := by simp [t1]
            generalize cmpZ (z j) (z' j) = c at *
            go_wp2
            go_ret
            exact ⟨_, rfl, HF.out, HE3.out⟩
theorem un_same (M : Nat → Prop) (a a' : Option Addr) (n cap n' cap' : Nat) (X X' : Nat → IE) (z z' : Nat → Int) (w : World) (h : URow M w a n cap X z) (h' : URow M w a' n' cap' X' z') :
    Calls Try.prog 47 #[.slice a n cap, .slice a' n' cap'] w fun e w' => ∃ b : Bool, e = .returned (.bool b) ∧ (b = true ↔ EqU n n' z z') ∧ Ext w w' := by
  have CTR := Lib.hid (un_compare M a a' n cap n' cap' X X' z z' w h h')
  clear h h'
  go_enter Try.func47, Try.ntmps47
  go_wp2_with (fail)
  refine CTR.out.mono ?_
  rintro e w1 ⟨c, rfl, hc, he1⟩
  have HF : Hid ((c == 0) = true ↔ EqU n n' z z') := ⟨fun e => hc.1 (by simpa using e), fun e => by simpa using hc.2 e⟩
  clear hc
  go_wp2
  go_ret
  exact ⟨_, rfl, HF.out, he1⟩
end Go.Proofs.Ythhffpimcgmciaa

namespace Go.Proofs.Ythhffpimcgmciaa
open Go.RowKit

/-- a polynomial and an error number are returned -/
def RetE (M : Nat → Prop) (w : World) (L : Nat) (l : List Tm) (E : Int) (e : Ending) (w' : World) : Prop := ∃ y : PE, e = .returned (.tuple #[.agg (peA y), .int .i64 E]) ∧ CRx M w' L y l ∧ Ext w w'
theorem RetX.tup {M : Nat → Prop} {w W : World} {L : Nat} {l : List Tm} {y : PE} (h : RetX M w L l (.returned (.agg (peA y))) W) (E : Int) : RetE M w L l E (.returned (.tuple #[.agg (peA y), .int .i64 E])) W := by
  obtain ⟨y', e, h1, h2⟩ := h
  simp only [Ending.returned.injEq, Value.agg.injEq] at e
  exact ⟨y', by rw [e], h1, h2⟩
theorem fromUni_bad (M : Nat → Prop) (a : Option Addr) (n cap : Nat) (lv : Int) (w : World) (hl : isLevB lv = false) :
    Calls Try.prog 45 #[.slice a n cap, .int .i64 lv] w (RetE M w 4 [] 4) := by
  have hE : Ext w (w.alloc (.cells zA 31)) := (Ext.refl w).alloc _
  have hB := Blk.of_arr w zA 31 4 rfl
  have HF2 : Hid (RetE M w 4 [] 4 (.returned (.tuple #[.agg (peA PE.z), .int .i64 4])) (w.alloc (.cells zA 31))) := ⟨PE.z, rfl, CR.zero _ _ 4, hE⟩
  obtain ⟨r0, r1, r2, r3⟩ := (Blk.p4 (x := PE.z) hB)
  have ctr := rp_isLevel lv (w.alloc (.cells zA 31))
  rw [hl] at ctr
  have CTR := Lib.hid ctr
  have hlt := hB.lt
  simp only [PE.z] at r0 r1 r2 r3
  clear ctr hE hB
  go_enter Try.func45, Try.ntmps45
  go_wp2_with (fail)
  refine CTR.out.mono ?_
  rintro e w1 ⟨rfl, rfl⟩
  go_wp2
  exact bodyPost_ret (v := .tuple #[.agg (peA PE.z), .int .i64 4]) (by simp [results, Try.results45, go_sem, r0, r1, r2, r3, PE.z]) rfl HF2.out
set_option maxRecDepth 100000 in
set_option maxHeartbeats 4000000 in
theorem fromUni_ok (M : Nat → Prop) (a : Option Addr) (n cap : Nat) (X : Nat → IE) (z : Nat → Int) (D : Nat) (w : World) (hM : Mb M w) (h : URow M w a n cap X z) (hD : D + 1 ≤ 4) :
    Calls Try.prog 45 #[.slice a n cap, .int .i64 ((D : Int) + 1)] w (RetE M w (D + 1) (upl (D + 1) n z) 0) := by
  obtain ⟨i0, hi, hz0, hz1, hz2⟩ := info_parts Try.info31
  have hn := h.1
  have hnc := h.2.1
  have hcm := h.2.2.1
  have HU := Lib.hid h
  have HM := Lib.hid hM
  have hE0 : Ext w (w.alloc (.cells zA 31)) := (Ext.refl w).alloc _
  have hB0 := Blk.of_arr w zA 31 4 rfl
  have ctr := rp_isLevel ((D : Int) + 1) (w.alloc (.cells zA 31))
  rw [show isLevB ((D : Int) + 1) = true by unfold isLevB; simp; omega] at ctr
  have CTR := Lib.hid ctr
  have HE0 := Lib.hid hE0
  have HB0 := Lib.hid hB0
  clear h ctr hE0 hB0
  unfold maxLen at hcm
  go_enter Try.func45, Try.ntmps45
  go_wp2_with (fail)
  refine CTR.out.mono ?_
  rintro e wq ⟨rfl, rfl⟩
  clear CTR
  go_wp2_with (first | (refine wpList_make_full _ rfl _ _ _ rfl (w.heap.size + 1) 31 i0 (.agg #[.int .i64 0, .bool false, .slice none 0 0, .slice none 0 0]) 4 Try.underlying29 hi hz0 hz1 .i64 .i64 _ _ n rfl rfl ?c4 ?c5 ?c2 ?c3 ?c6 ?_))
  case c2 => rw [hz2]; omega
  case c3 => unfold maxLen; omega
  case c4 => simp
  case c5 => simp
  case c6 => simp
  intro w1 hown hgrow
  have hBk := (Blk.made hown rfl (by omega)).congr (f' := zc4) (fun i _ => zc4_arr i)
  have he1 := grown_ext hgrow
  have HB1 := Lib.hid (HB0.out.ext he1)
  have HE1 := Lib.hid (HE0.out.trans he1)
  have hs1 : w.heap.size + 2 ≤ w1.heap.size := by have := hBk.lt; omega
  have HKF : Hid (Kids (Mx M w.heap.size (w.heap.size + 2)) w1 D (w.heap.size + 1) n (fun _ => [])) := Kids.fresh hBk
  clear hown hgrow hBk he1 HB0 HE0
  go_wp2
  go_loopw [18] (fun i wr => ∃ k : Nat, k ≤ n ∧ i = .int .i64 k ∧ w.heap.size + 2 ≤ wr.heap.size ∧ Hid (Kids (Mx M w.heap.size (w.heap.size + 2)) wr D (w.heap.size + 1) n (fun i => if i < k then [(z i, Mo.zero)] else [])) ∧ Hid (Ext w wr) ∧ Hid (Blk wr w.heap.size 31 4 (arr zA))) (fun i _ => n - (intOf i).toNat)
  case atStart => exact ⟨0, Nat.zero_le _, rfl, hs1, HKF.out.congr fun i _ => by rw [if_neg (by omega)]; exact Sim.refl _, HE1, HB1⟩
  case round =>
    clear HKF HE1 HB1 hs1
    obtain ⟨k, hk, rfl, hsz, HK, HEW, HBW⟩ := hrel
    by_cases hlt : k < n
    · obtain ⟨b, off, hva, hb, hmb, x0, x1, hv⟩ := HU.out.2.2.2.2 k hlt
      subst hva
      rw [← HEW.out.cell hb] at x0 x1
      have hbw : b < wr.heap.size := by omega
      have hEa : Ext wr (wr.alloc (.cells #[.bool (X k).b, .slice (X k).a (X k).n (X k).p] 28)) := (Ext.refl wr).alloc _
      have hV2 : IntV (Mx M w.heap.size (w.heap.size + 2)) (wr.alloc (.cells #[.bool (X k).b, .slice (X k).a (X k).n (X k).p] 28)) _ _ (z k) := ((hv.more (Mx.more (Nat.le_refl _))).ext HEW.out).ext hEa
      have hM3 : Mb (Mx M w.heap.size (w.heap.size + 2)) (wr.alloc (.cells #[.bool (X k).b, .slice (X k).a (X k).n (X k).p] 28)) := Mx.mb HM.out (by simp; omega) (by simp; omega)
      have CTR := Lib.hid (rp_Const _ _ _ _ _ _ _ hM3 hV2)
      have HEA := Lib.hid hEa
      clear hv hV2 hM3 hEa
      go_wp2_with (fail)
      refine (CTR.out).mono ?_
      rintro e w4 ⟨y, rfl, hCR, he4⟩
      have he5 := HEA.out.trans he4
      have hK4 := HK.out.ext he5
      obtain ⟨⟨_, k0⟩, ⟨_, k1⟩, ⟨_, k2⟩, ⟨_, k3⟩, hfr, hg4⟩ := hK4.at k hlt
      have hf0 := hfr (k * 4)
      have hf1 := hfr (k * 4 + 1)
      have hf2 := hfr (k * 4 + 2)
      have hf3 := hfr (k * 4 + 3)
      have HK5 : Hid (Kids (Mx M w.heap.size (w.heap.size + 2)) (set4 w4 (w.heap.size + 1) (k * 4) (.int .i64 y.lv) (.bool y.b) (.slice y.a y.n y.p) (.slice y.ka y.kn y.kp)) D (w.heap.size + 1) n (fun i => if i < k + 1 then [(z i, Mo.zero)] else [])) := by
        refine (hK4.set (Mx.at (by omega)) k hlt (CR.up hCR (Nat.zero_le D))).congr fun i _ => ?_
        by_cases hik : i = k
        · subst hik; rw [if_pos rfl, if_pos (by omega)]; exact Sim.refl _
        · rw [if_neg hik]
          by_cases h3 : i < k
          · rw [if_pos h3, if_pos (by omega)]; exact Sim.refl _
          · rw [if_neg h3, if_neg (by omega)]; exact Sim.refl _
      have HE5 : Hid (Ext w (set4 w4 (w.heap.size + 1) (k * 4) (.int .i64 y.lv) (.bool y.b) (.slice y.a y.n y.p) (.slice y.ka y.kn y.kp))) := (HEW.out.trans he5).set4 (by omega) _ _ _ _ _
      have HB5 : Hid (Blk (set4 w4 (w.heap.size + 1) (k * 4) (.int .i64 y.lv) (.bool y.b) (.slice y.a y.n y.p) (.slice y.ka y.kn y.kp)) w.heap.size _ _ _) := (HBW.out.ext he5).of_heap (heap_set4 _ _ _ _ _ _ _ _ (by omega))
      have HSZ5 : Hid (w.heap.size + 2 ≤ (set4 w4 (w.heap.size + 1) (k * 4) (.int .i64 y.lv) (.bool y.b) (.slice y.a y.n y.p) (.slice y.ka y.kn y.kp)).heap.size) := by show _ ≤ _; rw [size_set4]; have := he5.size; omega
      clear hK4 hfr hCR he4 he5 x0 x1
      go_wp2
      go_roundw
      case rel => exact ⟨k + 1, by omega, by go_num, HSZ5.out, HK5, HE5, HB5⟩
      case measure => simp [intOf]; omega
    · have hkn : k = n := by omega
      subst hkn
      have hMr : Mb (Mx M w.heap.size (w.heap.size + 1)) wr := Mx.mb HM.out (by omega) (by omega)
      have hKR : KRow (Mx M w.heap.size (w.heap.size + 1)) wr D (.slice (some ⟨w.heap.size + 1, 0, none⟩) k k) k (fun i => [(z i, Mo.zero)]) := by
        refine KRow.of_kids ((HK.out.congr fun i hi => ?_).more (fun g hg => .inl (hg.imp id fun h => by omega))) (fun hg => hg.elim (HM.out.new (by omega)) (fun h => by omega)) hn
        simp only [if_pos hi]; exact Sim.refl _
      have CTR := Lib.hid (rp_trim _ D _ k _ wr hMr hD hKR)
      clear hKR HK
      go_wp2_with (fail)
      refine CTR.out.mono ?_
      intro e w2 hp
      obtain ⟨y, rfl, hy, he2⟩ := hp.x
      have CT2 := Lib.hid (rp_cpy _ (D + 1) y _ w2 (hMr.ext he2) hy)
      clear hp hy CTR
      go_wp2_with (fail)
      refine CT2.out.mono ?_
      rintro e w3 ⟨y3, rfl, hy3, he3⟩
      obtain ⟨⟨q0, q1, q2, q3⟩, ⟨f0, f1, f2, f3⟩, ⟨r0, r1, r2, r3⟩, HF⟩ := retX (M := M) (w := w) ((HBW.out.ext he2).ext he3) (Mx.at (by omega)) (Nat.le_refl _) ((HEW.out.trans he2).trans he3) hy3 Mx.sub
      have HF2 := Lib.hid (HF.out.tup 0)
      have hlt3 := ((HBW.out.ext he2).ext he3).lt
      clear HF hy3 he2 he3 CT2 hMr
      go_wp2
      exact bodyPost_ret (v := .tuple #[.agg (peA y3), .int .i64 0]) (by simp [results, Try.results45, go_sem, r0, r1, r2, r3]) rfl HF2.out
end Go.Proofs.Ythhffpimcgmciaa
