/- Plain facts: what At answers, at a point. The law RecpolyAt: the walk. -/
import Derived.Test.YtiopnmlohpmmiaaGreatAd
import Derived.Test.YtiopnmlohpmmiaaGreatNd
import Derived.Test.YtiopnmlohpmmiaaGreatNx
import Derived.Test.YtiopnmlohpmmiaaGreatNs
import Derived.Test.YtiopnmlohpmmiaaGreatMs
import Derived.Test.YtiopnmlohpmmiaaGreatMw
set_option linter.unusedVariables false
set_option linter.unusedSimpArgs false

namespace Go.Proofs.YtiopnmlohpmmiaaGreat
open Go.RowKit

theorem norm_fl : ∀ l : List Tm, norm (fl l) = norm l
  | [] => rfl
  | t :: l => by
    have ih := norm_fl l
    unfold fl at ih ⊢
    rw [List.filter_cons]
    by_cases h : t.2.nn = true
    · rw [if_pos h]; simp only [norm, if_pos h, ih]
    · rw [if_neg h]; simp only [norm, if_neg h, ih]
theorem evT_fl (a : Nat → Rat) (l : List Tm) : evT a (fl l) = evT a (norm l) := by
  rw [← norm_fl l, evT_norm a (fl l) fun t ht => by simpa using (List.mem_filter.1 ht).2]
theorem evT_congr {a b : Nat → Rat} (h : ∀ i, i < 4 → a i = b i) : ∀ l : List Tm, evT a l = evT b l
  | [] => rfl
  | t :: l => by
    simp only [evT, evT_congr h l]
    unfold evM
    rw [h 0 (by omega), h 1 (by omega), h 2 (by omega), h 3 (by omega)]
theorem coefAt_mx {l : List Tm} {m : Mo} (h : coefAt l m ≠ 0) : ∃ t ∈ l, t.2 = m := by
  refine Classical.byContradiction fun hc => h (coefAt_zero fun t ht e => hc ⟨t, ht, e⟩)
/-- what At's answer is at points -/
def AtO (L : Nat) (l : List Tm) (x : Rat) (lq : List Tm) (n : Nat) : Prop :=
  max (dgP L l) 0 = (n : Int) ∧ n ≤ 6 ∧ (∀ a, evT a lq = (x.den : Rat) ^ n * evT (put L x a) l) ∧ (∀ t ∈ lq, t.2.nn = true) ∧ (∀ t ∈ lq, t.2.get L = 0) ∧ Deg 6 lq ∧ dlen (nrm lq) ≤ 40
theorem at_zero {L : Nat} {x : Rat} : AtO L [] x [] 0 := by
  refine ⟨by unfold dgP; rw [if_pos rfl]; rfl, by omega, fun a => by simp [evT], fun t h => (by cases h), fun t h => (by cases h), fun m h => absurd rfl h, by decide⟩
theorem rat_num_den (x : Rat) : (x.num : Rat) = (((x.den : Int)) : Rat) * x := by
  have h0 : ((x.den : Nat) : Rat) ≠ 0 := fun h => x.den_nz (Rat.natCast_inj.1 h)
  have h1 : x = (x.num : Rat) / ((x.den : Nat) : Rat) := by rw [← Rat.mkRat_eq_div, Rat.mkRat_self]
  have h2 : x * ((x.den : Nat) : Rat) = (x.num : Rat) := by
    conv => lhs; lhs; rw [h1]
    exact Rat.div_mul_cancel h0
  rw [Rat.mul_comm]; exact h2.symm
theorem dlen_X : dlen ((4294967296 ^ 2) ^ 6) ≤ 13 := by rw [dlen_le_iff]; decide
theorem at_out {L n : Nat} {l : List Tm} {x : Rat} (h1 : 1 ≤ L) (h4 : L ≤ 4) (hc : Canon l) (hz : ¬ Sim l []) (hd : DgR L l n) (hB : Deg 6 l) (hL : dlen (nrm l) ≤ 7) (hx : rb 2 x) : AtO L l x (atL L n x.num x.den l) n := by
  have hnn : ∀ t ∈ l, t.2.nn = true := fun t ht => (hc.2 t ht).2
  have hle : ∀ t ∈ l, t.2.get L ≤ n := fun t ht => hd.1 _ (canon_mem_coef hc ht)
  have hne : l ≠ [] := fun e => hz (by rw [e]; exact Sim.refl _)
  have hn6 : n ≤ 6 := by
    rcases hd.2 with h0 | ⟨m, hm, hmn⟩
    · omega
    · have := hB m hm L; omega
  have hx0 := rat_num_den x
  refine ⟨?_, hn6, fun a => ?_, at_nn h1 h4 hnn, at_get h1 h4, ?_, ?_⟩
  · unfold dgP
    rw [if_neg hne, if_pos (by unfold isLevB; simp; omega)]
    obtain ⟨b1, b2, b3⟩ := foldmax (fun m : Mo => m.get L) (l.map (·.2)) 0
    have e2 : (l.map (·.2)).foldl (fun h m => max h (m.get L)) 0 = dgM L (l.map (·.2)) := rfl
    rw [e2] at b1 b2 b3
    show max (dgM L (l.map (·.2))) 0 = n
    have hup : dgM L (l.map (·.2)) ≤ n := by
      rcases b3 with b3 | ⟨m, hm, b3⟩
      · omega
      · obtain ⟨t, ht, rfl⟩ := List.mem_map.1 hm
        have := hle t ht; omega
    rcases hd.2 with h0 | ⟨m, hm, hmn⟩
    · omega
    · obtain ⟨t, ht, rfl⟩ := coefAt_mx hm
      have := b2 t.2 (List.mem_map_of_mem ht)
      omega
  · rw [evT_at h1 h4 hx0 fun t ht => by have := hle t ht; omega]; rfl
  · intro m hm k
    obtain ⟨t, ht, rfl⟩ := coefAt_mx hm
    obtain ⟨s, hs, rfl⟩ := List.mem_map.1 ht
    show (wo L s.2).get k ≤ _
    rw [get_wo h1 h4]
    split
    · omega
    · exact hB _ (canon_mem_coef hc hs) k
  · have hu : x.num.natAbs ≤ 4294967296 ^ 2 := Nat.le_of_lt ((dlen_le_iff _ _).1 hx.1)
    have hv : (x.den : Int).natAbs ≤ 4294967296 ^ 2 := by rw [Int.natAbs_natCast]; exact Nat.le_of_lt ((dlen_le_iff _ _).1 hx.2)
    have h5 : nrm (atL L n x.num x.den l) ≤ nrm l * (4294967296 ^ 2) ^ 6 := lin_nrm fun t ht => by
      show (x.num ^ (t.2.get L).toNat * (x.den : Int) ^ (n - (t.2.get L).toNat)).natAbs ≤ _
      have hl := hle t ht
      rw [Int.natAbs_mul]
      refine Nat.le_trans (Nat.mul_le_mul (pow_le_X hu _) (pow_le_X hv _)) ?_
      rw [← Nat.pow_add]
      exact Nat.pow_le_pow_right (by decide) (by omega)
    have h6 := dlen_mono h5
    have h7 := dlen_mul (nrm l) ((4294967296 ^ 2) ^ 6)
    have h8 := dlen_X
    omega
/-- the degree of what is left is not positive -/
theorem at_degree {L n : Nat} {l : List Tm} {x : Rat} {lq : List Tm} (h1 : 1 ≤ L) (h4 : L ≤ 4) (h : AtO L l x lq n) : ¬ 0 < dgP L (norm lq) := by
  rw [dgP_pos h1 h4]
  rintro ⟨t, ht, h0⟩
  obtain ⟨s, hs, e⟩ := norm_mem ht
  have := h.2.2.2.2.1 s hs
  rw [e] at this
  omega
/-- the values agree -/
theorem at_value {L n : Nat} {l : List Tm} {x : Rat} {lq T : List Tm} {a b : Nat → Rat} (h : AtO L (norm l) x lq n) (hT : Sim T lq) (hTn : ∀ t ∈ T, t.2.nn = true) (hb : ∀ i, i < 4 → b i = put L x a i) : evT a T = evT b (fl l) * ((x.den : Int) : Rat) ^ n := by
  rw [evT_sim a hT hTn h.2.2.2.1, h.2.2.1, evT_fl, evT_congr hb, Rat.mul_comm]; rfl
theorem szE_at {M : Nat → Prop} {w : World} {y : PE} {lq : List Tm} (h : CRx M w 4 y lq) (hB : Deg 6 lq) (hL : dlen (nrm lq) ≤ 40) : ∃ t : RT 5, RR M w 5 t (.int .i64 y.lv) (.bool y.b) (.slice y.a y.n y.p) (.slice y.ka y.kn y.kp) ∧ TB 5 t ∧ Sim (terms 5 t) lq ∧ 2 * szE 2 5 t + 2 + 4 ≤ 10000000 := by
  obtain ⟨t, h1, h2, h3, h4⟩ := h
  have hD := sim_deg h4 hB
  have hlv := can_lev h2
  have hlen := can_len 6 5 t h2 h1.ok hD
  have hpow : (6 + 1) ^ (Go.Proofs.YtiopnmlohpmmiaaGreat.lev 5 t).toNat ≤ (6 + 1) ^ 4 := Nat.pow_le_pow_right (by omega) (by show t.1.toNat ≤ 4; omega)
  have hdl : dlen (nrm (terms 5 t)) ≤ 40 := Nat.le_trans (dlen_mono (can_nrm h2 h4)) hL
  have h5 := can_szE 2 6 40 5 t h2 h1.ok hD hdl
  have h6 : (Go.Proofs.YtiopnmlohpmmiaaGreat.lev 5 t).toNat ≤ 4 := by show t.1.toNat ≤ 4; omega
  have h7 := szB_mono 2 6 40 h6
  have h8 : szB 2 6 40 4 = 107241 := by decide
  refine ⟨t, h1, ⟨by omega, by omega, by omega, fun s hs k => ?_⟩, h4, by omega⟩
  have := can_exp 6 5 t h2 h1.ok hD s hs k
  omega
end Go.Proofs.YtiopnmlohpmmiaaGreat

namespace Go.Proofs.YtiopnmlohpmmiaaGreat
open Go.RowKit

theorem Tryz.info58 : (Tryz.prog.info? 58).map (fun i => (i.zero, i.size, i.bytes)) = some (some (.agg #[.bool false, .slice none 0 0, .slice none 0 0]), 3, 56) := by kernel_rfl
/-- append of a slice of m elements -/
theorem wpList_append_row {P : Program} (w : World) {ops : Array Oper} {rest : List Oper} {o : Oper} {a : Act} {Q : Exit → Act → World → Prop} (hgd : o.guard = none) (s x : Operand) (t : TypeId)
    (ho : o.op = .call { callee := .builtin .append, args := #[s, x], argTypes := #[t, t] })
    (base : Nat) (e : TypeId) (i : TypeInfo) (z : Value) (k bytes : Nat) (ht : P.underlying t = some (.slice e)) (hi : P.info? e = some i) (hz : i.zero = some z)
    (hsize : i.size = k) (hby : i.bytes = bytes) (hzs : z.cells.size = k) (hsz : 0 < k)
    (v : Value) (n : Nat) (f : Nat → Value) (hs : a.eval s = v) (hown : Own w base e k v n f)
    (q off m c : Nat) (src : Nat → Value) (hx : a.eval x = .slice (some ⟨q, off, none⟩) m c) (hB : ∀ j, j < m * k → w.cell? ⟨q, off + j, none⟩ = some (src j)) (h1 : ∀ j, j < m * k → (src j).oneCell' = true) (hm : 0 < m)
    (h63 : n + m ≤ maxLen) (hbytes : (n + m) * bytes ≤ 140737488355328) (hbase : base ≤ w.heap.size)
    (h : ∀ g cap w', Own w' base e k (.slice (some ⟨g, 0, none⟩) (n + m) cap) (n + m) (app f (n * k) src) → w.grownBy w' v.ownBlock → (v.ownBlock = some g ∨ w.heap.size ≤ g) → g < w'.heap.size → wpList P ops Q rest (a.put o.dst (.slice (some ⟨g, 0, none⟩) (n + m) cap)) w') :
    wpList P ops Q (o :: rest) a w := by
  refine wpList_append_lies w hgd s x t ho base e i z k bytes ht hi hz hsize hby hzs hsz v n (rowL f (n * k)) hs hown.toRow ⟨q, off, none⟩ m c (rowL src (m * k)) hx (rowL_len _ _) ?_ ?_ hm h63 hbytes hbase w.heap.size rfl ?_
  · intro j u hu
    have hj : j < m * k := by
      have := (List.getElem?_eq_some_iff.1 hu).1
      simpa [rowL_len] using this
    rw [rowL_get _ _ _ hj] at hu
    cases hu
    rw [addr_add]; exact hB j hj
  · intro u hu
    simp only [rowL, List.mem_map, List.mem_range] at hu
    obtain ⟨j, hj, rfl⟩ := hu
    exact h1 j hj
  · intro g cap w' ho hg hat hlt
    rw [rowL_app, show n * k + m * k = (n + m) * k from by rw [Nat.add_mul]] at ho
    exact h g cap w' (Own.ofRow ho) hg (hat.imp id (fun e => by omega)) hlt
/-- the cells of a row of rationals -/
def rx (x : Nat → RE) : Nat → Value := fun j => if j % 3 = 0 then .bool (x (j / 3)).b else if j % 3 = 1 then .slice (x (j / 3)).a (x (j / 3)).n (x (j / 3)).p else .slice (x (j / 3)).da (x (j / 3)).dn (x (j / 3)).dp
theorem rx0 (x : Nat → RE) (i : Nat) : rx x (i * 3) = .bool (x i).b := by unfold rx; rw [if_pos (by omega), show i * 3 / 3 = i by omega]
theorem rx1 (x : Nat → RE) (i : Nat) : rx x (i * 3 + 1) = .slice (x i).a (x i).n (x i).p := by unfold rx; rw [if_neg (by omega), if_pos (by omega), show (i * 3 + 1) / 3 = i by omega]
theorem rx2 (x : Nat → RE) (i : Nat) : rx x (i * 3 + 2) = .slice (x i).da (x i).dn (x i).dp := by unfold rx; rw [if_neg (by omega), if_neg (by omega), show (i * 3 + 2) / 3 = i by omega]
theorem rx_one (x : Nat → RE) (j : Nat) : (rx x j).oneCell' = true := by
  unfold rx
  split
  · rfl
  · split <;> rfl
theorem rx_cells {w : World} {b o n : Nat} {x : Nat → RE} (h : ∀ i, i < n → R3o w b (o + i * 3) (x i)) (j : Nat) (hj : j < n * 3) : w.cell? ⟨b, o + j, none⟩ = some (rx x j) := by
  obtain ⟨i, r, rfl, hr⟩ : ∃ i r, j = i * 3 + r ∧ r < 3 := ⟨j / 3, j % 3, by omega, by omega⟩
  obtain ⟨h0, h1, h2⟩ := h i (by omega)
  rcases (show r = 0 ∨ r = 1 ∨ r = 2 by omega) with rfl | rfl | rfl
  · rw [Nat.add_zero, rx0]; exact h0
  · rw [rx1, ← Nat.add_assoc]; exact h1
  · rw [rx2, ← Nat.add_assoc]; exact h2
def pX (j : Nat) (X : Nat → RE) : Nat → RE := fun i => if i = j then X 4 else X i
theorem pX_at (j : Nat) (X : Nat → RE) : pX j X j = X 4 := by unfold pX; rw [if_pos rfl]
theorem pX_ne {j i : Nat} (X : Nat → RE) (h : i ≠ j) : pX j X i = X i := by unfold pX; rw [if_neg h]
/-- the row of the point with one value replaced, in a block of its own -/
theorem put_row {w W : World} {ab ao p2 gg cap j : Nat} {X : Nat → RE} {q : Nat → Rat} {F : Nat → Value} (hq : RatRow M0 w 2 (some ⟨ab, ao, none⟩) 5 p2 X q) (he : Ext w W) (hB : Blk W gg 58 (cap * 3) F) (hF : ∀ i, i < 12 → F i = rx X i) (hc : 4 ≤ cap) (hm : cap ≤ maxLen) (hj : j < 4) (hg : w.heap.size ≤ gg) :
    ∃ W', W' = ((W.setCell ⟨gg, j * 3, none⟩ (.bool (X 4).b)).setCell ⟨gg, j * 3 + 1, none⟩ (.slice (X 4).a (X 4).n (X 4).p)).setCell ⟨gg, j * 3 + 2, none⟩ (.slice (X 4).da (X 4).dn (X 4).dp) ∧ Ext w W' ∧
      RatRow M0 W' 2 (some ⟨gg, 0, none⟩) 4 cap (pX j X) (put (j + 1) (q 4) q) ∧
      (∃ u, W.cell? ⟨gg, j * 3, none⟩ = some u) ∧ (∃ u, W.cell? ⟨gg, j * 3 + 1, none⟩ = some u) ∧ (∃ u, W.cell? ⟨gg, j * 3 + 2, none⟩ = some u) ∧ (∀ o, W.frozen? ⟨gg, o, none⟩ = false) := by
  have hE : Ext w (((W.setCell ⟨gg, j * 3, none⟩ (.bool (X 4).b)).setCell ⟨gg, j * 3 + 1, none⟩ (.slice (X 4).a (X 4).n (X 4).p)).setCell ⟨gg, j * 3 + 2, none⟩ (.slice (X 4).da (X 4).dn (X 4).dp)) := ((he.set (p := ⟨gg, j * 3, none⟩) hg _).set (p := ⟨gg, j * 3 + 1, none⟩) hg _).set (p := ⟨gg, j * 3 + 2, none⟩) hg _
  have hB3 := ((hB.set (j * 3) (.bool (X 4).b)).set (j * 3 + 1) (.slice (X 4).a (X 4).n (X 4).p)).set (j * 3 + 2) (.slice (X 4).da (X 4).dn (X 4).dp)
  refine ⟨_, rfl, hE, ⟨by omega, fun i hi => ⟨⟨gg, 0, rfl, hc, hm, hB3.lt, fun h => h, ?_⟩, ?_⟩⟩, ⟨_, hB.cell (by omega)⟩, ⟨_, hB.cell (by omega)⟩, ⟨_, hB.cell (by omega)⟩, fun o => hB.frozen o⟩
  · rw [Nat.zero_add]
    by_cases hij : i = j
    · subst hij
      rw [pX_at]
      refine ⟨?_, ?_, ?_⟩
      · rw [hB3.cell (by omega)]; simp [upd]
      · rw [hB3.cell (by omega)]; simp [upd]
      · rw [hB3.cell (by omega)]; simp [upd]
    · refine ⟨?_, ?_, ?_⟩
      · rw [hB3.cell (by omega)]; unfold upd; rw [if_neg (by omega), if_neg (by omega), if_neg (by omega), hF _ (by omega), rx0, pX_ne X hij]
      · rw [hB3.cell (by omega)]; unfold upd; rw [if_neg (by omega), if_neg (by omega), if_neg (by omega), hF _ (by omega), rx1, pX_ne X hij]
      · rw [hB3.cell (by omega)]; unfold upd; rw [if_neg (by omega), if_neg (by omega), if_neg (by omega), hF _ (by omega), rx2, pX_ne X hij]
  · unfold put
    rw [Nat.add_sub_cancel]
    by_cases hij : i = j
    · subst hij; rw [pX_at, if_pos rfl]; exact (hq.2 4 (by omega)).2.ext hE
    · rw [pX_ne X hij, if_neg hij]; exact (hq.2 i (by omega)).2.ext hE
theorem vz_leE {A E D : Nat} : ∀ {l : List Tm}, (∀ s ∈ l, ∀ k, s.2.get k ≤ (E : Int)) → dlen (nrm l) ≤ D → vz A l ≤ 1 + l.length * (D + 2 + A * (4 * E))
  | [], _, _ => by simp [vz]
  | t :: l, h, hD => by
    have ih := vz_leE (A := A) (E := E) (D := D) (l := l) (fun s hs => h s (List.mem_cons_of_mem _ hs)) (Nat.le_trans (dlen_mono (by simp [nrm])) hD)
    have h1 : dlen t.1.natAbs ≤ D := Nat.le_trans (dlen_mono (by simp [nrm])) hD
    have h2 : es t.2 4 ≤ 4 * E := by
      have e1 := h t List.mem_cons_self 1
      have e2 := h t List.mem_cons_self 2
      have e3 := h t List.mem_cons_self 3
      have e4 := h t List.mem_cons_self 4
      have e5 : es t.2 4 = 0 + (t.2.get 1).toNat + (t.2.get 2).toNat + (t.2.get 3).toNat + (t.2.get 4).toNat := rfl
      omega
    have h3 := Nat.mul_le_mul_left A h2
    have h4 : tzv A t = dlen t.1.natAbs + 1 + A * es t.2 4 := rfl
    have h5 : vz A (t :: l) = tzv A t + vz A l + 1 := rfl
    have h6 : (t :: l).length * (D + 2 + A * (4 * E)) = l.length * (D + 2 + A * (4 * E)) + (D + 2 + A * (4 * E)) := by rw [List.length_cons, Nat.add_mul, Nat.one_mul]
    rw [h5, h6, h4]
    omega
theorem RatRow.cut {M : Nat → Prop} {w : World} {A n m cap : Nat} {a : Option Addr} {X : Nat → RE} {q : Nat → Rat} (h : RatRow M w A a n cap X q) (hm : m ≤ n) : RatRow M w A a m cap X q := by
  refine ⟨by have := h.1; omega, fun i hi => ?_⟩
  obtain ⟨⟨b, off, h1, h2, h3, h4, h5, h6⟩, h7⟩ := h.2 i (by omega)
  exact ⟨⟨b, off, h1, by omega, h3, h4, h5, h6⟩, h7⟩
/-- what At answered: v -/
def AtR (lv : Int) (l : List Tm) (x : Rat) (M : Nat → Prop) (v : PE) (wx : World) : Prop :=
  (isLevB lv = false ∧ CRx M wx 4 v l) ∨ (∃ (j n : Nat) (lq : List Tm), lv = (j : Int) + 1 ∧ j < 4 ∧ AtO (j + 1) l x lq n ∧ CRx M wx 4 v lq)
theorem AtR.kp {lv : Int} {l : List Tm} {x : Rat} {M : Nat → Prop} {v : PE} {w w' : World} (h : AtR lv l x M v w) (he : Kp M w w') : AtR lv l x M v w' := by
  rcases h with ⟨h1, h2⟩ | ⟨j, n, lq, h1, h2, h3, h4⟩
  · exact .inl ⟨h1, h2.kp he⟩
  · exact .inr ⟨j, n, lq, h1, h2, h3, h4.kp he⟩
theorem AtR.more {lv : Int} {l : List Tm} {x : Rat} {M M' : Nat → Prop} {v : PE} {w : World} (h : AtR lv l x M v w) (hm : ∀ g, M' g → M g ∨ w.heap.size ≤ g) : AtR lv l x M' v w := by
  rcases h with ⟨h1, h2⟩ | ⟨j, n, lq, h1, h2, h3, h4⟩
  · exact .inl ⟨h1, h2.more hm⟩
  · exact .inr ⟨j, n, lq, h1, h2, h3, h4.more hm⟩
theorem RetAt.out {M : Nat → Prop} {w : World} {lv : Int} {x : Rat} {l : List Tm} {e : Ending} {w' : World} (h : RetAt M w lv x l e w') (hc : Canon l) (hB : Deg 6 l) (hL : dlen (nrm l) ≤ 7) (hx : rb 2 x) : ∃ v : PE, e = .returned (.agg (peA v)) ∧ AtR lv l x M v w' ∧ Ext w w' := by
  rcases h with ⟨h1, v, rfl, hv, he⟩ | ⟨L, n, rfl, h1, h4, hz, hd, v, rfl, hv, he⟩
  · refine ⟨v, rfl, ?_, he⟩
    cases hb : isLevB lv
    · exact .inl ⟨hb, hv⟩
    · have hs := h1.resolve_left (by rw [hb]; simp)
      have hl : l = [] := Canon.ext hc Canon.nil hs
      unfold isLevB at hb
      simp at hb
      refine .inr ⟨(lv - 1).toNat, 0, [], by omega, by omega, by rw [hl]; exact at_zero, by rw [hl] at hv; exact hv⟩
  · refine ⟨v, rfl, .inr ⟨L - 1, n, _, by omega, by omega, ?_, hv⟩, he⟩
    have := at_out h1 h4 hc hz hd hB hL hx
    rw [show L - 1 + 1 = L by omega]; exact this
/-- the state behind the call of At -/
def AtCut (W : World) (lv : Int) (l : List Tm) (x : Rat) (s8 : Value) (wx : World) : Prop := ∃ (g : Nat) (v : PE), s8 = .pointer (some ⟨g, 0, none⟩) ∧ P4 wx g v ∧ AtR lv l x M0 v wx ∧ Ext W wx
/-- what the region with the call of At reads -/
def SAt (s : Nat) (y : PE) (b o : Nat) (r : RE) (w : World) : Prop := P4 w s y ∧ R3o w b o r
theorem SAt.ext {s : Nat} {y : PE} {b o : Nat} {r : RE} {w w' : World} (h : SAt s y b o r w) (he : Ext w w') : SAt s y b o r w' := ⟨h.1.ext he, h.2.ext he⟩
set_option maxRecDepth 100000 in
set_option maxHeartbeats 16000000 in
theorem law_at (a1 : Option Addr) (n1 p1 : Nat) (X1 : Nat → TE) (lv : Int) (a2 : Option Addr) (n2 p2 : Nat) (X2 : Nat → RE) (w : World) (h1 : PRaw w a1 n1 p1 X1) (hlv : -9223372036854775808 ≤ lv ∧ lv ≤ 9223372036854775807) (h2 : RPaw w a2 n2 p2 X2) :
    Calls Tryz.prog 4 #[.slice a1 n1 p1, .int .i64 lv, .slice a2 n2 p2] w fun e w' => e = .returned (.bool true) ∧ Ext w w' := by
  have HR := Lib.hid h1
  have HP := Lib.hid h2
  obtain ⟨hlv1, hlv2⟩ := hlv
  clear h1 h2
  go_enter Tryz.func4, Tryz.ntmps4
  go_wp2_with (fail)
  refine (law_fit _).mono ?_
  rintro e w1 ⟨rfl, he1⟩
  have HE1 := Lib.hid he1
  clear he1
  go_wp2_with (fail)
  refine (law_few a1 n1 p1 X1 w1 (HR.out.1.ext HE1.out) HR.out.2.1).mono ?_
  rintro e w2 ⟨b, rfl, hb, rfl⟩
  cases b with
  | false =>
    clear hb
    go_wp2
    go_ret
    exact ⟨rfl, HE1.out⟩
  | true =>
  by_cases hn2 : ¬ n2 = 5
  · have hn5 : ((n2 : Int) != 5) = true := by rw [bne_iff_ne]; omega
    clear hb
    go_wp2
    go_ret
    exact ⟨rfl, HE1.out⟩
  obtain rfl : n2 = 5 := Decidable.not_not.1 hn2
  have CF2 := Lib.hid (rf_fewv a2 5 p2 X2 5 2 w1 (HP.out.1.ext HE1.out) HP.out.2.1)
  rw [show (((5 : Nat) : Int)) = 5 from rfl, show (((2 : Nat) : Int)) = 2 from rfl] at CF2
  obtain ⟨l, hl, hlen, hdl, hexp⟩ := HR.out.poly (hb.1 rfl) (by omega) (by omega)
  have HPV := Lib.hid (hl.ext HE1.out)
  have HLEN := Lib.hid hlen
  have HDL := Lib.hid hdl
  have HEXP := Lib.hid hexp
  have HEX : Hid (∀ s ∈ l, ∀ k, s.2.get k ≤ ((6 : Nat) : Int)) := fun s hs k => (hexp s hs k).1
  have HEX2 : Hid (∀ s ∈ l, ∀ k, s.2.get k ≤ 1073741824) := fun s hs k => by have := (hexp s hs k).1; omega
  have HD : Hid (dlen (nrm l) ≤ 1099511627776) := Nat.le_trans hdl (by omega)
  have HDN : Hid (dlen (nrm (norm l)) ≤ 7) := Nat.le_trans (dlen_mono (norm_nrm l)) hdl
  have HDG : Hid (Deg 6 (norm l)) := deg_of_exp HEX.out
  clear hb hl hlen hdl hexp hn2
  go_wp2_with (fail)
  refine CF2.out.mono ?_
  rintro e w2 ⟨bf, rfl, hbf, rfl⟩
  have HBF := Lib.hid hbf
  clear hbf CF2
  cases bf with
  | false =>
    go_wp2
    go_ret
    exact ⟨rfl, HE1.out⟩
  | true =>
  obtain ⟨q, hq⟩ := HP.out.row (HBF.out.1 rfl) (by omega) (by omega)
  have HQ := Lib.hid (hq.ext HE1.out)
  clear hq HBF HP HR
  go_wp2_with (fail)
  refine (rp_Of M0 _ l w1 (mb0 _) HPV.out HD.out HEX2.out).mono ?_
  rintro e w2 ⟨y, rfl, hy, he2⟩
  go_upto_region 6 with (fail)
  have hE3 : Ext w2 (w2.alloc (.cells (peA y) 28)).drew := ((Ext.refl w2).alloc _).drew
  have hy3 := (Blk.of_arr w2 (peA y) 28 4 rfl).p4
  obtain ⟨W3, hW3⟩ : ∃ W3, W3 = w2.alloc (.cells #[.int .i64 y.lv, .bool y.b, .slice y.a y.n y.p, .slice y.ka y.kn y.kp] 28) := ⟨_, rfl⟩
  have hW3' : w2.alloc (.cells (peA y) 28) = W3 := hW3.symm
  rw [hW3'] at hE3 hy3
  rw [← hW3]
  obtain ⟨s7, hs7⟩ : ∃ s7, s7 = w2.heap.size := ⟨_, rfl⟩
  rw [← hs7] at hy3
  rw [← hs7]
  have hyd := hy3.ext (Ext.refl W3).drew
  have HE3 := Lib.hid ((HE1.out.trans he2).trans hE3)
  have HY3 := Lib.hid (hy.ext hE3)
  have HQ3 := Lib.hid (HQ.out.ext (he2.trans hE3))
  have HPV3 := Lib.hid (HPV.out.ext (he2.trans hE3))
  have HP7 := Lib.hid hyd
  clear hW3 hW3' hs7 hE3 hy3 hyd he2 hy HQ HPV HE1
  obtain ⟨⟨ab, ao, rfl, hac, ham, hab, _, hr4⟩, hx4⟩ := HQ3.out.2 4 (by omega)
  have hr4 : R3o W3.drew ab (ao + 12) (X2 4) := hr4
  have HSS : Hid (SAt s7 y ab (ao + 12) (X2 4) W3.drew) := ⟨HP7.out, hr4⟩
  have HX4 := Lib.hid hx4
  unfold maxLen at ham
  clear hr4 hx4
  go_cut [8] (AtCut W3.drew lv (norm l) (q 4))
  case first =>
    refine wp_region_u (SAt s7 y ab (ao + 12) (X2 4)) 7 (by kernel_rfl) HSS.out (fun hHeld => ?_)
    generalize W3.drew = wd at *
    ((refine wpAnyU_take 0 (oi := ?_) (v := ?_) (by kernel_rfl) (by kernel_rfl) (by kernel_rfl) (by kernel_rfl) (by first | exact hSn | exact hHeld) ?_ ?_ ?_ ?_ ?_; rotate_left 2; (simp only [List.getElem?_toArray, List.getElem?_cons_succ, List.getElem?_cons_zero]; rfl); rfl; (intro wS hSw; obtain ⟨⟨S1, S2, S3, S4⟩, S5, S6, S7⟩ := hSw; go_simp; try with_reducible rfl); (exact fun _ _ _ h => h); (try simp only [Act.put, List.setIfInBounds_toArray, List.set_cons_zero, List.set_cons_succ])); (refine wpAnyU_take 1 (oi := ?_) (v := ?_) (by kernel_rfl) (by kernel_rfl) (by kernel_rfl) (by kernel_rfl) (by first | exact hSn | exact hHeld) ?_ ?_ ?_ ?_ ?_; rotate_left 2; (simp only [List.getElem?_toArray, List.getElem?_cons_succ, List.getElem?_cons_zero]; rfl); rfl; (intro wS hSw; obtain ⟨⟨S1, S2, S3, S4⟩, S5, S6, S7⟩ := hSw; go_simp; try with_reducible rfl); (exact fun _ _ _ h => h); (try simp only [Act.put, List.setIfInBounds_toArray, List.set_cons_zero, List.set_cons_succ])); (refine wpAnyU_take 2 (oi := ?_) (v := ?_) (by kernel_rfl) (by kernel_rfl) (by kernel_rfl) (by kernel_rfl) (by first | exact hSn | exact hHeld) ?_ ?_ ?_ ?_ ?_; rotate_left 2; (simp only [List.getElem?_toArray, List.getElem?_cons_succ, List.getElem?_cons_zero]; rfl); rfl; (intro wS hSw; obtain ⟨⟨S1, S2, S3, S4⟩, S5, S6, S7⟩ := hSw; go_simp; try with_reducible rfl); (exact fun _ _ _ h => h); (try simp only [Act.put, List.setIfInBounds_toArray, List.set_cons_zero, List.set_cons_succ])); (refine wpAnyU_take 3 (oi := ?_) (v := ?_) (by kernel_rfl) (by kernel_rfl) (by kernel_rfl) (by kernel_rfl) (by first | exact hSn | exact hHeld) ?_ ?_ ?_ ?_ ?_; rotate_left 2; (simp only [List.getElem?_toArray, List.getElem?_cons_succ, List.getElem?_cons_zero]; rfl); rfl; (intro wS hSw; obtain ⟨⟨S1, S2, S3, S4⟩, S5, S6, S7⟩ := hSw; go_simp; try with_reducible rfl); (exact fun _ _ _ h => h); (try simp only [Act.put, List.setIfInBounds_toArray, List.set_cons_zero, List.set_cons_succ])); (refine wpAnyU_take 4 (oi := ?_) (v := ?_) (by kernel_rfl) (by kernel_rfl) (by kernel_rfl) (by kernel_rfl) (by first | exact hSn | exact hHeld) ?_ ?_ ?_ ?_ ?_; rotate_left 2; (simp only [List.getElem?_toArray, List.getElem?_cons_succ, List.getElem?_cons_zero]; rfl); rfl; (intro wS hSw; obtain ⟨⟨S1, S2, S3, S4⟩, S5, S6, S7⟩ := hSw; go_simp; try with_reducible rfl); (exact fun _ _ _ h => h); (try simp only [Act.put, List.setIfInBounds_toArray, List.set_cons_zero, List.set_cons_succ])))
    (refine wpAnyU_two 5 6 (oi := ?_) (oj := ?_) (by kernel_rfl) ?_ ?_ ?_ ?_; rotate_left 2; (simp only [List.getElem?_toArray, List.getElem?_cons_succ, List.getElem?_cons_zero]; rfl); (simp only [List.getElem?_toArray, List.getElem?_cons_succ, List.getElem?_cons_zero]; rfl); all_goals intro K hK)
    · go_simp
      refine (rp_At M0 y (norm l) (X2 4) (q 4) lv 2 6 _ (mb0 _) HY3.out.pi HX4.out (by omega) (by omega) (by have := HDN.out; omega) HDG.out (by omega)).mono ?_
      intro e wz hA
      obtain ⟨v, rfl, hv, he1⟩ := hA.out (norm_canon l) HDG.out HDN.out (HX4.out.rb (by omega))
      go_wp2_with (fail)
      have hSn := hHeld.ext he1
      refine hK.out _ _ (fun _ => hSn) ?_
      clear hK K
      (try simp only [Act.put, List.setIfInBounds_toArray, List.set_cons_zero, List.set_cons_succ])
      (refine wpAnyU_one 6 (o := ?_) (by kernel_rfl) ?_ ?_; rotate_left 1; (simp only [List.getElem?_toArray, List.getElem?_cons_succ, List.getElem?_cons_zero]; rfl); intro K hK)
      go_simp
      have hSn2 := hHeld.ext (he1.alloc (.cells zA 28))
      refine hK.out _ _ (fun _ => hSn2) ?_
      clear hK K
      (try simp only [Act.put, List.setIfInBounds_toArray, List.set_cons_zero, List.set_cons_succ])
      ((refine wpAnyU_one 7 (o := ?_) (by kernel_rfl) ?_ ?_; rotate_left 1; (simp only [List.getElem?_toArray, List.getElem?_cons_succ, List.getElem?_cons_zero]; rfl); intro K hK); go_simp; (refine hK.out _ _ (fun h => absurd rfl h) ?_); clear hK K; refine wpAnyU_done (by kernel_rfl) ?_ _)
      go_wp2_with (fail)
      go_meet
      exact ⟨wz.heap.size, v, rfl, (Blk.of_arr wz (peA v) 28 4 rfl).p4, hv.kp (Kp.of_ext ((Ext.refl wz).alloc _)), he1.alloc _⟩
    · go_simp
      have hE9 : Ext wd (wd.alloc (.cells zA 28)) := (Ext.refl _).alloc _
      have hB9 := Blk.of_arr wd zA 28 4 rfl
      have hmo : ∀ g, (fun g => g = wd.heap.size) g → M0 g ∨ wd.heap.size ≤ g := fun g hg => .inr (Nat.le_of_eq hg.symm)
      have hSn := hHeld.ext hE9
      refine hK.out _ _ (fun _ => hSn) ?_
      clear hK K
      (try simp only [Act.put, List.setIfInBounds_toArray, List.set_cons_zero, List.set_cons_succ])
      (refine wpAnyU_one 5 (o := ?_) (by kernel_rfl) ?_ ?_; rotate_left 1; (simp only [List.getElem?_toArray, List.getElem?_cons_succ, List.getElem?_cons_zero]; rfl); intro K hK)
      go_simp
      refine (rp_At (fun g => g = wd.heap.size) y (norm l) (X2 4) (q 4) lv 2 6 _ (fun g hg => by rw [hg]; exact hB9.lt) ((HY3.out.pi.more hmo).ext hE9) ((HX4.out.more hmo).ext hE9) (by omega) (by omega) (by have := HDN.out; omega) HDG.out (by omega)).mono ?_
      intro e wz hA
      obtain ⟨v, rfl, hv, he1⟩ := hA.out (norm_canon l) HDG.out HDN.out (HX4.out.rb (by omega))
      go_wp2_with (fail)
      clear hSn
      have hSn := hHeld.ext (hE9.trans he1)
      refine hK.out _ _ (fun _ => hSn) ?_
      clear hK K
      (try simp only [Act.put, List.setIfInBounds_toArray, List.set_cons_zero, List.set_cons_succ])
      obtain ⟨⟨q0, q1, q2, q3⟩, ⟨f0, f1, f2, f3⟩, ⟨r0, r1, r2, r3⟩, hkp, hext⟩ := fin4 (M' := fun g => g = wd.heap.size) (w := wd) (.int .i64 v.lv) (.bool v.b) (.slice v.a v.n v.p) (.slice v.ka v.kn v.kp) (hB9.ext he1) rfl (Nat.le_refl _) (hE9.trans he1)
      simp only [arr] at q0 q1 q2 q3
      ((refine wpAnyU_one 7 (o := ?_) (by kernel_rfl) ?_ ?_; rotate_left 1; (simp only [List.getElem?_toArray, List.getElem?_cons_succ, List.getElem?_cons_zero]; rfl); intro K hK); go_simp; (refine hK.out _ _ (fun h => absurd rfl h) ?_); clear hK K; refine wpAnyU_done (by kernel_rfl) ?_ _)
      go_wp2_with (fail)
      go_meet
      exact ⟨wd.heap.size, v, rfl, ⟨r0, r1, r2, r3⟩, (hv.kp hkp).more (fun g hg => hg.elim), hext⟩
  case rest =>
    obtain ⟨g8, v, rfl, hv8, hA8, hE8⟩ := hcut
    have HE4 := Lib.hid (HE3.out.trans hE8)
    have HY4 := Lib.hid (HY3.out.ext hE8)
    have HQ4 := Lib.hid (HQ3.out.ext hE8)
    have HPV4 := Lib.hid (HPV3.out.ext hE8)
    have HP4 := Lib.hid (HP7.out.ext hE8)
    have HV4 := Lib.hid hv8
    have HA4 := Lib.hid hA8
    clear hv8 hA8 hE8 HE3 HY3 HQ3 HPV3 HP7 HSS HX4
    obtain ⟨c0, c1, c2, c3⟩ := HV4.out
    have hcan : ∃ lq, CRx M0 wc 4 v lq := HA4.out.elim (fun h => ⟨_, h.2⟩) (fun ⟨_, _, lq, _, _, _, h⟩ => ⟨lq, h⟩)
    obtain ⟨lq0, hlq0⟩ := hcan
    have CTC := Lib.hid (rf_canonical 4 M0 lq0 v 5 wc hlq0 (by have := hlq0.lev; omega))
    clear hlq0
    go_wp2_with (fail)
    refine CTC.out.mono ?_
    rintro e w5 ⟨rfl, he5⟩
    have HE5 := Lib.hid (HE4.out.trans he5)
    have HY5 := Lib.hid (HY4.out.ext he5)
    have HQ5 := Lib.hid (HQ4.out.ext he5)
    have HPV5 := Lib.hid (HPV4.out.ext he5)
    have HP5 := Lib.hid (HP4.out.ext he5)
    have HV5 := Lib.hid (HV4.out.ext he5)
    have HA5 := Lib.hid (HA4.out.kp (Kp.of_ext he5))
    clear c0 c1 c2 c3 CTC he5 HE4 HY4 HQ4 HPV4 HP4 HV4 HA4
    rcases HA5.out with ⟨hbad, hvl⟩ | ⟨j, n, lq, hj, hj4, hO, hvl⟩
    · have CTS := Lib.hid (rp_Same M0 v y (norm l) (norm l) w5 (mb0 _) hvl.pi HY5.out.pi)
      obtain ⟨c0, c1, c2, c3⟩ := HV5.out
      obtain ⟨d0, d1, d2, d3⟩ := HP5.out
      by_cases hl1 : lv < 1
      case' neg =>
        have hl4 : 4 < lv := by
          unfold isLevB at hbad
          simp at hbad
          omega
      all_goals
        clear hvl hbad HA5
        go_wp2_with (fail)
        refine CTS.out.mono ?_
        rintro e w6 ⟨b, rfl, hb, he6⟩
        obtain rfl : b = true := hb.2 (Sim.refl _)
        go_wp2
        go_ret
        exact ⟨rfl, HE5.out.trans he6⟩
    · subst hj
      have HO := Lib.hid hO
      have HVL := Lib.hid hvl
      obtain ⟨t, hRR, hTB, hSm, hsz⟩ := szE_at hvl hO.2.2.2.2.2.1 hO.2.2.2.2.2.2
      have HRR := Lib.hid hRR
      have HTB := Lib.hid hTB
      have HSM := Lib.hid hSm
      have HSZ := Lib.hid hsz
      clear hO hvl HA5 hlv1 hlv2 hRR hTB hSm hsz
      obtain ⟨c0, c1, c2, c3⟩ := HV5.out
      have hd1 : decide ((j : Int) + 1 < 1) = false := decide_eq_false (by omega)
      have hd2 : decide (4 < (j : Int) + 1) = false := decide_eq_false (by omega)
      have CTT := Lib.hid (rp_To M0 5 t v w5 (mb0 _) HRR.out HTB.out)
      go_wp2_with (fail)
      refine CTT.out.mono ?_
      rintro e w6 ⟨u, rfl, hu, he6⟩
      have hdz : ¬ 0 < dgP ((j + 1 : Nat) : Int) (norm (norm (terms 5 t))) := by
        rw [norm_norm, HSM.out.norm]; exact at_degree (by omega) (by omega) HO.out
      have CTD := Lib.hid (sp_degree_ok M0 u (norm (terms 5 t)) j w6 (mb0 _) hu.toV (Nat.le_trans (dlen_mono (norm_nrm _)) HTB.out.2.2.1) hj4)
      generalize dgP ((j + 1 : Nat) : Int) (norm (norm (terms 5 t))) = dz at CTD hdz
      have HE6 := Lib.hid (HE5.out.trans he6)
      have HE56 := Lib.hid he6
      clear hu he6 CTT c0 c1 c2 c3
      go_wp2_with (fail)
      refine CTD.out.mono ?_
      rintro e w7 ⟨rfl, he7⟩
      have hdz2 : decide (0 < dz) = false := decide_eq_false (by omega)
      have hE57 := HE56.out.trans he7
      have HE7 := Lib.hid (HE5.out.trans hE57)
      have HQ7 := Lib.hid (HQ5.out.ext hE57)
      have HPV7 := Lib.hid (HPV5.out.ext hE57)
      have HV7 := Lib.hid (HV5.out.ext hE57)
      have HRR7 := Lib.hid (RR.ext HRR.out hE57)
      clear CTD he7 hE57 HE56 HE6 HE5 HQ5 HPV5 HV5 HRR HY5 HP5 hdz
      go_upto_region 13 with (fail)
      obtain ⟨i0, hi, hz0, hz1, hz2⟩ := info_parts Tryz.info58
      have hcells : ∀ i, i < 5 → R3o w7 ab (ao + i * 3) (X2 i) := fun i hi5 => by
        obtain ⟨⟨b', o', e, _, _, _, _, h6⟩, _⟩ := HQ7.out.2 i hi5
        simp only [Option.some.injEq, Addr.mk.injEq, and_true] at e
        obtain ⟨rfl, rfl⟩ := e
        exact h6
      have hab7 : ab < w7.heap.size := by
        obtain ⟨⟨b', o', e, _, _, h5, _, _⟩, _⟩ := HQ7.out.2 0 (by omega)
        simp only [Option.some.injEq, Addr.mk.injEq, and_true] at e
        obtain ⟨rfl, rfl⟩ := e
        exact h5
      have hEz := (Ext.refl w7).alloc (.cells #[] 58)
      have hBz := Blk.of_arr w7 #[] 58 0 rfl
      have hOz : Own (w7.alloc (.cells #[] 58)) w7.heap.size 58 3 (.slice (some ⟨w7.heap.size, 0, none⟩) 0 0) 0 (fun _ => undef) := .inr ⟨w7.heap.size, 0, _, rfl, Nat.le_refl _, hBz, Nat.le_refl _, Nat.zero_le _, fun i hi => by omega⟩
      have hsrc : ∀ i, i < 4 * 3 → (w7.alloc (.cells #[] 58)).cell? ⟨ab, ao + i, none⟩ = some (rx X2 i) := fun i hi => by
        rw [hEz.cell hab7]
        exact rx_cells (n := 5) hcells i (by omega)
      have HCE := Lib.hid hcells
      have HSRC := Lib.hid hsrc
      clear hcells hsrc hd1 hd2
      have hpc : (4 : Nat) ≤ p2 := by omega
      go_wp2_with (at_builtin; refine wpList_append_row _ rfl (.tmp 52) (.tmp 54) _ rfl w7.heap.size 58 i0 _ 3 56 Tryz.underlying52 hi hz0 hz1 hz2 rfl (by omega) (.slice (some ⟨w7.heap.size, 0, none⟩) 0 0) 0 (fun _ => undef) rfl hOz ab ao 4 p2 (rx X2) rfl HSRC.out (fun i _ => rx_one X2 i) (by omega) ?s1 ?s2 ?s3 ?_)
      case s1 => unfold maxLen; omega
      case s2 => omega
      case s3 => simp
      intro gg cap w8 hO8 hg8 hat hlt8
      have hE78 : Ext w7 w8 := ((Ext.refl w7).alloc _).grown hg8 (fun k hk => by simp [Value.ownBlock] at hk; omega)
      have hgg : w7.heap.size ≤ gg := by
        rcases hat with h | h
        · simp [Value.ownBlock] at h; omega
        · (try simp at h); omega
      obtain ⟨gB, capB, F, hgB, _, hBB, hcB, hmB, hFB⟩ := hO8.some (by omega)
      simp only [Value.slice.injEq, Option.some.injEq, Addr.mk.injEq, and_true, true_and] at hgB
      obtain ⟨rfl, rfl⟩ := hgB
      have hF12 : ∀ i, i < 12 → F i = rx X2 i := fun i hi => by
        rw [hFB i (by omega)]; unfold app; rw [if_neg (by omega)]; simp
      obtain ⟨W9, hW9, hE9, hrow, ⟨u0, k0⟩, ⟨u1, k1⟩, ⟨u2, k2⟩, hfr⟩ := put_row HQ7.out hE78 hBB hF12 (by omega) hmB hj4 hgg
      obtain ⟨r0, r1, r2⟩ := (HCE.out 4 (by omega))
      rw [← hE78.cell hab7] at r0 r1 r2
      have hf0 := hfr (j * 3)
      have hf1 := hfr (j * 3 + 1)
      have hf2 := hfr (j * 3 + 2)
      have hW9' : ((w8.setCell ⟨gg, j * 3, none⟩ (.bool (X2 4).b)).setCell ⟨gg, j * 3 + 1, none⟩ (.slice (X2 4).a (X2 4).n (X2 4).p)).setCell ⟨gg, j * 3 + 2, none⟩ (.slice (X2 4).da (X2 4).dn (X2 4).dp) = W9 := hW9.symm
      have HW9 := Lib.hid hW9'
      have HE9 := Lib.hid hE9
      have HROW := Lib.hid hrow
      have hab8 : ab < w8.heap.size := Nat.lt_of_lt_of_le hab7 hE78.size
      have kwj : IntKind.i64.wrap (j : Int) = j := IntWalk.i64_in _ (by omega)
      have hj4I : (j : Int) < 4 := by omega
      unfold maxLen at hmB
      clear hW9 hW9' hE9 hrow hfr hF12 hBB hO8 hg8 hat hE78 hOz hBz hEz hi hz0 hz1 hz2 hFB HSRC
      go_upto_region 14 with (fail)
      go_upto_region 15 with (fail)
      rw [HW9.out]
      clear u0 k0 u1 k1 u2 k2 hf0 hf1 hf2 r0 r1 r2 HW9 hab8 kwj hj4I hlt8 hcB hmB
      obtain ⟨fa, fc, hf⟩ := HPV7.out.form
      simp only [Value.slice.injEq] at hf
      obtain ⟨rfl, rfl, rfl⟩ := hf
      have hvz := vz_leE (A := 2) HEX.out HDL.out
      have hvz2 : vz 2 l ≤ 457 := by
        have := Nat.mul_le_mul_right (6 + 1 + 2 + 2 * (4 * 6)) HLEN.out
        omega
      have HVZ := Lib.hid hvz2
      have HRBW := Lib.hid (rb_vz (A := 2) (v := aq (put (j + 1) (q 4) q) 4) (HROW.out.rb (by omega)) (fl l))
      have hvf := vz_fl 2 l
      have HRBV : Hid (rb 457 (evT (aq (put (j + 1) (q 4) q) 4) (fl l))) := HRBW.out.mono (by omega)
      have CTV := Lib.hid (rf_valueF M0 2 (by omega) a1 p1 l (some ⟨gg, 0, none⟩) 4 cap (pX j X2) (put (j + 1) (q 4) q) W9 (mb0 _) (HPV7.out.ext HE9.out) HROW.out (by omega))
      obtain ⟨vw, hvw⟩ : ∃ vw, vw = evT (aq (put (j + 1) (q 4) q) 4) (fl l) := ⟨_, rfl⟩
      rw [← hvw] at CTV HRBV
      have HVW : Hid (vw = evT (aq (put (j + 1) (q 4) q) 4) (fl l)) := hvw
      clear hvz hvz2 hvf HRBW hvw
      go_wp2_with (fail)
      refine CTV.out.mono ?_
      rintro e w10 ⟨sw, rfl, hsw, he10⟩
      go_upto_region 16 with (fail)
      have hEa := (Ext.refl w10).alloc (.cells (reA sw) 58)
      have hBw := Blk.of_arr w10 (reA sw) 58 3 rfl
      obtain ⟨g10, hg10⟩ : ∃ g10, g10 = w10.heap.size := ⟨_, rfl⟩
      have hsw2 := (hsw.more (M' := fun b => b = g10) (fun b hb => by rw [hb, hg10]; exact .inr (Nat.le_refl _))).ext hEa
      have hE710 := (HE9.out.trans he10).trans hEa
      have hmo : ∀ b, (fun b => b = g10) b → M0 b ∨ w7.heap.size ≤ b := fun b hb => by
        rw [hb, hg10]; exact .inr (HE9.out.trans he10).size
      obtain ⟨W10, hW10⟩ : ∃ W10, W10 = w10.alloc (.cells #[.bool sw.b, .slice sw.a sw.n sw.p, .slice sw.da sw.dn sw.dp] 58) := ⟨_, rfl⟩
      have hW10' : w10.alloc (.cells (reA sw) 58) = W10 := hW10.symm
      rw [hW10'] at hBw hsw2 hE710
      rw [← hW10]
      rw [← hg10] at hBw
      rw [← hg10]
      have hM10 : Mb (fun b => b = g10) W10 := fun b hb => by rw [hb]; exact hBw.lt
      have HMO := Lib.hid hmo
      have HBW := Lib.hid hBw
      have HSW := Lib.hid hsw2
      have HE10 := Lib.hid hE710
      have HM10 := Lib.hid hM10
      have HX10 := Lib.hid (((HQ7.out.2 4 (by omega)).2.more HMO.out).ext hE710)
      clear hEa hBw hsw hsw2 hE710 hmo hW10 hW10' hg10 hM10 CTV he10 HE9 HROW
      obtain ⟨r0, r1, r2⟩ := (HCE.out 4 (by omega)).ext HE10.out
      have hab10 : ab < W10.heap.size := Nat.lt_of_lt_of_le hab7 HE10.out.size
      have CTN := Lib.hid (rat_normal 2 (X2 4) (q 4) W10 HM10.out HX10.out (by omega) (by omega))
      go_wp2_with (fail)
      refine CTN.out.mono ?_
      rintro e w11 ⟨rn, rfl, hrn, he11⟩
      clear r0 r1 r2 hab10 CTN
      have hfd : ∀ w' : World, (Instr.field 58 (.agg (reA rn)) 1).run Tryz.prog w' = .ok (.slice rn.da rn.dn rn.dp) w' := fun _ => by kernel_rfl
      have CTF := Lib.hid (int_from false _ (q 4).den w11 (HM10.out.ext he11) hrn.2.toV)
      go_wp2_with (fail)
      refine CTF.out.mono ?_
      rintro e w12 ⟨d0, d1, rfl, hc, he12⟩
      obtain ⟨db, da, dn, dp, rfl, rfl⟩ := hc.form
      have hsgn : sgn false (q 4).den = ((q 4).den : Int) := rfl
      rw [hsgn] at hc
      have CTG := Lib.hid (rat_from db da dn dp ((q 4).den : Int) w12 ((HM10.out.ext he11).ext he12) hc.toV)
      clear hc CTF
      go_wp2_with (fail)
      refine CTG.out.mono ?_
      rintro e w13 ⟨rd, rfl, hrd, he13⟩
      clear CTG hrn
      go_upto_region 17 with (fail)
      have hEd := (Ext.refl w13).alloc (.cells (reA rd) 58)
      have hBd := Blk.of_arr w13 (reA rd) 58 3 rfl
      have hrd2 := hrd.ext hEd
      have hE1014 := ((he11.trans he12).trans he13).trans hEd
      obtain ⟨W14, hW14⟩ : ∃ W14, W14 = w13.alloc (.cells #[.bool rd.b, .slice rd.a rd.n rd.p, .slice rd.da rd.dn rd.dp] 58) := ⟨_, rfl⟩
      have hW14' : w13.alloc (.cells (reA rd) 58) = W14 := hW14.symm
      rw [hW14'] at hBd hrd2 hE1014
      rw [← hW14]
      obtain ⟨g11, hg11⟩ : ∃ g11, g11 = w13.heap.size := ⟨_, rfl⟩
      rw [← hg11] at hBd
      rw [← hg11]
      have hgne : g11 ≠ g10 := by
        have := (HBW.out.ext ((he11.trans he12).trans he13)).lt
        omega
      have HBD := Lib.hid hBd
      have HRD := Lib.hid hrd2
      have HBW14 := Lib.hid (HBW.out.ext hE1014)
      have HSW14 := Lib.hid (HSW.out.ext hE1014)
      have HM14 := Lib.hid (HM10.out.ext hE1014)
      have HE14 := Lib.hid (HE10.out.trans hE1014)
      clear hEd hBd hrd hrd2 hE1014 hW14 hW14' hg11 he11 he12 he13 HBW HSW HM10 HX10 HE10
      have CTE := Lib.hid (sp_degree_ok (fun b => b = g10) (.slice a1 l.length p1) l j W14 HM14.out ((HPV7.out.more HMO.out).ext HE14.out) HD.out hj4)
      have hmx : max (dgP ((j + 1 : Nat) : Int) (norm l)) 0 = (n : Int) := HO.out.1
      generalize dgP ((j + 1 : Nat) : Int) (norm l) = dz2 at CTE hmx
      go_wp2_with (fail)
      refine CTE.out.mono ?_
      rintro e w15 ⟨rfl, he15⟩
      have HBD15 := Lib.hid (HBD.out.ext he15)
      have HRD15 := Lib.hid (HRD.out.ext he15)
      have HBW15 := Lib.hid (HBW14.out.ext he15)
      have HSW15 := Lib.hid (HSW14.out.ext he15)
      have HM15 := Lib.hid (HM14.out.ext he15)
      have HE15 := Lib.hid (HE14.out.trans he15)
      clear CTE he15 HBD HRD HBW14 HSW14 HM14 HE14
      have hrq4 : rb 2 (q 4) := (HQ7.out.2 4 (by omega)).2.rb (by omega)
      have HRBD : Hid (rb 3 (((q 4).den : Int) : Rat)) := (rb_int _).mono (by have := hrq4.2; rw [Int.natAbs_natCast]; omega)
      have HVAL : Hid (evT (aq q 4) (terms 5 t) = vw * (((q 4).den : Int) : Rat) ^ n) := by
        show _ = _
        rw [HVW.out]
        refine at_value HO.out HSM.out (terms_nn 5 t) fun i hi4 => ?_
        unfold aq put
        rw [if_pos hi4, Nat.add_sub_cancel]
        by_cases hij : i = j
        · rw [if_pos hij, if_pos hij]
        · rw [if_neg hij, if_neg hij]
          show q i = if i < 4 then q i else 0
          rw [if_pos hi4]
      have hn6 : n ≤ 6 := HO.out.2.1
      have hsz5 := HSZ.out
      generalize (((q 4).den : Int) : Rat) = dn at *
      clear hrq4 HVW HO HSM HPV7 HEX HEX2 HD HDN HDG HDL HLEN HEXP HVZ hab7
      go_wp2
      go_loopw [77] (fun i wr => ∃ (k : Nat) (s : RE), k ≤ n ∧ i = .int .i64 k ∧ Hid (Blk wr g10 58 3 (arr (reA s))) ∧ Hid (RatC (fun b => b = g10) wr s (vw * dn ^ k)) ∧ Hid (Blk wr g11 58 3 (arr (reA rd))) ∧ Hid (RatC (fun b => b = g10) wr rd dn) ∧ Hid (Ext w7 wr)) (fun i _ => n - (intOf i).toNat)
      case atStart => exact ⟨0, sw, Nat.zero_le _, rfl, HBW15, (by show RatC _ _ _ _; rw [Rat.pow_zero, Rat.mul_one]; exact HSW15.out), HBD15, HRD15, HE15⟩
      case round =>
        clear HBW15 HSW15 HBD15 HRD15 HE15 HM15
        obtain ⟨k, s, hk, rfl, HBs, HS, HBd, HRd, HEr⟩ := hrel
        have hMr : Mb (fun b => b = g10) wr := fun b hb => by rw [hb]; exact HBs.out.lt
        have hrbk := rb_pow HRBV.out HRBD.out k
        by_cases hlt : k < n
        · obtain ⟨y0, y1, y2⟩ := HBs.out.r3
          obtain ⟨v0, v1, v2⟩ := HBd.out.r3
          have gH := HBs.out.lt
          have gJ := HBd.out.lt
          have hltI : (k : Int) < (n : Int) := by omega
          have CT4 := Lib.hid (rat_mul (457 + 3 * k) 3 s rd _ _ wr hMr (HS.out.toX hrbk) (HRd.out.toX HRBD.out) (by omega) (by omega) (by omega))
          clear hMr hrbk
          go_wp2_with (fail)
          refine CT4.out.mono ?_
          rintro e_ w16 ⟨s3, rfl, hs3, he16⟩
          clear CT4
          obtain ⟨⟨q0, q1, q2, f0, f1, f2⟩, W17, hW17, hBn, hRn, hkp, hex, hbl⟩ := putR (M' := fun b => b = g10) (HBs.out.ext he16) rfl hs3
          have HBn := Lib.hid hBn
          have HRn : Hid (RatC (fun b => b = g10) W17 s3 (vw * dn ^ (k + 1))) := by
            show RatC _ _ _ _
            rw [Rat.pow_succ, ← Rat.mul_assoc]; exact hRn
          have HBdn := Lib.hid (hbl g11 _ _ _ hgne (HBd.out.ext he16))
          have HRdn := Lib.hid ((HRd.out.ext he16).kp hkp)
          have hg7 : w7.heap.size ≤ g10 := (HMO.out g10 rfl).elim (fun h => h.elim) id
          have HEn := Lib.hid (hex w7 hg7 (HEr.out.trans he16))
          have HW17 := Lib.hid hW17
          simp only [arr] at q0 q1 q2
          clear hs3 he16 hW17 hBn hRn hkp hex hbl HBs HS HBd HRd HEr y0 y1 y2 v0 v1 v2 gH gJ
          go_wp2
          rw [← HW17.out]
          go_roundw
          case rel => exact ⟨k + 1, s3, by omega, by go_num, HBn, HRn, HBdn, HRdn, HEn⟩
          case measure => simp [intOf]; omega
        · obtain rfl : k = n := by omega
          have hEd := HEr.out.trans (Ext.refl wr).drew
          have HSS : Hid (P4 wr.drew g8 v ∧ R3 g10 s wr.drew) := ⟨HV7.out.ext hEd, HBs.out.r3.ext (Ext.refl wr).drew⟩
          have HSd := Lib.hid (HS.out.ext (Ext.refl wr).drew)
          have HMd := Lib.hid (hMr.ext (Ext.refl wr).drew)
          have HRd5 := Lib.hid (RR.ext (RR.more HMO.out HRR7.out) hEd)
          have HQd := Lib.hid (((HQ7.out.cut (m := 4) (by omega)).more HMO.out).ext hEd)
          have HRBK := Lib.hid hrbk
          have HEF := Lib.hid (HE7.out.trans hEd)
          have h04 : (4 : Int) ≤ (p2 : Int) := by omega
          clear hMr hrbk hEd HS HBs HBd HRd HEr
          go_upto_region 21 with (fail)
          refine wp_region_u (fun w' => P4 w' g8 v ∧ R3 g10 s w') 7 (by kernel_rfl) HSS.out (fun hHeld => ?_)
          generalize wr.drew = wd at *
          ((refine wpAnyU_take 0 (oi := ?_) (v := ?_) (by kernel_rfl) (by kernel_rfl) (by kernel_rfl) (by kernel_rfl) (by first | exact hSn | exact hHeld) ?_ ?_ ?_ ?_ ?_; rotate_left 2; (simp only [List.getElem?_toArray, List.getElem?_cons_succ, List.getElem?_cons_zero]; rfl); rfl; (intro wS hSw; obtain ⟨⟨S1, S2, S3, S4⟩, S5, S6, S7⟩ := hSw; go_simp; try with_reducible rfl); (exact fun _ _ _ h => h); (try simp only [Act.put, List.setIfInBounds_toArray, List.set_cons_zero, List.set_cons_succ])); (refine wpAnyU_take 1 (oi := ?_) (v := ?_) (by kernel_rfl) (by kernel_rfl) (by kernel_rfl) (by kernel_rfl) (by first | exact hSn | exact hHeld) ?_ ?_ ?_ ?_ ?_; rotate_left 2; (simp only [List.getElem?_toArray, List.getElem?_cons_succ, List.getElem?_cons_zero]; rfl); rfl; (intro wS hSw; obtain ⟨⟨S1, S2, S3, S4⟩, S5, S6, S7⟩ := hSw; go_simp; try with_reducible rfl); (exact fun _ _ _ h => h); (try simp only [Act.put, List.setIfInBounds_toArray, List.set_cons_zero, List.set_cons_succ])); (refine wpAnyU_take 2 (oi := ?_) (v := ?_) (by kernel_rfl) (by kernel_rfl) (by kernel_rfl) (by kernel_rfl) (by first | exact hSn | exact hHeld) ?_ ?_ ?_ ?_ ?_; rotate_left 2; (simp only [List.getElem?_toArray, List.getElem?_cons_succ, List.getElem?_cons_zero]; rfl); rfl; (intro wS hSw; obtain ⟨⟨S1, S2, S3, S4⟩, S5, S6, S7⟩ := hSw; go_simp; try with_reducible rfl); (exact fun _ _ _ h => h); (try simp only [Act.put, List.setIfInBounds_toArray, List.set_cons_zero, List.set_cons_succ])); (refine wpAnyU_take 4 (oi := ?_) (v := ?_) (by kernel_rfl) (by kernel_rfl) (by kernel_rfl) (by kernel_rfl) (by first | exact hSn | exact hHeld) ?_ ?_ ?_ ?_ ?_; rotate_left 2; (simp only [List.getElem?_toArray, List.getElem?_cons_succ, List.getElem?_cons_zero]; rfl); rfl; (intro wS hSw; obtain ⟨⟨S1, S2, S3, S4⟩, S5, S6, S7⟩ := hSw; go_simp; try with_reducible rfl); (exact fun _ _ _ h => h); (try simp only [Act.put, List.setIfInBounds_toArray, List.set_cons_zero, List.set_cons_succ])))
          ((refine wpAnyU_one 3 (o := ?_) (by kernel_rfl) ?_ ?_; rotate_left 1; (simp only [List.getElem?_toArray, List.getElem?_cons_succ, List.getElem?_cons_zero]; rfl); intro K hK); go_simp; (refine (rp_eval 2 (by omega) 5 (fun b => b = g10) t v (some ⟨ab, ao, none⟩) 4 p2 X2 q _ HMd.out HRd5.out HQd.out (by omega)).mono ?_); rintro e_ wz ⟨r1, rfl, hr1, he1⟩; go_wp2_with (fail); (have hSn := (⟨hHeld.1.ext he1, hHeld.2.ext he1⟩ : P4 wz g8 v ∧ R3 g10 s wz)); (refine hK.out _ _ (fun _ => hSn) ?_); clear hK K; (try simp only [Act.put, List.setIfInBounds_toArray, List.set_cons_zero, List.set_cons_succ]))
          rw [HVAL.out] at hr1
          ((refine wpAnyU_one 5 (o := ?_) (by kernel_rfl) ?_ ?_; rotate_left 1; (simp only [List.getElem?_toArray, List.getElem?_cons_succ, List.getElem?_cons_zero]; rfl); intro K hK); go_simp; (refine (rat_cmp (457 + 3 * k) (457 + 3 * k) r1 s _ _ _ (HMd.out.ext he1) (hr1.toX HRBK.out) ((HSd.out.ext he1).toX HRBK.out) (by omega) (by omega) (by omega)).mono ?_); rintro e_ wy ⟨cc, rfl, hcc, he2⟩; go_wp2_with (fail); (try clear hSn); (have hSn := (⟨hHeld.1.ext (he1.trans he2), hHeld.2.ext (he1.trans he2)⟩ : P4 wy g8 v ∧ R3 g10 s wy)); (refine hK.out _ _ (fun _ => hSn) ?_); clear hK K; (try simp only [Act.put, List.setIfInBounds_toArray, List.set_cons_zero, List.set_cons_succ]))
          obtain rfl : cc = 0 := by simpa using hcc
          have HEG := Lib.hid (HEF.out.trans (he1.trans he2))
          ((refine wpAnyU_take 6 (oi := ?_) (v := ?_) (by kernel_rfl) (by kernel_rfl) (by kernel_rfl) (by kernel_rfl) (by first | exact hSn | exact hHeld) ?_ ?_ ?_ ?_ ?_; rotate_left 2; (simp only [List.getElem?_toArray, List.getElem?_cons_succ, List.getElem?_cons_zero]; rfl); rfl; (intro wS hSw; obtain ⟨⟨S1, S2, S3, S4⟩, S5, S6, S7⟩ := hSw; go_simp; try with_reducible rfl); (exact fun _ _ _ h => h); (try simp only [Act.put, List.setIfInBounds_toArray, List.set_cons_zero, List.set_cons_succ])))
          clear hSn hHeld he1 he2 hr1 hcc
          ((refine wpAnyU_one 7 (o := ?_) (by kernel_rfl) ?_ ?_; rotate_left 1; (simp only [List.getElem?_toArray, List.getElem?_cons_succ, List.getElem?_cons_zero]; rfl); intro K hK); go_simp; (refine hK.out _ _ (fun h => absurd rfl h) ?_); clear hK K; refine wpAnyU_done (by kernel_rfl) ?_ _)
          go_wp2
          go_ret
          exact ⟨rfl, HEG.out⟩
end Go.Proofs.YtiopnmlohpmmiaaGreat
