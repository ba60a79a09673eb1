/- cylinderref20: FewValues, Value. cylinderref20.Value. Arguments of the type []rational.Rat, opened; the law RecpolyEval: the walk. The law RecpolyEval returns true at every input, without a panic, and leaves its arguments as they were; no conditions. The law RecpolyEval returns true at every input, without a panic, and leaves its arguments as they were; no conditions. -/
import Derived.Test.YtiopnmlohpmmiaaGreatNc
import Derived.Test.YtiopnmlohpmmiaaGreatMt
import Derived.Test.YtiopnmlohpmmiaaGreatMr
import Derived.Test.YtiopnmlohpmmiaaGreatMq
import Derived.Test.YtiopnmlohpmmiaaGreatNx
import Derived.Test.YtiopnmlohpmmiaaGreatMi
set_option linter.unusedVariables false
set_option linter.unusedSimpArgs false

namespace Go.Proofs.YtiopnmlohpmmiaaGreat
open Go.RowKit

/-- a row of n rationals, by its cells alone -/
def RRaw (w : World) (a : Option Addr) (n cap : Nat) (X : Nat → RE) : Prop :=
  n ≤ cap ∧ cap ≤ maxLen ∧ ((a = none ∧ n = 0 ∧ cap = 0) ∨ ∃ b off, a = some ⟨b, off, none⟩ ∧ b < w.heap.size ∧ ∀ i, i < n → R3o w b (off + i * 3) (X i))
theorem RRaw.ext {w w' : World} {a : Option Addr} {n cap : Nat} {X : Nat → RE} (h : RRaw w a n cap X) (he : Ext w w') : RRaw w' a n cap X := by
  obtain ⟨h1, h2, h3⟩ := h
  refine ⟨h1, h2, ?_⟩
  rcases h3 with h3 | ⟨b, off, ha, hb, hc⟩
  · exact .inl h3
  · exact .inr ⟨b, off, ha, Nat.lt_of_lt_of_le hb he.size, fun i hi => (hc i hi).ext he⟩
def okR (D : Nat) (x : RE) : Prop := x.n ≤ D ∧ x.dn ≤ D
def FewR (n : Nat) (X : Nat → RE) (T D : Nat) : Prop := n ≤ T ∧ ∀ i, i < n → okR D (X i)
set_option maxRecDepth 100000 in
set_option maxHeartbeats 4000000 in
theorem rf_fewv (a : Option Addr) (n cap : Nat) (X : Nat → RE) (T D : Nat) (w : World) (h : RRaw w a n cap X) (hX : ∀ i, i < n → (X i).n ≤ 9223372036854775807 ∧ (X i).dn ≤ 9223372036854775807) :
    Calls Tryz.prog 28 #[.slice a n cap, .int .i64 (T : Int), .int .i64 (D : Int)] w (RetB (FewR n X T D) w) := by
  obtain ⟨h1, h2, h3⟩ := h
  unfold maxLen at h2
  have H3 := Lib.hid h3
  have HX := Lib.hid hX
  clear h3 hX
  by_cases hT : n ≤ T
  · go_enter Tryz.func28, Tryz.ntmps28
    go_wp2
    go_loop [7] (fun i => ∃ k : Nat, k ≤ n ∧ i = .int .i64 k ∧ Hid (∀ j, j < k → okR D (X j))) (fun i => n - (intOf i).toNat)
    case atStart => exact ⟨0, Nat.zero_le _, rfl, fun j hj => absurd hj (Nat.not_lt_zero _)⟩
    case round =>
      obtain ⟨k, hk, rfl, HOK⟩ := hrel
      by_cases hlt : k < n
      · rcases H3.out with ⟨_, h0, _⟩ | ⟨b, off, rfl, hb, hcells⟩
        · omega
        obtain ⟨x0, x1, x2⟩ := hcells k hlt
        obtain ⟨hxn, hxd⟩ := HX.out k hlt
        clear hcells
        by_cases hD : (X k).n ≤ D
        · by_cases hD2 : (X k).dn ≤ D
          · have HN : Hid (∀ j, j < k + 1 → okR D (X j)) := fun j hj => by
              by_cases hjk : j = k
              · subst hjk; exact ⟨hD, hD2⟩
              · exact HOK.out j (by omega)
            go_wp2
            go_round
            case rel => exact ⟨k + 1, by omega, by go_num, HN⟩
            case measure => simp [intOf]; omega
          · go_wp2
            go_ret
            exact ⟨false, rfl, ⟨(fun h => by cases h), fun h => absurd (h.2 k hlt).2 hD2⟩, rfl⟩
        · go_wp2
          go_ret
          exact ⟨false, rfl, ⟨(fun h => by cases h), fun h => absurd (h.2 k hlt).1 hD⟩, rfl⟩
      · go_wp2
        go_ret
        exact ⟨true, rfl, ⟨fun _ => ⟨hT, fun i hi => HOK.out i (by omega)⟩, fun _ => rfl⟩, rfl⟩
  · go_enter Tryz.func28, Tryz.ntmps28
    go_wp2
    go_ret
    exact ⟨false, rfl, ⟨(fun h => by cases h), fun h => absurd h.1 hT⟩, rfl⟩
end Go.Proofs.YtiopnmlohpmmiaaGreat

namespace Go.Proofs.YtiopnmlohpmmiaaGreat
open Go.RowKit

/-- the product of the first k powers of a monomial -/
def pm (v : Nat → Rat) (m : Mo) : Nat → Rat
  | 0 => 1
  | k + 1 => pm v m k * v k ^ (m.get (k + 1)).toNat
/-- the sum of the first k exponents -/
def es (m : Mo) : Nat → Nat
  | 0 => 0
  | k + 1 => es m k + (m.get (k + 1)).toNat
theorem pm_four (v : Nat → Rat) (m : Mo) : pm v m 4 = evM v m := by
  simp [pm, evM, Mo.get, Rat.one_mul]
theorem es_mono (m : Mo) (k : Nat) (h : k ≤ 4) : es m k ≤ es m 4 := by
  have : k = 0 ∨ k = 1 ∨ k = 2 ∨ k = 3 ∨ k = 4 := by omega
  rcases this with rfl | rfl | rfl | rfl | rfl <;> simp [es] <;> omega
/-- a bound for the digits of the value of a term -/
def tzv (A : Nat) (t : Tm) : Nat := dlen t.1.natAbs + 1 + A * es t.2 4
/-- .. of a list of terms -/
def vz (A : Nat) : List Tm → Nat
  | [] => 1
  | t :: l => tzv A t + vz A l + 1
theorem vz_pos (A : Nat) : ∀ l, 1 ≤ vz A l
  | [] => Nat.le_refl _
  | t :: l => by have := vz_pos A l; unfold vz; omega
theorem vz_mem {A : Nat} {l : List Tm} {t : Tm} (h : t ∈ l) : tzv A t + 1 ≤ vz A l := by
  induction l with
  | nil => cases h
  | cons s l ih =>
    have := vz_pos A l
    rcases List.mem_cons.1 h with rfl | h
    · unfold vz; omega
    · have := ih h; unfold vz; omega
theorem vz_take (A : Nat) : ∀ (l : List Tm) (k : Nat), vz A (l.take k) ≤ vz A l
  | [], _ => by simp
  | t :: l, 0 => vz_pos A _
  | t :: l, k + 1 => by have := vz_take A l k; simp only [List.take_succ_cons, vz]; omega
theorem rb_pow {B A : Nat} {y v : Rat} (hy : rb B y) (hv : rb A v) : ∀ e, rb (B + A * e) (y * v ^ e)
  | 0 => by simpa using hy
  | e + 1 => by
    rw [Rat.pow_succ, ← Rat.mul_assoc]
    exact (rb_mul (rb_pow hy hv e) hv).mono (by rw [Nat.mul_add]; omega)
theorem rb_pm {A : Nat} {v : Nat → Rat} (hv : ∀ k, rb A (v k)) (c : Int) (m : Mo) : ∀ k, rb (dlen c.natAbs + 1 + A * es m k) ((c : Rat) * pm v m k)
  | 0 => by simpa [pm, es] using rb_int c
  | k + 1 => by
    rw [pm, ← Rat.mul_assoc]
    exact (rb_pow (rb_pm hv c m k) (hv k) _).mono (by rw [es, Nat.mul_add]; omega)
theorem rb_vz {A : Nat} {v : Nat → Rat} (hv : ∀ k, rb A (v k)) : ∀ l : List Tm, rb (vz A l) (evT v l)
  | [] => rb_zero
  | t :: l => by
    have h1 := rb_pm hv t.1 t.2 4
    rw [pm_four] at h1
    exact (rb_add h1 (rb_vz hv l)).mono (by simp only [vz, tzv]; omega)
/-- a rational is stored into a variable -/
theorem putR0 {M' : Nat → Prop} {W : World} {g : Nat} {t : TypeId} {f : Nat → Value} (r : RE) (hB : Blk W g t 3 f) (hg : M' g) :
    (W.cell? ⟨g, 0, none⟩ = some (f 0) ∧ W.cell? ⟨g, 1, none⟩ = some (f 1) ∧ W.cell? ⟨g, 2, none⟩ = some (f 2) ∧ W.frozen? ⟨g, 0, none⟩ = false ∧ W.frozen? ⟨g, 1, none⟩ = false ∧ W.frozen? ⟨g, 2, none⟩ = false) ∧
    ∃ W2, W2 = ((W.setCell ⟨g, 0, none⟩ (.bool r.b)).setCell ⟨g, 1, none⟩ (.slice r.a r.n r.p)).setCell ⟨g, 2, none⟩ (.slice r.da r.dn r.dp) ∧ Blk W2 g t 3 (arr (reA r)) ∧ Kp M' W W2 ∧ (∀ w : World, w.heap.size ≤ g → Ext w W → Ext w W2) ∧ (∀ h t' n f', h ≠ g → Blk W h t' n f' → Blk W2 h t' n f') := by
  have hk := ((Kp.set M' W (p := ⟨g, 0, none⟩) hg (.bool r.b)).trans (Kp.set M' _ (p := ⟨g, 1, none⟩) hg (.slice r.a r.n r.p))).trans (Kp.set M' _ (p := ⟨g, 2, none⟩) hg (.slice r.da r.dn r.dp))
  refine ⟨⟨hB.cell (by omega), hB.cell (by omega), hB.cell (by omega), hB.frozen 0, hB.frozen 1, hB.frozen 2⟩, _, rfl, hB.set3 _ _ _, hk, fun w hw he => ((he.set (p := ⟨g, 0, none⟩) hw _).set (p := ⟨g, 1, none⟩) hw _).set (p := ⟨g, 2, none⟩) hw _, fun h t' n f' hne hb => ((hb.set_other (p := ⟨g, 0, none⟩) hne _).set_other (p := ⟨g, 1, none⟩) hne _).set_other (p := ⟨g, 2, none⟩) hne _⟩
/-- a result is stored into a variable -/
theorem putR {M' : Nat → Prop} {W : World} {g : Nat} {t : TypeId} {f : Nat → Value} {r : RE} {q : Rat} (hB : Blk W g t 3 f) (hg : M' g) (hr : RatC M' W r q) :
    (W.cell? ⟨g, 0, none⟩ = some (f 0) ∧ W.cell? ⟨g, 1, none⟩ = some (f 1) ∧ W.cell? ⟨g, 2, none⟩ = some (f 2) ∧ W.frozen? ⟨g, 0, none⟩ = false ∧ W.frozen? ⟨g, 1, none⟩ = false ∧ W.frozen? ⟨g, 2, none⟩ = false) ∧
    ∃ W2, W2 = ((W.setCell ⟨g, 0, none⟩ (.bool r.b)).setCell ⟨g, 1, none⟩ (.slice r.a r.n r.p)).setCell ⟨g, 2, none⟩ (.slice r.da r.dn r.dp) ∧ Blk W2 g t 3 (arr (reA r)) ∧ RatC M' W2 r q ∧ Kp M' W W2 ∧ (∀ w : World, w.heap.size ≤ g → Ext w W → Ext w W2) ∧ (∀ h t' n f', h ≠ g → Blk W h t' n f' → Blk W2 h t' n f') := by
  have hk := ((Kp.set M' W (p := ⟨g, 0, none⟩) hg (.bool r.b)).trans (Kp.set M' _ (p := ⟨g, 1, none⟩) hg (.slice r.a r.n r.p))).trans (Kp.set M' _ (p := ⟨g, 2, none⟩) hg (.slice r.da r.dn r.dp))
  refine ⟨⟨hB.cell (by omega), hB.cell (by omega), hB.cell (by omega), hB.frozen 0, hB.frozen 1, hB.frozen 2⟩, _, rfl, hB.set3 _ _ _, hr.kp hk, hk, fun w hw he => ((he.set (p := ⟨g, 0, none⟩) hw _).set (p := ⟨g, 1, none⟩) hw _).set (p := ⟨g, 2, none⟩) hw _, fun h t' n f' hne hb => ((hb.set_other (p := ⟨g, 0, none⟩) hne _).set_other (p := ⟨g, 1, none⟩) hne _).set_other (p := ⟨g, 2, none⟩) hne _⟩
theorem hM8_of {M0 : Nat → Prop} {J : Nat} {W W' : World} (h : Mb M0 W) (hk : Kp (fun g => M0 g ∨ g = J) W W') : Mb M0 W' := fun g hg => Nat.lt_of_lt_of_le (h g hg) hk.1
/-- the terms without a negative exponent -/
def fl (l : List Tm) : List Tm := l.filter fun t => t.2.nn
theorem fl_nn {l : List Tm} (h : ∀ s ∈ l, s.2.nn = true) : fl l = l := List.filter_eq_self.2 h
theorem vz_fl (A : Nat) : ∀ l : List Tm, vz A (fl l) ≤ vz A l
  | [] => Nat.le_refl _
  | t :: l => by
    have ih := vz_fl A l
    unfold fl at ih ⊢
    rw [List.filter_cons]
    split
    · simp only [vz]; omega
    · simp only [vz]; omega
set_option maxRecDepth 100000 in
set_option maxHeartbeats 16000000 in
theorem rf_valueF (M : Nat → Prop) (A : Nat) (hA : 1 ≤ A) (la : Option Addr) (lc : Nat) (l : List Tm) (a : Option Addr) (n cap : Nat) (X : Nat → RE) (q : Nat → Rat) (w : World) (hM : Mb M w) (h : PolyV M w (.slice la l.length lc) l) (hq : RatRow M w A a n cap X q) (hsz : 2 * vz A l + A + 4 ≤ 1099511627776) :
    Calls Tryz.prog 35 #[.slice la l.length lc, .slice a n cap] w (RetR M w (evT (aq q n) (fl l))) := by
  have hE0 : Ext w (w.alloc (.cells zR 58)) := (Ext.refl w).alloc _
  have hB0 := Blk.of_arr w zR 58 3 rfl
  have hM0 : Mb (Mx M w.heap.size (w.heap.size + 1)) (w.alloc (.cells zR 58)) := Mx.mb hM (by simp) (by simp)
  have h0 := (h.more (M' := Mx M w.heap.size (w.heap.size + 1)) (Mx.more (Nat.le_refl _))).ext hE0
  have hq0 := (hq.more (M' := Mx M w.heap.size (w.heap.size + 1)) (Mx.more (Nat.le_refl _))).ext hE0
  have hrbA : ∀ k, rb A (aq q n k) := hq.rb hA
  have HRB := Lib.hid (fun (i : Nat) => rb_vz hrbA (fl (l.take i)))
  have HRP := Lib.hid (fun (c : Int) (m : Mo) (k : Nat) => rb_pm hrbA c m k)
  have HRA := Lib.hid hrbA
  have HSZ := Lib.hid hsz
  have hlen := h.len
  have hnL := hq.1
  generalize hW0 : w.alloc (.cells zR 58) = W0 at *
  have HW0 := Lib.hid hW0
  have CTR := Lib.hid (rat_of 0 W0 hM0 (by omega) (by omega))
  have HB0 := Lib.hid hB0
  have HE0 := Lib.hid hE0
  have HM0 := Lib.hid hM0
  have HL := Lib.hid h0
  have HQ := Lib.hid hq0
  clear hW0 hE0 hB0 hM0 h0 hq0 h hq hM hrbA hsz
  go_enter Tryz.func35, Tryz.ntmps35
  go_upto_region 1 with (fail)
  rw [HW0.out]
  go_wp2_with (fail)
  refine CTR.out.mono ?_
  rintro e w1 ⟨s0, rfl, hs0, he1⟩
  clear CTR
  go_upto_region 2 with (fail)
  have hEa : Ext w1 (w1.alloc (.cells (reA s0) 58)) := (Ext.refl _).alloc _
  have hBa := Blk.of_arr w1 (reA s0) 58 3 rfl
  have hs1 := (hs0.more (M' := fun g => Mx M w.heap.size (w.heap.size + 1) g ∨ g = w1.heap.size) (fun g hg => hg.imp id (fun e => by omega))).ext hEa
  have hGW : W0.heap.size ≤ w1.heap.size := he1.size
  have hgW := HB0.out.lt
  obtain ⟨G, hG⟩ : ∃ G, G = w1.heap.size := ⟨_, rfl⟩
  rw [← hG] at hBa hs1 hGW
  rw [← hG]
  obtain ⟨W2, hW2⟩ : ∃ W2, W2 = w1.alloc (.cells (reA s0) 58) := ⟨_, rfl⟩
  rw [← hW2] at hBa hs1 hEa
  rw [← hW2]
  have HBs := Lib.hid hBa
  have HS1 := Lib.hid hs1
  have HEX : Hid (Ext w1 W2) := hEa
  have HE1 := Lib.hid he1
  have HGW := Lib.hid hG
  replace HQ := Lib.hid (HQ.out.more (M' := fun g => Mx M w.heap.size (w.heap.size + 1) g ∨ g = G) (fun g hg => hg.imp id (fun e => by omega)))
  replace HL := Lib.hid (HL.out.more (M' := fun g => Mx M w.heap.size (w.heap.size + 1) g ∨ g = G) (fun g hg => hg.imp id (fun e => by omega)))
  clear hG hW2 hEa hs1 hBa hs0 he1
  go_wp2
  go_loopw [6] (fun i wr => ∃ (k : Nat) (s : RE), k ≤ l.length ∧ i = .int .i64 k ∧ Hid (Blk wr G 58 3 (arr (reA s))) ∧ Hid (RatC (fun g => Mx M w.heap.size (w.heap.size + 1) g ∨ g = G) wr s (evT (aq q n) (fl (l.take k)))) ∧ Hid (Ext w1 wr)) (fun i _ => l.length - (intOf i).toNat)
  case atStart => exact ⟨0, s0, Nat.zero_le _, rfl, HBs, (by show RatC _ _ _ _; exact HS1.out), HEX⟩
  case round =>
    clear HBs HS1 HEX
    obtain ⟨k, s, hk, rfl, HBs, HS, HEX⟩ := hrel
    have hEW := HE1.out.trans HEX.out
    by_cases hlt : k < l.length
    · obtain ⟨b, off, c, m, b1, a1, n1, p1, hla, hlc, hlm, hb, x0, x1, x2, x3, x4, x5, hI, htk, hmem⟩ := (HL.out.ext hEW).at hlt
      have hval := fun W => rf_valid m W
      subst hla
      unfold maxLen at hlm
      by_cases hmn : ¬ m.nn = true
      · have hmf : m.nn = false := by simpa using hmn
        rw [hmf] at hval
        have HVA := Lib.hid hval
        have HS2 : Hid (RatC (fun g => Mx M w.heap.size (w.heap.size + 1) g ∨ g = G) wr s (evT (aq q n) (fl (l.take (k + 1))))) := by
          show RatC _ _ _ _
          have e : fl (l.take (k + 1)) = fl (l.take k) := by
            rw [htk]; unfold fl; rw [List.filter_append, List.filter_cons_of_neg (by simpa using hmn)]; simp
          rw [e]; exact HS.out
        clear hval hI htk hmem hmn hmf HS
        go_wp2_with (fail)
        refine (HVA.out _).mono ?_
        rintro e w3 ⟨rfl, he3⟩
        have HBn := Lib.hid (HBs.out.ext he3)
        have HRn := Lib.hid (HS2.out.ext he3)
        have HEn := Lib.hid (HEX.out.trans he3)
        clear he3 HVA x0 x1 x2 x3 x4 x5 hb HBs HS2 HEX hEW
        go_wp2
        go_roundw
        case rel => exact ⟨k + 1, s, by omega, by go_num, HBn, HRn, HEn⟩
        case measure => simp [intOf]; omega
      have hmn : m.nn = true := Decidable.not_not.1 hmn
      have HMN : Hid (m.nn = true) := hmn
      rw [hmn] at hval
      have HVA := Lib.hid hval
      clear hval hmn
      have hMB : Mb (fun g => Mx M w.heap.size (w.heap.size + 1) g ∨ g = G) wr := fun g hg => hg.elim (fun h1 => (HM0.out.ext hEW) g h1) (fun h1 => by have := HBs.out.lt; rw [h1]; exact this)
      have HMB := Lib.hid hMB
      have HI := Lib.hid hI
      have HTK := Lib.hid htk
      have hms := vz_mem (A := A) hmem
      have hvt := Nat.le_trans (vz_fl A (l.take k)) (vz_take A l k)
      have HMS := Lib.hid hms
      have HVT := Lib.hid hvt
      have HEW := Lib.hid hEW
      clear hMB hI htk hmem hms hvt hEW
      go_wp2_with (fail)
      refine (HVA.out _).mono ?_
      rintro e w3 ⟨rfl, he3⟩
      have CT2 := Lib.hid (rat_from b1 a1 n1 p1 c w3 (HMB.out.ext he3) (HI.out.ext he3))
      rw [← he3.cell hb] at x0 x1 x2 x3 x4 x5
      have hb3 := Nat.lt_of_lt_of_le hb he3.size
      have HE3 := Lib.hid he3
      clear hb he3 HVA
      go_wp2_with (fail)
      refine CT2.out.mono ?_
      rintro e w4 ⟨sx, rfl, hsx, he4⟩
      clear CT2
      rw [← he4.cell hb3] at x0 x1 x2 x3 x4 x5
      have hb4 := Nat.lt_of_lt_of_le hb3 he4.size
      go_upto_region 7 with (fail)
      have hEa := (Ext.refl w4).alloc (.cells (reA sx) 58)
      have hBx := Blk.of_arr w4 (reA sx) 58 3 rfl
      have hE4 := HE3.out.trans he4
      have hE04 := HEW.out.trans hE4
      have hx5 := (hsx.more (M' := fun g => (Mx M w.heap.size (w.heap.size + 1) g ∨ g = G) ∨ g = w4.heap.size) (fun g hg => hg.imp id (fun e => by omega))).ext hEa
      have hs5 := ((HS.out.ext hE4).more (M' := fun g => (Mx M w.heap.size (w.heap.size + 1) g ∨ g = G) ∨ g = w4.heap.size) (fun g hg => hg.imp id (fun e => by omega)))
      have hq5 := (HQ.out.more (M' := fun g => (Mx M w.heap.size (w.heap.size + 1) g ∨ g = G) ∨ g = w4.heap.size) (fun g hg => hg.imp id (fun e => by have := hE04.size; omega)))
      have hM5 := HMB.out.ext hE4
      have hBs4 := HBs.out.ext hE4
      have hGH : G < w4.heap.size := hBs4.lt
      obtain ⟨H, hH⟩ : ∃ H, H = w4.heap.size := ⟨_, rfl⟩
      rw [← hH] at hBx hx5 hs5 hq5 hGH hb4
      rw [← hH]
      obtain ⟨W5, hW5⟩ : ∃ W5, W5 = w4.alloc (.cells (reA sx) 58) := ⟨_, rfl⟩
      rw [← hW5] at hBx hx5 hEa
      rw [← hW5]
      have HHW := Lib.hid hH
      have HBx := Lib.hid hBx
      have HX5 : Hid (RatC (fun g => (Mx M w.heap.size (w.heap.size + 1) g ∨ g = G) ∨ g = H) W5 sx ((c : Rat) * pm (aq q n) m 0)) := by
        show RatC _ _ _ _
        rw [pm, Rat.mul_one]; exact hx5
      have HS5 := Lib.hid hs5
      have HQ5 := Lib.hid hq5
      have HM5 := Lib.hid hM5
      have HBs4 := Lib.hid hBs4
      have HE04 := Lib.hid hE04
      have HE15 := Lib.hid (HEX.out.trans hE4)
      have HEX5 : Hid (Ext w4 W5) := hEa
      have HXE : Hid (∀ j, j < 4 → ∃ ez : Nat, (m.get (j + 1)).toNat = ez ∧ w4.cell? ⟨b, off + k * 6 + 2 + j, none⟩ = some (.int .i64 (ez : Int))) := fun j hj => by
        obtain ⟨n1, n2, n3, n4⟩ := (Mo.nn_iff m).1 HMN.out
        have : j = 0 ∨ j = 1 ∨ j = 2 ∨ j = 3 := by omega
        rcases this with rfl | rfl | rfl | rfl
        · exact ⟨_, rfl, by rw [show ((m.get (0 + 1)).toNat : Int) = m.a by show ((m.a).toNat : Int) = m.a; omega]; exact x2⟩
        · exact ⟨_, rfl, by rw [show ((m.get (1 + 1)).toNat : Int) = m.b by show ((m.b).toNat : Int) = m.b; omega]; exact x3⟩
        · exact ⟨_, rfl, by rw [show ((m.get (2 + 1)).toNat : Int) = m.c by show ((m.c).toNat : Int) = m.c; omega]; exact x4⟩
        · exact ⟨_, rfl, by rw [show ((m.get (3 + 1)).toNat : Int) = m.d by show ((m.d).toNat : Int) = m.d; omega]; exact x5⟩
      clear hW5 hH hEa hBx hx5 hs5 hq5 hM5 hBs4 hE04 hE4 he4 hsx x0 x1 x2 x3 x4 x5
      go_wp2
      go_loopw [8] (fun i wr => ∃ (j : Nat) (sy : RE), j ≤ 4 ∧ i = .int .i64 j ∧ Hid (Blk wr H 58 3 (arr (reA sy))) ∧ Hid (RatC (fun g => (Mx M w.heap.size (w.heap.size + 1) g ∨ g = G) ∨ g = H) wr sy ((c : Rat) * pm (aq q n) m j)) ∧ Hid (Ext w4 wr)) (fun i _ => 4 - (intOf i).toNat)
      case atStart => exact ⟨0, sx, Nat.zero_le _, rfl, HBx, HX5, HEX5⟩
      case round =>
        clear HBx HX5 HEX5
        obtain ⟨j, sy, hj, rfl, HBy, HY, HEY⟩ := hrel
        by_cases hj4 : j < 4
        · have hMB2 : Mb (fun g => (Mx M w.heap.size (w.heap.size + 1) g ∨ g = G) ∨ g = H) wr := fun g hg => hg.elim (fun h1 => (HM5.out.ext HEY.out) g h1) (fun h1 => by have := HBy.out.lt; rw [h1]; exact this)
          have HMB2 := Lib.hid hMB2
          have CT3 := Lib.hid (rat_of 0 wr hMB2 (by omega) (by omega))
          clear hMB2
          go_wp2_with (fail)
          refine CT3.out.mono ?_
          rintro e w6 ⟨sv, rfl, hsv, he6⟩
          clear CT3
          go_upto_region 11 with (fail)
          have hEa := (Ext.refl w6).alloc (.cells (reA sv) 58)
          have hBv := Blk.of_arr w6 (reA sv) 58 3 rfl
          have hE46 := HEY.out.trans he6
          have hE06 := HE04.out.trans hE46
          have hv7 := (hsv.more (M' := fun g => ((Mx M w.heap.size (w.heap.size + 1) g ∨ g = G) ∨ g = H) ∨ g = w6.heap.size) (fun g hg => hg.imp id (fun e => by omega))).ext hEa
          have hy7 := ((HY.out.ext he6).more (M' := fun g => ((Mx M w.heap.size (w.heap.size + 1) g ∨ g = G) ∨ g = H) ∨ g = w6.heap.size) (fun g hg => hg.imp id (fun e => by omega))).ext hEa
          have hq7 := (HQ5.out.more (M' := fun g => ((Mx M w.heap.size (w.heap.size + 1) g ∨ g = G) ∨ g = H) ∨ g = w6.heap.size) (fun g hg => hg.imp id (fun e => by have := hE06.size; omega))).ext (hE06.trans hEa)
          have hBy7 := (HBy.out.ext he6).ext hEa
          have hM7 := HMB2.out.ext (he6.trans hEa)
          have hE47 := hE46.trans hEa
          have hHJ : H < w6.heap.size := (HBy.out.ext he6).lt
          obtain ⟨J, hJ⟩ : ∃ J, J = w6.heap.size := ⟨_, rfl⟩
          rw [← hJ] at hBv hv7 hy7 hq7 hHJ
          rw [← hJ]
          obtain ⟨W7, hW7⟩ : ∃ W7, W7 = w6.alloc (.cells (reA sv) 58) := ⟨_, rfl⟩
          rw [← hW7] at hBv hv7 hy7 hq7 hBy7 hM7 hE47
          rw [← hW7]
          have HBv7 := Lib.hid hBv
          have HV7 := Lib.hid hv7
          have HY7 := Lib.hid hy7
          have HQ7 := Lib.hid hq7
          have HBy7 := Lib.hid hBy7
          have HM7 := Lib.hid hM7
          have HE47 := Lib.hid hE47
          clear hJ hW7 hEa hBv hv7 hy7 hq7 hBy7 hM7 hE47 hE46 hE06 he6 hsv HY HBy HEY
          by_cases hjn : j < n
          case' pos =>
            obtain ⟨⟨ab, ao, rfl, hac, ham, hab, _, y0, y1, y2⟩, hax⟩ := HQ7.out.2 j hjn
            unfold maxLen at ham
            obtain ⟨⟨q0, q1, q2, f0, f1, f2⟩, W8, hW8, hBv8, hkp, hex8, hbl8⟩ := putR0 (M' := fun g => ((Mx M w.heap.size (w.heap.size + 1) g ∨ g = G) ∨ g = H) ∨ g = J) (X j) HBv7.out (.inr rfl)
            have HV8 : Hid (RatX (fun g => ((Mx M w.heap.size (w.heap.size + 1) g ∨ g = G) ∨ g = H) ∨ g = J) W8 A (X j) (aq (fun k => q k) n j)) := by
              show RatX _ _ _ _ _
              unfold aq; rw [if_pos hjn]; exact hax.kp hkp
            have HBv8 := Lib.hid hBv8
            have HY8 := Lib.hid (HY7.out.kp hkp)
            have HBy8 := Lib.hid (hbl8 H _ _ _ (by omega) HBy7.out)
            have HE48 := Lib.hid (hex8 w4 (by rw [← HHW.out]; omega) HE47.out)
            have HM8 := Lib.hid (hM8_of HM7.out hkp)
            have HW8 := Lib.hid hW8
            have hjn2 : (j : Int) < (n : Int) := by omega
            simp only [arr] at q0 q1 q2
            clear hax hW8 hBv8 hkp hex8 hbl8 HBv7 HV7 HY7 HQ7 HBy7 HM7 HE47
            go_upto_region 13 with (fail)
            rw [← HW8.out]
            clear q0 q1 q2 f0 f1 f2 y0 y1 y2 hab hac ham HW8 hjn2
            generalize X j = vr at *
          case' neg =>
            have hjn2 : ¬ (j : Int) < (n : Int) := by omega
            have HV8 : Hid (RatX (fun g => ((Mx M w.heap.size (w.heap.size + 1) g ∨ g = G) ∨ g = H) ∨ g = J) W7 A sv (aq (fun k => q k) n j)) := by
              show RatX _ _ _ _ _
              unfold aq; rw [if_neg hjn]
              exact HV7.out.toX (rb_zero.mono hA)
            have HBv8 := HBv7
            have HY8 := HY7
            have HBy8 := HBy7
            have HE48 := HE47
            have HM8 := HM7
            clear HBv7 HV7 HY7 HQ7 HBy7 HM7 HE47
            go_upto_region 13 with (fail)
            clear hjn2
            generalize sv = vr at *
            generalize W7 = W8 at *
          all_goals
            obtain ⟨ez, hez, hxe⟩ := HXE.out j hj4
            have HXE2 := Lib.hid hxe
            have HEZ := Lib.hid hez
            have HY8' : Hid (RatC (fun g => ((Mx M w.heap.size (w.heap.size + 1) g ∨ g = G) ∨ g = H) ∨ g = J) W8 sy ((c : Rat) * pm (aq q n) m j * aq (fun k => q k) n j ^ 0)) := by
              show RatC _ _ _ _
              rw [Rat.pow_zero, Rat.mul_one]; exact HY8.out
            have hes4 : es m j + ez ≤ es m 4 := by
              have := es_mono m (j + 1) (by omega)
              rw [es, hez] at this; exact this
            have HES := Lib.hid hes4
            have hezL : ez ≤ 1099511627776 := by
              have h1 := HMS.out
              have h2 := HSZ.out
              have h3 : 1 * es m 4 ≤ A * es m 4 := Nat.mul_le_mul_right _ hA
              unfold tzv at h1
              have h4 : dlen c.natAbs + 1 + A * es m 4 + 1 ≤ vz A l := h1
              omega
            clear hxe hez HY8 hes4
            go_wp2
            go_loopw [10] (fun i wr => ∃ (e : Nat) (s2 : RE), e ≤ ez ∧ i = .int .i64 e ∧ Hid (Blk wr J 58 3 (arr (reA vr))) ∧ Hid (RatX (fun g => ((Mx M w.heap.size (w.heap.size + 1) g ∨ g = G) ∨ g = H) ∨ g = J) wr A vr (aq (fun k => q k) n j)) ∧ Hid (Blk wr H 58 3 (arr (reA s2))) ∧ Hid (RatC (fun g => ((Mx M w.heap.size (w.heap.size + 1) g ∨ g = G) ∨ g = H) ∨ g = J) wr s2 ((c : Rat) * pm (aq q n) m j * aq (fun k => q k) n j ^ e)) ∧ Hid (Ext w4 wr)) (fun i _ => ez - (intOf i).toNat)
            case atStart => exact ⟨0, sy, Nat.zero_le _, rfl, HBv8, HV8, HBy8, HY8', HE48⟩
            case round =>
              clear HBv8 HV8 HBy8 HY8' HE48
              obtain ⟨e, s2, hez, rfl, HBv, HV, HBy, HY, HEY⟩ := hrel
              have hbw4 : b < w4.heap.size := by rw [← HHW.out]; exact hb4
              have hbw : b < wr.heap.size := Nat.lt_of_lt_of_le hbw4 HEY.out.size
              have hxe := HXE2.out
              rw [← HEY.out.cell hbw4] at hxe
              clear hbw4
              by_cases hlte : e < ez
              · have hlte2 : (e : Int) < (ez : Int) := by omega
                obtain ⟨y0, y1, y2⟩ := HBy.out.r3
                obtain ⟨v0, v1, v2⟩ := HBv.out.r3
                have gH := HBy.out.lt
                have gJ := HBv.out.lt
                have hMB3 : Mb (fun g => ((Mx M w.heap.size (w.heap.size + 1) g ∨ g = G) ∨ g = H) ∨ g = J) wr := fun g hg => hg.elim (fun h1 => h1.elim (fun h2 => (HM5.out.ext HEY.out) g h2) (fun h2 => by rw [h2]; exact gH)) (fun h1 => by rw [h1]; exact gJ)
                have hB1 := rb_pow (HRP.out c m j) (HRA.out j) e
                have hB2 : dlen c.natAbs + 1 + A * es m j + A * e ≤ tzv A (c, m) := by
                  have h1 := HES.out
                  have h2 : A * (es m j + e) ≤ A * es m 4 := Nat.mul_le_mul_left _ (by omega)
                  rw [Nat.mul_add] at h2
                  unfold tzv
                  show _ ≤ dlen c.natAbs + 1 + A * es m 4
                  omega
                have hB3 := HMS.out
                have hB4 := HSZ.out
                have HYX := Lib.hid (HY.out.toX hB1)
                have CT4 := Lib.hid (rat_mul (dlen c.natAbs + 1 + A * es m j + A * e) A s2 vr _ _ wr hMB3 HYX.out HV.out (by omega) hA (by omega))
                clear hMB3 hB1 hB2 hB3 hB4 HYX
                go_wp2_with (fail)
                refine CT4.out.mono ?_
                rintro e_ w9 ⟨s3, rfl, hs3, he9⟩
                clear CT4
                obtain ⟨⟨q0, q1, q2, f0, f1, f2⟩, W10, hW10, hBn, hRn, hkp, hex, hbl⟩ := putR (M' := fun g => ((Mx M w.heap.size (w.heap.size + 1) g ∨ g = G) ∨ g = H) ∨ g = J) (HBy.out.ext he9) (.inl (.inr rfl)) hs3
                have HBn := Lib.hid hBn
                have HRn : Hid (RatC (fun g => ((Mx M w.heap.size (w.heap.size + 1) g ∨ g = G) ∨ g = H) ∨ g = J) W10 s3 ((c : Rat) * pm (aq q n) m j * aq (fun k => q k) n j ^ (e + 1))) := by
                  show RatC _ _ _ _
                  rw [Rat.pow_succ, ← Rat.mul_assoc]; exact hRn
                have HBvn := Lib.hid (hbl J _ _ _ (by omega) (HBv.out.ext he9))
                have HVn := Lib.hid ((HV.out.ext he9).kp hkp)
                have HEn := Lib.hid (hex w4 (by rw [← HHW.out]; exact Nat.le_refl _) (HEY.out.trans he9))
                have HW10 := Lib.hid hW10
                simp only [arr] at q0 q1 q2
                clear hs3 he9 hW10 hBn hRn hkp hex hbl HBy HBv HV HY HEY y0 y1 y2 v0 v1 v2 gH gJ hxe hbw
                go_wp2
                rw [← HW10.out]
                go_roundw
                case rel => exact ⟨e + 1, s3, by omega, by go_num, HBvn, HVn, HBn, HRn, HEn⟩
                case measure => simp [intOf]; omega
              · obtain rfl : e = ez := by omega
                have HYN : Hid (RatC (fun g => (Mx M w.heap.size (w.heap.size + 1) g ∨ g = G) ∨ g = H) wr s2 ((c : Rat) * pm (aq q n) m (j + 1))) := by
                  show RatC _ _ _ _
                  rw [pm, HEZ.out, ← Rat.mul_assoc]
                  exact HY.out.more (fun g hg => .inl (.inl hg))
                clear HBv HV HY
                go_wp2
                go_roundw
                case rel => exact ⟨j + 1, s2, by omega, by go_num, HBy, HYN, HEY⟩
                case measure => simp [intOf]; omega
        · obtain rfl : j = 4 := by omega
          have hBsr := HBs4.out.ext HEY.out
          obtain ⟨z0, z1, z2⟩ := hBsr.r3
          obtain ⟨y0, y1, y2⟩ := HBy.out.r3
          have gG := hBsr.lt
          have gH := HBy.out.lt
          have hMB3 : Mb (fun g => (Mx M w.heap.size (w.heap.size + 1) g ∨ g = G) ∨ g = H) wr := fun g hg => hg.elim (fun h2 => (HM5.out.ext HEY.out) g h2) (fun h1 => by rw [h1]; exact gH)
          have hB1 := HRB.out k
          have hB2 := HRP.out c m 4
          have hB3 := HMS.out
          have hB4 := HSZ.out
          have hB5 := HVT.out
          have hB6 := vz_pos A (fl (l.take k))
          have CT5 := Lib.hid (rat_add (vz A (fl (l.take k))) (tzv A (c, m)) s sy _ _ wr hMB3 ((HS5.out.ext HEY.out).toX hB1) (HY.out.toX hB2) hB6 (by unfold tzv; omega) (by omega))
          clear hMB3 hB1 hB2 hB3 hB4 hB5 hB6 hBsr
          go_wp2_with (fail)
          refine CT5.out.mono ?_
          rintro e_ w9 ⟨s3, rfl, hs3, he9⟩
          clear CT5
          obtain ⟨⟨q0, q1, q2, f0, f1, f2⟩, W10, hW10, hBn, hRn, hkp, hex, hbl⟩ := putR (M' := fun g => (Mx M w.heap.size (w.heap.size + 1) g ∨ g = G) ∨ g = H) ((HBs4.out.ext HEY.out).ext he9) (.inl (.inr rfl)) hs3
          have HBn := Lib.hid hBn
          have HRn : Hid (RatC (fun g => Mx M w.heap.size (w.heap.size + 1) g ∨ g = G) W10 s3 (evT (aq q n) (fl (l.take (k + 1))))) := by
            show RatC _ _ _ _
            have e : fl (l.take (k + 1)) = fl (l.take k) ++ [(c, m)] := by
              rw [HTK.out]; unfold fl; rw [List.filter_append, List.filter_cons_of_pos (by exact HMN.out)]; rfl
            rw [e, evT_append]
            simp only [evT]
            rw [← pm_four, Rat.add_zero]
            exact hRn.more (fun g hg => .inl (.inl hg))
          have HEn := Lib.hid (hex w1 (by rw [HGW.out]; exact Nat.le_refl _) ((HE15.out.trans HEY.out).trans he9))
          have HW10 := Lib.hid hW10
          simp only [arr] at q0 q1 q2
          clear hs3 he9 hW10 hBn hRn hkp hex hbl HBy HY HEY y0 y1 y2 z0 z1 z2 gG gH HBs HS HEX
          go_wp2
          rw [← HW10.out]
          go_roundw
          case rel => exact ⟨k + 1, s3, by omega, by go_num, HBn, HRn, HEn⟩
          case measure => simp [intOf]; omega
    · obtain rfl : k = l.length := by omega
      obtain ⟨z0, z1, z2⟩ := HBs.out.r3
      have gG := HBs.out.lt
      obtain ⟨⟨q0, q1, q2, f0, f1, f2⟩, ⟨r0, r1, r2⟩, HF⟩ := finR (M := M) (M' := fun g => Mx M w.heap.size (w.heap.size + 1) g ∨ g = G) (w := w) (HB0.out.ext hEW) (.inl (Mx.at (by omega))) (Nat.le_refl _) (HE0.out.trans hEW) HS.out (fun g hg => .inl (Mx.sub g hg))
      rw [List.take_length] at HF
      clear HBs HS HEX hEW
      go_wp2
      exact bodyPost_ret (v := .agg (reA s)) (by simp [results, Tryz.results35, go_sem, r0, r1, r2]) rfl HF.out
theorem rf_value (M : Nat → Prop) (A : Nat) (hA : 1 ≤ A) (la : Option Addr) (lc : Nat) (l : List Tm) (a : Option Addr) (n cap : Nat) (X : Nat → RE) (q : Nat → Rat) (w : World) (hM : Mb M w) (h : PolyV M w (.slice la l.length lc) l) (hnn : ∀ s ∈ l, s.2.nn = true) (hq : RatRow M w A a n cap X q) (hsz : 2 * vz A l + A + 4 ≤ 1099511627776) :
    Calls Tryz.prog 35 #[.slice la l.length lc, .slice a n cap] w (RetR M w (evT (aq q n) l)) := by
  have h1 := rf_valueF M A hA la lc l a n cap X q w hM h hq hsz
  rwa [fl_nn hnn] at h1
end Go.Proofs.YtiopnmlohpmmiaaGreat

namespace Go.Proofs.YtiopnmlohpmmiaaGreat
open Go.ChangeShapes Go.WideShapes Go.ChangeAt Go.RowKit Go.Deep

/-- a row of rationals of which each number with few digits is a number -/
def RPaw (W : World) (a : Option Addr) (n cap : Nat) (X : Nat → RE) : Prop := RRaw W a n cap X ∧ (∀ i, i < n → (X i).n ≤ 9223372036854775807 ∧ (X i).dn ≤ 9223372036854775807) ∧
  ∀ i, i < n → ((X i).n ≤ 1099511627776 → ∃ d, NatR M0 W (.slice (X i).a (X i).n (X i).p) (X i).n d) ∧ ((X i).dn ≤ 1099511627776 → ∃ d, NatR M0 W (.slice (X i).da (X i).dn (X i).dp) (X i).dn d)
theorem NatR.dlen_le {M : Nat → Prop} {w : World} {v : Value} {n D : Nat} {d : Nat → Nat} (h : NatR M w v n d) (hD : n ≤ D) : dlen (nv d n) ≤ D := Nat.le_trans (dlen_nv_le d n h.2.1) hD
theorem RPaw.row {W : World} {a : Option Addr} {n cap : Nat} {X : Nat → RE} {T D : Nat} (h : RPaw W a n cap X) (hf : FewR n X T D) (hT : T ≤ 1000) (hD : D ≤ 1000) : ∃ q, RatRow M0 W D a n cap X q := by
  obtain ⟨⟨h1, h2, h3⟩, _, h4⟩ := h
  have hall : ∀ i, ∃ q : Rat, i < n → RatX M0 W D (X i) q := by
    intro i
    by_cases hi : i < n
    · obtain ⟨f1, f2⟩ := hf.2 i hi
      obtain ⟨d, hd⟩ := (h4 i hi).1 (by omega)
      obtain ⟨e, he⟩ := (h4 i hi).2 (by omega)
      refine ⟨mkRat (sgn (X i).b (nv d (X i).n)) (nv e (X i).dn), fun _ => ⟨_, _, ⟨(X i).b, nv d (X i).n, rfl, ⟨_, d, hd, rfl⟩, rfl⟩, ⟨_, e, he, rfl⟩, ?_, he.dlen_le f2, rfl⟩⟩
      rw [sgn_natAbs]; exact hd.dlen_le f1
    · exact ⟨0, fun h => absurd h hi⟩
  have hT2 := hf.1
  refine ⟨fun i => (hall i).choose, by omega, fun i hi => ⟨?_, (hall i).choose_spec hi⟩⟩
  rcases h3 with ⟨_, h0, _⟩ | ⟨b, off, ha, hb, hc⟩
  · omega
  · exact ⟨b, off, ha, h1, h2, hb, fun h => h, hc i hi⟩
section
variable {H : Type} {enc : TypeId × Value → H} {W : World}
set_option maxRecDepth 10000 in
theorem open_rats {base : Nat} {v : Value} {d : DataW H} {ps : List MemPlace} (hv : Value.okWide Tryz.prog W .any base 52 v) (h : DataW.Trod enc Tryz.prog W 0 (fun _ => true) true 52 v d ps) : ∃ a n cap X, v = .slice a n cap ∧ RPaw W a n cap X := by
  obtain ⟨fuel, h⟩ := h
  have hu : Tryz.prog.underlying 52 = some (.slice 58) := Tryz.underlying52
  have hc3 : Tryz.prog.cellsOf 58 = 3 := by kernel_rfl
  have hv1 : v.cells.toList = [v] := by
    obtain ⟨a, n, c, rfl⟩ := okWide_slice hu hv
    rfl
  rw [hv1] at h
  rcases open_slice hu h with ⟨h0, _⟩ | ⟨a, len, cap, m, n, D, Pl, hcs, hb, hl, hm, hmm, _, hi⟩
  · simp only [List.cons.injEq, and_true] at h0
    exact ⟨none, 0, 0, fun _ => default, h0, ⟨Nat.le_refl _, Nat.zero_le _, .inl ⟨rfl, rfl, rfl⟩⟩, (fun i hi => by omega), fun i hi => by omega⟩
  · simp only [List.cons.injEq, and_true] at hcs
    have hsp : a.spot = none ∧ a.block < W.heap.size := by
      rw [hcs] at hv
      simp only [Value.okWide, hu, Cell.okWide, Cell.ok] at hv
      obtain ⟨_, _, _, hs, row, cells, hsh, _⟩ := hv
      refine ⟨hs, ?_⟩
      unfold World.shape? at hsh
      split at hsh
      · rename_i c e r hh
        exact (Array.getElem?_eq_some_iff.1 hh).1
      · cases hsh
    have hm2 : len ≤ m := by rw [hmm, if_pos rfl]; exact hl
    rw [hc3] at hi
    obtain ⟨b, off, sp⟩ := a
    obtain ⟨rfl, hblk⟩ := hsp
    simp only at hblk
    have hall : ∀ i, ∃ x : RE, i < len → R3o W b (off + i * 3) x ∧ (x.n ≤ 9223372036854775807 ∧ x.dn ≤ 9223372036854775807) ∧ (x.n ≤ 1099511627776 → ∃ d, NatR M0 W (.slice x.a x.n x.p) x.n d) ∧ (x.dn ≤ 1099511627776 → ∃ d, NatR M0 W (.slice x.da x.dn x.dp) x.dn d) := by
      intro i
      by_cases hil : i < len
      · obtain ⟨cs', h1, h2⟩ := hi i (by omega)
        obtain ⟨_, hlen, hat⟩ := World.cells?_some h1
        match cs', hlen with
        | [u0, u1, u2], _ =>
          have c0 : W.cell? (((⟨b, off, none⟩ : Addr).add (i * 3)).add 0) = some u0 := hat 0 (by omega)
          have c1 : W.cell? (((⟨b, off, none⟩ : Addr).add (i * 3)).add 1) = some u1 := hat 1 (by omega)
          have c2 : W.cell? (((⟨b, off, none⟩ : Addr).add (i * 3)).add 2) = some u2 := hat 2 (by omega)
          rw [addr_add, addr_add] at c0 c1 c2
          obtain ⟨y0, y1, q, _, _, e0, e1⟩ := trod_struct2 Tryz.underlying58 h2
          rw [show Tryz.prog.cellsOf 25 = 2 by kernel_rfl] at e0
          rw [show Tryz.prog.cellsOf 23 = 1 by kernel_rfl] at e1
          obtain ⟨bb, a', n', p', rfl, rfl, hn', hd'⟩ := open_int (v0 := u0) (v1 := u1) e0
          obtain ⟨a2, n2, p2, rfl, hn2, hd2⟩ := open_nat (v := u2) e1
          exact ⟨⟨bb, a', n', p', a2, n2, p2⟩, fun _ => ⟨⟨c0, c1, c2⟩, ⟨hn', hn2⟩, hd', hd2⟩⟩
      · exact ⟨default, fun h => absurd h hil⟩
    refine ⟨some ⟨b, off, none⟩, len, cap, fun i => (hall i).choose, hcs, ⟨hl, hm, .inr ⟨b, off, rfl, hblk, fun i hi => ((hall i).choose_spec hi).1⟩⟩, fun i hi => ((hall i).choose_spec hi).2.1, fun i hi => ((hall i).choose_spec hi).2.2⟩
end
theorem vz_le {A B : Nat} {l : List Tm} (h : ∀ t ∈ l, tzv A t ≤ B) : vz A l ≤ 1 + l.length * (B + 1) := by
  induction l with
  | nil => simp [vz]
  | cons t l ih =>
    have h1 := ih fun s hs => h s (List.mem_cons_of_mem _ hs)
    have h2 := h t (List.mem_cons_self ..)
    simp only [vz, List.length_cons, Nat.add_mul l.length, Nat.one_mul]
    omega
theorem es_le {m : Mo} {E : Nat} (h : ∀ k, m.get k ≤ E) : es m 4 ≤ 4 * E := by
  have h1 := h 1
  have h2 := h 2
  have h3 := h 3
  have h4 := h 4
  show 0 + (m.get 1).toNat + (m.get 2).toNat + (m.get 3).toNat + (m.get 4).toNat ≤ _
  omega
/-- the values of a polynomial that Build made have few digits -/
theorem BT.vz {M : Nat → Prop} {w : World} {x : PE} {l : List Tm} (h : BT M w x l) : Go.Proofs.YtiopnmlohpmmiaaGreat.vz 2 l ≤ 10000000 := by
  have h1 := h.len
  have h2 := h.nrm
  obtain ⟨t, _, h3, h4⟩ := h
  have h5 : ∀ s ∈ l, tzv 2 s ≤ 170 := fun s hs => by
    have e1 := dlen_mono (nrm_mem hs)
    have e2 := es_le (m := s.2) (E := 21) fun k => by have := h3.1.2.2 s (by rw [h4]; exact hs) k; omega
    unfold tzv; omega
  have h6 := vz_le h5
  have h7 : l.length * 171 ≤ 16384 * 171 := Nat.mul_le_mul_right _ h1
  omega
end Go.Proofs.YtiopnmlohpmmiaaGreat

namespace Go.Proofs.YtiopnmlohpmmiaaGreat
open Go.ChangeShapes Go.WideShapes Go.ChangeAt Go.RowKit Go.Deep

end Go.Proofs.YtiopnmlohpmmiaaGreat

namespace Go.Proofs.YtiopnmlohpmmiaaGreat
open Go.ChangeShapes Go.WideShapes Go.ChangeAt Go.RowKit Go.Deep

namespace recpolyEval
theorem own : ownKnob Tryz.prog.godebug = none := by kernel_rfl
end recpolyEval
end Go.Proofs.YtiopnmlohpmmiaaGreat
