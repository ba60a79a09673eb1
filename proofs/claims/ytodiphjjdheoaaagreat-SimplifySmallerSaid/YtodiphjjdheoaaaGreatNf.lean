/- simplify: signs, bit, opposite, relation, truth, Meet, Join. simplify: the sign of the head coefficient; truth, first, Atom. simplify.Atom. cylinderref38.Holds, cylinderref39.Permits, simplify.Atoms of an atom, cylinderlaw39.awake. -/
import Derived.Test.YtodiphjjdheoaaaGreatNe
import Derived.Test.YtodiphjjdheoaaaGreatMt
set_option linter.unusedVariables false
set_option linter.unusedSimpArgs false

namespace Go.Proofs.YtodiphjjdheoaaaGreat
open Go.RowKit

def sg (r : Int) : Int := if r = 1 then 1 else if r = 2 then 3 else if r = 4 then 5 else if r = 5 then 6 else if r = 6 then 4 else 2
theorem sg_cases (r : Int) : sg r = 1 ∨ sg r = 3 ∨ sg r = 5 ∨ sg r = 6 ∨ sg r = 4 ∨ sg r = 2 := by
 unfold sg; (repeat' split) <;> simp
def rl (b : Int) : Int × Bool := if b = 1 then (1, true) else if b = 3 then (2, true) else if b = 2 then (3, true) else if b = 5 then (4, true) else if b = 6 then (5, true) else if b = 4 then (6, true) else (0, false)
def opp (b : Int) : Int := if b = 1 then 4 else if b = 3 then 6 else if b = 5 then 5 else if b = 6 then 3 else if b = 4 then 1 else b
theorem si_signs (r : Int) (w : World) : Calls Tryz.prog 96 #[.int .i64 r] w fun e w' => e = .returned (.int .i64 (sg r)) ∧ w = w' := by
 by_cases h1 : r = 1
 ·subst h1
  go_enter Tryz.func96, Tryz.ntmps96
  go_wp2
  go_ret
  exact ⟨rfl, rfl⟩
 by_cases h2 : r = 2
 ·subst h2
  go_enter Tryz.func96, Tryz.ntmps96
  go_wp2
  go_ret
  exact ⟨rfl, rfl⟩
 by_cases h4 : r = 4
 ·subst h4
  go_enter Tryz.func96, Tryz.ntmps96
  go_wp2
  go_ret
  exact ⟨rfl, rfl⟩
 by_cases h5 : r = 5
 ·subst h5
  go_enter Tryz.func96, Tryz.ntmps96
  go_wp2
  go_ret
  exact ⟨rfl, rfl⟩
 by_cases h6 : r = 6
 ·subst h6
  go_enter Tryz.func96, Tryz.ntmps96
  go_wp2
  go_ret
  exact ⟨rfl, rfl⟩
 have HS : Hid (sg r = 2) := by show _ = _; unfold sg; rw [if_neg h1, if_neg h2, if_neg h4, if_neg h5, if_neg h6]
 have k1 : (r == 1) = false := by simp [h1]
 have k2 : (r == 2) = false := by simp [h2]
 have k4 : (r == 4) = false := by simp [h4]
 have k5 : (r == 5) = false := by simp [h5]
 have k6 : (r == 6) = false := by simp [h6]
 go_enter Tryz.func96, Tryz.ntmps96
 go_wp2
 go_ret
 exact ⟨by rw [HS.out]; rfl, rfl⟩
def bt (s : Int) : Int := if s = -1 then 1 else if s = 0 then 2 else 4
theorem si_bit (s : Int) (w : World) : Calls Tryz.prog 97 #[.int .i64 s] w fun e w' => e = .returned (.int .i64 (bt s)) ∧ w = w' := by
 by_cases h1 : s = -1
 ·subst h1
  go_enter Tryz.func97, Tryz.ntmps97
  go_wp2
  go_ret
  exact ⟨rfl, rfl⟩
 by_cases h2 : s = 0
 ·subst h2
  go_enter Tryz.func97, Tryz.ntmps97
  go_wp2
  go_ret
  exact ⟨rfl, rfl⟩
 have HS : Hid (bt s = 4) := by show _ = _; unfold bt; rw [if_neg h1, if_neg h2]
 have k1 : (s == -1) = false := by simp [h1]
 have k2 : (s == 0) = false := by simp [h2]
 go_enter Tryz.func97, Tryz.ntmps97
 go_wp2
 go_ret
 exact ⟨by rw [HS.out]; rfl, rfl⟩
theorem si_opposite (b : Int) (hb : b = 1 ∨ b = 3 ∨ b = 5 ∨ b = 6 ∨ b = 4 ∨ b = 2) (w : World) : Calls Tryz.prog 99 #[.int .i64 b] w fun e w' => e = .returned (.int .i64 (opp b)) ∧ w = w' := by
 rcases hb with rfl | rfl | rfl | rfl | rfl | rfl
 all_goals
  go_enter Tryz.func99, Tryz.ntmps99
  go_wp2
  go_ret
  exact ⟨by kernel_rfl, rfl⟩
theorem rl_of {r : Int} {b : Int} (h1 : 1 ≤ r) (h6 : r ≤ 6) (h : sg r = b) : rl b = (r, true) := by
 have : r = 1 ∨ r = 2 ∨ r = 3 ∨ r = 4 ∨ r = 5 ∨ r = 6 := by omega
 rcases this with rfl | rfl | rfl | rfl | rfl | rfl <;> (subst h; rfl)
theorem rl_none {b : Int} (h : ∀ j : Nat, 1 ≤ j → j < 7 → sg j ≠ b) : rl b = (0, false) := by
 have h1 : (1 : Int) ≠ b := h 1 (by omega) (by omega)
 have h2 : (3 : Int) ≠ b := h 2 (by omega) (by omega)
 have h3 : (2 : Int) ≠ b := h 3 (by omega) (by omega)
 have h4 : (5 : Int) ≠ b := h 4 (by omega) (by omega)
 have h5 : (6 : Int) ≠ b := h 5 (by omega) (by omega)
 have h6 : (4 : Int) ≠ b := h 6 (by omega) (by omega)
 unfold rl
 rw [if_neg (Ne.symm h1), if_neg (Ne.symm h2), if_neg (Ne.symm h3), if_neg (Ne.symm h4), if_neg (Ne.symm h5), if_neg (Ne.symm h6)]
theorem si_relation (b : Int) (w : World) : Calls Tryz.prog 100 #[.int .i64 b] w fun e w' => e = .returned (.tuple #[.int .i64 (rl b).1, .bool (rl b).2]) ∧ w = w' := by
 go_enter Tryz.func100, Tryz.ntmps100
 go_wp2
 go_loop [4] (fun i => ∃ r : Nat, (1 ≤ r ∧ r ≤ 7) ∧ i = .int .i64 r ∧ Hid (∀ j : Nat, 1 ≤ j → j < r → sg j ≠ b)) (fun i => 7 - (intOf i).toNat)
 case atStart => exact ⟨1, by omega, rfl, fun j h1 h2 => by omega⟩
 case round =>
  obtain ⟨r, ⟨hr1, hr7⟩, rfl, HN⟩ := hrel
  by_cases hlt : r < 7
  ·have hr6 : (r : Int) ≤ 6 := by omega
   by_cases he : sg r = b
   ·have HR : Hid (rl b = ((r : Int), true)) := rl_of (by omega) hr6 he
    have CT := Lib.hid (si_signs (r : Int) w)
    rw [he] at CT
    clear he
    go_wp2_with (fail)
    refine CT.out.mono ?_
    rintro e w1 ⟨rfl, rfl⟩
    go_wp2
    exact bodyPost_ret (v := .tuple #[.int .i64 r, .bool true]) (by simp [results, Tryz.results100, go_sem]) rfl ⟨by rw [HR.out], rfl⟩
   ·have HN2 : Hid (∀ j : Nat, 1 ≤ j → j < r + 1 → sg j ≠ b) := fun j h1 h2 => by
     by_cases hj : j = r
     ·rw [hj]; exact he
     ·exact HN.out j h1 (by omega)
    have CT := Lib.hid (si_signs (r : Int) w)
    have heb : (sg r == b) = false := by simp [he]
    generalize sg (r : Int) = s at *
    clear he
    go_wp2_with (fail)
    refine CT.out.mono ?_
    rintro e w1 ⟨rfl, rfl⟩
    go_wp2
    go_round
    case rel => exact ⟨r + 1, by omega, by go_num, HN2⟩
    case measure => simp [intOf]; omega
  ·obtain rfl : r = 7 := by omega
   have HR : Hid (rl b = (0, false)) := rl_none HN.out
   go_wp2
   exact bodyPost_ret (v := .tuple #[.int .i64 0, .bool false]) (by simp [results, Tryz.results100, go_sem]) rfl ⟨by rw [HR.out], rfl⟩
theorem si_Meet (a b : Int) (w : World) : Calls Tryz.prog 108 #[.int .i64 a, .int .i64 b] w fun e w' => e = .returned (.tuple #[.int .i64 (rl (bits BinOp.and .i64 (sg a) (sg b))).1, .bool (rl (bits BinOp.and .i64 (sg a) (sg b))).2]) ∧ w = w' := by
 have C1 := Lib.hid (si_signs a w)
 have C2 := Lib.hid (si_signs b w)
 have C3 := Lib.hid (si_relation (bits BinOp.and .i64 (sg a) (sg b)) w)
 generalize rl (bits BinOp.and .i64 (sg a) (sg b)) = r at *
 generalize sg a = p at *
 generalize sg b = q at *
 go_enter Tryz.func108, Tryz.ntmps108
 go_wp2_with (fail)
 refine C1.out.mono ?_
 rintro e w1 ⟨rfl, rfl⟩
 go_wp2_with (fail)
 refine C2.out.mono ?_
 rintro e w1 ⟨rfl, rfl⟩
 go_wp2_with (fail)
 refine C3.out.mono ?_
 rintro e w1 ⟨rfl, rfl⟩
 go_wp2
 exact bodyPost_ret (v := .tuple #[.int .i64 r.1, .bool r.2]) (by simp [results, Tryz.results108, go_sem]) rfl ⟨rfl, rfl⟩
theorem si_Join (a b : Int) (w : World) : Calls Tryz.prog 109 #[.int .i64 a, .int .i64 b] w fun e w' => e = .returned (.tuple #[.int .i64 (rl (bits BinOp.or .i64 (sg a) (sg b))).1, .bool (rl (bits BinOp.or .i64 (sg a) (sg b))).2]) ∧ w = w' := by
 have C1 := Lib.hid (si_signs a w)
 have C2 := Lib.hid (si_signs b w)
 have C3 := Lib.hid (si_relation (bits BinOp.or .i64 (sg a) (sg b)) w)
 generalize rl (bits BinOp.or .i64 (sg a) (sg b)) = r at *
 generalize sg a = p at *
 generalize sg b = q at *
 go_enter Tryz.func109, Tryz.ntmps109
 go_wp2_with (fail)
 refine C1.out.mono ?_
 rintro e w1 ⟨rfl, rfl⟩
 go_wp2_with (fail)
 refine C2.out.mono ?_
 rintro e w1 ⟨rfl, rfl⟩
 go_wp2_with (fail)
 refine C3.out.mono ?_
 rintro e w1 ⟨rfl, rfl⟩
 go_wp2
 exact bodyPost_ret (v := .tuple #[.int .i64 r.1, .bool r.2]) (by simp [results, Tryz.results109, go_sem]) rfl ⟨rfl, rfl⟩
def perm (r s : Int) : Bool := if r = 1 then decide (s < 0) else if r = 2 then decide (s ≤ 0) else if r = 4 then !decide (s = 0) else if r = 5 then decide (0 ≤ s) else if r = 6 then decide (0 < s) else decide (s = 0)
end Go.Proofs.YtodiphjjdheoaaaGreat

namespace Go.Proofs.YtodiphjjdheoaaaGreat
open Go.RowKit

def hd (l : List Tm) : Int := match norm l with | [] => 0 | t :: _ => t.1
def IsLead (l : List Tm) (c : Int) (m : Mo) : Prop := m.nn = true ∧ c ≠ 0 ∧ coefAt l m = c ∧ ∀ q, coefAt l q ≠ 0 → q = m ∨ Mo.lt q m
theorem Sim.hd {l r : List Tm} (h : Sim l r) : hd l = hd r := by unfold Go.Proofs.YtodiphjjdheoaaaGreat.hd; rw [h.norm]
theorem IsLead.hd {l : List Tm} {c : Int} {m : Mo} (h : IsLead l c m) : hd l = c := by
 obtain ⟨h1, h2, h3, h4⟩ := h
 have hc := norm_canon l
 have hm := norm_coef_nn l m h1
 unfold Go.Proofs.YtodiphjjdheoaaaGreat.hd
 cases hn : norm l with
 | nil => rw [hn, h3] at hm; exact absurd hm.symm h2
 | cons t r =>
  rw [hn] at hc hm
  have h5 := hc.coef_head
  have htn : t.2.nn = true := (hc.2 t List.mem_cons_self).2
  have h6 : coefAt l t.2 = t.1 := by rw [← norm_coef_nn l t.2 htn, hn]; exact h5
  have h7 : t.1 ≠ 0 := (hc.2 t List.mem_cons_self).1
  rcases h4 t.2 (by rw [h6]; exact h7) with e | e
  ·show t.1 = c
   rw [← h6, e, h3]
  ·exfalso
   have : coefAt (t :: r) m = 0 := Canon.coef_big fun s hs => by
    rcases List.mem_cons.1 hs with rfl | hs
    ·exact e
    ·exact Mo.lt_trans (hc.head s hs) e
   rw [this] at hm
   exact h2 (by rw [← h3, ← hm])
theorem lead_cst {z : Int} (hz : z ≠ 0) : IsLead [(z, Mo.zero)] z Mo.zero := by
 refine ⟨rfl, hz, by simp [coefAt], fun q hq => ?_⟩
 by_cases e : Mo.zero = q
 ·exact Or.inl e.symm
 ·exact absurd (by simp [coefAt, e]) hq
theorem lead_of {l : List Tm} (hN : ∀ m : Mo, m.nn = false → coefAt l m = 0) (hz : ¬ Sim l []) : ∃ c m, IsLead l c m := by
 have hs := nn_norm_sim hN
 have hc := norm_canon l
 cases hn : norm l with
 | nil => rw [hn] at hs; exact absurd hs.symm hz
 | cons t r =>
  rw [hn] at hc hs
  have h5 := hc.coef_head
  refine ⟨t.1, t.2, (hc.2 t List.mem_cons_self).2, (hc.2 t List.mem_cons_self).1, by rw [← hs, h5], fun q hq => ?_⟩
  rw [← hs q] at hq
  refine Classical.byContradiction fun hx => hq (coefAt_zero fun s hs e => hx ?_)
  rcases List.mem_cons.1 hs with rfl | hs
  ·exact Or.inl e.symm
  ·exact Or.inr (by rw [← e]; exact hc.head s hs)
theorem IsLead.sim {l r : List Tm} {c : Int} {m : Mo} (h : IsLead l c m) (hs : Sim l r) : IsLead r c m :=
 ⟨h.1, h.2.1, by rw [← hs]; exact h.2.2.1, fun q hq => h.2.2.2 q (by rw [hs]; exact hq)⟩
theorem mlt_sub {x y k : Mo} (h : Mo.lt (Mo.sub x k) y) : Mo.lt x (Mo.add y k) := by
 cases x; cases y; cases k
 simp only [Mo.lt, Mo.sub, Mo.add] at *
 omega
theorem lead_poly {D n : Nat} {P : Nat → List Tm} {c : Int} {m : Mo} (hD : D + 1 ≤ 4) (hn : 1 ≤ n) (hlow : ∀ i, i < n → Low D (P i)) (h : IsLead (P (n - 1)) c m) :
  IsLead (poly (D + 1) n P) c (Mo.add m (xp (D + 1) ((n - 1 : Nat) : Int))) := by
 obtain ⟨h1, h2, h3, h4⟩ := h
 have hz : ∀ i, i < n → ∀ q, coefAt (P i) q ≠ 0 → ∀ k, D < k → k ≤ 4 → q.get k = 0 := fun i hi q hq k hk hk4 =>
  Classical.byContradiction fun hc => hq ((hlow i hi).coef hk hk4 hc)
 have hm0 := hz (n - 1) (by omega) m (by rw [h3]; exact h2)
 have hgm : (Mo.add m (xp (D + 1) ((n - 1 : Nat) : Int))).get (D + 1) = ((n - 1 : Nat) : Int) := by
  rw [get_add, hm0 (D + 1) (by omega) hD, get_xp _ _ _ (by omega) hD, if_pos rfl]; omega
 refine ⟨?_, h2, ?_, fun q hq => ?_⟩
 ·have hx : (xp (D + 1) ((n - 1 : Nat) : Int)).nn = true := by
   rw [Mo.nn_iff]; unfold xp
   refine ⟨?_, ?_, ?_, ?_⟩ <;> (dsimp only; split <;> omega)
  rw [Mo.nn_iff] at *
  unfold Mo.add
  refine ⟨?_, ?_, ?_, ?_⟩ <;> (simp only []; omega)
 ·rw [coef_poly (D + 1) n P (by omega) hD hlow _ (n - 1) hgm, if_pos (by omega)]
  have : Mo.sub (Mo.add m (xp (D + 1) ((n - 1 : Nat) : Int))) (xp (D + 1) ((n - 1 : Nat) : Int)) = m := ((Mo.add_eq _ _ _).1 rfl).symm
  rw [this, h3]
 ·have h0 : 0 ≤ q.get (D + 1) := by
   refine Classical.byContradiction fun hc => hq (coef_poly_neg (D + 1) n P (by omega) hD hlow q (by omega))
  obtain ⟨e, he⟩ : ∃ e : Nat, q.get (D + 1) = e := ⟨(q.get (D + 1)).toNat, by omega⟩
  rw [coef_poly (D + 1) n P (by omega) hD hlow q e he] at hq
  by_cases hen : e < n
  ·rw [if_pos hen] at hq
   by_cases he1 : e = n - 1
   ·subst he1
    rcases h4 _ hq with h5 | h5
    ·exact Or.inl ((Mo.add_eq _ _ _).2 h5.symm).symm
    ·exact Or.inr (mlt_sub h5)
   ·right
    have hq0 := hz e hen _ hq
    have hk : ∀ k, D + 1 < k → k ≤ 4 → q.get k = 0 ∧ (Mo.add m (xp (D + 1) ((n - 1 : Nat) : Int))).get k = 0 := fun k hk hk4 => by
     have h5 := hq0 k (by omega) hk4
     rw [get_sub, get_xp _ _ _ (by omega) hD, if_neg (by omega)] at h5
     rw [get_add, hm0 k (by omega) hk4, get_xp _ _ _ (by omega) hD, if_neg (by omega)]
     omega
    have hlt : q.get (D + 1) < (Mo.add m (xp (D + 1) ((n - 1 : Nat) : Int))).get (D + 1) := by rw [hgm, he]; omega
    generalize Mo.add m (xp (D + 1) ((n - 1 : Nat) : Int)) = r at *
    clear hgm
    have hD4 : D = 0 ∨ D = 1 ∨ D = 2 ∨ D = 3 := by omega
    rcases hD4 with rfl | rfl | rfl | rfl
    ·have k2 := hk 2 (by omega) (by omega)
     have k3 := hk 3 (by omega) (by omega)
     have k4 := hk 4 (by omega) (by omega)
     simp [Mo.get] at k2 k3 k4 hlt
     unfold Mo.lt; omega
    ·have k3 := hk 3 (by omega) (by omega)
     have k4 := hk 4 (by omega) (by omega)
     simp [Mo.get] at k3 k4 hlt
     unfold Mo.lt; omega
    ·have k4 := hk 4 (by omega) (by omega)
     simp [Mo.get] at k4 hlt
     unfold Mo.lt; omega
    ·simp [Mo.get] at hlt
     unfold Mo.lt; omega
  ·rw [if_neg hen] at hq; exact absurd rfl hq
theorem hd_poly {D n : Nat} {P : Nat → List Tm} {l : List Tm} (hD : D + 1 ≤ 4) (hn : 1 ≤ n) (hlow : ∀ i, i < n → Low D (P i)) (hN : ∀ m : Mo, m.nn = false → coefAt (P (n - 1)) m = 0) (hz : ¬ Sim (P (n - 1)) []) (hs : Sim (poly (D + 1) n P) l) : hd (P (n - 1)) = hd l := by
 obtain ⟨c, m, h⟩ := lead_of hN hz
 rw [h.hd, ((lead_poly hD hn hlow h).sim hs).hd]
theorem hd_cst {z : Int} {l : List Tm} (h : Sim [(z, Mo.zero)] l) : hd l = z := by
 rw [← h.hd]
 by_cases hz : z = 0
 ·subst hz
  rw [show hd [((0 : Int), Mo.zero)] = 0 from rfl]
 ·exact (lead_cst hz).hd
def tk (b : Bool) : Int := if b then 1 else 0
theorem si_truth (b : Bool) (w : World) : Calls Tryz.prog 54 #[.bool b] w fun e w' => e = .returned (.agg #[.int .i64 (tk b), .int .i64 0, .int .i64 0, .bool false, .slice none 0 0, .slice none 0 0, .slice none 0 0]) ∧ Ext w w' := by
 have hE : Ext w (w.alloc (.cells #[.int .i64 0, .int .i64 0, .int .i64 0, .bool false, .slice none 0 0, .slice none 0 0, .slice none 0 0] 32)) := (Ext.refl w).alloc _
 cases b
 all_goals
  go_enter Tryz.func54, Tryz.ntmps54
  go_wp2
  exact bodyPost_ret (by simp [results, Tryz.results54, go_sem, tk]) rfl ⟨rfl, (Ext.refl w).alloc _⟩
def cellI (w : World) (g : Nat) : Int := match w.cell? ⟨g, 0, none⟩ with | some (.int _ z) => z | _ => 0
theorem si_first (M : Nat → Prop) (x : PE) (l : List Tm) (w : World) (hM : Mb M w) (h : CRx M w 4 x l) : Calls Tryz.prog 98 #[.agg (peA x)] w fun e w' => e = .returned (.int .i64 (hd l).sign) ∧ Ext w w' := by
 have hE := (Ext.refl w).alloc (.cells (peA x) 29)
 have hB := Blk.of_arr w (peA x) 29 4 rfl
 have hM2 : Mb (Mx M w.heap.size (w.heap.size + 1)) (w.alloc (.cells (peA x) 29)) := Mx.mb hM (by simp) (by simp)
 have h2 : CRx (Mx M w.heap.size (w.heap.size + 1)) (w.alloc (.cells (peA x) 29)) 4 x l := CRx.ext (CRx.more h (Mx.more (Nat.le_refl _))) hE
 have HB := Lib.hid hB
 have HE := Lib.hid hE
 have HM := Lib.hid hM2
 have HX := Lib.hid h2
 clear hB hE hM2 h2 h hM
 go_enter Tryz.func98, Tryz.ntmps98
 go_wp2
 go_loopw [3] (fun _ wr => ∃ (y : PE) (r : List Tm), Hid (Blk wr w.heap.size 29 4 (arr (peA y))) ∧ Hid (CRx (Mx M w.heap.size (w.heap.size + 1)) wr 4 y r) ∧ Hid (hd r = hd l) ∧ Hid (Mb (Mx M w.heap.size (w.heap.size + 1)) wr) ∧ Hid (Ext w wr)) (fun _ wr => (cellI wr w.heap.size).toNat)
 case atStart => exact ⟨x, l, HB, HX, rfl, HM, HE⟩
 case round =>
  clear HB HX HM HE
  obtain ⟨y, r, HB, HX, HH, HM, HE⟩ := hrel
  obtain ⟨q0, q1, q2, q3⟩ := HB.out.p4
  by_cases hk : y.kn = 0
  ·have h0 : y.lv = 0 := Classical.byContradiction fun hc => by
    obtain ⟨D, b, off, P, h1⟩ := HX.out.node hc
    have := h1.2.2.2.2.2.2.1
    omega
   obtain ⟨z, hz, hs, _, _⟩ := HX.out.cst h0
   have HR : Hid ((hd l).sign = z.sign) := by show _ = _; rw [← HH.out, hd_cst hs]
   have CT := Lib.hid (int_sign _ _ z wr hz.toV)
   clear hz hs
   rw [hk] at q3
   go_wp2_with (fail)
   refine CT.out.mono ?_
   rintro e w2 ⟨rfl, he2⟩
   go_wp2
   exact bodyPost_ret (v := .int .i64 z.sign) (by simp [results, Tryz.results98, go_sem]) rfl ⟨by rw [HR.out], HE.out.trans he2⟩
  ·have h0 : y.lv ≠ 0 := fun hc => by
    obtain ⟨z, _, _, _, h1⟩ := HX.out.cst hc
    exact hk h1
   obtain ⟨D, b, off, P, hD, hD4, _, _, _, hka, hkn2, hknL, hkp, hkpm, hb, hMb, hlow, hnz, hsim, _, hkid⟩ := HX.out.node h0
   obtain ⟨z, ⟨e0, e1, e2, e3⟩, hz, hz0, hzD⟩ := hkid (y.kn - 1) (by omega)
   have HH2 : Hid (hd (P (y.kn - 1)) = hd l) := (hd_poly hD4 (by omega) hlow hz.nn hnz hsim).trans HH.out
   obtain ⟨k, hkk⟩ : ∃ k, y.kn = k + 1 := ⟨y.kn - 1, by omega⟩
   rw [hkk] at e0 e1 e2 e3 HH2 hz q3 hkp hknL
   rw [Nat.add_sub_cancel] at e0 e1 e2 e3 HH2 hz
   have HX2 : Hid (CRx (Mx M w.heap.size (w.heap.size + 1)) wr 4 z (P k)) := hz.up (by omega)
   have hml : y.lv ≤ 4 := by omega
   have hcI : cellI wr w.heap.size = y.lv := by unfold cellI; rw [q0]
   clear hlow hnz hsim hkid hz HX hMb
   obtain ⟨_, ⟨f0, f1, f2, f3⟩, ⟨r0, r1, r2, r3⟩, hk4, hf⟩ := fin4 (M' := Mx M w.heap.size (w.heap.size + 1)) (w := w) (.int .i64 z.lv) (.bool z.b) (.slice z.a z.n z.p) (.slice z.ka z.kn z.kp) HB.out (Mx.at (by omega)) (Nat.le_refl _) HE.out
   have HB2 := Lib.hid (HB.out.set4 0 (.int .i64 z.lv) (.bool z.b) (.slice z.a z.n z.p) (.slice z.ka z.kn z.kp))
   have HX3 := Lib.hid (HX2.out.kp hk4)
   have HM3 := Lib.hid (HM.out.size hk4.1)
   rw [hka] at q3
   generalize hW : set4 wr w.heap.size 0 (.int .i64 z.lv) (.bool z.b) (.slice z.a z.n z.p) (.slice z.ka z.kn z.kp) = W at r0 r1 r2 r3 hf HB2 HX3 HM3
   unfold set4 at hW
   have HW := Lib.hid hW
   have HF := Lib.hid hf
   clear hW hf hk4 HX2 HM HE HB HH
   go_wp2
   rw [HW.out]
   refine ⟨⟨z, P k, ?_, HX3, HH2, HM3, HF⟩, ?_⟩
   ·exact HB2.out.congr fun i hi => by
     have : i = 0 ∨ i = 1 ∨ i = 2 ∨ i = 3 := by omega
     rcases this with rfl | rfl | rfl | rfl <;> simp [upd4, upd, arr, peA]
   ·have hcW : cellI W w.heap.size = z.lv := by unfold cellI; rw [r0]
    rw [hcW, hcI]
    omega
end Go.Proofs.YtodiphjjdheoaaaGreat

namespace Go.Proofs.YtodiphjjdheoaaaGreat
open Go.RowKit

abbrev mzA : Array Value := #[.int .i64 0, .int .i64 0, .int .i64 0, .bool false, .slice none 0 0, .slice none 0 0, .slice none 0 0]
abbrev mtA (b : Bool) : Array Value := #[.int .i64 (tk b), .int .i64 0, .int .i64 0, .bool false, .slice none 0 0, .slice none 0 0, .slice none 0 0]
abbrev mxA (k r : Int) (x : PE) : Array Value := #[.int .i64 k, .int .i64 r, .int .i64 x.lv, .bool x.b, .slice x.a x.n x.p, .slice x.ka x.kn x.kp, .slice none 0 0]
def CI (g : Nat) (b : Bool) (a : Option Addr) (n p : Nat) (w : World) : Prop := w.cell? ⟨g, 0, none⟩ = some (.bool b) ∧ w.cell? ⟨g, 1, none⟩ = some (.slice a n p)
theorem CI.ext {g : Nat} {b : Bool} {a : Option Addr} {n p : Nat} {w w' : World} (k : CI g b a n p w) (he : Ext w w') : CI g b a n p w' := by
 have h1 := World.block_lt_of_cell? _ _ k.1
 exact ⟨by rw [he.cell h1]; exact k.1, by rw [he.cell h1]; exact k.2⟩
theorem si_signsE (r : Int) (w : World) : Calls Tryz.prog 96 #[.int .i64 r] w fun e w' => e = .returned (.int .i64 (sg r)) ∧ Ext w w' :=
 (si_signs r w).mono fun _ _ h => ⟨h.1, by rw [← h.2]; exact Ext.refl _⟩
theorem si_bitE (r : Int) (w : World) : Calls Tryz.prog 97 #[.int .i64 r] w fun e w' => e = .returned (.int .i64 (bt r)) ∧ Ext w w' :=
 (si_bit r w).mono fun _ _ h => ⟨h.1, by rw [← h.2]; exact Ext.refl _⟩
theorem fin7 {M' : Nat → Prop} {w W : World} {g : Nat} {t : TypeId} {f : Nat → Value} (e0 e1 e2 e3 e4 e5 e6 : Value) (hB : Blk W g t 7 f) (hg : M' g) (hw : w.heap.size ≤ g) (he : Ext w W) :
  ∃ WA, WA = ((((((W.setCell ⟨g, 0, none⟩ e0).setCell ⟨g, 1, none⟩ e1).setCell ⟨g, 2, none⟩ e2).setCell ⟨g, 3, none⟩ e3).setCell ⟨g, 4, none⟩ e4).setCell ⟨g, 5, none⟩ e5).setCell ⟨g, 6, none⟩ e6 ∧
  (W.cell? ⟨g, 0, none⟩ = some (f 0) ∧ W.cell? ⟨g, 1, none⟩ = some (f 1) ∧ W.cell? ⟨g, 2, none⟩ = some (f 2) ∧ W.cell? ⟨g, 3, none⟩ = some (f 3) ∧ W.cell? ⟨g, 4, none⟩ = some (f 4) ∧ W.cell? ⟨g, 5, none⟩ = some (f 5) ∧ W.cell? ⟨g, 6, none⟩ = some (f 6)) ∧
  (W.frozen? ⟨g, 0, none⟩ = false ∧ W.frozen? ⟨g, 1, none⟩ = false ∧ W.frozen? ⟨g, 2, none⟩ = false ∧ W.frozen? ⟨g, 3, none⟩ = false ∧ W.frozen? ⟨g, 4, none⟩ = false ∧ W.frozen? ⟨g, 5, none⟩ = false ∧ W.frozen? ⟨g, 6, none⟩ = false) ∧
  (WA.cell? ⟨g, 0, none⟩ = some e0 ∧ WA.cell? ⟨g, 1, none⟩ = some e1 ∧ WA.cell? ⟨g, 2, none⟩ = some e2 ∧ WA.cell? ⟨g, 3, none⟩ = some e3 ∧ WA.cell? ⟨g, 4, none⟩ = some e4 ∧ WA.cell? ⟨g, 5, none⟩ = some e5 ∧ WA.cell? ⟨g, 6, none⟩ = some e6) ∧
  Kp M' W WA ∧ Ext w WA := by
 have hB7 := ((((((hB.set 0 e0).set 1 e1).set 2 e2).set 3 e3).set 4 e4).set 5 e5).set 6 e6
 refine ⟨_, rfl, ⟨hB.cell (by omega), hB.cell (by omega), hB.cell (by omega), hB.cell (by omega), hB.cell (by omega), hB.cell (by omega), hB.cell (by omega)⟩,
  ⟨hB.frozen 0, hB.frozen 1, hB.frozen 2, hB.frozen 3, hB.frozen 4, hB.frozen 5, hB.frozen 6⟩, ⟨?_, ?_, ?_, ?_, ?_, ?_, ?_⟩,
  ((((((Kp.set _ _ hg _).trans (Kp.set _ _ hg _)).trans (Kp.set _ _ hg _)).trans (Kp.set _ _ hg _)).trans (Kp.set _ _ hg _)).trans (Kp.set _ _ hg _)).trans (Kp.set _ _ hg _),
  ((((((he.set hw _).set hw _).set hw _).set hw _).set hw _).set hw _).set hw _⟩
 ·rw [hB7.cell (i := 0) (by omega)]; simp [upd]
 ·rw [hB7.cell (i := 1) (by omega)]; simp [upd]
 ·rw [hB7.cell (i := 2) (by omega)]; simp [upd]
 ·rw [hB7.cell (i := 3) (by omega)]; simp [upd]
 ·rw [hB7.cell (i := 4) (by omega)]; simp [upd]
 ·rw [hB7.cell (i := 5) (by omega)]; simp [upd]
 ·rw [hB7.cell (i := 6) (by omega)]; simp [upd]
theorem box17 {M : Nat → Prop} {w : World} (hM : Mb M w) (x : PE) : Ext w ((w.alloc (.cells (peA x) 29)).alloc (.cells mzA 32)) ∧ Blk ((w.alloc (.cells (peA x) 29)).alloc (.cells mzA 32)) w.heap.size 29 4 (arr (peA x)) ∧
  Blk ((w.alloc (.cells (peA x) 29)).alloc (.cells mzA 32)) (w.heap.size + 1) 32 7 (arr mzA) ∧ Mb (Mx M w.heap.size (w.heap.size + 2)) ((w.alloc (.cells (peA x) 29)).alloc (.cells mzA 32)) := by
 have h1 := Blk.of_arr (w.alloc (.cells (peA x) 29)) mzA 32 7 rfl
 simp only [World.size_alloc] at h1
 exact ⟨((Ext.refl w).alloc _).alloc _, (Blk.of_arr w (peA x) 29 4 rfl).alloc _, h1, Mx.mb hM (by simp; omega) (by simp)⟩
def RetA (M : Nat → Prop) (w : World) (rel : Int) (l : List Tm) (e : Ending) (w' : World) : Prop :=
 Ext w w' ∧ ((∃ z, Sim l [(z, Mo.zero)] ∧ e = .returned (.agg (mtA (bits BinOp.and .i64 (sg rel) (bt z.sign) != 0)))) ∨
  ((∃ m k, coefAt l m ≠ 0 ∧ 1 ≤ k ∧ k ≤ 4 ∧ 0 < m.get k) ∧ ∃ y, e = .returned (.agg (mxA 2 (rl (if hd l < 0 then opp (sg rel) else sg rel)).1 y)) ∧ CRx M w' 4 y (snorm l)))
theorem si_Atom (M : Nat → Prop) (d : Nat) (t : RT d) (x : PE) (rel : Int) (w : World) (hM : Mb M w) (h : RR M w d t (.int .i64 x.lv) (.bool x.b) (.slice x.a x.n x.p) (.slice x.ka x.kn x.kp)) (hT : TB d t) (hL : dlen (nrm (terms d t)) + 1 ≤ 1099511627776) :
  Calls Tryz.prog 46 #[.agg (peA x), .int .i64 rel] w (RetA M w rel (terms d t)) := by
 obtain ⟨hE, hX, hB, hM2⟩ := box17 hM x
 have h2 := RR.ext (RR.more (M' := Mx M w.heap.size (w.heap.size + 2)) (Mx.more (Nat.le_refl _)) h) hE
 generalize hW0 : (w.alloc (.cells (peA x) 29)).alloc (.cells mzA 32) = W0 at *
 have HW0 := Lib.hid hW0
 have HE := Lib.hid hE
 have HX := Lib.hid hX
 have HB := Lib.hid hB
 have HM := Lib.hid hM2
 have HR := Lib.hid h2
 have HT := Lib.hid hT
 have HL := Lib.hid hL
 have CT := Lib.hid (rp_Constant _ x (terms d t) W0 hM2 ⟨d, t, h2, .inr hT, Sim.refl _⟩)
 clear hE hX hB hM2 h2 hW0 hM h hT hL
 go_enter Tryz.func46, Tryz.ntmps46
 go_upto_region 1 with (fail)
 rw [HW0.out]
 obtain ⟨x0, x1, x2, x3⟩ := HX.out.p4
 go_wp2_with (fail)
 refine CT.out.mono ?_
 rintro e w1 ⟨z, ok, b, a, n, p, rfl, hz, hs1, hs2, he1⟩
 clear CT x0 x1 x2 x3
 go_upto_region 2 with (fail)
 have hBJ := Blk.of_arr w1 #[.bool b, .slice a n p] 26 2 rfl
 have hEJ := (Ext.refl w1).alloc (.cells #[.bool b, .slice a n p] 26)
 have hzJ := hz.ext hEJ
 obtain ⟨W2, hW2⟩ : ∃ W2, W2 = w1.alloc (.cells #[.bool b, .slice a n p] 26) := ⟨_, rfl⟩
 rw [← hW2] at hBJ hEJ hzJ
 rw [← hW2]
 obtain ⟨J, hJ⟩ : ∃ J, J = w1.heap.size := ⟨_, rfl⟩
 rw [← hJ] at hBJ
 rw [← hJ]
 have HBJ := Lib.hid hBJ
 have HE2 := Lib.hid (he1.trans hEJ)
 have HZ := Lib.hid hzJ
 clear hW2 hBJ hEJ hz hzJ he1 hJ HW0
 cases ok with
 | true =>
  have HS1 := Lib.hid (hs1 rfl)
  clear hs1 hs2
  go_upto_region 3 with (fail)
  have hED := HE2.out.drew
  have HSS : Hid (CI J b a n p W2.drew) := ⟨HBJ.out.drew.cell (i := 0) (by omega), HBJ.out.drew.cell (i := 1) (by omega)⟩
  have HEW := Lib.hid (HE.out.trans hED)
  have HBW := Lib.hid (HB.out.ext hED)
  have HZW := Lib.hid (HZ.out.ext (Ext.refl _).drew)
  have HMW := Lib.hid (HM.out.ext HE2.out)
  clear HBJ HE2 HZ HX HB HR HT HL HE hED HM
  refine wp_region_u (CI J b a n p) 8 (by kernel_rfl) HSS.out (fun hHeld => ?_)
  generalize W2.drew = WD at *
  (refine tkB [0, 2] ?_; (iterate 2 (refine tk1 (oi := ?_) (v := ?_) (by kernel_rfl) (by first | exact hSn | exact hHeld) ?_ ?_ ?_ ?_ ?_; rotate_left 2; (simp only [xgA, xgB, xgC]; rfl); rfl; (intro wS hSw; obtain ⟨S1, S2⟩ := hSw; go_simp; try with_reducible rfl); (exact fun _ _ _ h => h); (try simp only [Act.put, xgD, xgE, xgF]))); refine tkE ?_)
  ((refine wpAnyU_one 1 (o := ?_) (by kernel_rfl) ?_ ?_; rotate_left 1; (simp only [xgA, xgB, xgC]; rfl); intro K hK); go_simp; (refine (si_signsE rel _).mono ?_); rintro e_ wz ⟨rfl, he1⟩; go_wp2_with (fail); (try clear hSn); (have hSn := hHeld.ext he1); (refine hK.out _ _ (fun _ => hSn) ?_); clear hK K; (try simp only [Act.put, xgD, xgE, xgF]))
  ((refine wpAnyU_one 3 (o := ?_) (by kernel_rfl) ?_ ?_; rotate_left 1; (simp only [xgA, xgB, xgC]; rfl); intro K hK); go_simp; (refine (int_sign _ _ z _ (HZW.out.ext he1).toV).mono ?_); rintro e_ wz ⟨rfl, he2⟩; go_wp2_with (fail); (try clear hSn); (have hSn := hHeld.ext (he1.trans he2)); (refine hK.out _ _ (fun _ => hSn) ?_); clear hK K; (try simp only [Act.put, xgD, xgE, xgF]))
  ((refine wpAnyU_one 4 (o := ?_) (by kernel_rfl) ?_ ?_; rotate_left 1; (simp only [xgA, xgB, xgC]; rfl); intro K hK); go_simp; (refine (si_bitE z.sign _).mono ?_); rintro e_ wz ⟨rfl, he3⟩; go_wp2_with (fail); (try clear hSn); (have hSn := hHeld.ext ((he1.trans he2).trans he3)); (refine hK.out _ _ (fun _ => hSn) ?_); clear hK K; (try simp only [Act.put, xgD, xgE, xgF]))
  have he123 := (he1.trans he2).trans he3
  (refine tkB [5, 6] ?_; (iterate 2 (refine tk1 (oi := ?_) (v := ?_) (by kernel_rfl) (by first | exact hSn | exact hHeld) ?_ ?_ ?_ ?_ ?_; rotate_left 2; (simp only [xgA, xgB, xgC]; rfl); rfl; (intro wS hSw; obtain ⟨S1, S2⟩ := hSw; go_simp; try with_reducible rfl); (exact fun _ _ _ h => h); (try simp only [Act.put, xgD, xgE, xgF]))); refine tkE ?_)
  ((refine wpAnyU_one 7 (o := ?_) (by kernel_rfl) ?_ ?_; rotate_left 1; (simp only [xgA, xgB, xgC]; rfl); intro K hK); go_simp; (refine (si_truth _ _).mono ?_); rintro e_ wz ⟨rfl, he4⟩; go_wp2_with (fail); (try clear hSn); (have hSn := hHeld.ext (he123.trans he4)); (refine hK.out _ _ (fun _ => hSn) ?_); clear hK K; (try simp only [Act.put, xgD, xgE, xgF]))
  have he4' := he123.trans he4
  obtain ⟨kz, hkz⟩ : ∃ kz : Int, kz = tk (bits BinOp.and .i64 (sg rel) (bt z.sign) != 0) := ⟨_, rfl⟩
  rw [← hkz]
  obtain ⟨WA, hWA, ⟨c0, c1, c2, c3, c4, c5, c6⟩, ⟨f0, f1, f2, f3, f4, f5, f6⟩, ⟨r0, r1, r2, r3, r4, r5, r6⟩, hkp, hEF⟩ := fin7 (M' := Mx M w.heap.size (w.heap.size + 2)) (w := w) (.int .i64 kz) (.int .i64 0) (.int .i64 0) (.bool false) (.slice none 0 0) (.slice none 0 0) (.slice none 0 0) (HBW.out.ext he4') (Mx.at (by omega)) (by omega) (HEW.out.trans he4')
  have HWA := Lib.hid hWA
  have HEF := Lib.hid hEF
  have HRET : Hid (RetA M w rel (terms d t) (.returned (.agg #[.int .i64 kz, .int .i64 0, .int .i64 0, .bool false, .slice none 0 0, .slice none 0 0, .slice none 0 0])) WA) := ⟨hEF, .inl ⟨z, HS1.out, by rw [hkz]⟩⟩
  clear hHeld hSn he1 he2 he3 he123 he4 he4' hWA hEF hkp hkz
  ((refine wpAnyU_one 8 (o := ?_) (by kernel_rfl) ?_ ?_; rotate_left 1; (simp only [xgA, xgB, xgC]; rfl); intro K hK); go_simp; (refine hK.out _ _ (fun h => absurd rfl h) ?_); clear hK K; refine wpAnyU_done (by kernel_rfl) ?_ _)
  rw [← HWA.out]
  clear HWA c0 c1 c2 c3 c4 c5 c6 f0 f1 f2 f3 f4 f5 f6
  go_wp2
  exact bodyPost_ret (v := .agg #[.int .i64 kz, .int .i64 0, .int .i64 0, .bool false, .slice none 0 0, .slice none 0 0, .slice none 0 0]) (by simp [results, Tryz.results46, go_sem, r0, r1, r2, r3, r4, r5, r6]) rfl HRET.out
 | false =>
  have HS2 := Lib.hid (hs2 rfl)
  clear hs1 hs2
  have CT2 := Lib.hid (si_signsE rel W2)
  clear HBJ HZ
  go_wp2_with (fail)
  refine CT2.out.mono ?_
  rintro e w3 ⟨rfl, he3⟩
  have HE3 := Lib.hid (HE2.out.trans he3)
  clear CT2 HE2 he3
  obtain ⟨x0, x1, x2, x3⟩ := (HX.out.ext HE3.out).p4
  have CT3 := Lib.hid (rp_Normal _ x (terms d t) w3 (HM.out.ext HE3.out) ⟨d, t, RR.ext HR.out HE3.out, .inr HT.out, Sim.refl _⟩)
  go_wp2_with (fail)
  refine CT3.out.mono ?_
  rintro e w4 ⟨y, rfl, hy, he4⟩
  have CT4 := Lib.hid (si_first _ y (terms d t) w4 ((HM.out.ext HE3.out).ext he4) hy)
  clear CT3 hy
  go_wp2_with (fail)
  refine CT4.out.mono ?_
  rintro e w5 ⟨rfl, he5⟩
  have HE5 := Lib.hid (HE3.out.trans (he4.trans he5))
  clear CT4 he4 he5 HE3 x0 x1 x2 x3
  obtain ⟨bb, hbb⟩ : ∃ bb : Int, bb = if hd (terms d t) < 0 then opp (sg rel) else sg rel := ⟨_, rfl⟩
  have HBB := Lib.hid hbb
  have HBB2 := Lib.hid hbb
  have hO := Lib.hid (si_opposite (sg rel) (sg_cases rel) w5)
  obtain ⟨x0, x1, x2, x3⟩ := (HX.out.ext HE5.out).p4
  have HE5W := Lib.hid (HE.out.trans HE5.out)
  have HBW := Lib.hid (HB.out.ext HE5.out)
  have CT5 := Lib.hid (si_relation bb w5)
  have CT6 := Lib.hid (mv_snorm _ d t x w5 (HM.out.ext HE5.out) (RR.ext HR.out HE5.out) HT.out HL.out)
  clear HB HR HT HL HE hbb HX HM
  have hsg : (hd (terms d t)).sign < 0 ↔ hd (terms d t) < 0 := by
   rcases Int.lt_trichotomy (hd (terms d t)) 0 with h1 | h1 | h1
   ·rw [Int.sign_eq_neg_one_of_neg h1]; omega
   ·rw [h1]; simp
   ·rw [Int.sign_eq_one_of_pos h1]; omega
  by_cases hneg : hd (terms d t) < 0
  case' pos =>
   have hd1 : decide ((hd (terms d t)).sign < 0) = true := by simp [hsg, hneg]
   rw [if_pos hneg] at HBB
   have hneg1 := Lib.hid hneg
   clear hneg
   have hs1 : (hd (terms d t)).sign < 0 := hsg.2 hneg1.out
   clear hsg
   generalize (hd (terms d t)).sign = hs at *
   go_wp2_with (fail)
   refine hO.out.mono ?_
   rintro e w6 ⟨rfl, rfl⟩
   rw [← HBB.out]
  case' neg =>
   have hd1 : decide ((hd (terms d t)).sign < 0) = false := by simp [hsg, hneg]
   rw [if_neg hneg] at HBB
   have hs1 : ¬ (hd (terms d t)).sign < 0 := fun h => hneg (hsg.1 h)
   clear hsg hneg
   generalize (hd (terms d t)).sign = hs at *
   rw [← HBB.out]
   go_upto_region 7 with (fail)
  all_goals
   clear hs1
   go_wp2_with (fail)
   refine CT5.out.mono ?_
   rintro e w7 ⟨rfl, rfl⟩
   clear CT5 hO
   go_wp2_with (fail)
   refine CT6.out.mono ?_
   rintro e w8 ⟨v, rfl, hv, he8⟩
   clear CT6 x0 x1 x2 x3 hd1
   obtain ⟨WA, hWA, ⟨c0, c1, c2, c3, c4, c5, c6⟩, ⟨f0, f1, f2, f3, f4, f5, f6⟩, ⟨r0, r1, r2, r3, r4, r5, r6⟩, hkp, hEF⟩ := fin7 (M' := Mx M w.heap.size (w.heap.size + 2)) (w := w) (.int .i64 2) (.int .i64 (rl bb).1) (.int .i64 v.lv) (.bool v.b) (.slice v.a v.n v.p) (.slice v.ka v.kn v.kp) (.slice none 0 0) (HBW.out.ext he8) (Mx.at (by omega)) (by omega) (HE5W.out.trans he8)
   have HWA := Lib.hid hWA
   have HRET : Hid (RetA M w rel (terms d t) (.returned (.agg (mxA 2 (rl bb).1 v))) WA) := ⟨hEF, .inr ⟨HS2.out.2, v, by rw [HBB2.out], (hv.kp hkp).more fun g hg => .inl (Mx.sub g hg)⟩⟩
   generalize (rl bb).1 = rr at *
   clear he8 hWA hEF hkp hv HBB HBB2 HBW HE5W
   go_wp2
   rw [← HWA.out]
   clear HWA c0 c1 c2 c3 c4 c5 c6 f0 f1 f2 f3 f4 f5 f6
   exact bodyPost_ret (v := .agg (mxA 2 rr v)) (by simp [results, Tryz.results46, go_sem, r0, r1, r2, r3, r4, r5, r6]) rfl HRET.out
end Go.Proofs.YtodiphjjdheoaaaGreat

namespace Go.Proofs.YtodiphjjdheoaaaGreat
open Go.RowKit

theorem CRx.tb1 {M : Nat → Prop} {w : World} {L : Nat} {x : PE} {l : List Tm} {B : Nat} (h : CRx M w L x l) (hL4 : L ≤ 4) (hL : dlen (nrm l) ≤ 1099511627776) (hB : Deg B l) (hB4 : (B + 1) ^ 4 ≤ 1099511627776) : ∃ t : RT (L + 1), RR M w (L + 1) t (.int .i64 x.lv) (.bool x.b) (.slice x.a x.n x.p) (.slice x.ka x.kn x.kp) ∧ TB (L + 1) t ∧ Sim (terms (L + 1) t) l ∧ nrm (terms (L + 1) t) ≤ nrm l := by
 obtain ⟨t, h1, h2, h3, h4⟩ := h
 have hlv := can_lev h2
 have hlen := can_len B (L + 1) t h2 h1.ok (sim_deg h4 hB)
 have hpow : (B + 1) ^ (Go.Proofs.YtodiphjjdheoaaaGreat.lev (L + 1) t).toNat ≤ (B + 1) ^ 4 := Nat.pow_le_pow_right (by omega) (by show t.1.toNat ≤ 4; omega)
 have hB1 : B + 1 ≤ (B + 1) ^ 4 := by
  have h5 := Nat.pow_le_pow_right (show 0 < B + 1 by omega) (show 1 ≤ 4 by omega)
  rwa [Nat.pow_one] at h5
 have hBs : B ≤ 1073741824 := by
  refine Classical.byContradiction fun hc => ?_
  have h6 : (1073741825 : Nat) ^ 2 ≤ (B + 1) ^ 4 := Nat.le_trans (Nat.pow_le_pow_left (show 1073741825 ≤ B + 1 by omega) 2) (Nat.pow_le_pow_right (by omega) (by omega))
  omega
 refine ⟨t, h1, ⟨by omega, by omega, Nat.le_trans (dlen_mono (can_nrm h2 h4)) hL, fun s hs k => ?_⟩, h4, can_nrm h2 h4⟩
 have := can_exp B (L + 1) t h2 h1.ok (sim_deg h4 hB) s hs k
 omega
theorem RetA.sim {M : Nat → Prop} {w : World} {rel : Int} {l r : List Tm} {e : Ending} {w' : World} (h : RetA M w rel l e w') (hs : Sim l r) : RetA M w rel r e w' := by
 obtain ⟨hE, h⟩ := h
 refine ⟨hE, ?_⟩
 rcases h with ⟨z, h1, h2⟩ | ⟨⟨m, k, h1, h2⟩, y, h3, h4⟩
 ·exact .inl ⟨z, hs.symm.trans h1, h2⟩
 ·exact .inr ⟨⟨m, k, by rw [← hs m]; exact h1, h2⟩, y, by rw [← hs.hd]; exact h3, by rw [← hs.snorm]; exact h4⟩
theorem si_AtomX (M : Nat → Prop) (x : PE) (l : List Tm) (B : Nat) (rel : Int) (w : World) (hM : Mb M w) (h : CRx M w 4 x l) (hL : dlen (nrm l) + 1 ≤ 1099511627776) (hB : Deg B l) (hB4 : (B + 1) ^ 4 ≤ 1099511627776) :
  Calls Tryz.prog 46 #[.agg (peA x), .int .i64 rel] w (RetA M w rel l) := by
 obtain ⟨t, hR, hT, hS, hn⟩ := h.tb1 (Nat.le_refl _) (by omega) hB hB4
 exact (si_Atom M _ t x rel w hM hR hT (by have := dlen_mono hn; omega)).mono fun e w' k => k.sim hS
theorem si_Atoms1 (r : Int) (x : PE) (w : World) : Calls Tryz.prog 28 #[.agg (mxA 2 r x)] w fun e w' => e = .returned (.int .i64 1) ∧ Ext w w' := by
 have HE : Hid (Ext w (w.alloc (.cells (mxA 2 r x) 32))) := (Ext.refl w).alloc _
 go_enter Tryz.func28, Tryz.ntmps28
 go_wp2
 exact bodyPost_ret (v := .int .i64 1) (by simp [results, Tryz.results28, go_sem]) rfl ⟨rfl, HE.out⟩
theorem deg_nx : Deg 1 [((-1 : Int), xp 1 1)] := fun m hm k => by
 by_cases e : xp 1 1 = m
 ·subst e
  simp only [xp, Mo.get]
  (repeat' split) <;> simp_all
 ·exact absurd (by simp [coefAt, e]) hm
theorem law_awake39 (w : World) : Calls Tryz.prog 11 #[] w fun e w' => e = .returned (.bool true) ∧ Ext w w' := by
 go_enter Tryz.func11, Tryz.ntmps11
 go_wp2_with (fail)
 refine (rp_Var M0 1 _ (mb0 _)).mono ?_
 rintro e w1 ⟨x1, rfl, hx1, he1⟩
 have hc := rp_Neg M0 x1 (varL 1) 1 w1 (mb0 _) hx1.pi (by decide) (deg_var 1) (by omega)
 have HC := Lib.hid hc
 clear hc hx1
 go_wp2_with (fail)
 refine HC.out.mono ?_
 rintro e w2 ⟨x2, rfl, hx2, he2⟩
 have hS : Sim (pmul (varL 1) [(-1, Mo.zero)]) [(-1, xp 1 1)] := fun m => by simp [pmul, varL, coefAt, shift, smul, xp, Mo.add, Mo.zero]
 have hc := si_AtomX M0 x2 [(-1, xp 1 1)] 1 1 w2 (mb0 _) (hx2.sim hS) (by decide) deg_nx (by omega)
 have HC2 := Lib.hid hc
 have HE2 := Lib.hid (he1.trans he2)
 clear hc hx2 HC hS he1 he2
 go_wp2_with (fail)
 refine HC2.out.mono ?_
 rintro e w3 ⟨he3, hA⟩
 rcases hA with ⟨z, hz, _⟩ | ⟨_, y, rfl, hy⟩
 ·exfalso
  have := hz (xp 1 1)
  simp [coefAt, xp, Mo.zero] at this
 have hlv : y.lv = 1 := by
  have h1 := CRx.level (l := snorm [(-1, xp 1 1)]) (x := y) (w := w3) (M := M0) (by rw [norm_snorm]; exact hy)
  rw [h1, norm_snorm]
  decide
 have hrl : (rl (if hd [((-1 : Int), xp 1 1)] < 0 then opp (sg 1) else sg 1)).1 = 6 := by kernel_rfl
 rw [hrl]
 have hBJ := Blk.of_arr w3 (mxA 2 6 y) 32 7 rfl
 have hEJ := (Ext.refl w3).alloc (.cells (mxA 2 6 y) 32)
 have CT4 := Lib.hid (si_Atoms1 6 y (w3.alloc (.cells (mxA 2 6 y) 32)))
 have HE3 := Lib.hid ((HE2.out.trans he3).trans hEJ)
 obtain ⟨c0, c1, c2, c3, c4, c5, c6⟩ : _ ∧ _ ∧ _ ∧ _ ∧ _ ∧ _ ∧ _ := ⟨hBJ.cell (i := 0) (by omega), hBJ.cell (i := 1) (by omega), hBJ.cell (i := 2) (by omega), hBJ.cell (i := 3) (by omega), hBJ.cell (i := 4) (by omega), hBJ.cell (i := 5) (by omega), hBJ.cell (i := 6) (by omega)⟩
 rw [show arr (mxA 2 6 y) 0 = .int .i64 2 from rfl] at c0
 rw [show arr (mxA 2 6 y) 1 = .int .i64 6 from rfl] at c1
 rw [show arr (mxA 2 6 y) 2 = .int .i64 1 by show Value.int .i64 y.lv = _; rw [hlv]] at c2
 rw [show arr (mxA 2 6 y) 3 = .bool y.b from rfl] at c3
 rw [show arr (mxA 2 6 y) 4 = .slice y.a y.n y.p from rfl] at c4
 rw [show arr (mxA 2 6 y) 5 = .slice y.ka y.kn y.kp from rfl] at c5
 rw [show arr (mxA 2 6 y) 6 = .slice none 0 0 from rfl] at c6
 rw [show mxA 2 6 y = #[.int .i64 2, .int .i64 6, .int .i64 1, .bool y.b, .slice y.a y.n y.p, .slice y.ka y.kn y.kp, .slice none 0 0] by rw [← hlv]] at CT4 HE3 c0 c1 c2 c3 c4 c5 c6 ⊢
 clear hlv hrl
 go_upto_region 2 with (fail)
 obtain ⟨W2, hW2⟩ : ∃ W2, W2 = w3.alloc (.cells #[.int .i64 2, .int .i64 6, .int .i64 1, .bool y.b, .slice y.a y.n y.p, .slice y.ka y.kn y.kp, .slice none 0 0] 32) := ⟨_, rfl⟩
 rw [← hW2] at CT4 HE3 c0 c1 c2 c3 c4 c5 c6
 rw [← hW2]
 obtain ⟨J, hJ⟩ : ∃ J, J = w3.heap.size := ⟨_, rfl⟩
 rw [← hJ] at c0 c1 c2 c3 c4 c5 c6
 rw [← hJ]
 clear hW2 hJ hBJ hEJ hy he3 HC2 HE2
 go_wp2_with (fail)
 refine CT4.out.mono ?_
 rintro e w4 ⟨rfl, he4⟩
 go_wp2
 exact bodyPost_ret (v := .bool true) (by simp [results, Tryz.results11, go_sem]) rfl ⟨rfl, HE3.out.trans he4⟩
end Go.Proofs.YtodiphjjdheoaaaGreat
