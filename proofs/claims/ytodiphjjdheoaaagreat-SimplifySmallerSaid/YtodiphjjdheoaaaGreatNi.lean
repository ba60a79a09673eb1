/- An argument of type recpoly.Poly in any form: shapes, opening, room. A raw polynomial with room is a small tree. cylinderref34.SameInt, cylinderref38.SamePoly: true at equal canonical values. The sign normal form is one of its own; digits of values. FewPoly, Normal and Truth of atoms. -/
import Derived.Test.YtodiphjjdheoaaaGreatNf
import Derived.Test.YtodiphjjdheoaaaGreatMr
import Derived.Test.YtodiphjjdheoaaaGreatNh
import Derived.Test.YtodiphjjdheoaaaGreatNs
set_option linter.unusedVariables false
set_option linter.unusedSimpArgs false

namespace Go.Proofs.YtodiphjjdheoaaaGreat
open Go.ChangeShapes Go.WideShapes Go.ChangeAt Go.RowKit Go.Deep

def ST : Nat → Type
 | 0 => PE
 | d + 1 => PE × (Nat → ST d)
def ST.pe : (d : Nat) → ST d → PE
 | 0, x => x
 | _ + 1, x => x.1
def PTs (W : World) : (d : Nat) → ST d → Prop
 | 0, _ => True
 | d + 1, s => (-9223372036854775808 ≤ s.1.lv ∧ s.1.lv ≤ 9223372036854775807) ∧ (s.1.n ≤ 9223372036854775807 ∧ (s.1.n ≤ 1099511627776 → ∃ dg, NatR M0 W (.slice s.1.a s.1.n s.1.p) s.1.n dg)) ∧ s.1.kn ≤ s.1.kp ∧ s.1.kp ≤ maxLen ∧ (s.1.ka = none → s.1.kp = 0) ∧
  ∀ i, i < s.1.kn → ∃ b off, s.1.ka = some ⟨b, off, none⟩ ∧ b < W.heap.size ∧ KCell W b (off + i * 4) (ST.pe d (s.2 i)) ∧ PTs W d (s.2 i)
theorem PTs.ext {W W' : World} (he : Ext W W') : ∀ {d : Nat} {s : ST d}, PTs W d s → PTs W' d s
 | 0, _, _ => trivial
 | d + 1, s, h => by
  obtain ⟨h1, ⟨h2, h2'⟩, h3, h4, h5, h6⟩ := h
  refine ⟨h1, ⟨h2, fun hn => ?_⟩, h3, h4, h5, fun i hi => ?_⟩
  ·obtain ⟨dg, hd⟩ := h2' hn
   exact ⟨dg, hd.ext he⟩
  ·obtain ⟨b, off, e, hb, hk, hp⟩ := h6 i hi
   exact ⟨b, off, e, Nat.lt_of_lt_of_le hb he.size, hk.ext hb he, PTs.ext he hp⟩
section
variable {H : Type} {enc : TypeId × Value → H} {W : World}
set_option maxRecDepth 10000 in
theorem open_rp4 : ∀ (D : Nat) {fuel : Nat} {v0 v1 v2 v3 : Value} {x : DataW H × List MemPlace}, DataW.trod enc Tryz.prog W 0 (fun _ => true) true fuel 29 [v0, v1, v2, v3] = some x →
  ∃ s : ST D, v0 = .int .i64 (ST.pe D s).lv ∧ v1 = .bool (ST.pe D s).b ∧ v2 = .slice (ST.pe D s).a (ST.pe D s).n (ST.pe D s).p ∧ v3 = .slice (ST.pe D s).ka (ST.pe D s).kn (ST.pe D s).kp ∧ PTs W D s := by
 intro D
 induction D with
 | zero =>
  intro fuel v0 v1 v2 v3 x h
  obtain ⟨y0, y1, y2, q, _, _, e0, e1, e2⟩ := trod_struct3 Tryz.underlying29 h
  rw [show Tryz.prog.cellsOf 3 = 1 by kernel_rfl] at e0
  rw [show Tryz.prog.cellsOf 26 = 2 by kernel_rfl] at e1
  rw [show Tryz.prog.cellsOf 27 = 1 by kernel_rfl] at e2
  obtain ⟨L, hL, _, wL⟩ := DataW.trod_int Tryz.underlying3 e0
  simp at hL e1 e2
  subst hL
  obtain ⟨b, a, n, p, rfl, rfl, hn, hd⟩ := open_int e1
  rcases open_slice Tryz.underlying27 e2 with ⟨h0, _⟩ | ⟨ka, len, cap, m, n', Dd, Pl, hcs, hb, hl, hm, hmm, _, hi⟩
  ·simp only [List.cons.injEq, and_true] at h0
   subst h0
   exact ⟨⟨L, b, a, n, p, none, 0, 0⟩, rfl, rfl, rfl, rfl, trivial⟩
  ·simp only [List.cons.injEq, and_true] at hcs
   subst hcs
   exact ⟨⟨L, b, a, n, p, some ka, len, cap⟩, rfl, rfl, rfl, rfl, trivial⟩
 | succ D ih =>
  intro fuel v0 v1 v2 v3 x h
  obtain ⟨y0, y1, y2, q, _, _, e0, e1, e2⟩ := trod_struct3 Tryz.underlying29 h
  rw [show Tryz.prog.cellsOf 3 = 1 by kernel_rfl] at e0
  rw [show Tryz.prog.cellsOf 26 = 2 by kernel_rfl] at e1
  rw [show Tryz.prog.cellsOf 27 = 1 by kernel_rfl] at e2
  obtain ⟨L, hL, _, wL⟩ := DataW.trod_int Tryz.underlying3 e0
  simp at hL e1 e2
  subst hL
  simp [Lit.wf, IntKind.min, IntKind.max, IntKind.signed, IntKind.bits] at wL
  obtain ⟨b, a, n, p, rfl, rfl, hn, hd⟩ := open_int e1
  have hc4 : Tryz.prog.cellsOf 29 = 4 := by kernel_rfl
  rcases open_slice Tryz.underlying27 e2 with ⟨h0, _⟩ | ⟨ka, len, cap, m, n', Dd, Pl, hcs, hb, hl, hm, hmm, _, hi⟩
  ·simp only [List.cons.injEq, and_true] at h0
   subst h0
   obtain ⟨s0⟩ : Nonempty (ST D) := by
    obtain ⟨s, _⟩ := ih h
    exact ⟨s⟩
   exact ⟨(⟨L, b, a, n, p, none, 0, 0⟩, fun _ => s0), rfl, rfl, rfl, rfl, ⟨wL.1, by have := wL.2; show L ≤ _; omega⟩, ⟨hn, hd⟩, Nat.le_refl _, Nat.zero_le _, fun _ => rfl, fun i hi => absurd hi (Nat.not_lt_zero _)⟩
  ·simp only [List.cons.injEq, and_true] at hcs
   subst hcs
   rw [hc4] at hi
   have hm2 : len ≤ m := by rw [hmm, if_pos rfl]; exact hl
   obtain ⟨s0⟩ : Nonempty (ST D) := by
    obtain ⟨s, _⟩ := ih h
    exact ⟨s⟩
   have hall : ∀ i, ∃ s : ST D, i < len → (i = 0 → ka.spot = none) ∧ ka.block < W.heap.size ∧ KCell W ka.block (ka.off + i * 4) (ST.pe D s) ∧ PTs W D s := by
    intro i
    by_cases hil : i < len
    ·obtain ⟨cs', h1, h2⟩ := hi i (by omega)
     obtain ⟨_, hlen, hat⟩ := World.cells?_some h1
     match cs', hlen with
     | [u0, u1, u2, u3], _ =>
      have c0 : W.cell? (ka.add (i * 4)) = some u0 := hat 0 (by omega)
      have c1 : W.cell? ((ka.add (i * 4)).add 1) = some u1 := hat 1 (by omega)
      have c2 : W.cell? ((ka.add (i * 4)).add 2) = some u2 := hat 2 (by omega)
      have c3 : W.cell? ((ka.add (i * 4)).add 3) = some u3 := hat 3 (by omega)
      obtain ⟨s, rfl, rfl, rfl, rfl, hs⟩ := ih h2
      have hblk : ka.block < W.heap.size := by
       have h5 := World.block_lt_of_cell? _ _ c0
       unfold Addr.add at h5
       split at h5 <;> exact h5
      have hsp : i = 0 → ka.spot = none := by
       rintro rfl
       exact World.cell?_spot c0
      have hA0 : ka.add (i * 4) = ⟨ka.block, ka.off + i * 4, none⟩ := by
       obtain ⟨b, o, s⟩ := ka
       unfold Addr.add
       split
       ·rename_i hk0
        rw [show s = none from hsp (by omega)]
        simp only [Addr.mk.injEq, true_and, and_true]; omega
       ·rfl
      rw [hA0] at c0 c1 c2 c3
      exact ⟨s, fun _ => ⟨hsp, hblk, ⟨c0, c1, c2, c3⟩, hs⟩⟩
    ·exact ⟨s0, fun h => absurd h hil⟩
   refine ⟨(⟨L, b, a, n, p, some ka, len, cap⟩, fun i => (hall i).choose), rfl, rfl, rfl, rfl, ⟨wL.1, by have := wL.2; show L ≤ _; omega⟩, ⟨hn, hd⟩, hl, hm, fun e => (by cases e), fun i hi' => ?_⟩
   have h0 := ((hall 0).choose_spec (by show 0 < len; have : i < len := hi'; omega)).1 rfl
   obtain ⟨_, h2, h3, h4⟩ := (hall i).choose_spec hi'
   refine ⟨ka.block, ka.off, ?_, h2, h3, h4⟩
   obtain ⟨b, o, s⟩ := ka
   simp only at h0
   show some _ = some _
   rw [h0]
end
def roomK (f : Nat → Int → Int) : Nat → Int → Int
 | 0, m => m
 | i + 1, m => if roomK f i m < 0 then -1 else f i (roomK f i m)
def roomB (dg : Nat) : (d : Nat) → ST d → Int → Int
 | 0, _, _ => -1
 | d + 1, s, n => if dg < s.1.n then -1 else if 12 < s.1.kn then -1 else roomK (fun i m => roomB dg d (s.2 i) m) s.1.kn (n - 1)
theorem roomB_s (dg d : Nat) (s : ST (d + 1)) (n : Int) : roomB dg (d + 1) s n = if dg < s.1.n then -1 else if 12 < s.1.kn then -1 else roomK (fun i m => roomB dg d (s.2 i) m) s.1.kn (n - 1) := by
 conv => lhs; unfold roomB
theorem roomB_bd (dg : Nat) : ∀ (d : Nat) (s : ST d) (n : Int), 0 ≤ n → -1 ≤ roomB dg d s n ∧ roomB dg d s n ≤ n
 | 0, _, n, h => by unfold roomB; omega
 | d + 1, s, n, h => by
  have key : ∀ i, -1 ≤ roomK (fun i m => roomB dg d (s.2 i) m) i (n - 1) ∧ roomK (fun i m => roomB dg d (s.2 i) m) i (n - 1) ≤ n := by
   intro i
   induction i with
   | zero => simp only [roomK]; omega
   | succ i ih =>
    simp only [roomK]
    split
    ·omega
    ·have := roomB_bd dg d (s.2 i) (roomK (fun i m => roomB dg d (s.2 i) m) i (n - 1)) (by omega)
     omega
  unfold roomB
  split
  ·omega
  ·split
   ·omega
   ·exact key _
theorem roomK_neg (f : Nat → Int → Int) (m : Int) (i : Nat) (h : roomK f i m < 0) : ∀ j, roomK f (i + 1 + j) m = -1
 | 0 => by simp only [Nat.add_zero, roomK]; rw [if_pos h]
 | j + 1 => by
  have := roomK_neg f m i h j
  rw [← Nat.add_assoc]
  simp only [roomK]
  rw [if_pos (by omega)]
set_option maxRecDepth 100000 in
set_option maxHeartbeats 8000000 in
theorem rf_room (dg : Nat) (hdg : dg ≤ 1000) : ∀ (d : Nat), d ≤ 100 → ∀ (s : ST d) (n : Int) (w : World), PTs w d s → 0 ≤ n → n ≤ 1000000 → Calls Tryz.prog 163 #[.agg (peA (ST.pe d s)), .int .i64 n, .int .i64 d, .int .i64 dg] w fun e w' => e = .returned (.int .i64 (roomB dg d s n)) ∧ Ext w w' := by
 intro d
 induction d with
 | zero =>
  intro hd s n w hP hn hn2
  generalize ST.pe 0 s = x
  unfold roomB
  have HE : Hid (Ext w (w.alloc (.cells (peA x) 29))) := (Ext.refl w).alloc _
  go_enter Tryz.func163, Tryz.ntmps163
  go_wp2
  exact bodyPost_ret (v := .int .i64 (-1)) (by simp [results, Tryz.results163, go_sem]) rfl ⟨rfl, HE.out⟩
 | succ d ih =>
  intro hd s n w hP hn hn2
  obtain ⟨x, k⟩ := s
  have hE := (Ext.refl w).alloc (.cells (peA x) 29)
  have hB := Blk.of_arr w (peA x) 29 4 rfl
  have hP2 := PTs.ext hE hP
  obtain ⟨_, ⟨hxn, _⟩, hk1, hk2, hk3, hkid⟩ := hP2
  simp only at hxn hk1 hk2 hk3 hkid
  obtain ⟨x0, x1, x2, x3⟩ := hB.p4
  generalize hW : w.alloc (.cells (peA x) 29) = W at *
  have HW := Lib.hid hW
  have HE := Lib.hid hE
  have HB := Lib.hid hB
  have HK := Lib.hid hkid
  unfold maxLen at hk2
  show Calls _ _ #[.agg (peA x), _, _, _] _ _
  have hd0 : (((d + 1 : Nat) : Int) == 0) = false := by rw [beq_eq_false_iff_ne]; omega
  have hwr : ((d + 1 : Nat) : Int) - 1 = (d : Int) := by omega
  by_cases hc1 : dg < x.n
  ·have HR : Hid (roomB dg (d + 1) (x, k) n = -1) := (roomB_s dg d (x, k) n).trans (if_pos hc1)
   have hc1' : (dg : Int) < (x.n : Int) := by omega
   clear hW hE hB hkid hP
   go_enter Tryz.func163, Tryz.ntmps163
   go_upto_region 1 with (fail)
   rw [HW.out]
   go_wp2
   exact bodyPost_ret (v := .int .i64 (-1)) (by simp [results, Tryz.results163, go_sem]) rfl ⟨by rw [HR.out], HE.out⟩
  by_cases hc2 : 12 < x.kn
  ·have HR : Hid (roomB dg (d + 1) (x, k) n = -1) := (roomB_s dg d (x, k) n).trans ((if_neg hc1).trans (if_pos hc2))
   have hc1' : ¬ (dg : Int) < (x.n : Int) := by omega
   have hc2' : 12 < (x.kn : Int) := by omega
   clear hW hE hB hkid hP
   go_enter Tryz.func163, Tryz.ntmps163
   go_upto_region 1 with (fail)
   rw [HW.out]
   go_wp2
   exact bodyPost_ret (v := .int .i64 (-1)) (by simp [results, Tryz.results163, go_sem]) rfl ⟨by rw [HR.out], HE.out⟩
  have HR : Hid (roomB dg (d + 1) (x, k) n = roomK (fun i m => roomB dg d (k i) m) x.kn (n - 1)) := (roomB_s dg d (x, k) n).trans ((if_neg hc1).trans (if_neg hc2))
  have hc1' : ¬ (dg : Int) < (x.n : Int) := by omega
  have hc2' : ¬ 12 < (x.kn : Int) := by omega
  have hkn12 : x.kn ≤ 12 := by omega
  have HBD : Hid (∀ i, -1 ≤ roomK (fun i m => roomB dg d (k i) m) i (n - 1) ∧ roomK (fun i m => roomB dg d (k i) m) i (n - 1) ≤ n) := by
   intro i
   induction i with
   | zero => simp only [roomK]; omega
   | succ i ih =>
    simp only [roomK]
    split
    ·omega
    ·have := roomB_bd dg d (k i) (roomK (fun i m => roomB dg d (k i) m) i (n - 1)) (by omega)
     omega
  clear hW hE hB hkid hP hc1 hc2
  go_enter Tryz.func163, Tryz.ntmps163
  go_upto_region 1 with (fail)
  rw [HW.out]
  go_wp2
  obtain ⟨f, hf⟩ : ∃ f : Nat → Int → Int, f = fun i m => roomB dg d (k i) m := ⟨_, rfl⟩
  rw [← hf] at HBD HR
  have IH : Hid (∀ i, i < x.kn → ∀ m w', Ext W w' → 0 ≤ m → m ≤ 1000000 → Calls Tryz.prog 163 #[.agg (peA (ST.pe d (k i))), .int .i64 m, .int .i64 d, .int .i64 dg] w' fun e w'' => e = .returned (.int .i64 (f i m)) ∧ Ext w' w'') := by
   intro i hi m w' he h0 h1
   rw [hf]
   obtain ⟨b, off, e, hb, hkc, hp⟩ := HK.out i hi
   exact ih (by omega) (k i) m w' (hp.ext he) h0 h1
  clear hf ih
  go_loopw [31, 1] (fun i nv wr => ∃ (j : Nat) (m : Int), j ≤ x.kn ∧ i = .int .i64 j ∧ nv = .int .i64 m ∧ Hid (m = roomK f j (n - 1)) ∧ Hid (Ext W wr)) (fun i _ _ => x.kn - (intOf i).toNat)
  case atStart => exact ⟨0, n - 1, Nat.zero_le _, rfl, rfl, rfl, Ext.refl _⟩
  case round =>
   clear x0 x1 x2 x3
   obtain ⟨j, m, hj, rfl, rfl, HMm, HEX⟩ := hrel
   obtain ⟨x0, x1, x2, x3⟩ := (HB.out.ext HEX.out).p4
   have hm := HBD.out j
   rw [← HMm.out] at hm
   by_cases hlt : j < x.kn
   ·have hltI : (j : Int) < (x.kn : Int) := by omega
    by_cases hneg : m < 0
    ·have HR2 : Hid (roomB dg (d + 1) (x, k) n = -1) := by
      have h1 := roomK_neg f (n - 1) j (by rw [← HMm.out]; exact hneg) (x.kn - j - 1)
      rw [show j + 1 + (x.kn - j - 1) = x.kn by omega] at h1
      exact HR.out.trans h1
     clear HK HBD IH
     go_wp2
     exact bodyPost_ret (v := .int .i64 (-1)) (by simp [results, Tryz.results163, go_sem]) rfl ⟨by rw [HR2.out], HE.out.trans HEX.out⟩
    ·have hm0 : 0 ≤ m := by omega
     have CT := Lib.hid (IH.out j hlt m wr HEX.out hm0 (by omega))
     have HF : Hid (f j m = roomK f (j + 1) (n - 1)) := by
      show _ = _
      simp only [roomK]
      rw [if_neg (by rw [← HMm.out]; exact hneg), ← HMm.out]
     obtain ⟨b, off, e, hb, ⟨e0, e1, e2, e3⟩, hp⟩ := HK.out j hlt
     rw [← HEX.out.cell hb] at e0 e1 e2 e3
     rw [e] at x3
     generalize ST.pe d (k j) = y at *
     clear hp e HBD
     go_wp2_with (fail)
     refine CT.out.mono ?_
     rintro e w2 ⟨rfl, he2⟩
     clear CT e0 e1 e2 e3
     go_wp2
     go_roundw
     case rel => exact ⟨j + 1, _, by omega, by go_num, rfl, HF, HEX.out.trans he2⟩
     case measure => simp [intOf]; omega
   ·obtain rfl : j = x.kn := by omega
    have HR2 : Hid (roomB dg (d + 1) (x, k) n = m) := by show _ = _; rw [HR.out, HMm.out]
    clear HK HBD IH
    go_wp2
    exact bodyPost_ret (v := .int .i64 m) (by simp [results, Tryz.results163, go_sem]) rfl ⟨by rw [HR2.out], HE.out.trans HEX.out⟩
end Go.Proofs.YtodiphjjdheoaaaGreat

namespace Go.Proofs.YtodiphjjdheoaaaGreat
open Go.RowKit

theorem roomK_all {f : Nat → Int → Int} {m : Int} {n : Nat} (h : 0 ≤ roomK f n m) (i : Nat) (hi : i ≤ n) : 0 ≤ roomK f i m := by
 refine Classical.byContradiction fun hc => ?_
 rcases Nat.lt_or_eq_of_le hi with h1 | h1
 ·have := roomK_neg f m i (by omega) (n - i - 1)
  rw [show i + 1 + (n - i - 1) = n by omega] at this
  omega
 ·subst h1; exact hc h
theorem roomK_succ {f : Nat → Int → Int} {m : Int} {i : Nat} (h : 0 ≤ roomK f i m) : roomK f (i + 1) m = f i (roomK f i m) := by
 simp only [roomK]; rw [if_neg (by omega)]
def SmT (K : Nat) (d : Nat) (t : RT d) (u : Int) : Prop := ((terms d t).length : Int) ≤ u ∧ ((nrm (terms d t) : Nat) : Int) ≤ u * (K : Int) ∧ ∀ s ∈ terms d t, ∀ k, s.2.get k ≤ 11 * (d : Int)
theorem smT_poly {K d : Nat} {L : Nat} (h1 : 1 ≤ L) (h4 : L ≤ 4) (T : Nat → RT d) (f : Nat → Int → Int) (n : Int) (kn : Nat) (hk : kn ≤ 12) (hT : ∀ i, i < kn → SmT K d (T i) (roomK f i n - roomK f (i + 1) n)) :
  ∀ i, i ≤ kn → ((poly L i (fun i => terms d (T i))).length : Int) ≤ n - roomK f i n ∧ ((nrm (poly L i (fun i => terms d (T i))) : Nat) : Int) ≤ (n - roomK f i n) * (K : Int) ∧ ∀ s ∈ poly L i (fun i => terms d (T i)), ∀ k, s.2.get k ≤ 11 * ((d : Int) + 1)
 | 0, _ => by
  rw [poly_zero]
  simp only [roomK]
  refine ⟨by simp, by simp [nrm], fun s hs => by cases hs⟩
 | i + 1, hi => by
  obtain ⟨g1, g2, g3⟩ := smT_poly h1 h4 T f n kn hk hT i (by omega)
  obtain ⟨t1, t2, t3⟩ := hT i (by omega)
  rw [poly_succ]
  have e1 : (shift (xp L (i : Int)) (terms d (T i))).length = (terms d (T i)).length := by simp [shift]
  refine ⟨?_, ?_, fun s hs k => ?_⟩
  ·rw [List.length_append, e1]; omega
  ·rw [nrm_append, nrm_shift]
   have e2 : (n - roomK f (i + 1) n) * (K : Int) = (n - roomK f i n) * (K : Int) + (roomK f i n - roomK f (i + 1) n) * (K : Int) := by rw [← Int.add_mul]; congr 1; omega
   rw [e2]; omega
  ·rcases List.mem_append.1 hs with hs | hs
   ·exact g3 s hs k
   ·obtain ⟨s', hs', rfl⟩ := List.mem_map.1 hs
    have h5 := t3 s' hs' k
    simp only []
    rw [get_add, get_xp L k _ h1 h4]
    split <;> omega
theorem PTs.tree (W : World) (dg : Nat) (hdg : dg ≤ 1000) : ∀ (d : Nat) (s : ST d) (n : Int), PTs W d s → 0 ≤ n → 0 ≤ roomB dg d s n →
  ∃ t : RT d, RR M0 W d t (.int .i64 (ST.pe d s).lv) (.bool (ST.pe d s).b) (.slice (ST.pe d s).a (ST.pe d s).n (ST.pe d s).p) (.slice (ST.pe d s).ka (ST.pe d s).kn (ST.pe d s).kp) ∧ SmT (4294967296 ^ dg) d t (n - roomB dg d s n)
 | 0, _, _, _, _, h => by unfold roomB at h; omega
 | d + 1, s, n, hP, hn, h => by
  obtain ⟨x, k⟩ := s
  obtain ⟨hlv, ⟨hxn, hdig⟩, hk1, hk2, hk3, hkid⟩ := hP
  have hE := roomB_s dg d (x, k) n
  by_cases hc1 : dg < x.n
  ·rw [hE.trans (if_pos hc1)] at h; omega
  by_cases hc2 : 12 < x.kn
  ·rw [hE.trans ((if_neg hc1).trans (if_pos hc2))] at h; omega
  replace hE := hE.trans ((if_neg hc1).trans (if_neg hc2))
  rw [hE] at h ⊢
  show ∃ t : RT (d + 1), RR M0 W (d + 1) t (.int .i64 x.lv) (.bool x.b) (.slice x.a x.n x.p) (.slice x.ka x.kn x.kp) ∧ _
  obtain ⟨f, hf⟩ : ∃ f : Nat → Int → Int, f = fun i m => roomB dg d (k i) m := ⟨_, rfl⟩
  have h : 0 ≤ roomK f x.kn (n - 1) := by rw [hf]; exact h
  show ∃ t : RT (d + 1), _ ∧ SmT _ (d + 1) t (n - roomK (fun i m => roomB dg d (k i) m) x.kn (n - 1))
  rw [← hf]
  have hall := fun i hi => roomK_all h i hi
  have hn1 : 0 ≤ n - 1 := hall 0 (Nat.zero_le _)
  have hmono : ∀ i, i ≤ x.kn → roomK f i (n - 1) ≤ n - 1 := by
   intro i
   induction i with
   | zero => intro _; exact Int.le_refl _
   | succ i ih =>
    intro hi
    rw [roomK_succ (hall i (by omega)), hf]
    have h1 := (roomB_bd dg d (k i) (roomK f i (n - 1)) (hall i (by omega))).2
    have h2 := ih (by omega)
    rw [hf] at h1 h2
    exact Int.le_trans h1 h2
  have hT : ∀ i, i < x.kn → ∃ t : RT d, RR M0 W d t (.int .i64 (ST.pe d (k i)).lv) (.bool (ST.pe d (k i)).b) (.slice (ST.pe d (k i)).a (ST.pe d (k i)).n (ST.pe d (k i)).p) (.slice (ST.pe d (k i)).ka (ST.pe d (k i)).kn (ST.pe d (k i)).kp) ∧ SmT (4294967296 ^ dg) d t (roomK f i (n - 1) - roomK f (i + 1) (n - 1)) := by
   intro i hi
   obtain ⟨b, off, _, _, _, hp⟩ := hkid i hi
   have h1 := hall (i + 1) hi
   have h2 := roomK_succ (hall i (by omega))
   have h3 : f i (roomK f i (n - 1)) = roomB dg d (k i) (roomK f i (n - 1)) := by rw [hf]
   obtain ⟨t, ht, hs⟩ := PTs.tree W dg hdg d (k i) (roomK f i (n - 1)) hp (hall i (by omega)) (by rw [← h3, ← h2]; exact h1)
   rw [← h3, ← h2] at hs
   exact ⟨t, ht, hs⟩
  obtain ⟨T, hTs⟩ := pick (dfl d) hT
  obtain ⟨dig, hdig⟩ := hdig (by show x.n ≤ _; omega)
  have hdig : NatR M0 W (.slice x.a x.n x.p) x.n dig := hdig
  refine ⟨mkT d x.lv ⟨x.b, x.n, dig⟩ x.kn T, ⟨rfl, hlv, ⟨rfl, hdig⟩, by show x.kn ≤ _; omega, ?_⟩, ?_⟩
  ·by_cases h0 : x.kn = 0
   ·rw [h0]
    exact .inl ⟨⟨x.ka, x.kp, rfl, hk2, hk3⟩, rfl⟩
   ·obtain ⟨b, off, e, hb, _⟩ := hkid 0 (by show 0 < x.kn; omega)
    have e : x.ka = some ⟨b, off, none⟩ := e
    refine .inr ⟨b, off, x.kp, by rw [e]; rfl, hk1, hk2, ⟨hb, fun h => h⟩, fun i hi => ?_⟩
    have hi : i < x.kn := hi
    obtain ⟨b', off', e', hb', ⟨c0, c1, c2, c3⟩, _⟩ := hkid i hi
    have e' : x.ka = some ⟨b', off', none⟩ := e'
    rw [e] at e'
    simp only [Option.some.injEq, Addr.mk.injEq, and_true] at e'
    obtain ⟨rfl, rfl⟩ := e'
    exact ⟨_, _, _, _, c0, c1, c2, c3, (hTs i hi).1⟩
  ·have hr := hmono x.kn (Nat.le_refl _)
   have hd1 : (11 : Int) * ((d : Int) + 1) = 11 * ((d + 1 : Nat) : Int) := by omega
   by_cases hl1 : x.lv ≤ 0
   ·have ht : terms (d + 1) (mkT d x.lv ⟨x.b, x.n, dig⟩ x.kn T) = [((⟨x.b, x.n, dig⟩ : RawI).val, Mo.zero)] := terms_const hl1
    unfold SmT
    rw [ht]
    refine ⟨by simp; omega, ?_, fun s hs k => ?_⟩
    ·have h1 : ((⟨x.b, x.n, dig⟩ : RawI).val).natAbs ≤ 4294967296 ^ dg := by
      show (sgn x.b (nv dig x.n)).natAbs ≤ _
      rw [sgn_natAbs]
      exact Nat.le_trans (Nat.le_of_lt (nv_lt dig _ hdig.2.1)) (Nat.pow_le_pow_right (by omega) (by omega))
     generalize 4294967296 ^ dg = Kb at *
     have h2 : (Kb : Int) ≤ (n - roomK f x.kn (n - 1)) * (Kb : Int) := by
      have : (1 : Int) * (Kb : Int) ≤ (n - roomK f x.kn (n - 1)) * (Kb : Int) := Int.mul_le_mul_of_nonneg_right (by omega) (by omega)
      omega
     simp only [nrm]; omega
    ·simp only [List.mem_singleton] at hs
     subst hs
     show Mo.zero.get k ≤ _
     rw [get_zero]; omega
   ·by_cases hl4 : 4 < x.lv
    ·have ht : terms (d + 1) (mkT d x.lv ⟨x.b, x.n, dig⟩ x.kn T) = [] := by
      unfold terms
      rw [if_neg (show ¬ (mkT d x.lv ⟨x.b, x.n, dig⟩ x.kn T).1 ≤ 0 from hl1), if_pos (show 4 < (mkT d x.lv ⟨x.b, x.n, dig⟩ x.kn T).1 from hl4)]
     unfold SmT
     rw [ht]
     refine ⟨by simp; omega, ?_, fun s hs => by cases hs⟩
     simp only [nrm]
     exact Int.mul_nonneg (by omega) (Int.natCast_nonneg _)
    ·have ht : terms (d + 1) (mkT d x.lv ⟨x.b, x.n, dig⟩ x.kn T) = poly x.lv.toNat x.kn (fun i => terms d (T i)) := terms_mkn d _ _ _ _ (by omega) (by omega)
     obtain ⟨g1, g2, g3⟩ := smT_poly (K := 4294967296 ^ dg) (L := x.lv.toNat) (by omega) (by omega) T f (n - 1) x.kn (by omega) (fun i hi => (hTs i hi).2) x.kn (Nat.le_refl _)
     unfold SmT
     rw [ht]
     refine ⟨by omega, Int.le_trans g2 (Int.mul_le_mul_of_nonneg_right (by omega) (Int.natCast_nonneg _)), fun s hs k => ?_⟩
     have := g3 s hs k
     omega
end Go.Proofs.YtodiphjjdheoaaaGreat

namespace Go.Proofs.YtodiphjjdheoaaaGreat
open Go.RowKit

structure SSi (P Q : Nat) (n : Nat) (b o b' o' p p' : Nat) (k : Nat) (dk : Nat) (w : World) : Prop where
 x1 : w.cell? ⟨P, 1, none⟩ = some (.slice (some ⟨b, o, none⟩) n p)
 y1 : w.cell? ⟨Q, 1, none⟩ = some (.slice (some ⟨b', o', none⟩) n p')
 e : w.cell? ⟨b, o + k, none⟩ = some (.int .u32 dk)
 f : w.cell? ⟨b', o' + k, none⟩ = some (.int .u32 dk)
theorem SSi.ext {P Q n b o b' o' p p' k dk : Nat} {w w' : World} (h : SSi P Q n b o b' o' p p' k dk w) (he : Ext w w') : SSi P Q n b o b' o' p p' k dk w' := by
 obtain ⟨h1, h2, h3, h4⟩ := h
 have b1 := World.block_lt_of_cell? _ _ h1
 have b2 := World.block_lt_of_cell? _ _ h2
 have b3 := World.block_lt_of_cell? _ _ h3
 have b4 := World.block_lt_of_cell? _ _ h4
 exact ⟨by rw [he.cell b1]; exact h1, by rw [he.cell b2]; exact h2, by rw [he.cell b3]; exact h3, by rw [he.cell b4]; exact h4⟩
theorem CRx.valC {M : Nat → Prop} {w : World} {L : Nat} {x : PE} {l : List Tm} (h : CRx M w L x l) : ∃ z, IntC M w (.bool x.b) (.slice x.a x.n x.p) z ∧ (x.lv ≠ 0 → z = 0) ∧ (x.lv = 0 → Sim [(z, Mo.zero)] l) := by
 by_cases hl : x.lv = 0
 ·obtain ⟨z, h1, h2, _⟩ := h.cst hl
  exact ⟨z, h1, fun hc => absurd hl hc, fun _ => h2⟩
 ·obtain ⟨z, hv, hz, _⟩ := h.val
  obtain ⟨D, b, off, P, _, _, _, hb, hn, _⟩ := h.node hl
  obtain ⟨neg, X, _, ⟨n, d, hr, _⟩, _⟩ := hv
  refine ⟨0, ⟨⟨0, d, ?_, rfl, .inl rfl⟩, by rw [hb]; rfl⟩, fun _ => rfl, fun hc => absurd hc hl⟩
  obtain ⟨a', p', e⟩ := natr_slice hr
  simp only [Value.slice.injEq, true_and] at e
  have e1 := e.2.1
  rw [hn] at e1
  rw [← e1] at hr
  rw [hn] at hr ⊢
  exact hr
end Go.Proofs.YtodiphjjdheoaaaGreat

namespace Go.Proofs.YtodiphjjdheoaaaGreat
open Go.RowKit

end Go.Proofs.YtodiphjjdheoaaaGreat

namespace Go.Proofs.YtodiphjjdheoaaaGreat
open Go.RowKit

set_option maxRecDepth 100000 in
set_option maxHeartbeats 4000000 in
theorem rf_fewPoly (dg : Nat) (hdg : dg ≤ 1000) (s : ST 6) (n : Int) (w : World) (hP : PTs w 6 s) (hn : 0 ≤ n) (hn2 : n ≤ 1000000) : Calls Tryz.prog 135 #[.agg (peA (ST.pe 6 s)), .int .i64 n, .int .i64 dg] w fun e w' => e = .returned (.bool (decide (0 ≤ roomB dg 6 s n))) ∧ Ext w w' := by
 have hE := (Ext.refl w).alloc (.cells (peA (ST.pe 6 s)) 29)
 have hB := Blk.of_arr w (peA (ST.pe 6 s)) 29 4 rfl
 have CT := Lib.hid (rf_room dg hdg 6 (by omega) s n _ (hP.ext hE) hn hn2)
 obtain ⟨x0, x1, x2, x3⟩ := hB.p4
 have HE := Lib.hid hE
 generalize roomB dg 6 s n = r at *
 generalize ST.pe 6 s = x at *
 generalize hW : w.alloc (.cells (peA x) 29) = W at *
 have HW := Lib.hid hW
 clear hW hE hB hP
 go_enter Tryz.func135, Tryz.ntmps135
 go_upto_region 1 with (fail)
 rw [HW.out]
 go_wp2_with (fail)
 refine CT.out.mono ?_
 rintro e w1 ⟨rfl, he1⟩
 by_cases hr : 0 ≤ r
 ·have HD : Hid (decide (0 ≤ r) = true) := decide_eq_true hr
  go_wp2
  exact bodyPost_ret (v := .bool true) (by simp [results, Tryz.results135, go_sem]) rfl ⟨by rw [HD.out], HE.out.trans he1⟩
 ·have HD : Hid (decide (0 ≤ r) = false) := decide_eq_false hr
  have hr2 : r < 0 := by omega
  go_wp2
  exact bodyPost_ret (v := .bool false) (by simp [results, Tryz.results135, go_sem, hr2]) rfl ⟨by rw [HD.out], HE.out.trans he1⟩
def Mx7 (g : Nat) (r : Int) (x : PE) (w : World) : Prop := w.cell? ⟨g, 1, none⟩ = some (.int .i64 r) ∧ w.cell? ⟨g, 2, none⟩ = some (.int .i64 x.lv) ∧ w.cell? ⟨g, 3, none⟩ = some (.bool x.b) ∧ w.cell? ⟨g, 4, none⟩ = some (.slice x.a x.n x.p) ∧ w.cell? ⟨g, 5, none⟩ = some (.slice x.ka x.kn x.kp)
theorem Mx7.ext {g : Nat} {r : Int} {x : PE} {w w' : World} (h : Mx7 g r x w) (he : Ext w w') : Mx7 g r x w' := by
 have hb := World.block_lt_of_cell? _ _ h.1
 unfold Mx7
 rw [he.cell hb, he.cell hb, he.cell hb, he.cell hb, he.cell hb]; exact h
def nrel (r : Int) : Int := if r < 1 then 3 else if 6 < r then 3 else r
end Go.Proofs.YtodiphjjdheoaaaGreat
