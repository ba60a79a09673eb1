/- An argument of type prenex.Matrix in any form: shapes, opening, room. -/
import Derived.Test.YtodiphjjdheoaaaGreatNi
import Derived.Lib.SmallJoins
set_option linter.unusedVariables false
set_option linter.unusedSimpArgs false

namespace Go.Proofs.YtodiphjjdheoaaaGreat
open Go.ChangeShapes Go.WideShapes Go.ChangeAt Go.RowKit Go.Deep

structure ME where
 kd : Int
 rl : Int
 s : ST 6
 a : Option Addr
 n : Nat
 p : Nat
def ME.x (m : ME) : PE := ST.pe 6 m.s
abbrev mcA (kd rl : Int) (x : PE) (a : Option Addr) (n p : Nat) : Array Value := #[.int .i64 kd, .int .i64 rl, .int .i64 x.lv, .bool x.b, .slice x.a x.n x.p, .slice x.ka x.kn x.kp, .slice a n p]
abbrev ME.A (m : ME) : Array Value := mcA m.kd m.rl m.x m.a m.n m.p
def MT : Nat → Type
 | 0 => ME
 | d + 1 => ME × (Nat → MT d)
def MT.me : (d : Nat) → MT d → ME
 | 0, m => m
 | _ + 1, m => m.1
def MCell (W : World) (b o : Nat) (m : ME) : Prop := W.cell? ⟨b, o, none⟩ = some (.int .i64 m.kd) ∧ W.cell? ⟨b, o + 1, none⟩ = some (.int .i64 m.rl) ∧ W.cell? ⟨b, o + 2, none⟩ = some (.int .i64 m.x.lv) ∧ W.cell? ⟨b, o + 3, none⟩ = some (.bool m.x.b) ∧
 W.cell? ⟨b, o + 4, none⟩ = some (.slice m.x.a m.x.n m.x.p) ∧ W.cell? ⟨b, o + 5, none⟩ = some (.slice m.x.ka m.x.kn m.x.kp) ∧ W.cell? ⟨b, o + 6, none⟩ = some (.slice m.a m.n m.p)
theorem MCell.ext {W W' : World} {b o : Nat} {m : ME} (h : MCell W b o m) (hb : b < W.heap.size) (he : Ext W W') : MCell W' b o m := by
 unfold MCell
 rw [he.cell hb, he.cell hb, he.cell hb, he.cell hb, he.cell hb, he.cell hb, he.cell hb]
 exact h
def PMs (W : World) : (d : Nat) → MT d → Prop
 | 0, _ => True
 | d + 1, m => (-9223372036854775808 ≤ m.1.kd ∧ m.1.kd ≤ 9223372036854775807) ∧ (-9223372036854775808 ≤ m.1.rl ∧ m.1.rl ≤ 9223372036854775807) ∧ PTs W 6 m.1.s ∧ m.1.n ≤ m.1.p ∧ m.1.p ≤ maxLen ∧
  ∀ i, i < m.1.n → ∃ b off, m.1.a = some ⟨b, off, none⟩ ∧ b < W.heap.size ∧ MCell W b (off + i * 7) (MT.me d (m.2 i)) ∧ PMs W d (m.2 i)
theorem PMs.ext {W W' : World} (he : Ext W W') : ∀ {d : Nat} {m : MT d}, PMs W d m → PMs W' d m
 | 0, _, _ => trivial
 | d + 1, m, h => by
  obtain ⟨h1, h2, h3, h4, h5, h6⟩ := h
  refine ⟨h1, h2, h3.ext he, h4, h5, fun i hi => ?_⟩
  obtain ⟨b, off, e, hb, hk, hp⟩ := h6 i hi
  exact ⟨b, off, e, Nat.lt_of_lt_of_le hb he.size, hk.ext hb he, PMs.ext he hp⟩
section
variable {H : Type} {enc : TypeId × Value → H} {W : World}
set_option maxRecDepth 10000 in
theorem open_m1 {fuel : Nat} {cs : List Value} {x : DataW H × List MemPlace} (h : DataW.trod enc Tryz.prog W 0 (fun _ => true) true fuel 32 cs = some x) :
  ∃ m : ME, cs = m.A.toList ∧ (-9223372036854775808 ≤ m.kd ∧ m.kd ≤ 9223372036854775807) ∧ (-9223372036854775808 ≤ m.rl ∧ m.rl ≤ 9223372036854775807) ∧ PTs W 6 m.s ∧ m.n ≤ m.p ∧ m.p ≤ maxLen ∧
   ∀ i, i < m.n → ∃ (b off : Nat) (cs' : List Value) (q : Nat) (x' : DataW H × List MemPlace), m.a = some ⟨b, off, none⟩ ∧ b < W.heap.size ∧ cs'.length = 7 ∧ (∀ j, j < 7 → W.cell? ⟨b, off + i * 7 + j, none⟩ = cs'[j]?) ∧ DataW.trod enc Tryz.prog W 0 (fun _ => true) true q 32 cs' = some x' := by
 obtain ⟨y0, y1, y2, y3, q, _, hl, e0, e1, e2, e3⟩ := Go.Joins.trod_struct4 Tryz.underlying32 h
 have hc7 : Tryz.prog.cellsOf 32 = 7 := by kernel_rfl
 rw [hc7] at hl
 rw [show Tryz.prog.cellsOf 3 = 1 by kernel_rfl] at e0
 rw [show Tryz.prog.cellsOf 22 = 1 by kernel_rfl] at e1
 rw [show Tryz.prog.cellsOf 29 = 4 by kernel_rfl] at e2
 rw [show Tryz.prog.cellsOf 30 = 1 by kernel_rfl] at e3
 match cs, hl with
 | [u0, u1, u2, u3, u4, u5, u6], _ =>
  obtain ⟨K, hK, _, wK⟩ := DataW.trod_int Tryz.underlying3 e0
  obtain ⟨R, hR, _, wR⟩ := DataW.trod_int Tryz.underlying22 e1
  simp at hK hR e2 e3
  subst hK hR
  simp [Lit.wf, IntKind.min, IntKind.max, IntKind.signed, IntKind.bits] at wK wR
  obtain ⟨s, rfl, rfl, rfl, rfl, hs⟩ := open_rp4 6 e2
  have bK : -9223372036854775808 ≤ K ∧ K ≤ 9223372036854775807 := ⟨wK.1, by have := wK.2; omega⟩
  have bR : -9223372036854775808 ≤ R ∧ R ≤ 9223372036854775807 := ⟨wR.1, by have := wR.2; omega⟩
  rcases open_slice Tryz.underlying30 e3 with ⟨h0, _⟩ | ⟨ka, len, cap, m, n', Dd, Pl, hcs, hb, hl, hm, hmm, _, hi⟩
  ·simp only [List.cons.injEq, and_true] at h0
   subst h0
   exact ⟨⟨K, R, s, none, 0, 0⟩, rfl, bK, bR, hs, Nat.le_refl _, Nat.zero_le _, fun i hi => absurd hi (Nat.not_lt_zero _)⟩
  ·simp only [List.cons.injEq, and_true] at hcs
   subst hcs
   rw [hc7] at hi
   have hm2 : len ≤ m := by rw [hmm, if_pos rfl]; exact hl
   refine ⟨⟨K, R, s, some ka, len, cap⟩, rfl, bK, bR, hs, hl, hm, fun i hil => ?_⟩
   have hil : i < len := hil
   have hsp : ka.spot = none ∧ ka.block < W.heap.size := by
    obtain ⟨cs', h1, _⟩ := hi 0 (by omega)
    obtain ⟨_, hlen, hat⟩ := World.cells?_some h1
    have c0 := hat 0 (by omega)
    rw [List.getElem?_eq_getElem (by omega)] at c0
    rw [show ka.add (0 * 7) = ka from addr_zero ka, addr_zero] at c0
    exact ⟨World.cell?_spot c0, World.block_lt_of_cell? _ _ c0⟩
   obtain ⟨kb, ko, ks⟩ := ka
   obtain ⟨hs0, hkb⟩ := hsp
   simp only at hs0 hkb
   subst hs0
   obtain ⟨cs', h1, h2⟩ := hi i (by omega)
   obtain ⟨_, hlen, hat⟩ := World.cells?_some h1
   refine ⟨kb, ko, cs', _, _, rfl, hkb, hlen, fun j hj => ?_, h2⟩
   have := hat j (by omega)
   rw [addr_add, addr_add] at this
   exact this
set_option maxRecDepth 10000 in
theorem open_m7 : ∀ (D : Nat) {fuel : Nat} {cs : List Value} {x : DataW H × List MemPlace}, DataW.trod enc Tryz.prog W 0 (fun _ => true) true fuel 32 cs = some x →
  ∃ m : MT D, cs = (MT.me D m).A.toList ∧ PMs W D m
 | 0, fuel, cs, x, h => by
  obtain ⟨m, h1, _⟩ := open_m1 h
  exact ⟨m, h1, trivial⟩
 | D + 1, fuel, cs, x, h => by
  obtain ⟨m, h1, b1, b2, b3, b4, b5, hk⟩ := open_m1 h
  obtain ⟨m0, _⟩ := open_m7 D h
  have hall : ∀ i, ∃ k : MT D, i < m.n → ∃ b off, m.a = some ⟨b, off, none⟩ ∧ b < W.heap.size ∧ MCell W b (off + i * 7) (MT.me D k) ∧ PMs W D k := by
   intro i
   by_cases hi : i < m.n
   ·obtain ⟨b, off, cs', q, x', e1, e2, e3, e4, e5⟩ := hk i hi
    obtain ⟨k, rfl, hp⟩ := open_m7 D e5
    exact ⟨k, fun _ => ⟨b, off, e1, e2, ⟨e4 0 (by omega), e4 1 (by omega), e4 2 (by omega), e4 3 (by omega), e4 4 (by omega), e4 5 (by omega), e4 6 (by omega)⟩, hp⟩⟩
   ·exact ⟨m0, fun h => absurd h hi⟩
  exact ⟨(m, fun i => (hall i).choose), h1, b1, b2, b3, b4, b5, fun i hi => (hall i).choose_spec hi⟩
set_option maxRecDepth 100000 in
theorem open_matrix (D : Nat) {base : Nat} {v : Value} {d : DataW H} {ps : List MemPlace} (hv : Value.okWide Tryz.prog W .any base 32 v) (h : DataW.Trod enc Tryz.prog W 0 (fun _ => true) true 32 v d ps) : ∃ m : MT D, v = .agg (MT.me D m).A ∧ PMs W D m := by
 obtain ⟨fuel, h⟩ := h
 obtain ⟨cs, rfl, hcs⟩ := okWide_struct Tryz.underlying32 hv
 have h' : DataW.trod enc Tryz.prog W 0 (fun _ => true) true fuel 32 cs.toList = some (d, ps) := h
 obtain ⟨m, h1, h2⟩ := open_m7 D h'
 refine ⟨m, ?_, h2⟩
 rw [← Array.toList_inj.1 h1]
end
def roomM : (d : Nat) → MT d → Int → Int
 | 0, _, _ => -1
 | d + 1, m, n => if roomB 4 6 m.1.s 40 < 0 then -1 else roomK (fun i k => roomM d (m.2 i) k) m.1.n (n - 1)
theorem roomM_s (d : Nat) (m : MT (d + 1)) (n : Int) : roomM (d + 1) m n = if roomB 4 6 m.1.s 40 < 0 then -1 else roomK (fun i k => roomM d (m.2 i) k) m.1.n (n - 1) := by
 conv => lhs; unfold roomM
theorem roomM_bd : ∀ (d : Nat) (m : MT d) (n : Int), 0 ≤ n → -1 ≤ roomM d m n ∧ roomM d m n ≤ n
 | 0, _, n, h => by unfold roomM; omega
 | d + 1, m, n, h => by
  have key : ∀ i, -1 ≤ roomK (fun i k => roomM d (m.2 i) k) i (n - 1) ∧ roomK (fun i k => roomM d (m.2 i) k) i (n - 1) ≤ n := by
   intro i
   induction i with
   | zero => simp only [roomK]; omega
   | succ i ih =>
    simp only [roomK]
    split
    ·omega
    ·have := roomM_bd d (m.2 i) (roomK (fun i k => roomM d (m.2 i) k) i (n - 1)) (by omega)
     omega
  unfold roomM
  split
  ·omega
  ·exact key _
end Go.Proofs.YtodiphjjdheoaaaGreat
