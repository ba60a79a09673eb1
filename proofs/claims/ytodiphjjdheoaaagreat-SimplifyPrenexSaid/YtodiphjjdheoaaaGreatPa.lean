/- An argument of type prenex.Prenex. slices.Clone of rows of bools and of texts; forms in memory. Forms in memory; simplify.Prenex. -/
import Derived.Test.YtodiphjjdheoaaaGreatHb
import Derived.Test.YtodiphjjdheoaaaGreatIb
import Derived.Lib.SmallJoins
import Derived.Deep.Upon
import Derived.Test.YtodiphjjdheoaaaGreatIc
set_option linter.unusedVariables false
set_option linter.unusedSimpArgs false

namespace Go.Proofs.YtodiphjjdheoaaaGreat
open Go.ChangeShapes Go.WideShapes Go.ChangeAt Go.RowKit Go.Deep

structure PF where
 fr : Int
 aa : Option Addr
 an : Nat
 ap : Nat
 na : Option Addr
 nn : Nat
 np : Nat
abbrev PF.A (q : PF) (m : MX) : Array Value := #[.int .i64 q.fr, .slice q.aa q.an q.ap, .slice q.na q.nn q.np, .int .i64 m.kd, .int .i64 m.rl, .int .i64 m.x.lv, .bool m.x.b, .slice m.x.a m.x.n m.x.p, .slice m.x.ka m.x.kn m.x.kp, .slice m.a m.n m.p]
def VRow (M : Nat → Prop) (W : World) (a : Option Addr) (n p : Nat) (V : Nat → Value) : Prop := n ≤ p ∧ p ≤ maxLen ∧ ∀ i, i < n → ∃ b off, a = some ⟨b, off, none⟩ ∧ ¬ M b ∧ W.cell? ⟨b, off + i, none⟩ = some (V i)
theorem VRow.kp {M : Nat → Prop} {W W' : World} {a : Option Addr} {n p : Nat} {V : Nat → Value} (h : VRow M W a n p V) (he : Kp M W W') : VRow M W' a n p V := by
 refine ⟨h.1, h.2.1, fun i hi => ?_⟩
 obtain ⟨b, off, e, hb, hc⟩ := h.2.2 i hi
 exact ⟨b, off, e, hb, by rw [he.cell (World.block_lt_of_cell? _ _ hc) hb]; exact hc⟩
theorem VRow.ext {M : Nat → Prop} {W W' : World} {a : Option Addr} {n p : Nat} {V : Nat → Value} (h : VRow M W a n p V) (he : Ext W W') : VRow M W' a n p V := h.kp (Kp.of_ext he)
theorem VRow.more {M M' : Nat → Prop} {W : World} {a : Option Addr} {n p : Nat} {V : Nat → Value} (h : VRow M W a n p V) (hm : ∀ g, M' g → M g ∨ W.heap.size ≤ g) : VRow M' W a n p V := by
 refine ⟨h.1, h.2.1, fun i hi => ?_⟩
 obtain ⟨b, off, e, hb, hc⟩ := h.2.2 i hi
 exact ⟨b, off, e, fun hc' => (hm b hc').elim hb fun hs => by have := World.block_lt_of_cell? _ _ hc; simp only at this; omega, hc⟩
section
variable {H : Type} {enc : TypeId × Value → H} {W : World}
theorem vrow_of {a : Addr} {n m p : Nat} {V : Nat → Value} (hn : n ≤ p) (hp : p ≤ maxLen) (hm : n ≤ m) (h : ∀ i, i < m → W.cell? (a.add i) = some (V i)) : VRow M0 W (some a) n p V := by
 refine ⟨hn, hp, fun i hi => ?_⟩
 have c0 := h 0 (by omega)
 rw [addr_zero] at c0
 have hs := World.cell?_spot c0
 obtain ⟨b, o, s⟩ := a
 simp only at hs
 subst hs
 refine ⟨b, o, rfl, fun h => h, ?_⟩
 have := h i (by omega)
 rwa [addr_add] at this
set_option maxRecDepth 10000 in
theorem open_vbool {fuel : Nat} {v : Value} {x : DataW H × List MemPlace} (h : DataW.trod enc Tryz.prog W 0 (fun _ => true) true fuel 45 [v] = some x) : ∃ (a : Option Addr) (n p : Nat) (B : Nat → Bool), v = .slice a n p ∧ VRow M0 W a n p fun i => .bool (B i) := by
 rcases open_slice1 Tryz.underlying45 (by kernel_rfl) h with ⟨h0, _⟩ | ⟨a, len, cap, m, n, V, D, Pl, hcs, hb, hl, hm, hmm, _, hi⟩
 ·simp only [List.cons.injEq, and_true] at h0
  exact ⟨none, 0, 0, fun _ => false, h0, Nat.le_refl _, Nat.zero_le _, fun i hi => absurd hi (Nat.not_lt_zero _)⟩
 ·simp only [List.cons.injEq, and_true] at hcs
  have hm2 : len ≤ m := by rw [hmm, if_pos rfl]; exact hl
  have hB : ∀ i, ∃ b : Bool, i < m → V i = .bool b := fun i => by
   by_cases him : i < m
   ·obtain ⟨b, e, _⟩ := DataW.trod_bool Tryz.underlying4 (hi i him).2
    simp only [List.cons.injEq, and_true] at e
    exact ⟨b, fun _ => e⟩
   ·exact ⟨false, fun h => absurd h him⟩
  refine ⟨some a, len, cap, fun i => (hB i).choose, hcs, vrow_of hl hm hm2 fun i him => ?_⟩
  rw [← (hB i).choose_spec him]
  exact (hi i him).1
set_option maxRecDepth 10000 in
theorem open_vstr {fuel : Nat} {v : Value} {x : DataW H × List MemPlace} (h : DataW.trod enc Tryz.prog W 0 (fun _ => true) true fuel 46 [v] = some x) : ∃ (a : Option Addr) (n p : Nat) (S : Nat → ByteArray), v = .slice a n p ∧ (VRow M0 W a n p fun i => .string (S i)) ∧ ∀ i, i < n → (S i).size ≤ maxLen := by
 rcases open_slice1 Tryz.underlying46 (by kernel_rfl) h with ⟨h0, _⟩ | ⟨a, len, cap, m, n, V, D, Pl, hcs, hb, hl, hm, hmm, _, hi⟩
 ·simp only [List.cons.injEq, and_true] at h0
  exact ⟨none, 0, 0, fun _ => ByteArray.empty, h0, ⟨Nat.le_refl _, Nat.zero_le _, fun i hi => absurd hi (Nat.not_lt_zero _)⟩, fun i hi => absurd hi (Nat.not_lt_zero _)⟩
 ·simp only [List.cons.injEq, and_true] at hcs
  have hm2 : len ≤ m := by rw [hmm, if_pos rfl]; exact hl
  have hB : ∀ i, ∃ b : ByteArray, i < m → V i = .string b ∧ b.size ≤ maxLen := fun i => by
   by_cases him : i < m
   ·obtain ⟨b, e, _, hsz⟩ := DataW.trod_string Tryz.underlying9 (hi i him).2
    simp only [List.cons.injEq, and_true] at e
    exact ⟨b, fun _ => ⟨e, hsz⟩⟩
   ·exact ⟨ByteArray.empty, fun h => absurd h him⟩
  refine ⟨some a, len, cap, fun i => (hB i).choose, hcs, vrow_of hl hm hm2 fun i him => ?_, fun i hi => ((hB i).choose_spec (by omega)).2⟩
  rw [← ((hB i).choose_spec him).1]
  exact (hi i him).1
set_option maxRecDepth 100000 in
theorem open_prenex {base : Nat} {v : Value} {d : DataW H} {ps : List MemPlace} (hv : Value.okWide Tryz.prog W .any base 48 v) (h : DataW.Trod enc Tryz.prog W 0 (fun _ => true) true 48 v d ps) :
  ∃ (q : PF) (m : MT 12) (B : Nat → Bool) (S : Nat → ByteArray), v = .agg (q.A (MT.me 12 m).X) ∧ (VRow M0 W q.aa q.an q.ap fun i => .bool (B i)) ∧ (VRow M0 W q.na q.nn q.np fun i => .string (S i)) ∧ (∀ i, i < q.nn → (S i).size ≤ maxLen) ∧ PMs W 12 m := by
 obtain ⟨fuel, h⟩ := h
 obtain ⟨cs, rfl, hcs⟩ := okWide_struct Tryz.underlying48 hv
 have h' : DataW.trod enc Tryz.prog W 0 (fun _ => true) true fuel 48 cs.toList = some (d, ps) := h
 obtain ⟨y0, y1, y2, y3, q, _, hl, e0, e1, e2, e3⟩ := Go.Joins.trod_struct4 Tryz.underlying48 h'
 have hc10 : Tryz.prog.cellsOf 48 = 10 := by kernel_rfl
 rw [hc10] at hl
 rw [show Tryz.prog.cellsOf 3 = 1 by kernel_rfl] at e0
 rw [show Tryz.prog.cellsOf 45 = 1 by kernel_rfl] at e1
 rw [show Tryz.prog.cellsOf 46 = 1 by kernel_rfl] at e2
 rw [show Tryz.prog.cellsOf 32 = 7 by kernel_rfl] at e3
 suffices hS : ∀ L : List Value, L = cs.toList → ∃ (q : PF) (m : MT 12) (B : Nat → Bool) (S : Nat → ByteArray), L = (q.A (MT.me 12 m).X).toList ∧ (VRow M0 W q.aa q.an q.ap fun i => .bool (B i)) ∧ (VRow M0 W q.na q.nn q.np fun i => .string (S i)) ∧ (∀ i, i < q.nn → (S i).size ≤ maxLen) ∧ PMs W 12 m by
  obtain ⟨q, m, B, S, g1, g2⟩ := hS _ rfl
  refine ⟨q, m, B, S, ?_, g2⟩
  rw [← Array.toList_inj.1 g1]
 intro L hL
 rw [← hL] at hl e0 e1 e2 e3
 match L, hl with
 | [u0, u1, u2, u3, u4, u5, u6, u7, u8, u9], _ =>
  obtain ⟨Kf, hK, _, wK⟩ := DataW.trod_int Tryz.underlying3 e0
  simp at hK e1 e2 e3
  subst hK
  obtain ⟨aa, an, ap, B, rfl, hB⟩ := open_vbool e1
  obtain ⟨na, nn, np, S, rfl, hS, hsz⟩ := open_vstr e2
  obtain ⟨m, hm, hP⟩ := open_m7 12 e3
  refine ⟨⟨Kf, aa, an, ap, na, nn, np⟩, m, B, S, ?_, hB, hS, hsz, hP⟩
  show [_, _, _, u3, u4, u5, u6, u7, u8, u9] = _ :: _ :: _ :: (MT.me 12 m).A.toList
  rw [← hm]
end
end Go.Proofs.YtodiphjjdheoaaaGreat

namespace Go.Proofs.YtodiphjjdheoaaaGreat
open Go.RowKit

def RetV (M : Nat → Prop) (n : Nat) (V : Nat → Value) (w : World) (e : Ending) (w' : World) : Prop := ∃ a' p', e = .returned (.slice a' n p') ∧ VRow M w' a' n p' V ∧ Ext w w'
theorem wpList_append_vrow {P : Program} (w : World) {ops : Array Oper} {rest : List Oper} {o : Oper} {a : Act} {Q : Exit → Act → World → Prop} (hgd : o.guard = none) (s x : Operand) (t : TypeId)
  (ho : o.op = .call { callee := .builtin .append, args := #[s, x], argTypes := #[t, t] })
  (base : Nat) (E : TypeId) (i : TypeInfo) (z : Value) (bytes : Nat) (ht : P.underlying t = some (.slice E)) (hi : P.info? E = some i) (hz : i.zero = some z)
  (hsize : i.size = 1) (hby : i.bytes = bytes) (hzs : z.cells.size = 1) (hb1 : bytes ≤ 1000)
  (v : Value) (F : Nat → Value) (hs : a.eval s = v) (hown : Own w base E 1 v 0 F)
  (M M' : Nat → Prop) (hM : ∀ g, base ≤ g → ¬ M' g) (ua : Option Addr) (m up : Nat) (V : Nat → Value) (hx : a.eval x = .slice ua m up) (hu : VRow M w ua m up V) (h1 : ∀ j, (V j).oneCell' = true) (hm : m ≤ 1000000) (hbase : base ≤ w.heap.size)
  (h : ∀ a' p' w', VRow M' w' a' m p' V → w.grownBy w' v.ownBlock → wpList P ops Q rest (a.put o.dst (.slice a' m p')) w') : wpList P ops Q (o :: rest) a w := by
 rcases Nat.eq_zero_or_pos m with h0 | h0
 ·subst h0
  have hle : ∃ va vp, v = .slice va 0 vp ∧ vp ≤ maxLen := by
   rcases hown with ⟨rfl, h0⟩ | ⟨g, cap, F, rfl, _, _, hc, hcm, _⟩
   ·exact ⟨none, 0, rfl, Nat.zero_le _⟩
   ·exact ⟨_, _, rfl, hcm⟩
  obtain ⟨va, vp, hv, hle⟩ := hle
  have hsrc : Src P i.size t (.slice ua 0 up) 0 [] w := by
   cases ua with
   | none => exact Src.ofNil w ht up
   | some q => exact Src.ofSlice w ht q 0 up [] (by simp) (fun j u hj => by simp at hj) (fun u hu => by simp at hu)
  have hrun := run_append_nothing (P := P) w t t o.type E i ht hi va 0 vp (Nat.zero_le _) (.slice ua 0 up) hsrc
  have h2 := h va vp w ⟨Nat.zero_le _, hle, fun i hi => absurd hi (Nat.not_lt_zero _)⟩ (grownBy_refl w _)
  rw [hv] at hs
  refine wpList_plain hgd fun _ hK => ?_
  unfold Oper.wp
  simp [execOp, ho, resolve, invoke, builtin, hs, hx, hrun, Result.andThen]
  exact hK _ _ h2
 ·obtain ⟨b, off, rfl, _⟩ := hu.2.2 0 h0
  refine wpList_append_lies w hgd s x t ho base E i z 1 bytes ht hi hz hsize hby hzs (by omega) v 0 (rowL F (0 * 1)) hs hown.toRow ⟨b, off, none⟩ m up (rowL V m) hx (by rw [rowL_len, Nat.mul_one]) ?_ ?_ h0 (by unfold maxLen; omega) ?_ hbase w.heap.size rfl ?_
  ·intro j u hj
   have hj2 : j < m := by
    have := (List.getElem?_eq_some_iff.1 hj).1
    simpa [rowL_len] using this
   rw [rowL_get _ _ _ hj2] at hj
   cases hj
   rw [addr_add]
   obtain ⟨b', off', e, _, hc⟩ := hu.2.2 j hj2
   simp only [Option.some.injEq, Addr.mk.injEq, and_true] at e
   obtain ⟨rfl, rfl⟩ := e
   exact hc
  ·intro u hu
   simp only [rowL, List.mem_map, List.mem_range] at hu
   obtain ⟨j, _, rfl⟩ := hu
   exact h1 j
  ·have := Nat.mul_le_mul (show 0 + m ≤ 1000000 by omega) hb1
   omega
  ·intro g cap w' hr hg hat hlt
   rw [show rowL F (0 * 1) ++ rowL V m = rowL V ((0 + m) * 1) by simp [rowL]] at hr
   have hO := Own.ofRow hr
   rcases hO with ⟨e, h3⟩ | ⟨g', cap', F', e, hbg, hB, hcc, hcm, hF⟩
   ·omega
   ·simp only [Value.slice.injEq, Option.some.injEq, Addr.mk.injEq, and_true, true_and] at e
    obtain ⟨rfl, e2⟩ := e
    subst e2
    rw [Nat.zero_add] at hcc hF hr ⊢
    refine h (some ⟨g, 0, none⟩) cap w' ⟨hcc, hcm, fun i hi => ⟨g, 0, rfl, hM g hbg, ?_⟩⟩ hg
    rw [Nat.zero_add, hB.cell (by omega), hF i (by omega)]
theorem Tryz.infoBoolR : (Tryz.prog.info? 4).map (fun i => (i.zero, i.size, i.bytes)) = some (some (.bool false), 1, 1) := by kernel_rfl
set_option maxRecDepth 100000 in
set_option maxHeartbeats 4000000 in
theorem sl_cloneB (M M' : Nat → Prop) (a : Option Addr) (n p : Nat) (V : Nat → Value) (w : World) (hM : Mb M' w) (h : VRow M w a n p V) (h1 : ∀ j, (V j).oneCell' = true) (hn : n ≤ 1000000) : Calls Tryz.prog 62 #[.slice a n p] w (RetV M' n V w) := by
 obtain ⟨j0, ji, jz0, jz1, jz2⟩ := info_parts Tryz.infoBoolR
 have HE := Lib.hid (Ext.refl w)
 cases a with
 | none =>
  have h0 : n = 0 := by
   rcases Nat.eq_zero_or_pos n with h0 | h0
   ·exact h0
   ·obtain ⟨b, off, e, _⟩ := h.2.2 0 h0
    cases e
  subst h0
  have HR : Hid (RetV M' 0 V w (.returned (.slice none 0 0)) w) := ⟨none, 0, rfl, ⟨Nat.le_refl _, Nat.zero_le _, fun i hi => absurd hi (Nat.not_lt_zero _)⟩, HE.out⟩
  have hq : ∀ w, (binOp BinOp.eql 45 (.slice none 0 p) (.slice none 0 0)).run Tryz.prog w = .ok (.bool true) w := fun w => run_eql_nil_slice w _ _ none 0 p 0 0 Tryz.underlying45
  clear h h1
  go_enter Tryz.func62, Tryz.ntmps62
  go_wp2
  go_ret
  exact HR.out
 | some ad =>
  have HV := Lib.hid h
  have hq : ∀ w, (binOp BinOp.eql 45 (.slice (some ad) n p) (.slice none 0 0)).run Tryz.prog w = .ok (.bool false) w := fun w => run_eql_nil_slice w _ _ (some ad) n p 0 0 Tryz.underlying45
  clear h
  go_enter Tryz.func62, Tryz.ntmps62
  go_wp2_with (at_builtin; refine wpList_append_vrow _ rfl (.tmp 5) (.tmp 6) _ rfl w.heap.size 4 j0 _ 1 Tryz.underlying45 ji jz0 jz1 jz2 rfl (by omega) _ (fun _ => .bool false) rfl (.inr ⟨w.heap.size, 0, arr #[], rfl, Nat.le_refl _, Blk.of_arr w #[] 4 0 rfl, Nat.le_refl _, Nat.zero_le _, fun j hj => absurd hj (Nat.not_lt_zero _)⟩) M M' (fun g hg => hM.new hg) _ n p V rfl (HV.out.ext ((Ext.refl w).alloc _)) h1 hn (by simp) ?_)
  intro a' p' w' hv hg
  have HR : Hid (RetV M' n V w (.returned (.slice a' n p')) w') := ⟨a', p', rfl, hv, ((Ext.refl w).alloc (.cells #[] 4)).grown hg fun q hq => by cases hq; exact Nat.le_refl _⟩
  clear hv hg
  go_wp2
  go_ret
  exact HR.out
theorem Tryz.infoStringR : (Tryz.prog.info? 9).map (fun i => (i.zero, i.size, i.bytes)) = some (some (.string ByteArray.empty), 1, 16) := by kernel_rfl
set_option maxRecDepth 100000 in
set_option maxHeartbeats 4000000 in
theorem sl_cloneS (M M' : Nat → Prop) (a : Option Addr) (n p : Nat) (V : Nat → Value) (w : World) (hM : Mb M' w) (h : VRow M w a n p V) (h1 : ∀ j, (V j).oneCell' = true) (hn : n ≤ 1000000) : Calls Tryz.prog 63 #[.slice a n p] w (RetV M' n V w) := by
 obtain ⟨j0, ji, jz0, jz1, jz2⟩ := info_parts Tryz.infoStringR
 have HE := Lib.hid (Ext.refl w)
 cases a with
 | none =>
  have h0 : n = 0 := by
   rcases Nat.eq_zero_or_pos n with h0 | h0
   ·exact h0
   ·obtain ⟨b, off, e, _⟩ := h.2.2 0 h0
    cases e
  subst h0
  have HR : Hid (RetV M' 0 V w (.returned (.slice none 0 0)) w) := ⟨none, 0, rfl, ⟨Nat.le_refl _, Nat.zero_le _, fun i hi => absurd hi (Nat.not_lt_zero _)⟩, HE.out⟩
  have hq : ∀ w, (binOp BinOp.eql 46 (.slice none 0 p) (.slice none 0 0)).run Tryz.prog w = .ok (.bool true) w := fun w => run_eql_nil_slice w _ _ none 0 p 0 0 Tryz.underlying46
  clear h h1
  go_enter Tryz.func63, Tryz.ntmps63
  go_wp2
  go_ret
  exact HR.out
 | some ad =>
  have HV := Lib.hid h
  have hq : ∀ w, (binOp BinOp.eql 46 (.slice (some ad) n p) (.slice none 0 0)).run Tryz.prog w = .ok (.bool false) w := fun w => run_eql_nil_slice w _ _ (some ad) n p 0 0 Tryz.underlying46
  clear h
  go_enter Tryz.func63, Tryz.ntmps63
  go_wp2_with (at_builtin; refine wpList_append_vrow _ rfl (.tmp 5) (.tmp 6) _ rfl w.heap.size 9 j0 _ 16 Tryz.underlying46 ji jz0 jz1 jz2 rfl (by omega) _ (fun _ => .bool false) rfl (.inr ⟨w.heap.size, 0, arr #[], rfl, Nat.le_refl _, Blk.of_arr w #[] 9 0 rfl, Nat.le_refl _, Nat.zero_le _, fun j hj => absurd hj (Nat.not_lt_zero _)⟩) M M' (fun g hg => hM.new hg) _ n p V rfl (HV.out.ext ((Ext.refl w).alloc _)) h1 hn (by simp) ?_)
  intro a' p' w' hv hg
  have HR : Hid (RetV M' n V w (.returned (.slice a' n p')) w') := ⟨a', p', rfl, hv, ((Ext.refl w).alloc (.cells #[] 9)).grown hg fun q hq => by cases hq; exact Nat.le_refl _⟩
  clear hv hg
  go_wp2
  go_ret
  exact HR.out
end Go.Proofs.YtodiphjjdheoaaaGreat

namespace Go.Proofs.YtodiphjjdheoaaaGreat
open Go.RowKit

def PxC (w : World) (b : Nat) (q : PF) (m : MX) : Prop := w.cell? ⟨b, 0, none⟩ = some (.int .i64 q.fr) ∧ w.cell? ⟨b, 1, none⟩ = some (.slice q.aa q.an q.ap) ∧ w.cell? ⟨b, 2, none⟩ = some (.slice q.na q.nn q.np) ∧ MxC w b 3 m
theorem PxC.ext {w w' : World} {b : Nat} {q : PF} {m : MX} (h : PxC w b q m) (he : Ext w w') : PxC w' b q m := by
 have hb := World.block_lt_of_cell? _ _ h.1
 exact ⟨by rw [he.cell hb]; exact h.1, by rw [he.cell hb]; exact h.2.1, by rw [he.cell hb]; exact h.2.2.1, h.2.2.2.ext he⟩
theorem PxC.lt {w : World} {b : Nat} {q : PF} {m : MX} (h : PxC w b q m) : b < w.heap.size := World.block_lt_of_cell? _ _ h.1
theorem new_pf (w : World) (q : PF) (m : MX) : PxC (w.alloc (.cells (q.A m) 48)) w.heap.size q m := by
 have hB := Blk.of_arr w (q.A m) 48 10 rfl
 exact ⟨hB.cell (i := 0) (by omega), hB.cell (i := 1) (by omega), hB.cell (i := 2) (by omega), hB.cell (i := 3) (by omega), hB.cell (i := 4) (by omega), hB.cell (i := 5) (by omega), hB.cell (i := 6) (by omega), hB.cell (i := 7) (by omega), hB.cell (i := 8) (by omega), hB.cell (i := 9) (by omega)⟩
abbrev pzA : Array Value := #[.int .i64 0, .slice none 0 0, .slice none 0 0, .int .i64 0, .int .i64 0, .int .i64 0, .bool false, .slice none 0 0, .slice none 0 0, .slice none 0 0]
set_option maxHeartbeats 2000000 in
theorem fin10 {M' : Nat → Prop} {w W : World} {g : Nat} {t : TypeId} {f : Nat → Value} (e0 e1 e2 e3 e4 e5 e6 e7 e8 e9 : Value) (hB : Blk W g t 10 f) (hg : M' g) (hw : w.heap.size ≤ g) (he : Ext w W) :
  ∃ WA, WA = (((((((((W.setCell ⟨g, 0, none⟩ e0).setCell ⟨g, 1, none⟩ e1).setCell ⟨g, 2, none⟩ e2).setCell ⟨g, 3, none⟩ e3).setCell ⟨g, 4, none⟩ e4).setCell ⟨g, 5, none⟩ e5).setCell ⟨g, 6, none⟩ e6).setCell ⟨g, 7, none⟩ e7).setCell ⟨g, 8, none⟩ e8).setCell ⟨g, 9, none⟩ e9 ∧ (W.cell? ⟨g, 0, none⟩ = some (f 0) ∧ W.cell? ⟨g, 1, none⟩ = some (f 1) ∧ W.cell? ⟨g, 2, none⟩ = some (f 2) ∧ W.cell? ⟨g, 3, none⟩ = some (f 3) ∧ W.cell? ⟨g, 4, none⟩ = some (f 4) ∧ W.cell? ⟨g, 5, none⟩ = some (f 5) ∧ W.cell? ⟨g, 6, none⟩ = some (f 6) ∧ W.cell? ⟨g, 7, none⟩ = some (f 7) ∧ W.cell? ⟨g, 8, none⟩ = some (f 8) ∧ W.cell? ⟨g, 9, none⟩ = some (f 9)) ∧ (W.frozen? ⟨g, 0, none⟩ = false ∧ W.frozen? ⟨g, 1, none⟩ = false ∧ W.frozen? ⟨g, 2, none⟩ = false ∧ W.frozen? ⟨g, 3, none⟩ = false ∧ W.frozen? ⟨g, 4, none⟩ = false ∧ W.frozen? ⟨g, 5, none⟩ = false ∧ W.frozen? ⟨g, 6, none⟩ = false ∧ W.frozen? ⟨g, 7, none⟩ = false ∧ W.frozen? ⟨g, 8, none⟩ = false ∧ W.frozen? ⟨g, 9, none⟩ = false) ∧ (WA.cell? ⟨g, 0, none⟩ = some e0 ∧ WA.cell? ⟨g, 1, none⟩ = some e1 ∧ WA.cell? ⟨g, 2, none⟩ = some e2 ∧ WA.cell? ⟨g, 3, none⟩ = some e3 ∧ WA.cell? ⟨g, 4, none⟩ = some e4 ∧ WA.cell? ⟨g, 5, none⟩ = some e5 ∧ WA.cell? ⟨g, 6, none⟩ = some e6 ∧ WA.cell? ⟨g, 7, none⟩ = some e7 ∧ WA.cell? ⟨g, 8, none⟩ = some e8 ∧ WA.cell? ⟨g, 9, none⟩ = some e9) ∧ Kp M' W WA ∧ Ext w WA := by
 have hB7 := ((((((((((hB.set 0 e0).set 1 e1).set 2 e2).set 3 e3).set 4 e4).set 5 e5).set 6 e6).set 7 e7).set 8 e8).set 9 e9)
 refine ⟨_, rfl, ⟨hB.cell (by omega), hB.cell (by omega), hB.cell (by omega), hB.cell (by omega), hB.cell (by omega), hB.cell (by omega), hB.cell (by omega), hB.cell (by omega), hB.cell (by omega), hB.cell (by omega)⟩, ⟨hB.frozen 0, hB.frozen 1, hB.frozen 2, hB.frozen 3, hB.frozen 4, hB.frozen 5, hB.frozen 6, hB.frozen 7, hB.frozen 8, hB.frozen 9⟩, ⟨?_, ?_, ?_, ?_, ?_, ?_, ?_, ?_, ?_, ?_⟩, ?_, ?_⟩
 ·rw [hB7.cell (i := 0) (by omega)]; simp [upd]
 ·rw [hB7.cell (i := 1) (by omega)]; simp [upd]
 ·rw [hB7.cell (i := 2) (by omega)]; simp [upd]
 ·rw [hB7.cell (i := 3) (by omega)]; simp [upd]
 ·rw [hB7.cell (i := 4) (by omega)]; simp [upd]
 ·rw [hB7.cell (i := 5) (by omega)]; simp [upd]
 ·rw [hB7.cell (i := 6) (by omega)]; simp [upd]
 ·rw [hB7.cell (i := 7) (by omega)]; simp [upd]
 ·rw [hB7.cell (i := 8) (by omega)]; simp [upd]
 ·rw [hB7.cell (i := 9) (by omega)]; simp [upd]
 ·exact ((((((((((Kp.set _ _ hg _).trans (Kp.set _ _ hg _)).trans (Kp.set _ _ hg _)).trans (Kp.set _ _ hg _)).trans (Kp.set _ _ hg _)).trans (Kp.set _ _ hg _)).trans (Kp.set _ _ hg _)).trans (Kp.set _ _ hg _)).trans (Kp.set _ _ hg _)).trans (Kp.set _ _ hg _))
 ·exact ((((((((((he.set hw _).set hw _).set hw _).set hw _).set hw _).set hw _).set hw _).set hw _).set hw _).set hw _)
def RetPx (M : Nat → Prop) (q : PF) (B S : Nat → Value) (s : TM) (w : World) (e : Ending) (w' : World) : Prop := ∃ (q' : PF) (u : MX), e = .returned (.agg (q'.A u)) ∧ q'.fr = q.fr ∧ q'.an = q.an ∧ q'.nn = q.nn ∧ VRow M w' q'.aa q'.an q'.ap B ∧ VRow M w' q'.na q'.nn q'.np S ∧ TMc true 12 M w' u s ∧ Ext w w'
set_option maxRecDepth 100000 in
set_option maxHeartbeats 16000000 in
theorem si_Prenex (M : Nat → Prop) (q : PF) (y : MX) (t : TM) (B : Nat → Bool) (S : Nat → ByteArray) (w : World) (hM : Mb M w) (ht : TMc false 12 M w y t) (hsz : t.sz ≤ 1000) (hB : VRow M0 w q.aa q.an q.ap fun i => .bool (B i)) (hS : VRow M0 w q.na q.nn q.np fun i => .string (S i)) (ha : q.an ≤ 1000000) (hn : q.nn ≤ 1000000) :
  Calls Tryz.prog 22 #[.agg (q.A y)] w (RetPx M q (fun i => .bool (B i)) (fun i => .string (S i)) (ofT t) w) := by
 have hE := ((Ext.refl w).alloc (.cells (q.A y) 48)).alloc (.cells pzA 48)
 have hP := (new_pf w q y).ext ((Ext.refl _).alloc (.cells pzA 48))
 have hZ := Blk.of_arr (w.alloc (.cells (q.A y) 48)) pzA 48 10 rfl
 simp only [World.size_alloc] at hZ
 obtain ⟨M', hM'⟩ : ∃ Q : Nat → Prop, Q = fun b => M b ∨ b = w.heap.size + 1 := ⟨_, rfl⟩
 have hnew : ∀ g', M' g' → M g' ∨ w.heap.size ≤ g' := fun g' h => by
  rw [hM'] at h
  exact h.imp id fun h => by omega
 have hMb : Mb M' ((w.alloc (.cells (q.A y) 48)).alloc (.cells pzA 48)) := fun g' h => by
  rw [hM'] at h
  rcases h with h | h
  ·exact Nat.lt_of_lt_of_le (hM g' h) hE.size
  ·rw [h]; exact hZ.lt
 have ht2 := (ht.more (M' := M') hnew).ext hE
 have hB2 := hB.ext hE
 have hS2 := hS.ext hE
 generalize hW : (w.alloc (.cells (q.A y) 48)).alloc (.cells pzA 48) = W at *
 have HW := Lib.hid hW
 have HE := Lib.hid hE
 have HZ := Lib.hid hZ
 have HMM : Hid (∀ g', M g' → M' g') := fun g' h => by rw [hM']; exact .inl h
 have HMG : Hid (M' (w.heap.size + 1)) := by show M' _; rw [hM']; exact .inr rfl
 have HWL : Hid (w.heap.size ≤ w.heap.size + 1) := Nat.le_succ _
 have CB : Hid (∀ W', Ext W W' → Calls Tryz.prog 62 #[.slice q.aa q.an q.ap] W' (RetV M' q.an (fun i => .bool (B i)) W')) := fun W' he => sl_cloneB M0 _ _ _ _ _ W' (hMb.ext he) (hB2.ext he) (fun _ => rfl) ha
 have CS : Hid (∀ W', Ext W W' → Calls Tryz.prog 63 #[.slice q.na q.nn q.np] W' (RetV M' q.nn (fun i => .string (S i)) W')) := fun W' he => sl_cloneS M0 _ _ _ _ _ W' (hMb.ext he) (hS2.ext he) (fun _ => rfl) hn
 have CO : Hid (∀ W', Ext W W' → Calls Tryz.prog 15 #[.agg y.A] W' (RetT 12 M' W' (ofT t))) := fun W' he => si_Of 12 _ y t W' (hMb.ext he) (ht2.ext he) hsz
 have hS0 : PxC W.drew w.heap.size q y := hP.ext (Ext.refl W).drew
 have HXD := Lib.hid (Ext.refl W).drew
 clear hE hP hZ hnew hMb ht2 hB2 hS2 hW ht hsz hB hS ha hn hM hM'
 go_enter Tryz.func22, Tryz.ntmps22
 go_upto_region 1 with (fail)
 rw [HW.out]
 obtain ⟨g, hg⟩ : ∃ g, g = w.heap.size := ⟨_, rfl⟩
 rw [← hg] at hS0 HZ HWL HMG ⊢
 have HG := Lib.hid hg
 clear hg HW
 refine wp_region_u (fun w => PxC w g q y) 12 (by kernel_rfl) hS0 (fun hHeld => ?_)
 clear hS0
 generalize W.drew = wd at *
 (refine tkB [0, 1, 2, 3, 5, 6, 8, 9] ?_; (iterate 8 (refine tk1 (oi := ?_) (v := ?_) (by kernel_rfl) (by first | exact hSn | exact hHeld) ?_ ?_ ?_ ?_ ?_; rotate_left 2; (simp only [xgA, xgB, xgC]; rfl); rfl; (intro wS hSw; obtain ⟨A0, A1, A2, B0, B1, B2, B3, B4, B5, B6⟩ := hSw; go_simp; try with_reducible rfl); (exact fun _ _ _ h => h); (try simp only [Act.put, xgD, xgE, xgF]))); refine tkE ?_)
 ((refine wpAnyU_one 4 (o := ?_) (by kernel_rfl) ?_ ?_; rotate_left 1; (simp only [xgA, xgB, xgC]; rfl); intro K hK); go_simp; (refine (CB.out _ HXD.out).mono ?_); rintro e_ v1 ⟨a1, p1, rfl, hv1, d1⟩; go_wp2_with (fail); (try clear hSn); (have hSn := hHeld.ext d1); (refine hK.out _ _ (fun _ => hSn) ?_); clear hK K; (try simp only [Act.put, xgD, xgE, xgF]))
 ((refine wpAnyU_one 7 (o := ?_) (by kernel_rfl) ?_ ?_; rotate_left 1; (simp only [xgA, xgB, xgC]; rfl); intro K hK); go_simp; (refine (CS.out _ (HXD.out.trans d1)).mono ?_); rintro e_ v2 ⟨a2, p2, rfl, hv2, d2⟩; go_wp2_with (fail); (try clear hSn); (have hSn := hHeld.ext (d1.trans d2)); (refine hK.out _ _ (fun _ => hSn) ?_); clear hK K; (try simp only [Act.put, xgD, xgE, xgF]))
 ((refine wpAnyU_one 10 (o := ?_) (by kernel_rfl) ?_ ?_; rotate_left 1; (simp only [xgA, xgB, xgC]; rfl); intro K hK); go_simp; (refine (CO.out _ (HXD.out.trans (d1.trans d2))).mono ?_); rintro e_ v3 ⟨u, rfl, hu, d3⟩; go_wp2_with (fail); (try clear hSn); (have hSn := hHeld.ext ((d1.trans d2).trans d3)); (refine hK.out _ _ (fun _ => hSn) ?_); clear hK K; (try simp only [Act.put, xgD, xgE, xgF]))
 (refine tkB [11] ?_; (iterate 1 (refine tk1 (oi := ?_) (v := ?_) (by kernel_rfl) (by first | exact hSn | exact hHeld) ?_ ?_ ?_ ?_ ?_; rotate_left 2; (simp only [xgA, xgB, xgC]; rfl); rfl; (intro wS hSw; obtain ⟨A0, A1, A2, B0, B1, B2, B3, B4, B5, B6⟩ := hSw; go_simp; try with_reducible rfl); (exact fun _ _ _ h => h); (try simp only [Act.put, xgD, xgE, xgF]))); refine tkE ?_)
 have hX3 := HXD.out.trans ((d1.trans d2).trans d3)
 obtain ⟨WA, hWA, ⟨c0, c1, c2, c3, c4, c5, c6, c7, c8, c9⟩, ⟨f0, f1, f2, f3, f4, f5, f6, f7, f8, f9⟩, ⟨r0, r1, r2, r3, r4, r5, r6, r7, r8, r9⟩, hkp, hEF⟩ := fin10 (M' := M') (w := w) (.int .i64 q.fr) (.slice a1 q.an p1) (.slice a2 q.nn p2) (.int .i64 u.kd) (.int .i64 u.rl) (.int .i64 u.x.lv) (.bool u.x.b) (.slice u.x.a u.x.n u.x.p) (.slice u.x.ka u.x.kn u.x.kp) (.slice u.a u.n u.p) (HZ.out.ext hX3) HMG.out (by have := HWL.out; have := HG.out; omega) (HE.out.trans hX3)
 have hwb : ∀ g', M g' → M' g' ∨ WA.heap.size ≤ g' := fun g' h => .inl (HMM.out g' h)
 have HF : Hid (RetPx M q (fun i => .bool (B i)) (fun i => .string (S i)) (ofT t) w (.returned (.agg (PF.A ⟨q.fr, a1, q.an, p1, a2, q.nn, p2⟩ u))) WA) := ⟨⟨q.fr, a1, q.an, p1, a2, q.nn, p2⟩, u, rfl, rfl, rfl, rfl, (((hv1.ext d2).ext d3).kp hkp).more hwb, ((hv2.ext d3).kp hkp).more hwb, (hu.kp hkp).more hwb, hEF⟩
 have HWA := Lib.hid hWA
 clear hWA hkp hEF hwb hX3 hv1 hv2 hu d1 d2 d3 hHeld hSn HE HZ HXD CB CS CO
 ((refine wpAnyU_one 12 (o := ?_) (by kernel_rfl) ?_ ?_; rotate_left 1; (simp only [xgA, xgB, xgC]; rfl); intro K hK); go_simp; (refine hK.out _ _ (fun h => absurd rfl h) ?_); clear hK K; refine wpAnyU_done (by kernel_rfl) ?_ _)
 rw [← HWA.out]
 clear HWA c0 c1 c2 c3 c4 c5 c6 c7 c8 c9 f0 f1 f2 f3 f4 f5 f6 f7 f8 f9
 go_wp2
 exact bodyPost_ret (v := .agg (PF.A ⟨q.fr, a1, q.an, p1, a2, q.nn, p2⟩ u)) (by simp [results, Tryz.results22, go_sem, r0, r1, r2, r3, r4, r5, r6, r7, r8, r9]) rfl HF.out
end Go.Proofs.YtodiphjjdheoaaaGreat
