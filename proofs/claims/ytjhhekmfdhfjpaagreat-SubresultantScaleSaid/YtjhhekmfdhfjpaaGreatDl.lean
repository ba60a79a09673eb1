/- Arguments of the type []sparse.Poly, opened. cylinderlaw23.list. -/
import Derived.Test.YtjhhekmfdhfjpaaGreatMr
import Derived.Test.YtjhhekmfdhfjpaaGreatDe
import Derived.Test.YtjhhekmfdhfjpaaGreatDi
set_option linter.unusedVariables false
set_option linter.unusedSimpArgs false

namespace Go.Proofs.YtjhhekmfdhfjpaaGreat
open Go.ChangeShapes Go.WideShapes Go.ChangeAt Go.RowKit Go.Deep

section
variable {H : Type} {enc : TypeId × Value → H} {W : World}
set_option maxRecDepth 10000 in
theorem open_polyI {fuel : Nat} {v : Value} {x : DataW H × List MemPlace} (h : DataW.trod enc Tryz.prog W 0 (fun _ => true) true fuel 23 [v] = some x) : ∃ a n cap X, v = .slice a n cap ∧ PRaw W a n cap X := by
 have hu : Tryz.prog.underlying 23 = some (.slice 89) := Tryz.underlying23
 have hc6 : Tryz.prog.cellsOf 89 = 6 := by kernel_rfl
 rcases open_slice hu h with ⟨h0, _⟩ | ⟨a, len, cap, m, n, D, Pl, hcs, hb, hl, hm, hmm, _, hi⟩
 ·simp only [List.cons.injEq, and_true] at h0
  exact ⟨none, 0, 0, fun _ => default, h0, ⟨Nat.le_refl _, Nat.zero_le _, .inl rfl⟩, (fun i hi => by omega), fun i hi => by omega⟩
 ·simp only [List.cons.injEq, and_true] at hcs
  have hm2 : len ≤ m := by rw [hmm, if_pos rfl]; exact hl
  rw [hc6] at hi
  rcases Nat.eq_zero_or_pos len with h0 | h0
  ·subst h0
   exact ⟨some a, 0, cap, fun _ => default, hcs, ⟨Nat.zero_le _, hm, .inl rfl⟩, (fun i hi => by omega), fun i hi => by omega⟩
  have hsp : a.spot = none ∧ a.block < W.heap.size := by
   obtain ⟨cs', h1, _⟩ := hi 0 (by omega)
   obtain ⟨_, hlen, hat⟩ := World.cells?_some h1
   match cs', hlen with
   | [u0, u1, u2, u3, u4, u5], _ =>
    have c0 : W.cell? ((a.add (0 * 6)).add 0) = some u0 := hat 0 (by omega)
    rw [Nat.zero_mul, addr_zero, addr_zero] at c0
    exact ⟨World.cell?_spot c0, World.block_lt_of_cell? _ _ c0⟩
  obtain ⟨b, off, sp⟩ := a
  obtain ⟨rfl, hblk⟩ := hsp
  simp only at hblk
  have hall : ∀ i, ∃ x : TE, i < len → (W.cell? ⟨b, off + i * 6, none⟩ = some (.bool x.b) ∧ W.cell? ⟨b, off + i * 6 + 1, none⟩ = some (.slice x.a x.n x.p) ∧
    W.cell? ⟨b, off + i * 6 + 2, none⟩ = some (.int .i64 x.m.a) ∧ W.cell? ⟨b, off + i * 6 + 3, none⟩ = some (.int .i64 x.m.b) ∧ W.cell? ⟨b, off + i * 6 + 4, none⟩ = some (.int .i64 x.m.c) ∧ W.cell? ⟨b, off + i * 6 + 5, none⟩ = some (.int .i64 x.m.d)) ∧
    x.n ≤ 9223372036854775807 ∧ (x.n ≤ 1099511627776 → ∃ d, NatR M0 W (.slice x.a x.n x.p) x.n d) := by
   intro i
   by_cases hil : i < len
   ·obtain ⟨cs', h1, h2⟩ := hi i (by omega)
    obtain ⟨_, hlen, hat⟩ := World.cells?_some h1
    match cs', hlen with
    | [u0, u1, u2, u3, u4, u5], _ =>
     have c0 : W.cell? (((⟨b, off, none⟩ : Addr).add (i * 6)).add 0) = some u0 := hat 0 (by omega)
     have c1 : W.cell? (((⟨b, off, none⟩ : Addr).add (i * 6)).add 1) = some u1 := hat 1 (by omega)
     have c2 : W.cell? (((⟨b, off, none⟩ : Addr).add (i * 6)).add 2) = some u2 := hat 2 (by omega)
     have c3 : W.cell? (((⟨b, off, none⟩ : Addr).add (i * 6)).add 3) = some u3 := hat 3 (by omega)
     have c4 : W.cell? (((⟨b, off, none⟩ : Addr).add (i * 6)).add 4) = some u4 := hat 4 (by omega)
     have c5 : W.cell? (((⟨b, off, none⟩ : Addr).add (i * 6)).add 5) = some u5 := hat 5 (by omega)
     rw [addr_add, addr_add] at c0 c1 c2 c3 c4 c5
     obtain ⟨y0, y1, q, _, _, e0, e1⟩ := trod_struct2 Tryz.underlying89 h2
     rw [show Tryz.prog.cellsOf 29 = 2 by kernel_rfl] at e0
     rw [show Tryz.prog.cellsOf 87 = 4 by kernel_rfl] at e1
     obtain ⟨bb, a', n', p', rfl, rfl, hn', hd'⟩ := open_int (v0 := u0) (v1 := u1) e0
     obtain ⟨mm, rfl, rfl, rfl, rfl⟩ := open_mono (v0 := u2) (v1 := u3) (v2 := u4) (v3 := u5) e1
     exact ⟨⟨bb, a', n', p', mm⟩, fun _ => ⟨⟨c0, c1, c2, c3, c4, c5⟩, hn', hd'⟩⟩
   ·exact ⟨default, fun h => absurd h hil⟩
  refine ⟨some ⟨b, off, none⟩, len, cap, fun i => (hall i).choose, hcs, ⟨hl, hm, .inr ⟨b, off, rfl, hblk, fun i hi => ((hall i).choose_spec hi).1⟩⟩, fun i hi => ((hall i).choose_spec hi).2.1, fun i hi => ((hall i).choose_spec hi).2.2⟩
end
end Go.Proofs.YtjhhekmfdhfjpaaGreat

namespace Go.Proofs.YtjhhekmfdhfjpaaGreat
open Go.RowKit

end Go.Proofs.YtjhhekmfdhfjpaaGreat
