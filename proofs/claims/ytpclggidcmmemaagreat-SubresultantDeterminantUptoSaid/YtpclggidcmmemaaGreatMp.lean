/- Regions that draw their order and hold a call of yield (an iterator's body). sparse: Terms, as an iterator. sparse: Level. sparse: Total. -/
import Derived.Test.YtpclggidcmmemaaGreatMm
import Derived.RangeFuncNested
import Derived.RangeFuncBound
import Derived.RangeFuncCalls
import Derived.RangeFuncLeaves
import Derived.Shelf.Abstract
import Derived.Shelf.RegionOpen
import Derived.OwnWalkIn
import Derived.TacticsInMore
import Derived.LoopNIn
import Derived.LoopIn
set_option linter.unusedVariables false
set_option linter.unusedSimpArgs false

namespace Go.Proofs.YtpclggidcmmemaaGreat
open Go.RowKit

section
variable {P : Program} {ops : Array Oper} {Q : Exit → Act → World → Prop} {md : Region.Mode} {S : World → Prop} {y : Nat}
end
end Go.Proofs.YtpclggidcmmemaaGreat

namespace Go.Proofs.YtpclggidcmmemaaGreat
open Go.RowKit

def Kq (X : Nat → Prop) (n : Nat) (W W' : World) : Prop := W.heap.size ≤ W'.heap.size ∧ ∀ b, b < n → ¬ X b → W'.heap[b]? = W.heap[b]?
theorem Kq.trans {X : Nat → Prop} {n : Nat} {A B C : World} (h : Kq X n A B) (k : Kq X n B C) : Kq X n A C := ⟨Nat.le_trans h.1 k.1, fun b hb hx => (k.2 b hb hx).trans (h.2 b hb hx)⟩
theorem Kq.putObj {X : Nat → Prop} {n : Nat} (W : World) (l : Nat) (o' : Obj) (hl : n ≤ l) : Kq X n W (W.putObj l o') :=
 ⟨by simp [World.putObj], fun b hb _ => World.putObj_heap_other (by omega)⟩
theorem Kq.of_ext {X : Nat → Prop} {n : Nat} {W W' : World} (h : Ext W W') (hn : n ≤ W.heap.size) : Kq X n W W' := ⟨h.size, fun b hb _ => h.heap (by omega)⟩
def STm (t : Nat) (c0 c1 : Value) (m : Mo) (w : World) : Prop := w.cell? ⟨t, 0, none⟩ = some c0 ∧ w.cell? ⟨t, 1, none⟩ = some c1 ∧ w.cell? ⟨t, 2, none⟩ = some (.int .i64 m.a) ∧ w.cell? ⟨t, 3, none⟩ = some (.int .i64 m.b) ∧ w.cell? ⟨t, 4, none⟩ = some (.int .i64 m.c) ∧ w.cell? ⟨t, 5, none⟩ = some (.int .i64 m.d)
theorem STm.ext {t : Nat} {c0 c1 : Value} {m : Mo} {w w' : World} (h : STm t c0 c1 m w) (he : Ext w w') : STm t c0 c1 m w' := by
 have h1 := World.block_lt_of_cell? _ _ h.1
 unfold STm; rw [he.cell h1, he.cell h1, he.cell h1, he.cell h1, he.cell h1, he.cell h1]; exact h
end Go.Proofs.YtpclggidcmmemaaGreat

namespace Go.Proofs.YtpclggidcmmemaaGreat
open Go.RowKit
attribute [local go_sem] Oper.semAt_some

def hiU (m : Mo) : Nat → Nat
 | 0 => 0
 | k + 1 => if 0 < m.get (k + 1) then k + 1 else hiU m k
def lvM (l : List Mo) : Nat := l.foldl (fun h m => max h (hiU m 4)) 0
def LvI (w : World) (hb : Nat) (t : TypeId) (B : Nat) (f : Nat → Value) (W : World) : Prop := Blk W hb t 1 f ∧ Ext w W ∧ B ≤ W.heap.size
theorem LvI.set {w W : World} {hb : Nat} {t : TypeId} {f : Nat → Value} {B : Nat} (h : LvI w hb t B f W) (hw : w.heap.size ≤ hb) (u : Value) : LvI w hb t B (fun _ => u) (W.setCell ⟨hb, 0, none⟩ u) := by
 refine ⟨(h.1.set 0 u).congr (fun i hi => ?_), h.2.1.set (p := ⟨hb, 0, none⟩) hw u, by simpa [World.setCell] using h.2.2⟩
 have : i = 0 := by omega
 subst this; simp [upd]
theorem Kq.set {X : Nat → Prop} {n : Nat} {W W' : World} (h : Kq X n W W') {hb o : Nat} (hx : X hb) (u : Value) : Kq X n W (W'.setCell ⟨hb, o, none⟩ u) :=
 ⟨by simpa [World.setCell] using h.1, fun b hb' hn => by rw [Below.heap_setCell _ ⟨hb, o, none⟩ _ b (fun (e : b = hb) => hn (e ▸ hx))]; exact h.2 b hb' hn⟩
end Go.Proofs.YtpclggidcmmemaaGreat

namespace Go.Proofs.YtpclggidcmmemaaGreat
open Go.RowKit
attribute [local go_sem] Oper.semAt_some

end Go.Proofs.YtpclggidcmmemaaGreat
