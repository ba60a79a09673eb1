/- cylinderref22.build. cylinderref22.Build; the polynomials of the law RecpolyNormal. RecpolyNormal: the region with two calls and two new variables. RecpolyNormal: the callees' contracts at the law's polynomials. -/
import Derived.Test.YtpclggidcmmemaaGreatMi
set_option linter.unusedVariables false
set_option linter.unusedSimpArgs false

namespace Go.Proofs.YtpclggidcmmemaaGreat
open Go.RowKit

def NodesR (M : Nat → Prop) (w : World) (v : Value) (n : Nat) (L C K : Nat → Int) : Prop :=
 n ≤ 1099511627776 ∧ ((n = 0 ∧ ∃ a c, v = .slice a 0 c) ∨ ∃ b off cap, v = .slice (some ⟨b, off, none⟩) n cap ∧ n ≤ cap ∧ cap ≤ maxLen ∧ (b < w.heap.size ∧ ¬ M b) ∧ ∀ i, i < n → w.cell? ⟨b, off + i * 3, none⟩ = some (.int .i8 (L i)) ∧ w.cell? ⟨b, off + i * 3 + 1, none⟩ = some (.int .i16 (C i)) ∧ w.cell? ⟨b, off + i * 3 + 2, none⟩ = some (.int .u8 (K i)) ∧
  (-128 ≤ L i ∧ L i ≤ 127) ∧ (-32768 ≤ C i ∧ C i ≤ 32767) ∧ (0 ≤ K i ∧ K i ≤ 255))
theorem NodesR.kp {M : Nat → Prop} {w w' : World} {v : Value} {n : Nat} {L C K : Nat → Int} (h : NodesR M w v n L C K) (he : Kp M w w') : NodesR M w' v n L C K := by
 obtain ⟨h0, h | ⟨b, off, cap, h1, h2, h3, h4, h5⟩⟩ := h
 ·exact ⟨h0, .inl h⟩
 ·exact ⟨h0, .inr ⟨b, off, cap, h1, h2, h3, ⟨Nat.lt_of_lt_of_le h4.1 he.1, h4.2⟩, fun i hi => by rw [he.cell h4.1 h4.2, he.cell h4.1 h4.2, he.cell h4.1 h4.2]; exact h5 i hi⟩⟩
theorem NodesR.ext {M : Nat → Prop} {w w' : World} {v : Value} {n : Nat} {L C K : Nat → Int} (h : NodesR M w v n L C K) (he : Ext w w') : NodesR M w' v n L C K := h.kp (Kp.of_ext he)
theorem NodesR.more {M M' : Nat → Prop} {w : World} {v : Value} {n : Nat} {L C K : Nat → Int} (h : NodesR M w v n L C K) (hm : ∀ g, M' g → M g ∨ w.heap.size ≤ g) : NodesR M' w v n L C K := by
 obtain ⟨h0, h | ⟨b, off, cap, h1, h2, h3, h4, h5⟩⟩ := h
 ·exact ⟨h0, .inl h⟩
 ·exact ⟨h0, .inr ⟨b, off, cap, h1, h2, h3, ⟨h4.1, fun k => (hm b k).elim h4.2 (by omega)⟩, h5⟩⟩
theorem NodesR.form {M : Nat → Prop} {w : World} {v : Value} {n : Nat} {L C K : Nat → Int} (h : NodesR M w v n L C K) : ∃ a cap, v = .slice a n cap := by
 obtain ⟨h0, ⟨rfl, a, c, rfl⟩ | ⟨b, off, cap, rfl, _⟩⟩ := h
 ·exact ⟨_, _, rfl⟩
 ·exact ⟨_, _, rfl⟩
def nsum (f : Nat → Nat) : Nat → Nat
 | 0 => 0
 | n + 1 => nsum f n + f n
def szE (A : Nat) : (d : Nat) → RT d → Nat
 | 0, _ => 1
 | d + 1, t => if t.1 ≤ 0 then dlen t.2.1.val.natAbs + 1 else if 4 < t.1 then 1 else 1 + nsum (fun i => szE A d (t.2.2.2 i) + A + 1) t.2.2.1
def Sml0 (d : Nat) (t : RT d) : Prop := (terms d t).length ≤ 4 ^ d ∧ nrm (terms d t) ≤ 4 ^ d * 32768 ∧ ∀ s ∈ terms d t, ∀ k, s.2.get k ≤ 3 * (d : Int)
def Sml (d : Nat) (t : RT d) : Prop := Sml0 d t ∧ ∀ A, szE A d t ≤ 9 ^ d * (A + 3)
def SNode (g : Nat) (L C : Int) (w : World) : Prop := w.cell? ⟨g, 0, none⟩ = some (.int .i8 L) ∧ w.cell? ⟨g, 1, none⟩ = some (.int .i16 C)
theorem SNode.ext {g : Nat} {L C : Int} {w w' : World} (h : SNode g L C w) (he : Ext w w') : SNode g L C w' := by
 have hb := World.block_lt_of_cell? _ _ h.1
 exact ⟨by rw [he.cell hb]; exact h.1, by rw [he.cell hb]; exact h.2⟩
end Go.Proofs.YtpclggidcmmemaaGreat

namespace Go.Proofs.YtpclggidcmmemaaGreat
open Go.RowKit

def BT (M : Nat → Prop) (w : World) (x : PE) (l : List Tm) : Prop := ∃ t : RT 7, RR M w 7 t (.int .i64 x.lv) (.bool x.b) (.slice x.a x.n x.p) (.slice x.ka x.kn x.kp) ∧ Sml 7 t ∧ terms 7 t = l
section
variable {M M' : Nat → Prop} {w w' : World} {x : PE} {l : List Tm}
theorem BT.ext (h : BT M w x l) (he : Ext w w') : BT M w' x l := by
 obtain ⟨t, h1, h2⟩ := h; exact ⟨t, RR.ext h1 he, h2⟩
theorem BT.kp (h : BT M w x l) (he : Kp M w w') : BT M w' x l := by
 obtain ⟨t, h1, h2⟩ := h; exact ⟨t, RR.kp he h1, h2⟩
theorem BT.more (h : BT M w x l) (hm : ∀ g, M' g → M g ∨ w.heap.size ≤ g) : BT M' w x l := by
 obtain ⟨t, h1, h2⟩ := h; exact ⟨t, RR.more hm h1, h2⟩
theorem BT.len (h : BT M w x l) : l.length ≤ 16384 := by
 obtain ⟨t, _, h2, h3⟩ := h
 have h4 := h2.1.1
 rw [h3] at h4
 have : 4 ^ 7 = 16384 := by decide
 omega
theorem BT.nn (h : BT M w x l) : ∀ m : Mo, m.nn = false → coefAt l m = 0 := by
 obtain ⟨t, _, h2, h3⟩ := h
 intro m hm
 refine coefAt_zero fun s hs e => ?_
 have := terms_nn 7 t s (by rw [h3]; exact hs)
 rw [e, hm] at this; cases this
end
end Go.Proofs.YtpclggidcmmemaaGreat

namespace Go.Proofs.YtpclggidcmmemaaGreat
open Go.RowKit

section
variable {P : Program} {ops : Array Oper} {Q : Exit → Act → World → Prop} {md : Region.Mode} {S : World → Prop} {last : Nat}
end
def N2 (o7 o8 : Option Nat) : Nat → Prop := fun q => o7 = some q ∨ o8 = some q
structure R6 (l m : List Tm) (W0 : World) (o7 o8 : Option Nat) (ra rb : Option PE) (w : World) : Prop where
 ext : Ext W0 w
 b7 : ∀ g, o7 = some g → W0.heap.size ≤ g ∧ Blk w g 33 4 (arr zA)
 b8 : ∀ g, o8 = some g → W0.heap.size ≤ g ∧ Blk w g 33 4 (arr zA)
 ne : ∀ g h, o7 = some g → o8 = some h → g ≠ h
 ca : ∀ a, ra = some a → CRx (N2 o7 o8) w 4 a l
 cb : ∀ b, rb = some b → CRx (N2 o7 o8) w 4 b m
section
variable {l m : List Tm} {W0 w w' : World} {o7 o8 : Option Nat} {ra rb : Option PE} {x y : PE}
theorem R6.grow (h : R6 l m W0 o7 o8 ra rb w) (he : Ext w w') : R6 l m W0 o7 o8 ra rb w' :=
 ⟨h.ext.trans he, fun g hg => ⟨(h.b7 g hg).1, (h.b7 g hg).2.ext he⟩, fun g hg => ⟨(h.b8 g hg).1, (h.b8 g hg).2.ext he⟩, h.ne, fun a ha => (h.ca a ha).ext he, fun b hb => (h.cb b hb).ext he⟩
theorem R6.mb (h : R6 l m W0 o7 o8 ra rb w) : Mb (N2 o7 o8) w := by
 rintro q (hq | hq)
 ·exact (h.b7 q hq).2.lt
 ·exact (h.b8 q hq).2.lt
end
end Go.Proofs.YtpclggidcmmemaaGreat

namespace Go.Proofs.YtpclggidcmmemaaGreat
open Go.RowKit

theorem same_b (x y : PE) (l r : List Tm) (w : World) (b : Bool) (h : PI M0 w x l) (k : PI M0 w y r) (hb : b = true ↔ Sim l r) : Calls Tryz.prog 20 #[.agg (peA x), .agg (peA y)] w fun e w' => e = .returned (.bool b) ∧ Ext w w' := by
 refine (rp_Same M0 x y l r w (mb0 w) h k).mono ?_
 rintro e w' ⟨c, rfl, hc, he⟩
 have : c = b := by
  cases c <;> cases b <;> simp_all
 exact ⟨by rw [this], he⟩
def SP4 (c : Nat) (x y : PE) (g7 g8 : Nat) (a b : PE) (w : World) : Prop := P4 w c x ∧ P4 w (c + 1) y ∧ P4 w g7 a ∧ P4 w g8 b
theorem SP4.ext {c : Nat} {x y : PE} {g7 g8 : Nat} {a b : PE} {w w' : World} (h : SP4 c x y g7 g8 a b w) (he : Ext w w') : SP4 c x y g7 g8 a b w' := ⟨h.1.ext he, h.2.1.ext he, h.2.2.1.ext he, h.2.2.2.ext he⟩
end Go.Proofs.YtpclggidcmmemaaGreat
