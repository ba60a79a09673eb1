/- cylinderref22.build. cylinderref22.Build; the polynomials of the law RecpolyNormal. RecpolyNormal: the region with two calls and two new variables. RecpolyNormal: the callees' contracts at the law's polynomials. -/
import Derived.Test.YtjcceddloogiiaaGreatMi
set_option linter.unusedVariables false
set_option linter.unusedSimpArgs false

namespace Go.Proofs.YtjcceddloogiiaaGreat
open Go.RowKit

def NodesR (M : Nat → Prop) (w : World) (v : Value) (n : Nat) (L C K : Nat → Int) : Prop :=
 n ≤ 1099511627776 ∧ ((n = 0 ∧ ∃ a c, v = .slice a 0 c) ∨ ∃ b off cap, v = .slice (some ⟨b, off, none⟩) n cap ∧ n ≤ cap ∧ cap ≤ maxLen ∧ (b < w.heap.size ∧ ¬ M b) ∧ ∀ i, i < n → w.cell? ⟨b, off + i * 3, none⟩ = some (.int .i8 (L i)) ∧ w.cell? ⟨b, off + i * 3 + 1, none⟩ = some (.int .i16 (C i)) ∧ w.cell? ⟨b, off + i * 3 + 2, none⟩ = some (.int .u8 (K i)) ∧
  (-128 ≤ L i ∧ L i ≤ 127) ∧ (-32768 ≤ C i ∧ C i ≤ 32767) ∧ (0 ≤ K i ∧ K i ≤ 255))
theorem NodesR.kp {M : Nat → Prop} {w w' : World} {v : Value} {n : Nat} {L C K : Nat → Int} (h : NodesR M w v n L C K) (he : Kp M w w') : NodesR M w' v n L C K := by
 obtain ⟨h0, h | ⟨b, off, cap, h1, h2, h3, h4, h5⟩⟩ := h
 ·exact ⟨h0, .inl h⟩
 ·exact ⟨h0, .inr ⟨b, off, cap, h1, h2, h3, ⟨Nat.lt_of_lt_of_le h4.1 he.1, h4.2⟩, fun i hi => by rw [he.cell h4.1 h4.2, he.cell h4.1 h4.2, he.cell h4.1 h4.2]; exact h5 i hi⟩⟩
theorem NodesR.ext {M : Nat → Prop} {w w' : World} {v : Value} {n : Nat} {L C K : Nat → Int} (h : NodesR M w v n L C K) (he : Ext w w') : NodesR M w' v n L C K := h.kp (Kp.of_ext he)
theorem NodesR.more {M M' : Nat → Prop} {w : World} {v : Value} {n : Nat} {L C K : Nat → Int} (h : NodesR M w v n L C K) (hm : ∀ g, M' g → M g ∨ w.heap.size ≤ g) : NodesR M' w v n L C K := by
 obtain ⟨h0, h | ⟨b, off, cap, h1, h2, h3, h4, h5⟩⟩ := h
 ·exact ⟨h0, .inl h⟩
 ·exact ⟨h0, .inr ⟨b, off, cap, h1, h2, h3, ⟨h4.1, fun k => (hm b k).elim h4.2 (by omega)⟩, h5⟩⟩
theorem NodesR.form {M : Nat → Prop} {w : World} {v : Value} {n : Nat} {L C K : Nat → Int} (h : NodesR M w v n L C K) : ∃ a cap, v = .slice a n cap := by
 obtain ⟨h0, ⟨rfl, a, c, rfl⟩ | ⟨b, off, cap, rfl, _⟩⟩ := h
 ·exact ⟨_, _, rfl⟩
 ·exact ⟨_, _, rfl⟩
def nsum (f : Nat → Nat) : Nat → Nat
 | 0 => 0
 | n + 1 => nsum f n + f n
def szE (A : Nat) : (d : Nat) → RT d → Nat
 | 0, _ => 1
 | d + 1, t => if t.1 ≤ 0 then dlen t.2.1.val.natAbs + 1 else if 4 < t.1 then 1 else 1 + nsum (fun i => szE A d (t.2.2.2 i) + A + 1) t.2.2.1
def Sml0 (d : Nat) (t : RT d) : Prop := (terms d t).length ≤ 4 ^ d ∧ nrm (terms d t) ≤ 4 ^ d * 32768 ∧ ∀ s ∈ terms d t, ∀ k, s.2.get k ≤ 3 * (d : Int)
def Sml (d : Nat) (t : RT d) : Prop := Sml0 d t ∧ ∀ A, szE A d t ≤ 9 ^ d * (A + 3)
theorem nsum_le4 (f : Nat → Nat) (c : Nat) : ∀ n, n ≤ 4 → (∀ i, i < n → f i ≤ c) → nsum f n ≤ n * c
 | 0, _, _ => Nat.zero_le _
 | n + 1, h, hf => by
  have h1 := nsum_le4 f c n (by omega) fun i hi => hf i (by omega)
  have h2 := hf n (by omega)
  simp only [nsum, Nat.add_mul, Nat.one_mul]
  omega
theorem Sml.tb {d : Nat} {t : RT d} (h : Sml d t) (hd : d ≤ 7) : TB d t := by
 obtain ⟨⟨h1, h2, h3⟩, _⟩ := h
 have hp : 4 ^ d ≤ 4 ^ 7 := Nat.pow_le_pow_right (by omega) hd
 have hp7 : 4 ^ 7 = 16384 := by decide
 refine ⟨by omega, by omega, ?_, fun s hs k => by have := h3 s hs k; omega⟩
 have h4 : nrm (terms d t) ≤ 536870912 := by
  refine Nat.le_trans h2 ?_
  have := Nat.mul_le_mul_right 32768 hp
  omega
 have h5 : dlen 536870912 = 1 := by
  have h6 : dlen 536870912 ≤ 1 := (dlen_le_iff _ _).2 (by decide)
  have h7 : 0 < dlen 536870912 := dlen_pos (by decide)
  omega
 have := dlen_mono h4
 omega
theorem sml_const (d : Nat) (lv : Int) (r : RawI) (n : Nat) (kid : Nat → RT d) (hl : lv ≤ 0 ∨ 4 < lv) (hv : r.val.natAbs ≤ 32768) : Sml (d + 1) (mkT d lv r n kid) := by
 have hp : 1 ≤ 4 ^ (d + 1) := Nat.one_le_pow _ _ (by omega)
 refine ⟨?_, fun A => ?_⟩
 rotate_left
 ·have h9 : 1 ≤ 9 ^ (d + 1) := Nat.one_le_pow _ _ (by omega)
  have h1 : dlen r.val.natAbs ≤ 1 := (dlen_le_iff _ _).2 (by omega)
  have h3 : 3 ≤ 9 ^ (d + 1) * (A + 3) := Nat.le_trans (by omega : 3 ≤ 1 * (A + 3)) (Nat.mul_le_mul_right _ h9)
  show (if lv ≤ 0 then _ else if 4 < lv then _ else _) ≤ _
  show (if lv ≤ 0 then dlen r.val.natAbs + 1 else _) ≤ _
  by_cases h0 : lv ≤ 0
  ·rw [if_pos h0]; omega
  ·rw [if_neg h0, if_pos (by omega)]; omega
 rcases hl with hl | hl
 ·have hT : terms (d + 1) (mkT d lv r n kid) = [(r.val, Mo.zero)] := terms_const hl
  refine ⟨by rw [hT]; exact hp, ?_, fun s hs k => ?_⟩
  ·rw [hT, nrm_one]
   have := Nat.mul_le_mul_right 32768 hp
   omega
  ·rw [hT] at hs
   simp only [List.mem_singleton] at hs
   subst hs
   show Mo.zero.get k ≤ _
   rw [get_zero]; omega
 ·have hT : terms (d + 1) (mkT d lv r n kid) = [] := by
   show (if lv ≤ 0 then _ else if 4 < lv then _ else _) = _
   rw [if_neg (by omega), if_pos hl]
  refine ⟨by rw [hT]; exact Nat.zero_le _, by rw [hT]; exact Nat.zero_le _, fun s hs k => by rw [hT] at hs; cases hs⟩
theorem nrm_poly_le (L n : Nat) (P : Nat → List Tm) (c : Nat) (h : ∀ i, i < n → nrm (P i) ≤ c) : nrm (poly L n P) ≤ n * c := by
 induction n with
 | zero => exact Nat.zero_le _
 | succ n ih =>
  rw [poly_succ, nrm_append, nrm_shift, Nat.add_mul, Nat.one_mul]
  have h1 := ih fun i hi => h i (by omega)
  have h2 := h n (by omega)
  omega
theorem sml_node (d : Nat) (lv : Int) (r : RawI) (n : Nat) (kid : Nat → RT d) (hl : 1 ≤ lv ∧ lv ≤ 4) (hn : n ≤ 4) (hk : ∀ i, i < n → Sml d (kid i)) : Sml (d + 1) (mkT d lv r n kid) := by
 have hT : terms (d + 1) (mkT d lv r n kid) = poly lv.toNat n (fun i => terms d (kid i)) := terms_node hl.1 hl.2
 have e : 4 ^ (d + 1) = 4 * 4 ^ d := by rw [Nat.pow_succ, Nat.mul_comm]
 refine ⟨?_, fun A => ?_⟩
 rotate_left
 ·show (if lv ≤ 0 then _ else if 4 < lv then _ else 1 + nsum (fun i => szE A d (kid i) + A + 1) n) ≤ _
  rw [if_neg (by omega), if_neg (by omega)]
  have h1 := nsum_le4 (fun i => szE A d (kid i) + A + 1) (9 ^ d * (A + 3) + A + 1) n hn fun i hi => by have := (hk i hi).2 A; show szE A d (kid i) + A + 1 ≤ _; omega
  have h2 : n * (9 ^ d * (A + 3) + A + 1) ≤ 4 * (9 ^ d * (A + 3) + A + 1) := Nat.mul_le_mul_right _ hn
  have h9 : 1 ≤ 9 ^ d := Nat.one_le_pow _ _ (by omega)
  have h3 : 1 * (A + 3) ≤ 9 ^ d * (A + 3) := Nat.mul_le_mul_right _ h9
  rw [Nat.pow_succ, Nat.mul_right_comm]
  omega
 replace hk := fun i hi => (hk i hi).1
 refine ⟨?_, ?_, fun s hs k => ?_⟩
 ·rw [hT, e]
  exact Nat.le_trans (poly_len _ _ _ (4 ^ d) fun i hi => (hk i hi).1) (Nat.mul_le_mul_right _ hn)
 ·rw [hT, e, Nat.mul_assoc]
  exact Nat.le_trans (nrm_poly_le _ _ _ (4 ^ d * 32768) fun i hi => (hk i hi).2.1) (Nat.mul_le_mul_right _ hn)
 ·rw [hT] at hs
  obtain ⟨i, hi, u, hu, rfl⟩ := poly_mem hs
  have := (hk i hi).2.2 u hu k
  show (Mo.add u.2 (xp lv.toNat (i : Int))).get k ≤ _
  rw [get_add, get_xp _ _ _ (by omega) (by omega)]
  split <;> omega
def SNode (g : Nat) (L C : Int) (w : World) : Prop := w.cell? ⟨g, 0, none⟩ = some (.int .i8 L) ∧ w.cell? ⟨g, 1, none⟩ = some (.int .i16 C)
theorem SNode.ext {g : Nat} {L C : Int} {w w' : World} (h : SNode g L C w) (he : Ext w w') : SNode g L C w' := by
 have hb := World.block_lt_of_cell? _ _ h.1
 exact ⟨by rw [he.cell hb]; exact h.1, by rw [he.cell hb]; exact h.2⟩
def BnS (M : Nat → Prop) (W : World) (lv C0 : Int) (s8 : Value) (wx : World) : Prop := ∃ g8 b2 a2 n2 p2, s8 = .pointer (some ⟨g8, 0, none⟩) ∧ W.heap.size ≤ g8 ∧ Blk wx g8 33 4 (arr #[.int .i64 lv, .bool b2, .slice a2 n2 p2, .slice none 0 0]) ∧ IntC (fun q => M q ∨ q = g8) wx (.bool b2) (.slice a2 n2 p2) C0 ∧ Ext W wx
def MQ (M : Nat → Prop) (w : World) (g8 : Nat) (cv : Value) : Nat → Prop := fun q => Mx M w.heap.size (w.heap.size + 2) q ∨ q = g8 ∨ cv.ownBlock = some q
end Go.Proofs.YtjcceddloogiiaaGreat

namespace Go.Proofs.YtjcceddloogiiaaGreat
open Go.RowKit

def BT (M : Nat → Prop) (w : World) (x : PE) (l : List Tm) : Prop := ∃ t : RT 7, RR M w 7 t (.int .i64 x.lv) (.bool x.b) (.slice x.a x.n x.p) (.slice x.ka x.kn x.kp) ∧ Sml 7 t ∧ terms 7 t = l
section
variable {M M' : Nat → Prop} {w w' : World} {x : PE} {l : List Tm}
theorem BT.ext (h : BT M w x l) (he : Ext w w') : BT M w' x l := by
 obtain ⟨t, h1, h2⟩ := h; exact ⟨t, RR.ext h1 he, h2⟩
theorem BT.pi (h : BT M w x l) : PI M w x l := by
 obtain ⟨t, h1, h2, h3⟩ := h; exact ⟨7, t, h1, .inr (h2.tb (Nat.le_refl _)), by rw [h3]; exact Sim.refl _⟩
theorem BT.nrm (h : BT M w x l) : dlen (nrm l) ≤ 1 := by
 obtain ⟨t, _, h2, h3⟩ := h
 have h4 := h2.1.2.1
 rw [h3] at h4
 have : 4 ^ 7 = 16384 := by decide
 exact (dlen_le_iff _ _).2 (by omega)
theorem BT.nn (h : BT M w x l) : ∀ m : Mo, m.nn = false → coefAt l m = 0 := by
 obtain ⟨t, _, h2, h3⟩ := h
 intro m hm
 refine coefAt_zero fun s hs e => ?_
 have := terms_nn 7 t s (by rw [h3]; exact hs)
 rw [e, hm] at this; cases this
end
end Go.Proofs.YtjcceddloogiiaaGreat

namespace Go.Proofs.YtjcceddloogiiaaGreat
open Go.RowKit

section
variable {P : Program} {ops : Array Oper} {Q : Exit → Act → World → Prop} {md : Region.Mode} {S : World → Prop} {last : Nat}
end
section
variable {l m : List Tm} {W0 w w' : World} {o7 o8 : Option Nat} {ra rb : Option PE} {x y : PE}
end
end Go.Proofs.YtjcceddloogiiaaGreat

namespace Go.Proofs.YtjcceddloogiiaaGreat
open Go.RowKit

end Go.Proofs.YtjcceddloogiiaaGreat
