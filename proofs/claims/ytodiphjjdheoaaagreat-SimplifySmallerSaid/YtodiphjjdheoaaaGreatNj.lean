/- Arguments of the types int8 and [4]int16, opened. Plain facts: values of lists with the same coefficients; relations as sets of signs. cylinderref38.Normal of an atom; cylinderref39.simple, IsSimple of constants and atoms; Integers. Rules for drawn regions: an operation that is not wanted; cylinderref39.Integers. The law SimplifyAtoms returns true at every input, without a panic; no conditions. -/
import Derived.Test.YtodiphjjdheoaaaGreatNi
set_option linter.unusedVariables false
set_option linter.unusedSimpArgs false

namespace Go.Proofs.YtodiphjjdheoaaaGreat
open Go.ChangeShapes Go.WideShapes Go.ChangeAt Go.RowKit Go.Deep

section
variable {H : Type} {enc : TypeId × Value → H} {W : World}
end
end Go.Proofs.YtodiphjjdheoaaaGreat

namespace Go.Proofs.YtodiphjjdheoaaaGreat
open Go.RowKit

theorem rl_range (r : Int) : (1 ≤ (rl (sg r)).1 ∧ (rl (sg r)).1 ≤ 6) ∧ (1 ≤ (rl (opp (sg r))).1 ∧ (rl (opp (sg r))).1 ≤ 6) := by
 rcases sg_cases r with h | h | h | h | h | h <;> rw [h] <;> decide
def arel (h r : Int) : Int := (rl (if h < 0 then opp (sg r) else sg r)).1
theorem arel_range (h r : Int) : 1 ≤ arel h r ∧ arel h r ≤ 6 := by
 unfold arel
 split
 ·exact (rl_range r).2
 ·exact (rl_range r).1
theorem room_dl {t : RT 6} {n : Int} (h : SmT (4294967296 ^ 4) 6 t n) (hn : n ≤ 60) : TB 6 t ∧ dlen (nrm (terms 6 t)) ≤ 5 ∧ (∀ s ∈ terms 6 t, ∀ k, s.2.get k ≤ 66) := by
 obtain ⟨h1, h2, h3⟩ := h
 have hd : dlen (nrm (terms 6 t)) ≤ 5 := by
  rw [dlen_le_iff]
  have e4 : (4294967296 : Nat) ^ 4 = 340282366920938463463374607431768211456 := by decide
  have e5 : (4294967296 : Nat) ^ 5 = 1461501637330902918203684832716283019655932542976 := by decide
  rw [e4] at h2
  rw [e5]
  omega
 refine ⟨⟨by omega, by omega, by omega, fun s hs k => ?_⟩, hd, fun s hs k => ?_⟩
 ·have := h3 s hs k; omega
 ·have := h3 s hs k; omega
theorem deg_of_mem {B : Nat} {l : List Tm} (h : ∀ s ∈ l, ∀ k, s.2.get k ≤ B) : Deg B l := fun m hm k => by
 obtain ⟨s, hs, rfl⟩ : ∃ s ∈ l, s.2 = m := Classical.byContradiction fun hc => hm (coefAt_zero fun t ht e => hc ⟨t, ht, e⟩)
 exact h s hs k
theorem CRx.small {M : Nat → Prop} {w : World} {y : PE} {l r : List Tm} (h : CRx M w 4 y l) (hn : nrm l ≤ nrm r) (hL : dlen (nrm r) ≤ 5) (hD : Deg 66 l) : ∃ t : RT 5, RR M w 5 t (.int .i64 y.lv) (.bool y.b) (.slice y.a y.n y.p) (.slice y.ka y.kn y.kp) ∧ Sim (terms 5 t) l ∧ 2 * szE 2 5 t + 2 + 4 ≤ 1099511627776 := by
 obtain ⟨t, h1, h2, h3, h4⟩ := h
 refine ⟨t, h1, h4, ?_⟩
 have h5 := can_szE 2 66 5 5 t h2 h1.ok (sim_deg h4 hD) (Nat.le_trans (dlen_mono (Nat.le_trans (can_nrm h2 h4) hn)) hL)
 have h6 : (Go.Proofs.YtodiphjjdheoaaaGreat.lev 5 t).toNat ≤ 4 := by
  have := can_lev h2
  show t.1.toNat ≤ 4; omega
 have h7 := szB_mono 2 66 5 h6
 have h8 : szB 2 66 5 4 = 182581366 := by decide
 omega
end Go.Proofs.YtodiphjjdheoaaaGreat

namespace Go.Proofs.YtodiphjjdheoaaaGreat
open Go.RowKit

theorem box77 {M : Nat → Prop} {w : World} (hM : Mb M w) (A : Array Value) (hA : A.size = 7) : Ext w ((w.alloc (.cells A 32)).alloc (.cells mzA 32)) ∧ Blk ((w.alloc (.cells A 32)).alloc (.cells mzA 32)) w.heap.size 32 7 (arr A) ∧
  Blk ((w.alloc (.cells A 32)).alloc (.cells mzA 32)) (w.heap.size + 1) 32 7 (arr mzA) ∧ Mb (Mx M w.heap.size (w.heap.size + 2)) ((w.alloc (.cells A 32)).alloc (.cells mzA 32)) := by
 have h1 := Blk.of_arr (w.alloc (.cells A 32)) mzA 32 7 rfl
 simp only [World.size_alloc] at h1
 exact ⟨((Ext.refl w).alloc _).alloc _, (Blk.of_arr w A 32 7 hA).alloc _, h1, Mx.mb hM (by simp; omega) (by simp)⟩
def My7 (g : Nat) (r : Int) (x : PE) (w : World) : Prop := Mx7 g r x w ∧ w.cell? ⟨g, 6, none⟩ = some (.slice none 0 0)
theorem My7.ext {g : Nat} {r : Int} {x : PE} {w w' : World} (h : My7 g r x w) (he : Ext w w') : My7 g r x w' := by
 have hb := World.block_lt_of_cell? _ _ h.2
 exact ⟨h.1.ext he, by rw [he.cell hb]; exact h.2⟩
end Go.Proofs.YtodiphjjdheoaaaGreat

namespace Go.Proofs.YtodiphjjdheoaaaGreat
open Go.RowKit

section
variable {P : Program} {ops : Array Oper} {Q : Exit → Act → World → Prop} {md : Region.Mode} {S : World → Prop} {last : Nat}
end
end Go.Proofs.YtodiphjjdheoaaaGreat

namespace Go.Proofs.YtodiphjjdheoaaaGreat
open Go.RowKit

def C7 (g : Nat) (v0 v1 v2 v3 v4 v5 v6 : Value) (w : World) : Prop := w.cell? ⟨g, 0, none⟩ = some v0 ∧ w.cell? ⟨g, 1, none⟩ = some v1 ∧ w.cell? ⟨g, 2, none⟩ = some v2 ∧ w.cell? ⟨g, 3, none⟩ = some v3 ∧ w.cell? ⟨g, 4, none⟩ = some v4 ∧ w.cell? ⟨g, 5, none⟩ = some v5 ∧ w.cell? ⟨g, 6, none⟩ = some v6
theorem C7.ext {g : Nat} {v0 v1 v2 v3 v4 v5 v6 : Value} {w w' : World} (h : C7 g v0 v1 v2 v3 v4 v5 v6 w) (he : Ext w w') : C7 g v0 v1 v2 v3 v4 v5 v6 w' := by
 have hb := World.block_lt_of_cell? _ _ h.1
 unfold C7
 rw [he.cell hb, he.cell hb, he.cell hb, he.cell hb, he.cell hb, he.cell hb, he.cell hb]; exact h
def CQ (g : Nat) (y : Nat → Int) (w : World) : Prop := w.cell? ⟨g, 0, none⟩ = some (.int .i16 (y 0)) ∧ w.cell? ⟨g, 1, none⟩ = some (.int .i16 (y 1)) ∧ w.cell? ⟨g, 2, none⟩ = some (.int .i16 (y 2)) ∧ w.cell? ⟨g, 3, none⟩ = some (.int .i16 (y 3))
theorem CQ.ext {g : Nat} {y : Nat → Int} {w w' : World} (h : CQ g y w) (he : Ext w w') : CQ g y w' := by
 have hb := World.block_lt_of_cell? _ _ h.1
 unfold CQ
 rw [he.cell hb, he.cell hb, he.cell hb, he.cell hb]; exact h
def SS2 (J G : Nat) (v0 v1 v2 v3 v4 v5 v6 : Value) (r : Int) (x : PE) (w : World) : Prop := C7 J v0 v1 v2 v3 v4 v5 v6 w ∧ C7 G (.int .i64 2) (.int .i64 r) (.int .i64 x.lv) (.bool x.b) (.slice x.a x.n x.p) (.slice x.ka x.kn x.kp) (.slice none 0 0) w
theorem SS2.ext {J G : Nat} {v0 v1 v2 v3 v4 v5 v6 : Value} {r : Int} {x : PE} {w w' : World} (h : SS2 J G v0 v1 v2 v3 v4 v5 v6 r x w) (he : Ext w w') : SS2 J G v0 v1 v2 v3 v4 v5 v6 r x w' := ⟨h.1.ext he, h.2.ext he⟩
def SS1 (J P : Nat) (r : Int) (y x : PE) (w : World) : Prop := C7 J (.int .i64 2) (.int .i64 r) (.int .i64 y.lv) (.bool y.b) (.slice y.a y.n y.p) (.slice y.ka y.kn y.kp) (.slice none 0 0) w ∧ P4 w P x
theorem SS1.ext {J P : Nat} {r : Int} {y x : PE} {w w' : World} (h : SS1 J P r y x w) (he : Ext w w') : SS1 J P r y x w' := ⟨h.1.ext he, h.2.ext he⟩
def SR2 (J G : Nat) (r r' : Int) (w : World) : Prop := w.cell? ⟨J, 1, none⟩ = some (.int .i64 r) ∧ w.cell? ⟨G, 1, none⟩ = some (.int .i64 r')
theorem SR2.ext {J G : Nat} {r r' : Int} {w w' : World} (h : SR2 J G r r' w) (he : Ext w w') : SR2 J G r r' w' := by
 have b1 := World.block_lt_of_cell? _ _ h.1
 have b2 := World.block_lt_of_cell? _ _ h.2
 exact ⟨by rw [he.cell b1]; exact h.1, by rw [he.cell b2]; exact h.2⟩
end Go.Proofs.YtodiphjjdheoaaaGreat
