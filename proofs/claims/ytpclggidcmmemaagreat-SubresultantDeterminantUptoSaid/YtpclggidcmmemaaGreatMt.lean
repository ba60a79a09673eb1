/- The level of a canonical polynomial is that of its monomials. The law RecpolyOf returns true at every input, without a panic, and leaves its arguments as they were; no conditions. sparse: IsZero, Const; recpoly.Constant; cylinderref20: Valid, CompareMono. cylinderref20: CompareMono, Canonical. cylinderref20.Canonical at canonical polynomials. recpoly.Constant. The law RecpolyTo returns true at every input, without a panic, and leaves its arguments as they were; no conditions. -/
import Derived.Test.YtpclggidcmmemaaGreatMp
import Derived.Test.YtpclggidcmmemaaGreatMr
import Derived.Test.YtpclggidcmmemaaGreatMi
import Derived.Test.YtpclggidcmmemaaGreatMn
set_option linter.unusedVariables false
set_option linter.unusedSimpArgs false

namespace Go.Proofs.YtpclggidcmmemaaGreat
open Go.RowKit

theorem can_top {d : Nat} {t : RT (d + 1)} (h : isCan (d + 1) t = true) (ho : okT (d + 1) t) (hl : t.1 ≠ 0) : ∃ m, coefAt (terms (d + 1) t) m ≠ 0 ∧ 0 < m.get t.1.toNat := by
 obtain ⟨g1, g2, g3, g4, g5, g6⟩ := can_node h hl
 rw [terms_node g1.1 g1.2]
 have hlow : ∀ i, i < t.2.2.1 → Low (t.1.toNat - 1) (terms d (t.2.2.2 i)) := fun i hi => kid_low h hl i hi
 obtain ⟨m, hm⟩ := can_zero _ _ (g5 (t.2.2.1 - 1) (by omega)).2 (ho.2 _ (by omega)) g6
 have hm0 : m.get t.1.toNat = 0 := Classical.byContradiction fun hc => hm ((hlow _ (by omega)).coef (k := t.1.toNat) (by omega) (by omega) hc)
 refine ⟨Mo.add m (xp t.1.toNat ((t.2.2.1 - 1 : Nat) : Int)), ?_, ?_⟩
 ·rw [coef_kid (by omega) (by omega) hlow _ (by omega) m hm0]; exact hm
 ·rw [get_add, get_xp _ _ _ (by omega) (by omega), if_pos rfl, hm0]; omega
theorem coefAt_of_mem : ∀ {l : List Tm}, Canon l → ∀ {s : Tm}, s ∈ l → coefAt l s.2 = s.1
 | t :: l, h, s, hs => by
  rcases List.mem_cons.1 hs with rfl | hs
  ·exact h.coef_head
  ·have h1 := coefAt_of_mem h.tail hs
   have h2 := Mo.lt_ne (h.head s hs)
   simp only [coefAt]
   rw [if_neg (fun e => h2 e.symm), h1]; omega
end Go.Proofs.YtpclggidcmmemaaGreat

namespace Go.Proofs.YtpclggidcmmemaaGreat
open Go.ChangeShapes Go.WideShapes Go.ChangeAt Go.RowKit Go.Deep

theorem deg_of_exp {l : List Tm} {B : Nat} (h : ∀ s ∈ l, ∀ k, s.2.get k ≤ (B : Int)) : Deg B (norm l) := by
 intro m hm k
 refine Classical.byContradiction fun hc => hm (coefAt_zero fun s hs e => ?_)
 obtain ⟨t, ht, e2⟩ := norm_mem hs
 have := h t ht k
 rw [e2, e] at this
 omega
namespace recpolyOf
end recpolyOf
end Go.Proofs.YtpclggidcmmemaaGreat

namespace Go.Proofs.YtpclggidcmmemaaGreat
open Go.RowKit

def constL (c : Int) : List Tm := if c = 0 then [] else [(c, Mo.zero)]
end Go.Proofs.YtpclggidcmmemaaGreat

namespace Go.Proofs.YtpclggidcmmemaaGreat
open Go.RowKit

end Go.Proofs.YtpclggidcmmemaaGreat

namespace Go.Proofs.YtpclggidcmmemaaGreat
open Go.RowKit

def SCn (b o1 o2 : Nat) (m m' : Mo) (w : World) : Prop := (w.cell? ⟨b, o1, none⟩ = some (.int .i64 m.a) ∧ w.cell? ⟨b, o1 + 1, none⟩ = some (.int .i64 m.b) ∧ w.cell? ⟨b, o1 + 2, none⟩ = some (.int .i64 m.c) ∧ w.cell? ⟨b, o1 + 3, none⟩ = some (.int .i64 m.d)) ∧
 (w.cell? ⟨b, o2, none⟩ = some (.int .i64 m'.a) ∧ w.cell? ⟨b, o2 + 1, none⟩ = some (.int .i64 m'.b) ∧ w.cell? ⟨b, o2 + 2, none⟩ = some (.int .i64 m'.c) ∧ w.cell? ⟨b, o2 + 3, none⟩ = some (.int .i64 m'.d))
theorem SCn.ext {b o1 o2 : Nat} {m m' : Mo} {w w' : World} (h : SCn b o1 o2 m m' w) (he : Ext w w') : SCn b o1 o2 m m' w' := by
 have h1 := World.block_lt_of_cell? _ _ h.1.1
 unfold SCn; rw [he.cell h1, he.cell h1, he.cell h1, he.cell h1, he.cell h1, he.cell h1, he.cell h1, he.cell h1]; exact h
end Go.Proofs.YtpclggidcmmemaaGreat

namespace Go.Proofs.YtpclggidcmmemaaGreat
open Go.RowKit

theorem CRx.notConst {M : Nat → Prop} {w : World} {x : PE} {l : List Tm} (h : CRx M w 4 x l) (h0 : x.lv ≠ 0) : ∃ m k, coefAt l m ≠ 0 ∧ 1 ≤ k ∧ k ≤ 4 ∧ 0 < m.get k := by
 obtain ⟨t, h1, h2, h3, h4⟩ := h
 obtain ⟨e0, _⟩ := h1.form
 simp only [Value.int.injEq, true_and] at e0
 have hlv := can_lev h2
 obtain ⟨m, hm, hp⟩ := can_top h2 h1.ok (by rw [← e0]; exact h0)
 exact ⟨m, t.1.toNat, by rw [← h4]; exact hm, by rw [e0] at h0; omega, by omega, hp⟩
theorem CRx.const {M : Nat → Prop} {w : World} {x : PE} {l : List Tm} (h : CRx M w 4 x l) (h0 : x.lv = 0) : ∃ z, IntV M w (.bool x.b) (.slice x.a x.n x.p) z ∧ Sim l [(z, Mo.zero)] := by
 obtain ⟨t, h1, h2, h3, h4⟩ := h
 obtain ⟨e0, _⟩ := h1.form
 simp only [Value.int.injEq, true_and] at e0
 have ht : t.1 ≤ 0 := by omega
 rw [terms_const ht] at h4
 have h5 : IntR M w (.bool x.b) (.slice x.a x.n x.p) t.2.1 := h1.2.2.1
 exact ⟨t.2.1.val, ⟨t.2.1.neg, nv t.2.1.dg t.2.1.n, h5.1, ⟨_, _, h5.2, rfl⟩, rfl⟩, h4.symm⟩
end Go.Proofs.YtpclggidcmmemaaGreat

namespace Go.Proofs.YtpclggidcmmemaaGreat
open Go.ChangeShapes Go.WideShapes Go.ChangeAt Go.RowKit Go.Deep

theorem PolyO.ext {M : Nat → Prop} {B : Nat} {w w' : World} {v : Value} {l : List Tm} (h : PolyO M B w v l) (he : Ext w w') : PolyO M B w' v l := by
 obtain ⟨n, z, x, h1, h2, h3⟩ := h
 exact ⟨n, z, x, h1.ext he, fun i hi => (h2 i hi).ext he, h3⟩
namespace recpolyTo
end recpolyTo
end Go.Proofs.YtpclggidcmmemaaGreat
