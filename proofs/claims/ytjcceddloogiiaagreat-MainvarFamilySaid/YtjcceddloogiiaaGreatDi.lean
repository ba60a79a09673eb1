/- Plain facts: degrees, leading coefficients and levels of products; the small functions of cylinderlaw23. MainvarProduct: the walk. -/
import Derived.Test.YtjcceddloogiiaaGreatDh
import Derived.Test.YtjcceddloogiiaaGreatMs
set_option linter.unusedVariables false
set_option linter.unusedSimpArgs false

namespace Go.Proofs.YtjcceddloogiiaaGreat
open Go.RowKit

theorem dgr_att {k n : Nat} {l : List Tm} (hl : NN l) (hz : ¬ Sim l []) (h : DgR k l n) : ∃ m, coefAt l m ≠ 0 ∧ m.get k = n := by
 rcases h.2 with h0 | h0
 ·obtain ⟨m, hm⟩ := not_sim_nil hz
  refine ⟨m, hm, ?_⟩
  have h1 := h.1 m hm
  have h2 : m.nn = true := by
   cases hc : m.nn with
   | true => rfl
   | false => exact absurd (hl m hc) hm
  have h3 := nn_get h2 k
  omega
 ·exact h0
theorem dgr_uniq {k a b : Nat} {l : List Tm} (hl : NN l) (hz : ¬ Sim l []) (ha : DgR k l a) (hb : DgR k l b) : a = b := by
 obtain ⟨m, h1, h2⟩ := dgr_att hl hz ha
 obtain ⟨m', h3, h4⟩ := dgr_att hl hz hb
 have e1 := hb.1 m h1
 have e2 := ha.1 m' h3
 omega
theorem nn_nrm (l : List Tm) : NN (norm l) := nn_of_all (all_nn_norm l)
def Occ (l : List Tm) (j : Nat) : Prop := ∃ m, coefAt l m ≠ 0 ∧ 0 < m.get j
theorem LvR.no {l : List Tm} {k j : Nat} (h : LvR l k) (hj : k < j) (h4 : j ≤ 4) : ¬ Occ l j := fun ⟨m, hm, hp⟩ => by have := h.2.1 m hm j hj h4; omega
theorem law_few23 (a : Option Addr) (n cap : Nat) (X : Nat → TE) (w : World) (h : TRaw w a n cap X) (hX : ∀ i, i < n → (X i).n ≤ 9223372036854775807) : Calls Tryz.prog 85 #[.slice a n cap] w (RetB (FewP n X 8 6 6) w) := by
 have ctr := rf_fewp a n cap X 8 6 6 w h hX
 rw [show ((8 : Nat) : Int) = 8 from rfl, show ((6 : Nat) : Int) = 6 from rfl] at ctr
 have CTR := Lib.hid ctr
 clear ctr h hX
 go_enter Tryz.func85, Tryz.ntmps85
 go_wp2_with (fail)
 refine CTR.out.mono ?_
 rintro e w1 ⟨b, rfl, hb, rfl⟩
 have HB := Lib.hid hb
 clear hb
 go_wp2
 go_ret
 exact ⟨b, rfl, HB.out, rfl⟩
structure Sm23 (f : List Tm) : Prop where
 nn : NN f
 deg : Deg 6 f
 dl : dlen (nrm f) ≤ 7
theorem PRaw.sm23 {w : World} {a : Option Addr} {n cap : Nat} {X : Nat → TE} (h : PRaw w a n cap X) (hf : FewP n X 8 6 6) : ∃ l, PolyV M0 w (.slice a n cap) l ∧ Sm23 (norm l) ∧ dlen (nrm l) ≤ 7 ∧ (∀ s ∈ l, ∀ k, s.2.get k ≤ 1073741824) ∧ l.length ≤ 8 := by
 obtain ⟨l, h1, h2, h3, h4⟩ := h.poly hf (by omega) (by omega)
 refine ⟨l, h1, ⟨nn_nrm l, deg_of_exp fun s hs k => ?_, Nat.le_trans (dlen_mono (norm_nrm l)) h3⟩, h3, fun s hs k => ?_, h2⟩
 ·have := (h4 s hs k).1; omega
 ·have := (h4 s hs k).1; omega
end Go.Proofs.YtjcceddloogiiaaGreat

namespace Go.Proofs.YtjcceddloogiiaaGreat
open Go.RowKit

def SP3 (a b c : Nat) (x y m : PE) (w : World) : Prop := P4 w a x ∧ P4 w b y ∧ P4 w c m
theorem SP3.ext {a b c : Nat} {x y m : PE} {w w' : World} (h : SP3 a b c x y m w) (he : Ext w w') : SP3 a b c x y m w' := ⟨h.1.ext he, h.2.1.ext he, h.2.2.ext he⟩
theorem LeadR.nn {l s : List Tm} {L : Int} (h : LeadR l L s) (hl : NN l) : NN s := by
 rcases h with ⟨_, rfl⟩ | ⟨_, _, rfl⟩ | ⟨_, K, n, rfl, k1, k4, _, rfl⟩
 ·exact fun _ _ => rfl
 ·exact hl
 ·exact ck_nn k1 k4 hl
end Go.Proofs.YtjcceddloogiiaaGreat
