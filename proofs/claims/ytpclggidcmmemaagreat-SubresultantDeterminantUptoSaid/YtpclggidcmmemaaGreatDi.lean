/- Plain facts: degrees, leading coefficients and levels of products; the small functions of cylinderlaw23. MainvarProduct: the walk. -/
import Derived.Test.YtpclggidcmmemaaGreatDh
import Derived.Test.YtpclggidcmmemaaGreatMt
set_option linter.unusedVariables false
set_option linter.unusedSimpArgs false

namespace Go.Proofs.YtpclggidcmmemaaGreat
open Go.RowKit

theorem dgr_att {k n : Nat} {l : List Tm} (hl : NN l) (hz : ¬ Sim l []) (h : DgR k l n) : ∃ m, coefAt l m ≠ 0 ∧ m.get k = n := by
 rcases h.2 with h0 | h0
 ·obtain ⟨m, hm⟩ := not_sim_nil hz
  refine ⟨m, hm, ?_⟩
  have h1 := h.1 m hm
  have h2 : m.nn = true := by
   cases hc : m.nn with
   | true => rfl
   | false => exact absurd (hl m hc) hm
  have h3 := nn_get h2 k
  omega
 ·exact h0
theorem dgr_uniq {k a b : Nat} {l : List Tm} (hl : NN l) (hz : ¬ Sim l []) (ha : DgR k l a) (hb : DgR k l b) : a = b := by
 obtain ⟨m, h1, h2⟩ := dgr_att hl hz ha
 obtain ⟨m', h3, h4⟩ := dgr_att hl hz hb
 have e1 := hb.1 m h1
 have e2 := ha.1 m' h3
 omega
end Go.Proofs.YtpclggidcmmemaaGreat

namespace Go.Proofs.YtpclggidcmmemaaGreat
open Go.RowKit

def SP3 (a b c : Nat) (x y m : PE) (w : World) : Prop := P4 w a x ∧ P4 w b y ∧ P4 w c m
theorem SP3.ext {a b c : Nat} {x y m : PE} {w w' : World} (h : SP3 a b c x y m w) (he : Ext w w') : SP3 a b c x y m w' := ⟨h.1.ext he, h.2.1.ext he, h.2.2.ext he⟩
theorem LeadR.nn {l s : List Tm} {L : Int} (h : LeadR l L s) (hl : NN l) : NN s := by
 rcases h with ⟨_, rfl⟩ | ⟨_, _, rfl⟩ | ⟨_, K, n, rfl, k1, k4, _, rfl⟩
 ·exact fun _ _ => rfl
 ·exact hl
 ·exact ck_nn k1 k4 hl
end Go.Proofs.YtpclggidcmmemaaGreat
