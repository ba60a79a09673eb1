/- the small functions of cylinderlaw24; plain facts of PseudoExact. PseudoExact: the walk. -/
import Derived.Test.YtpclggidcmmemaaGreatBj
import Derived.Test.YtpclggidcmmemaaGreatMr
set_option linter.unusedVariables false
set_option linter.unusedSimpArgs false

namespace Go.Proofs.YtpclggidcmmemaaGreat
open Go.RowKit

theorem law_few24 (a : Option Addr) (n cap : Nat) (X : Nat → TE) (T E : Nat) (w : World) (h : TRaw w a n cap X) (hX : ∀ i, i < n → (X i).n ≤ 9223372036854775807) : Calls Tryz.prog 8 #[.slice a n cap, .int .i64 (T : Int), .int .i64 (E : Int)] w (RetB (FewP n X T 4 E) w) := by
 have ctr := rf_fewp a n cap X T 4 E w h hX
 rw [show ((4 : Nat) : Int) = 4 from rfl] at ctr
 have CTR := Lib.hid ctr
 clear ctr h hX
 go_enter Tryz.func8, Tryz.ntmps8
 go_wp2_with (fail)
 refine CTR.out.mono ?_
 rintro e w1 ⟨b, rfl, hb, rfl⟩
 have HB := Lib.hid hb
 clear hb
 go_wp2
 go_ret
 exact ⟨b, rfl, HB.out, rfl⟩
theorem OkB.less {C L B B' : Nat} (h : OkB C L B') (hB : B ≤ B') : OkB C L B := h.mono hB
theorem ex_prod {M : Nat → Prop} {w w' : World} {e : Ending} {A : Nat} {p r : List Tm} (hp : NN p) (hr : NN r) (h : RetQ M w (pmul p r) r A e w') :
  ∃ (v : PE) (er : Int), e = .returned (.tuple #[.agg (peA v), .int .i64 er]) ∧ ((er = 2 ∧ Sim r [] ∧ v = PE.z) ∨ (er = 0 ∧ ¬ Sim r [] ∧ CRx M w' 4 v p)) ∧ Ext w w' := by
 obtain ⟨v, er, h1, h2, h3⟩ := h
 refine ⟨v, er, h1, ?_, h3⟩
 rcases h2 with h4 | ⟨rfl, hz, q, q1, q2, _⟩ | ⟨_, _, _, h4⟩
 ·exact .inl h4
 ·exact .inr ⟨rfl, hz, q1.sim (cancel q1.nn hp hr hz q2)⟩
 ·exact absurd ⟨p, hp, Sim.refl _⟩ h4
end Go.Proofs.YtpclggidcmmemaaGreat

namespace Go.Proofs.YtpclggidcmmemaaGreat
open Go.RowKit

def EP (M : Nat → Prop) (w : World) (r p : List Tm) (er : Int) (v : PE) : Prop := (er = 2 ∧ Sim r [] ∧ v = PE.z) ∨ (er = 0 ∧ ¬ Sim r [] ∧ CRx M w 4 v p)
theorem EP.ext {M : Nat → Prop} {w w' : World} {r p : List Tm} {er : Int} {v : PE} (h : EP M w r p er v) (he : Ext w w') : EP M w' r p er v := h.imp id fun ⟨a, b, c⟩ => ⟨a, b, c.ext he⟩
theorem EP.kp {M : Nat → Prop} {w w' : World} {r p : List Tm} {er : Int} {v : PE} (h : EP M w r p er v) (he : Kp M w w') : EP M w' r p er v := h.imp id fun ⟨a, b, c⟩ => ⟨a, b, c.kp he⟩
theorem EP.more {M M' : Nat → Prop} {w : World} {r p : List Tm} {er : Int} {v : PE} (h : EP M w r p er v) (hm : ∀ g, M' g → M g ∨ w.heap.size ≤ g) : EP M' w r p er v := h.imp id fun ⟨a, b, c⟩ => ⟨a, b, c.more hm⟩
end Go.Proofs.YtpclggidcmmemaaGreat
