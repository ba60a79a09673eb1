/- the small functions of cylinderlaw24; plain facts of PseudoExact. PseudoExact: the walk. -/
import Derived.Test.YtjcceddloogiiaaGreatBj
import Derived.Test.YtjcceddloogiiaaGreatMr
set_option linter.unusedVariables false
set_option linter.unusedSimpArgs false

namespace Go.Proofs.YtjcceddloogiiaaGreat
open Go.RowKit

theorem law_few24 (a : Option Addr) (n cap : Nat) (X : Nat → TE) (T E : Nat) (w : World) (h : TRaw w a n cap X) (hX : ∀ i, i < n → (X i).n ≤ 9223372036854775807) : Calls Tryz.prog 48 #[.slice a n cap, .int .i64 (T : Int), .int .i64 (E : Int)] w (RetB (FewP n X T 4 E) w) := by
 have ctr := rf_fewp a n cap X T 4 E w h hX
 rw [show ((4 : Nat) : Int) = 4 from rfl] at ctr
 have CTR := Lib.hid ctr
 clear ctr h hX
 go_enter Tryz.func48, Tryz.ntmps48
 go_wp2_with (fail)
 refine CTR.out.mono ?_
 rintro e w1 ⟨b, rfl, hb, rfl⟩
 have HB := Lib.hid hb
 clear hb
 go_wp2
 go_ret
 exact ⟨b, rfl, HB.out, rfl⟩
theorem law_canonical24 (M : Nat → Prop) (l : List Tm) (x : PE) (w : World) (h : CRx M w 4 x l) : Calls Tryz.prog 59 #[.agg (peA x)] w fun e w' => e = .returned (.bool true) ∧ Ext w w' := by
 have hEa := (Ext.refl w).alloc (.cells (peA x) 33)
 have CTR := Lib.hid (fun W he => rf_canonical 4 M l x 5 W (h.ext he) (by have := h.lev; omega))
 clear h
 go_enter Tryz.func59, Tryz.ntmps59
 go_wp2_with (fail)
 refine (CTR.out _ ?h1).mono ?_
 case h1 => first | exact hEa | exact Ext.refl w
 rintro e w1 ⟨rfl, he1⟩
 have HF := Lib.hid he1
 go_wp2
 go_ret
 first | exact ⟨rfl, hEa.trans HF.out⟩ | exact ⟨rfl, HF.out⟩
theorem snorm_ne {r : List Tm} (hr : NN r) (h : ¬ Sim r []) : ¬ Sim (snorm r) [] := fun hh => h ((nn_norm_sim hr).symm.trans (by
 have h1 : Sim (smul (sgnN (norm r)) (snorm r)) (smul (sgnN (norm r)) []) := fun m => by rw [coefAt_smul, coefAt_smul, hh m]
 rw [smul_snorm] at h1
 exact h1))
end Go.Proofs.YtjcceddloogiiaaGreat

namespace Go.Proofs.YtjcceddloogiiaaGreat
open Go.RowKit

theorem snorm_deg {l : List Tm} {B : Nat} (hl : NN l) (hz : ¬ Sim l []) (h : Deg B l) : Deg B (snorm l) := fun m hm k => by
 refine h m (fun h0 => ?_) k
 have h1 : coefAt (norm l) m = 0 := by rw [nn_norm_sim hl m]; exact h0
 rw [← smul_snorm l, coefAt_smul] at h1
 rcases Int.mul_eq_zero.1 h1 with h2 | h2
 ·refine hz ((nn_norm_sim hl).symm.trans fun m => ?_)
  rw [← smul_snorm l, coefAt_smul, h2, Int.zero_mul]; rfl
 ·exact hm h2
end Go.Proofs.YtjcceddloogiiaaGreat
