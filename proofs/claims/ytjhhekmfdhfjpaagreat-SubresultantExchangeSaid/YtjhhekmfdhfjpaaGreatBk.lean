/- the small functions of cylinderlaw24; plain facts of PseudoExact. PseudoExact: the walk. -/
import Derived.Test.YtjhhekmfdhfjpaaGreatBj
import Derived.Test.YtjhhekmfdhfjpaaGreatMr
set_option linter.unusedVariables false
set_option linter.unusedSimpArgs false

namespace Go.Proofs.YtjhhekmfdhfjpaaGreat
open Go.RowKit

theorem law_few24 (a : Option Addr) (n cap : Nat) (X : Nat → TE) (T E : Nat) (w : World) (h : TRaw w a n cap X) (hX : ∀ i, i < n → (X i).n ≤ 9223372036854775807) : Calls Tryz.prog 9 #[.slice a n cap, .int .i64 (T : Int), .int .i64 (E : Int)] w (RetB (FewP n X T 4 E) w) := by
 have ctr := rf_fewp a n cap X T 4 E w h hX
 rw [show ((4 : Nat) : Int) = 4 from rfl] at ctr
 have CTR := Lib.hid ctr
 clear ctr h hX
 go_enter Tryz.func9, Tryz.ntmps9
 go_wp2_with (fail)
 refine CTR.out.mono ?_
 rintro e w1 ⟨b, rfl, hb, rfl⟩
 have HB := Lib.hid hb
 clear hb
 go_wp2
 go_ret
 exact ⟨b, rfl, HB.out, rfl⟩


end Go.Proofs.YtjhhekmfdhfjpaaGreat
