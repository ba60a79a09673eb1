/- pseudo.exact. pseudo.refuse of one polynomial. pseudo.Exact. pseudo.Divides. -/
import Derived.Test.YtpclggidcmmemaaGreatBe
set_option linter.unusedVariables false
set_option linter.unusedSimpArgs false

namespace Go.Proofs.YtpclggidcmmemaaGreat
open Go.RowKit

end Go.Proofs.YtpclggidcmmemaaGreat

namespace Go.Proofs.YtpclggidcmmemaaGreat
open Go.RowKit

def RetRf (w : World) (l : List Tm) (e : Ending) (w' : World) : Prop := ∃ er : Int, e = .returned (.int .i64 er) ∧ ((er = 2 ∧ Sim l []) ∨ (er = 0 ∧ ¬ Sim l [])) ∧ Ext w w'
set_option maxRecDepth 100000 in
set_option maxHeartbeats 8000000 in
theorem ps_refuse (M : Nat → Prop) (x : PE) (l : List Tm) (b off cap : Nat) (w : World) (hM : Mb M w) (hc : KCell w b off x) (hb : b < w.heap.size) (h : PI M w x l) : Calls Tryz.prog 65 #[.slice (some ⟨b, off, none⟩) 1 cap] w (RetRf w l) := by
 have HC := Lib.hid hc
 have HMM := Lib.hid hM
 have HP := Lib.hid h
 clear hc hM h
 go_enter Tryz.func65, Tryz.ntmps65
 go_wp2
 go_loopw [7] (fun i wr => ∃ k : Nat, k ≤ 1 ∧ i = .int .i64 k ∧ Hid (k = 1 → ¬ Sim l []) ∧ Hid (Ext w wr)) (fun i _ => 1 - (intOf i).toNat)
 case atStart => exact ⟨0, Nat.zero_le _, rfl, fun h => absurd h (by decide), Ext.refl w⟩
 case round =>
  obtain ⟨k, hk, rfl, HN, HE⟩ := hrel
  by_cases hk0 : k = 0
  ·subst hk0
   obtain ⟨c0, c1, c2, c3⟩ := HC.out.ext hb HE.out
   have hEa := (Ext.refl wr).alloc (.cells (peA x) 33)
   have CZ := Lib.hid (rp_IsZero M x l _ (HMM.out.ext (HE.out.trans hEa)) (HP.out.ext (HE.out.trans hEa)))
   have HEA := Lib.hid (HE.out.trans hEa)
   have hbw : b < wr.heap.size := Nat.lt_of_lt_of_le hb HE.out.size
   clear hEa HE HN HC HP
   go_wp2_with (fail)
   refine CZ.out.mono ?_
   rintro e w1 ⟨bz, rfl, hbz, he1⟩
   have HBZ := Lib.hid hbz
   have HE1 := Lib.hid (HEA.out.trans he1)
   clear hbz he1 CZ HEA c0 c1 c2 c3
   cases bz with
   | true =>
    have HF : Hid (RetRf w l (.returned (.int .i64 2)) w1) := ⟨2, rfl, .inl ⟨rfl, HBZ.out.1 rfl⟩, HE1.out⟩
    go_wp2
    exact bodyPost_ret (v := .int .i64 2) (by simp [results, Tryz.results65, go_sem]) rfl HF.out
   | false =>
    have HN1 : Hid (1 = 1 → ¬ Sim l []) := fun _ hh => by have := HBZ.out.2 hh; cases this
    go_wp2
    go_roundw
    case rel => exact ⟨1, Nat.le_refl _, by go_num, fun _ => HN1.out trivial, HE1⟩
    case measure => (simp [intOf]; try omega)
  ·obtain rfl : k = 1 := by omega
   have HF : Hid (RetRf w l (.returned (.int .i64 0)) wr) := ⟨0, rfl, .inr ⟨rfl, HN.out rfl⟩, HE.out⟩
   go_wp2
   exact bodyPost_ret (v := .int .i64 0) (by simp [results, Tryz.results65, go_sem]) rfl HF.out
end Go.Proofs.YtpclggidcmmemaaGreat

namespace Go.Proofs.YtpclggidcmmemaaGreat
open Go.RowKit

end Go.Proofs.YtpclggidcmmemaaGreat

namespace Go.Proofs.YtpclggidcmmemaaGreat
open Go.RowKit

end Go.Proofs.YtpclggidcmmemaaGreat
