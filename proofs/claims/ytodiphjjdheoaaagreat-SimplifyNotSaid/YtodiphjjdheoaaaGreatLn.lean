/- The law SimplifyNot returns true at every input, without a panic, and leaves its arguments as they were; no conditions. -/
import Derived.Test.YtodiphjjdheoaaaGreatLm
import Derived.Test.YtodiphjjdheoaaaGreatMq
set_option linter.unusedVariables false
set_option linter.unusedSimpArgs false

namespace Go.Proofs.YtodiphjjdheoaaaGreat
open Go.ChangeShapes Go.WideShapes Go.ChangeAt Go.RowKit Go.Deep

namespace simplifyNot
theorem own : ownKnob Tryz.prog.godebug = none := by kernel_rfl
set_option maxRecDepth 100000 in
theorem contract (H : Type) (enc : TypeId × Value → H) (W : World) (base : Nat) (args : Array Value) (ds gs : List (DataW H)) (before : List MemPlace)
  (hval : ∀ (j : Nat) t v, Tryz.f7.params[j]? = some t → args[j]? = some v → Value.okWide Tryz.prog W .any base t v)
  (hW : DataW.Whole enc Tryz.prog Tryz.f7.params.toList Rows.simplifyNotSpec.vars false W args.toList ds gs before) :
  Calls Tryz.prog 7 args W fun e W' => ∃ v, e = .returned v ∧ Rows.simplifyNotSpec.post enc Tryz.prog Tryz.f7 false true false false W args v W' := by
 have hW' := hW
 obtain ⟨p, q, hA0, hV, rfl, hfz, hnd⟩ := hW
 have hA : DataW.TrodAll enc Tryz.prog W 0 (fun _ => true) true Tryz.f7.params.toList args.toList ds p := hA0
 rw [Tryz.params7] at hA hval
 obtain ⟨v0, vs0, d0, ds0, p0, q0, hargs, rfl, rfl, h0, r0⟩ := trodAll_cons hA
 obtain ⟨v1, vs1, d1, ds1, p1, q1, rfl, rfl, rfl, h1, r1⟩ := trodAll_cons r0
 obtain ⟨rfl, rfl, rfl⟩ := trodAll_nil r1
 obtain rfl : args = #[v0, v1] := by cases args; simp_all
 obtain ⟨rfl, rfl⟩ := trodVars_none hV
 obtain ⟨m0, rfl, g0⟩ := open_matrix 12 (hval 0 32 v0 rfl rfl) h0
 obtain ⟨y1, rfl, g1⟩ := open_quad16 (hval 1 34 v1 rfl rfl) h1
 refine (law_not m0 y1 W g0 g1).mono fun e W' ⟨he, hg⟩ => ?_
 subst he
 refine ⟨_, rfl, post_true (tb := 4) (by kernel_rfl) ?_ rfl rfl (by kernel_rfl) Tryz.underlying4 hW' hg⟩
 rw [Tryz.params7]
 intro t ht
 simp only [List.mem_cons, List.not_mem_nil, or_false, or_self, or_self_left] at ht
 rcases ht with rfl | rfl
 ·exact ⟨by kernel_rfl, of_decide_eq_true (by kernel_rfl)⟩
 ·exact ⟨by kernel_rfl, of_decide_eq_true (by kernel_rfl)⟩
set_option maxRecDepth 100000 in
theorem lifted (os : Os) (started : os.Started) (H : Type) (enc : TypeId × Value → H) :
  ReturnsInHanded {} Tryz.checked os 7 .any (Rows.simplifyNotSpec.pre6 enc Tryz.prog Tryz.f7 Rows.simplifyNotRow.domain false) (Rows.simplifyNotSpec.post enc Tryz.prog Tryz.f7 false true false false) := by
 refine returnsInHanded_of_change (C := Tryz.checked) own started (by kernel_rfl) Tryz.func7
  (ChangeSpec.witness6 (enc := enc) (C := Tryz.checked) false ⟨#[], #[.agg #[.int .i64 0, .int .i64 0, .int .i64 0, .bool false, .slice none 0 0, .slice none 0 0, .slice none 0 0], .agg #[.int .i16 0, .int .i16 0, .int .i16 0, .int .i16 0]], []⟩ 8 (by kernel_rfl) (by kernel_rfl) (by kernel_rfl) (by kernel_rfl)) ?_
 intro W base args ds gs before hval hW _ _
 exact contract H enc W base args ds gs before hval hW
theorem kInp : (Rows.simplifyNotRow.inPlace == Tryz.pinned.checked.prog.inPlace 7) = true := by kernel_rfl
theorem kUnf : (Rows.simplifyNotRow.unfollowed == Tryz.pinned.checked.prog.unfollowed 7) = true := by kernel_rfl
theorem kRec : (Rows.simplifyNotRow.recurses == Tryz.pinned.checked.prog.recurses 7) = true := by kernel_rfl
theorem kNam : (Rows.simplifyNotRow.named == Tryz.pinned.checked.prog.varsNamed 7) = true := by kernel_rfl
theorem kLaid : laidOutB Tryz.pinned.checked.prog = true := by kernel_rfl
theorem closed : joinedFacts Tryz.pinned.checked.prog 7 Tryz.f7 Rows.simplifyNotSpec Rows.simplifyNotRow = true := by
 unfold joinedFacts
 rw [kInp, kUnf, kRec, kNam, kLaid]
 kernel_rfl
theorem proved : Rows.SimplifyNotSaid :=
 OpenClaim.holds_of_wide (p := Tryz.pinned) (s := Rows.simplifyNotSpec) (c := Rows.simplifyNotRow) 7 Tryz.f7 rfl rfl rfl rfl rfl rfl rfl ⟨rfl, rfl, rfl, rfl, rfl⟩ rfl rfl rfl rfl rfl (by kernel_rfl) Tryz.func7 closed
  (of_decide_eq_true (by kernel_rfl)) (by unfold Func.isWrapper; first | (rw [if_pos (by decide +kernel)]; kernel_rfl) | (rw [if_neg (by decide +kernel)]; exact ⟨rfl, rfl⟩))
  (fun os started H enc _ => lifted os started H enc)
end simplifyNot
end Go.Proofs.YtodiphjjdheoaaaGreat
