/- The law SimplifyFolds returns true at every input, without a panic, and leaves its arguments as they were; no conditions. -/
import Derived.Test.YtfbdckffjjladaaGreatIe
import Derived.Test.YtfbdckffjjladaaGreatMq
set_option linter.unusedVariables false
set_option linter.unusedSimpArgs false

namespace Go.Proofs.YtfbdckffjjladaaGreat
open Go.ChangeShapes Go.WideShapes Go.ChangeAt Go.RowKit Go.Deep

section
variable {H : Type} {enc : TypeId × Value → H} {W : World}
set_option linter.constructorNameAsVariable false in
set_option maxRecDepth 10000 in
theorem open_u8F {base : Nat} {v : Value} {d : DataW H} {ps : List MemPlace} (hv : Value.okWide Tryz.prog W .any base 5 v) (h : DataW.Trod enc Tryz.prog W 0 (fun _ => true) true 5 v d ps) : ∃ z : Int, v = .int .u8 z ∧ (0 ≤ z ∧ z ≤ 255) := by
 obtain ⟨fuel, h⟩ := h
 obtain ⟨y, rfl⟩ := okWide_int Tryz.underlying5 hv
 obtain ⟨z, hz, _, hw⟩ := DataW.trod_int Tryz.underlying5 h
 have hz' : [Value.int .u8 y] = [.int .u8 z] := hz
 simp [Lit.wf, IntKind.min, IntKind.max, IntKind.signed, IntKind.bits] at hw
 exact ⟨z, by simpa using hz', by omega, by omega⟩
end
namespace simplifyFolds
theorem own : ownKnob Tryz.prog.godebug = none := by kernel_rfl
set_option maxRecDepth 100000 in
theorem contract (H : Type) (enc : TypeId × Value → H) (W : World) (base : Nat) (args : Array Value) (ds gs : List (DataW H)) (before : List MemPlace)
  (hval : ∀ (j : Nat) t v, Tryz.f5.params[j]? = some t → args[j]? = some v → Value.okWide Tryz.prog W .any base t v)
  (hW : DataW.Whole enc Tryz.prog Tryz.f5.params.toList Rows.simplifyFoldsSpec.vars false W args.toList ds gs before) :
  Calls Tryz.prog 5 args W fun e W' => ∃ v, e = .returned v ∧ Rows.simplifyFoldsSpec.post enc Tryz.prog Tryz.f5 false true false false W args v W' := by
 have hW' := hW
 obtain ⟨p, q, hA0, hV, rfl, hfz, hnd⟩ := hW
 have hA : DataW.TrodAll enc Tryz.prog W 0 (fun _ => true) true Tryz.f5.params.toList args.toList ds p := hA0
 rw [Tryz.params5] at hA hval
 obtain ⟨v0, vs0, d0, ds0, p0, q0, hargs, rfl, rfl, h0, r0⟩ := trodAll_cons hA
 obtain ⟨v1, vs1, d1, ds1, p1, q1, rfl, rfl, rfl, h1, r1⟩ := trodAll_cons r0
 obtain ⟨v2, vs2, d2, ds2, p2, q2, rfl, rfl, rfl, h2, r2⟩ := trodAll_cons r1
 obtain ⟨rfl, rfl, rfl⟩ := trodAll_nil r2
 obtain rfl : args = #[v0, v1, v2] := by cases args; simp_all
 obtain ⟨rfl, rfl⟩ := trodVars_none hV
 obtain ⟨m0, rfl, g0⟩ := open_matrix 12 (hval 0 32 v0 rfl rfl) h0
 obtain ⟨s1, rfl, g1⟩ := open_rpoly 6 (hval 1 29 v1 rfl rfl) h1
 obtain ⟨z2, rfl, g2⟩ := open_u8F (hval 2 5 v2 rfl rfl) h2
 refine (law_folds m0 s1 z2 W g0 g1 g2).mono fun e W' ⟨he, hg⟩ => ?_
 subst he
 refine ⟨_, rfl, post_true (tb := 4) (by kernel_rfl) ?_ rfl rfl (by kernel_rfl) Tryz.underlying4 hW' hg⟩
 rw [Tryz.params5]
 intro t ht
 simp only [List.mem_cons, List.not_mem_nil, or_false, or_self, or_self_left] at ht
 rcases ht with rfl | rfl | rfl
 ·exact ⟨by kernel_rfl, of_decide_eq_true (by kernel_rfl)⟩
 ·exact ⟨by kernel_rfl, of_decide_eq_true (by kernel_rfl)⟩
 ·exact ⟨by kernel_rfl, of_decide_eq_true (by kernel_rfl)⟩
set_option maxRecDepth 100000 in
theorem lifted (os : Os) (started : os.Started) (H : Type) (enc : TypeId × Value → H) :
  ReturnsInHanded {} Tryz.checked os 5 .any (Rows.simplifyFoldsSpec.pre6 enc Tryz.prog Tryz.f5 Rows.simplifyFoldsRow.domain false) (Rows.simplifyFoldsSpec.post enc Tryz.prog Tryz.f5 false true false false) := by
 refine returnsInHanded_of_change (C := Tryz.checked) own started (by kernel_rfl) Tryz.func5
  (ChangeSpec.witness6 (enc := enc) (C := Tryz.checked) false ⟨#[], #[.agg #[.int .i64 0, .int .i64 0, .int .i64 0, .bool false, .slice none 0 0, .slice none 0 0, .slice none 0 0], .agg #[.int .i64 0, .bool false, .slice none 0 0, .slice none 0 0], .int .u8 0], []⟩ 8 (by kernel_rfl) (by kernel_rfl) (by kernel_rfl) (by kernel_rfl)) ?_
 intro W base args ds gs before hval hW _ _
 exact contract H enc W base args ds gs before hval hW
theorem kInp : (Rows.simplifyFoldsRow.inPlace == Tryz.pinned.checked.prog.inPlace 5) = true := by kernel_rfl
theorem kUnf : (Rows.simplifyFoldsRow.unfollowed == Tryz.pinned.checked.prog.unfollowed 5) = true := by kernel_rfl
theorem kRec : (Rows.simplifyFoldsRow.recurses == Tryz.pinned.checked.prog.recurses 5) = true := by kernel_rfl
theorem kNam : (Rows.simplifyFoldsRow.named == Tryz.pinned.checked.prog.varsNamed 5) = true := by kernel_rfl
theorem kLaid : laidOutB Tryz.pinned.checked.prog = true := by kernel_rfl
theorem closed : joinedFacts Tryz.pinned.checked.prog 5 Tryz.f5 Rows.simplifyFoldsSpec Rows.simplifyFoldsRow = true := by
 unfold joinedFacts
 rw [kInp, kUnf, kRec, kNam, kLaid]
 kernel_rfl
theorem proved : Rows.SimplifyFoldsSaid :=
 OpenClaim.holds_of_wide (p := Tryz.pinned) (s := Rows.simplifyFoldsSpec) (c := Rows.simplifyFoldsRow) 5 Tryz.f5 rfl rfl rfl rfl rfl rfl rfl ⟨rfl, rfl, rfl, rfl, rfl⟩ rfl rfl rfl rfl rfl (by kernel_rfl) Tryz.func5 closed
  (of_decide_eq_true (by kernel_rfl)) (by unfold Func.isWrapper; first | (rw [if_pos (by decide +kernel)]; kernel_rfl) | (rw [if_neg (by decide +kernel)]; exact ⟨rfl, rfl⟩))
  (fun os started H enc _ => lifted os started H enc)
end simplifyFolds
end Go.Proofs.YtfbdckffjjladaaGreat
