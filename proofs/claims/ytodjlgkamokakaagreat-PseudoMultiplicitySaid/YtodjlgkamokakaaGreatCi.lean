/- The law PseudoMultiplicity returns true at every input, without a panic, and leaves its arguments as they were; no conditions. -/
import Derived.Test.YtodjlgkamokakaaGreatCh
import Derived.Test.YtodjlgkamokakaaGreatMq
set_option linter.unusedVariables false
set_option linter.unusedSimpArgs false

namespace Go.Proofs.YtodjlgkamokakaaGreat
open Go.ChangeShapes Go.WideShapes Go.ChangeAt Go.RowKit Go.Deep

section
variable {H : Type} {enc : TypeId × Value → H} {W : World}
set_option linter.constructorNameAsVariable false in
set_option maxRecDepth 10000 in
theorem open_u8 {base : Nat} {v : Value} {d : DataW H} {ps : List MemPlace} (hv : Value.okWide Tryz.prog W .any base 5 v) (h : DataW.Trod enc Tryz.prog W 0 (fun _ => true) true 5 v d ps) : ∃ z : Int, v = .int .u8 z ∧ (0 ≤ z ∧ z ≤ 255) := by
  obtain ⟨fuel, h⟩ := h
  obtain ⟨y, rfl⟩ := okWide_int Tryz.underlying5 hv
  obtain ⟨z, hz, _, hw⟩ := DataW.trod_int Tryz.underlying5 h
  have hz' : [Value.int .u8 y] = [.int .u8 z] := hz
  simp [Lit.wf, IntKind.min, IntKind.max, IntKind.signed, IntKind.bits] at hw
  exact ⟨z, by simpa using hz', by omega, by omega⟩
end
namespace pseudoMultiplicity
theorem own : ownKnob Tryz.prog.godebug = none := by kernel_rfl
set_option maxRecDepth 100000 in
theorem contract (H : Type) (enc : TypeId × Value → H) (W : World) (base : Nat) (args : Array Value) (ds gs : List (DataW H)) (before : List MemPlace)
    (hval : ∀ (j : Nat) t v, Tryz.f11.params[j]? = some t → args[j]? = some v → Value.okWide Tryz.prog W .any base t v)
    (hW : DataW.Whole enc Tryz.prog Tryz.f11.params.toList Rows.pseudoMultiplicitySpec.vars false W args.toList ds gs before) :
    Calls Tryz.prog 11 args W fun e W' => ∃ v, e = .returned v ∧ Rows.pseudoMultiplicitySpec.post enc Tryz.prog Tryz.f11 false true false false W args v W' := by
  have hW' := hW
  obtain ⟨p, q, hA0, hV, rfl, hfz, hnd⟩ := hW
  have hA : DataW.TrodAll enc Tryz.prog W 0 (fun _ => true) true Tryz.f11.params.toList args.toList ds p := hA0
  rw [Tryz.params11] at hA hval
  obtain ⟨v0, vs0, d0, ds0, p0, q0, hargs, rfl, rfl, h0, r0⟩ := trodAll_cons hA
  obtain ⟨v1, vs1, d1, ds1, p1, q1, rfl, rfl, rfl, h1, r1⟩ := trodAll_cons r0
  obtain ⟨v2, vs2, d2, ds2, p2, q2, rfl, rfl, rfl, h2, r2⟩ := trodAll_cons r1
  obtain ⟨rfl, rfl, rfl⟩ := trodAll_nil r2
  obtain rfl : args = #[v0, v1, v2] := by cases args; simp_all
  obtain ⟨rfl, rfl⟩ := trodVars_none hV
  obtain ⟨a0, n0, c0, X0, rfl, g0⟩ := open_poly (hval 0 23 v0 rfl rfl) h0
  obtain ⟨a1, n1, c1, X1, rfl, g1⟩ := open_poly (hval 1 23 v1 rfl rfl) h1
  obtain ⟨z2, rfl, g2⟩ := open_u8 (hval 2 5 v2 rfl rfl) h2
  refine (law_multiplicity a0 a1 n0 c0 n1 c1 X0 X1 z2 W g0 g1 g2).mono fun e W' ⟨he, hg⟩ => ?_
  subst he
  refine ⟨_, rfl, post_true (tb := 4) (by kernel_rfl) ?_ rfl rfl (by kernel_rfl) Tryz.underlying4 hW' hg⟩
  rw [Tryz.params11]
  intro t ht
  simp only [List.mem_cons, List.not_mem_nil, or_false, or_self] at ht
  rcases ht with rfl | rfl | rfl
  · exact ⟨by kernel_rfl, of_decide_eq_true (by kernel_rfl)⟩
  · exact ⟨by kernel_rfl, of_decide_eq_true (by kernel_rfl)⟩
  · exact ⟨by kernel_rfl, of_decide_eq_true (by kernel_rfl)⟩
set_option maxRecDepth 100000 in
theorem lifted (os : Os) (started : os.Started) (H : Type) (enc : TypeId × Value → H) :
    ReturnsInHanded {} Tryz.checked os 11 .any (Rows.pseudoMultiplicitySpec.pre6 enc Tryz.prog Tryz.f11 Rows.pseudoMultiplicityRow.domain false) (Rows.pseudoMultiplicitySpec.post enc Tryz.prog Tryz.f11 false true false false) := by
  refine returnsInHanded_of_change (C := Tryz.checked) own started (by kernel_rfl) Tryz.func11
    (ChangeSpec.witness6 (enc := enc) (C := Tryz.checked) false ⟨#[], #[.slice none 0 0, .slice none 0 0, .int .u8 0], []⟩ 8 (by kernel_rfl) (by kernel_rfl) (by kernel_rfl) (by kernel_rfl)) ?_
  intro W base args ds gs before hval hW _ _
  exact contract H enc W base args ds gs before hval hW
theorem proved : Rows.PseudoMultiplicitySaid :=
  OpenClaim.holds_of_wide (p := Tryz.pinned) (s := Rows.pseudoMultiplicitySpec) (c := Rows.pseudoMultiplicityRow) 11 Tryz.f11 rfl rfl rfl rfl rfl rfl rfl ⟨rfl, rfl, rfl, rfl, rfl⟩ rfl rfl rfl rfl rfl (by kernel_rfl) Tryz.func11 (by kernel_rfl)
    (of_decide_eq_true (by kernel_rfl)) (by unfold Func.isWrapper; first | (rw [if_pos (by decide +kernel)]; kernel_rfl) | (rw [if_neg (by decide +kernel)]; exact ⟨rfl, rfl⟩))
    (fun os started H enc _ => lifted os started H enc)
end pseudoMultiplicity
end Go.Proofs.YtodjlgkamokakaaGreat
