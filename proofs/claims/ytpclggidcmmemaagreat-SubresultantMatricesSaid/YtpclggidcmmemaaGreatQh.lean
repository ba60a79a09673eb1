/- The law SubresultantMatrices returns true at every input, without a panic, and leaves its arguments as they were; no conditions. -/
import Derived.Test.YtpclggidcmmemaaGreatQg
import Derived.Test.YtpclggidcmmemaaGreatDk
import Derived.Test.YtpclggidcmmemaaGreatMq
set_option linter.unusedVariables false
set_option linter.unusedSimpArgs false

namespace Go.Proofs.YtpclggidcmmemaaGreat
open Go.ChangeShapes Go.WideShapes Go.ChangeAt Go.RowKit Go.Deep

section
variable {H : Type} {enc : TypeId × Value → H} {W : World}
set_option linter.constructorNameAsVariable false in
set_option maxRecDepth 10000 in
theorem open_tri {base : Nat} {v : Value} {d : DataW H} {ps : List MemPlace} (hv : Value.okWide Tryz.prog W .any base 24 v) (h : DataW.Trod enc Tryz.prog W 0 (fun _ => true) true 24 v d ps) : ∃ x y z : Int, v = .agg #[.int .i64 x, .int .i64 y, .int .i64 z] := by
 obtain ⟨fuel, h⟩ := h
 have hu := Tryz.underlying24
 unfold Value.okWide at hv
 rw [hu] at hv
 obtain ⟨cs, rfl, hcs, _⟩ := hv
 rw [show Tryz.prog.cellsOf 24 = 3 by kernel_rfl] at hcs
 obtain ⟨v0, v1, v2, rfl⟩ : ∃ v0 v1 v2, cs = #[v0, v1, v2] := by
  obtain ⟨l⟩ := cs
  match l, hcs with
  | [v0, v1, v2], _ => exact ⟨v0, v1, v2, rfl⟩
 have h' : DataW.trod enc Tryz.prog W 0 (fun _ => true) true fuel 24 [v0, v1, v2] = some (d, ps) := h
 obtain ⟨xs, q, _, _, _, hxl, hx⟩ := DataW.trod_array hu h'
 have hce : Tryz.prog.cellsOf 3 = 1 := by kernel_rfl
 rw [hce] at hx
 have key : ∀ i, i < 3 → ∃ y, DataW.trod enc Tryz.prog W 0 (fun _ => true) true q 3 (([v0, v1, v2].drop (i * 1)).take 1) = some y := fun i hi => by
  rw [hx i hi, List.getElem?_eq_getElem (by omega)]; exact ⟨_, rfl⟩
 obtain ⟨y0, e0⟩ := key 0 (by omega)
 obtain ⟨y1, e1⟩ := key 1 (by omega)
 obtain ⟨y2, e2⟩ := key 2 (by omega)
 obtain ⟨a, ha, _, wa⟩ := DataW.trod_int Tryz.underlying3 e0
 obtain ⟨b, hb, _, wb⟩ := DataW.trod_int Tryz.underlying3 e1
 obtain ⟨c, hc, _, wc⟩ := DataW.trod_int Tryz.underlying3 e2
 simp at ha hb hc
 exact ⟨a, b, c, by rw [ha, hb, hc]⟩
end
namespace subresultantMatrices
theorem own : ownKnob Tryz.prog.godebug = none := by kernel_rfl
set_option maxRecDepth 100000 in
set_option maxHeartbeats 4000000 in
theorem contract (H : Type) (enc : TypeId × Value → H) (W : World) (base : Nat) (args : Array Value) (ds gs : List (DataW H)) (before : List MemPlace)
  (hval : ∀ (j : Nat) t v, Tryz.f3.params[j]? = some t → args[j]? = some v → Value.okWide Tryz.prog W .any base t v)
  (hW : DataW.Whole enc Tryz.prog Tryz.f3.params.toList Rows.subresultantMatricesSpec.vars false W args.toList ds gs before) :
  Calls Tryz.prog 3 args W fun e W' => ∃ v, e = .returned v ∧ Rows.subresultantMatricesSpec.post enc Tryz.prog Tryz.f3 false true false false W args v W' := by
 have hW' := hW
 obtain ⟨p, q, hA0, hV, rfl, hfz, hnd⟩ := hW
 have hA : DataW.TrodAll enc Tryz.prog W 0 (fun _ => true) true Tryz.f3.params.toList args.toList ds p := hA0
 rw [Tryz.params3] at hA hval
 obtain ⟨v0, vs0, d0, ds0, p0, q0, hargs, rfl, rfl, h0, r0⟩ := trodAll_cons hA
 obtain ⟨v1, vs1, d1, ds1, p1, q1, rfl, rfl, rfl, h1, r1⟩ := trodAll_cons r0
 obtain ⟨v2, vs2, d2, ds2, p2, q2, rfl, rfl, rfl, h2, r2⟩ := trodAll_cons r1
 obtain ⟨rfl, rfl, rfl⟩ := trodAll_nil r2
 obtain rfl : args = #[v0, v1, v2] := by cases args; simp_all
 obtain ⟨rfl, rfl⟩ := trodVars_none hV
 obtain ⟨a0, n0, c0, X0, rfl, g0⟩ := open_poly (hval 0 23 v0 rfl rfl) h0
 obtain ⟨a1, n1, c1, X1, rfl, g1⟩ := open_poly (hval 1 23 v1 rfl rfl) h1
 obtain ⟨x2, y2, z2, rfl⟩ := open_tri (hval 2 24 v2 rfl rfl) h2
 refine (law_matrices a0 a1 n0 c0 n1 c1 X0 X1 x2 y2 z2 W g0 g1).mono fun e W' ⟨he, hg⟩ => ?_
 subst he
 refine ⟨_, rfl, post_true (tb := 4) (by kernel_rfl) ?_ rfl rfl (by kernel_rfl) Tryz.underlying4 hW' hg⟩
 rw [Tryz.params3]
 intro t ht
 simp only [List.mem_cons, List.not_mem_nil, or_false, or_self, or_self_left] at ht
 rcases ht with rfl | rfl
 ·exact ⟨by kernel_rfl, of_decide_eq_true (by kernel_rfl)⟩
 ·exact ⟨by kernel_rfl, of_decide_eq_true (by kernel_rfl)⟩
set_option maxRecDepth 100000 in
theorem lifted (os : Os) (started : os.Started) (H : Type) (enc : TypeId × Value → H) :
  ReturnsInHanded {} Tryz.checked os 3 .any (Rows.subresultantMatricesSpec.pre6 enc Tryz.prog Tryz.f3 Rows.subresultantMatricesRow.domain false) (Rows.subresultantMatricesSpec.post enc Tryz.prog Tryz.f3 false true false false) := by
 refine returnsInHanded_of_change (C := Tryz.checked) own started (by kernel_rfl) Tryz.func3
  (ChangeSpec.witness6 (enc := enc) (C := Tryz.checked) false ⟨#[], #[.slice none 0 0, .slice none 0 0, .agg #[.int .i64 0, .int .i64 0, .int .i64 0]], []⟩ 8 (by kernel_rfl) (by kernel_rfl) (by kernel_rfl) (by kernel_rfl)) ?_
 intro W base args ds gs before hval hW _ _
 exact contract H enc W base args ds gs before hval hW
theorem kInp : (Rows.subresultantMatricesRow.inPlace == Tryz.pinned.checked.prog.inPlace 3) = true := by kernel_rfl
theorem kUnf : (Rows.subresultantMatricesRow.unfollowed == Tryz.pinned.checked.prog.unfollowed 3) = true := by kernel_rfl
theorem kRec : (Rows.subresultantMatricesRow.recurses == Tryz.pinned.checked.prog.recurses 3) = true := by kernel_rfl
theorem kNam : (Rows.subresultantMatricesRow.named == Tryz.pinned.checked.prog.varsNamed 3) = true := by kernel_rfl
theorem kLaid : laidOutB Tryz.pinned.checked.prog = true := by kernel_rfl
theorem closed : joinedFacts Tryz.pinned.checked.prog 3 Tryz.f3 Rows.subresultantMatricesSpec Rows.subresultantMatricesRow = true := by
 unfold joinedFacts
 rw [kInp, kUnf, kRec, kNam, kLaid]
 kernel_rfl
theorem proved : Rows.SubresultantMatricesSaid :=
 OpenClaim.holds_of_wide (p := Tryz.pinned) (s := Rows.subresultantMatricesSpec) (c := Rows.subresultantMatricesRow) 3 Tryz.f3 rfl rfl rfl rfl rfl rfl rfl ⟨rfl, rfl, rfl, rfl, rfl⟩ rfl rfl rfl rfl rfl (by kernel_rfl) Tryz.func3 closed
  (of_decide_eq_true (by kernel_rfl)) (by unfold Func.isWrapper; first | (rw [if_pos (by decide +kernel)]; kernel_rfl) | (rw [if_neg (by decide +kernel)]; exact ⟨rfl, rfl⟩))
  (fun os started H enc _ => lifted os started H enc)
end subresultantMatrices
end Go.Proofs.YtpclggidcmmemaaGreat
