/- The law SimplifyRelations returns true at every input, without a panic; no conditions. The law SimplifyRelations returns true at every input, without a panic, and leaves its arguments as they were; no conditions. -/
import Derived.Test.YtikkilnheafleaaGreatNf
import Derived.Test.YtikkilnheafleaaGreatMq
set_option linter.unusedVariables false
set_option linter.unusedSimpArgs false

namespace Go.Proofs.YtikkilnheafleaaGreat
open Go.RowKit

/-- is the sign among these bits -/
def pb (g s : Int) : Bool := if s = -1 then decide (g = 1 ∨ g = 3 ∨ g = 5) else if s = 0 then decide (g = 2 ∨ g = 3 ∨ g = 6) else decide (g = 4 ∨ g = 5 ∨ g = 6)
theorem perm_pb (r : Int) {s : Int} (h : s = -1 ∨ s = 0 ∨ s = 1) : perm r s = pb (sg r) s := by
  unfold perm sg
  rcases h with rfl | rfl | rfl <;> (repeat' split) <;> simp_all [pb]
def smF (f g : Nat → Bool) : Nat → Bool
  | 0 => false
  | k + 1 => smF f g k || (f k && g k)
def alF (f g : Nat → Bool) : Nat → Bool
  | 0 => true
  | k + 1 => alF f g k && (f k || g k)
/-- what Meet and Join say, for two sets of signs -/
def Facts (p q : Int) : Prop :=
  ∀ (mx jx : Int) (ok fine : Bool), rl (bits BinOp.and .i64 p q) = (mx, ok) → rl (bits BinOp.or .i64 p q) = (jx, fine) →
    (ok = true → ∀ k : Nat, k < 3 → pb (sg mx) ((k : Int) - 1) = (pb p ((k : Int) - 1) && pb q ((k : Int) - 1))) ∧
    (fine = true → ∀ k : Nat, k < 3 → pb (sg jx) ((k : Int) - 1) = (pb p ((k : Int) - 1) || pb q ((k : Int) - 1))) ∧
    ok = smF (fun k => pb p ((k : Int) - 1)) (fun k => pb q ((k : Int) - 1)) 3 ∧ fine = !alF (fun k => pb p ((k : Int) - 1)) (fun k => pb q ((k : Int) - 1)) 3 ∧
    (ok = true → 1 ≤ mx ∧ mx ≤ 6) ∧ (ok = false → mx = 0) ∧ (fine = true → 1 ≤ jx ∧ jx ≤ 6) ∧ (fine = false → jx = 0)
theorem facts (p q : Int) (hp : p = 1 ∨ p = 3 ∨ p = 5 ∨ p = 6 ∨ p = 4 ∨ p = 2) (hq : q = 1 ∨ q = 3 ∨ q = 5 ∨ q = 6 ∨ q = 4 ∨ q = 2) : Facts p q := by
  have key : (let A := rl (bits BinOp.and .i64 p q); let B := rl (bits BinOp.or .i64 p q)
      (A.2 = true → ∀ k : Nat, k < 3 → pb (sg A.1) ((k : Int) - 1) = (pb p ((k : Int) - 1) && pb q ((k : Int) - 1))) ∧
      (B.2 = true → ∀ k : Nat, k < 3 → pb (sg B.1) ((k : Int) - 1) = (pb p ((k : Int) - 1) || pb q ((k : Int) - 1))) ∧
      A.2 = smF (fun k => pb p ((k : Int) - 1)) (fun k => pb q ((k : Int) - 1)) 3 ∧ B.2 = !alF (fun k => pb p ((k : Int) - 1)) (fun k => pb q ((k : Int) - 1)) 3 ∧
      (A.2 = true → 1 ≤ A.1 ∧ A.1 ≤ 6) ∧ (A.2 = false → A.1 = 0) ∧ (B.2 = true → 1 ≤ B.1 ∧ B.1 ≤ 6) ∧ (B.2 = false → B.1 = 0)) := by
    rcases hp with rfl | rfl | rfl | rfl | rfl | rfl <;> rcases hq with rfl | rfl | rfl | rfl | rfl | rfl <;> decide +kernel
  intro mx jx ok fine h1 h2
  rw [h1, h2] at key
  exact key
set_option maxRecDepth 100000 in
set_option maxHeartbeats 16000000 in
theorem law_relations (a b : Int) (w : World) : Calls Tryz.prog 5 #[.int .i64 a, .int .i64 b] w fun e w' => e = .returned (.bool true) ∧ Ext w w' := by
  have HC1 := Lib.hid (si_Meet a b)
  have HC2 := Lib.hid (si_Join a b)
  have HF := Lib.hid (facts (sg a) (sg b) (sg_cases a) (sg_cases b))
  have HPA : Hid (∀ k : Nat, k < 3 → perm a ((k : Int) - 1) = pb (sg a) ((k : Int) - 1)) := fun k hk => perm_pb a (by omega)
  have HPB : Hid (∀ k : Nat, k < 3 → perm b ((k : Int) - 1) = pb (sg b) ((k : Int) - 1)) := fun k hk => perm_pb b (by omega)
  obtain ⟨mx, ok, hA⟩ : ∃ mx ok, rl (bits BinOp.and .i64 (sg a) (sg b)) = (mx, ok) := ⟨_, _, rfl⟩
  obtain ⟨jx, fine, hB⟩ : ∃ jx fine, rl (bits BinOp.or .i64 (sg a) (sg b)) = (jx, fine) := ⟨_, _, rfl⟩
  have HFF := Lib.hid (HF.out mx jx ok fine hA hB)
  simp only [hA, hB] at HC1 HC2
  clear HF hA hB
  generalize sg a = ga at *
  generalize sg b = gb at *
  go_enter Tryz.func5, Tryz.ntmps5
  go_wp2_with (fail)
  refine (law_awake39 _).mono ?_
  rintro e w1 ⟨rfl, he1⟩
  have HE := Lib.hid he1
  clear he1
  go_wp2_with (fail)
  refine (HC1.out _).mono ?_
  rintro e w2 ⟨rfl, rfl⟩
  go_wp2_with (fail)
  refine (HC2.out _).mono ?_
  rintro e w2 ⟨rfl, rfl⟩
  go_wp2_with (fail)
  obtain ⟨f, hf⟩ : ∃ f : Nat → Bool, f = fun k : Nat => pb ga ((k : Int) - 1) := ⟨_, rfl⟩
  obtain ⟨g, hg⟩ : ∃ g : Nat → Bool, g = fun k : Nat => pb gb ((k : Int) - 1) := ⟨_, rfl⟩
  obtain ⟨F1, F2, F3, F4, F5, F6, F7, F8⟩ := HFF.out
  rw [← hf, ← hg] at F3 F4
  have HA : Hid (∀ k : Nat, k < 3 → perm a ((k : Int) - 1) = f k) := fun k hk => by rw [HPA.out k hk, hf]
  have HB : Hid (∀ k : Nat, k < 3 → perm b ((k : Int) - 1) = g k) := fun k hk => by rw [HPB.out k hk, hg]
  have HX : Hid (ok = true → ∀ k : Nat, k < 3 → perm mx ((k : Int) - 1) = (f k && g k)) := fun h k hk => by rw [perm_pb mx (by omega), F1 h k hk, hf, hg]
  have HY : Hid (fine = true → ∀ k : Nat, k < 3 → perm jx ((k : Int) - 1) = (f k || g k)) := fun h k hk => by rw [perm_pb jx (by omega), F2 h k hk, hf, hg]
  have H3 := Lib.hid F3
  have H4 := Lib.hid F4
  have H5 := Lib.hid F5
  have H6 := Lib.hid F6
  have H7 := Lib.hid F7
  have H8 := Lib.hid F8
  clear F1 F2 F3 F4 F5 F6 F7 F8 hf hg HFF HPA HPB HC1 HC2
  go_loop [9, 10, 11] (fun so al i => ∃ (k : Nat) (sb ab : Bool), k ≤ 3 ∧ so = .bool sb ∧ al = .bool ab ∧ i = .int .i64 ((k : Int) - 1) ∧ Hid (sb = smF f g k) ∧ Hid (ab = alF f g k)) (fun _ _ i => (2 - intOf i).toNat)
  case atStart => exact ⟨0, false, true, by omega, rfl, rfl, rfl, rfl, rfl⟩
  case round =>
    obtain ⟨k, sb, ab, hk, rfl, rfl, rfl, HSB, HAB⟩ := hrel
    by_cases hk3 : k < 3
    · have CA := Lib.hid (fun w => rf_permits a ((k : Int) - 1) w)
      have CB := Lib.hid (fun w => rf_permits b ((k : Int) - 1) w)
      rw [HA.out k hk3] at CA
      rw [HB.out k hk3] at CB
      have HS2 : Hid ((sb || (f k && g k)) = smF f g (k + 1)) := by show _ = _; rw [HSB.out]; rfl
      have HA2 : Hid ((ab && (f k || g k)) = alF f g (k + 1)) := by show _ = _; rw [HAB.out]; rfl
      have CX := Lib.hid (fun w => rf_permits mx ((k : Int) - 1) w)
      have CY := Lib.hid (fun w => rf_permits jx ((k : Int) - 1) w)
      have HXk := Lib.hid (fun h => HX.out h k hk3)
      have HYk := Lib.hid (fun h => HY.out h k hk3)
      have hki : (k : Int) - 1 ≤ 1 := by omega
      generalize perm mx ((k : Int) - 1) = px at *
      generalize perm jx ((k : Int) - 1) = py at *
      generalize f k = pk at *
      generalize g k = qk at *
      clear HA HB HX HY HSB HAB H3 H4 H5 H6 H7 H8
      go_wp2_with (fail)
      refine (CA.out _).mono ?_
      rintro e w2 ⟨rfl, rfl⟩
      go_wp2_with (fail)
      refine (CB.out _).mono ?_
      rintro e w2 ⟨rfl, rfl⟩
      go_upto_region 10 with (fail)
      clear CA CB
      cases sb <;> cases ab <;> cases pk <;> cases qk
      all_goals
        go_upto_region 12 with (fail)
        cases ok
        case' true =>
          have hpx := HXk.out rfl
          simp only [Bool.and_true, Bool.and_false, Bool.and_self] at hpx
          subst hpx
          clear HXk
          go_wp2_with (fail)
          refine (CX.out _).mono ?_
          rintro e w2 ⟨rfl, rfl⟩
          clear CX
        case' false => clear HXk CX
        all_goals
          cases fine
          case' true =>
            have hpy := HYk.out rfl
            simp only [Bool.or_true, Bool.or_false, Bool.or_self] at hpy
            subst hpy
            clear HYk
            go_wp2_with (fail)
            refine (CY.out _).mono ?_
            rintro e w2 ⟨rfl, rfl⟩
            clear CY
          case' false => clear HYk CY
          all_goals
            go_wp2
            go_round
            case rel => exact ⟨k + 1, _, _, by omega, rfl, rfl, by go_num, HS2, HA2⟩
            case measure => simp [intOf]; omega
    · obtain rfl : k = 3 := by omega
      have h3 : ok = sb := by rw [H3.out, HSB.out]
      have h4 : fine = !ab := by rw [H4.out, HAB.out]
      subst h3 h4
      clear HSB HAB HA HB HX HY H3 H4
      cases ok
      case' true => obtain ⟨h51, h52⟩ := H5.out rfl
      case' false => obtain rfl : mx = 0 := H6.out rfl
      all_goals
        cases ab
        case' true => obtain rfl : jx = 0 := H8.out rfl
        case' false => obtain ⟨h71, h72⟩ := H7.out rfl
        all_goals
          clear H5 H6 H7 H8
          go_wp2
          exact bodyPost_ret (v := .bool true) (by simp [results, Tryz.results5, go_sem]) rfl ⟨rfl, HE.out⟩
end Go.Proofs.YtikkilnheafleaaGreat

namespace Go.Proofs.YtikkilnheafleaaGreat
open Go.ChangeShapes Go.WideShapes Go.ChangeAt Go.RowKit Go.Deep

section
variable {H : Type} {enc : TypeId × Value → H} {W : World}
set_option linter.constructorNameAsVariable false in
set_option maxRecDepth 10000 in
theorem open_int64 {base : Nat} {v : Value} {d : DataW H} {ps : List MemPlace} (hv : Value.okWide Tryz.prog W .any base 3 v) (h : DataW.Trod enc Tryz.prog W 0 (fun _ => true) true 3 v d ps) : ∃ z : Int, v = .int .i64 z ∧ (-9223372036854775808 ≤ z ∧ z ≤ 9223372036854775807) := by
  obtain ⟨fuel, h⟩ := h
  obtain ⟨y, rfl⟩ := okWide_int Tryz.underlying3 hv
  obtain ⟨z, hz, _, hw⟩ := DataW.trod_int Tryz.underlying3 h
  have hz' : [Value.int .i64 y] = [.int .i64 z] := hz
  simp [Lit.wf, IntKind.min, IntKind.max, IntKind.signed, IntKind.bits] at hw
  exact ⟨z, by simpa using hz', by omega, by omega⟩
end
namespace simplifyRelations
theorem own : ownKnob Tryz.prog.godebug = none := by kernel_rfl
set_option maxRecDepth 100000 in
theorem contract (H : Type) (enc : TypeId × Value → H) (W : World) (base : Nat) (args : Array Value) (ds gs : List (DataW H)) (before : List MemPlace)
    (hval : ∀ (j : Nat) t v, Tryz.f5.params[j]? = some t → args[j]? = some v → Value.okWide Tryz.prog W .any base t v)
    (hW : DataW.Whole enc Tryz.prog Tryz.f5.params.toList Rows.simplifyRelationsSpec.vars false W args.toList ds gs before) :
    Calls Tryz.prog 5 args W fun e W' => ∃ v, e = .returned v ∧ Rows.simplifyRelationsSpec.post enc Tryz.prog Tryz.f5 false true false false W args v W' := by
  have hW' := hW
  obtain ⟨p, q, hA0, hV, rfl, hfz, hnd⟩ := hW
  have hA : DataW.TrodAll enc Tryz.prog W 0 (fun _ => true) true Tryz.f5.params.toList args.toList ds p := hA0
  rw [Tryz.params5] at hA hval
  obtain ⟨v0, vs0, d0, ds0, p0, q0, hargs, rfl, rfl, h0, r0⟩ := trodAll_cons hA
  obtain ⟨v1, vs1, d1, ds1, p1, q1, rfl, rfl, rfl, h1, r1⟩ := trodAll_cons r0
  obtain ⟨rfl, rfl, rfl⟩ := trodAll_nil r1
  obtain rfl : args = #[v0, v1] := by cases args; simp_all
  obtain ⟨rfl, rfl⟩ := trodVars_none hV
  obtain ⟨z0, rfl, g0⟩ := open_int64 (hval 0 3 v0 rfl rfl) h0
  obtain ⟨z1, rfl, g1⟩ := open_int64 (hval 1 3 v1 rfl rfl) h1
  refine (law_relations z0 z1 W).mono fun e W' ⟨he, hg⟩ => ?_
  subst he
  refine ⟨_, rfl, post_true (tb := 4) (by kernel_rfl) ?_ rfl rfl (by kernel_rfl) Tryz.underlying4 hW' hg⟩
  rw [Tryz.params5]
  intro t ht
  simp only [List.mem_cons, List.not_mem_nil, or_false, or_self] at ht
  subst ht
  exact ⟨by kernel_rfl, of_decide_eq_true (by kernel_rfl)⟩
set_option maxRecDepth 100000 in
theorem lifted (os : Os) (started : os.Started) (H : Type) (enc : TypeId × Value → H) :
    ReturnsInHanded {} Tryz.checked os 5 .any (Rows.simplifyRelationsSpec.pre6 enc Tryz.prog Tryz.f5 Rows.simplifyRelationsRow.domain false) (Rows.simplifyRelationsSpec.post enc Tryz.prog Tryz.f5 false true false false) := by
  refine returnsInHanded_of_change (C := Tryz.checked) own started (by kernel_rfl) Tryz.func5
    (ChangeSpec.witness6 (enc := enc) (C := Tryz.checked) false ⟨#[], #[.int .i64 0, .int .i64 0], []⟩ 8 (by kernel_rfl) (by kernel_rfl) (by kernel_rfl) (by kernel_rfl)) ?_
  intro W base args ds gs before hval hW _ _
  exact contract H enc W base args ds gs before hval hW
theorem proved : Rows.SimplifyRelationsSaid :=
  OpenClaim.holds_of_wide (p := Tryz.pinned) (s := Rows.simplifyRelationsSpec) (c := Rows.simplifyRelationsRow) 5 Tryz.f5 rfl rfl rfl rfl rfl rfl rfl ⟨rfl, rfl, rfl, rfl, rfl⟩ rfl rfl rfl rfl rfl (by kernel_rfl) Tryz.func5 (by kernel_rfl)
    (of_decide_eq_true (by kernel_rfl)) (by unfold Func.isWrapper; first | (rw [if_pos (by decide +kernel)]; kernel_rfl) | (rw [if_neg (by decide +kernel)]; exact ⟨rfl, rfl⟩))
    (fun os started H enc _ => lifted os started H enc)
end simplifyRelations
end Go.Proofs.YtikkilnheafleaaGreat
