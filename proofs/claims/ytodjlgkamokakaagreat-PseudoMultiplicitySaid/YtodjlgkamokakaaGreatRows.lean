/-
  No cell of these rows narrows 'for every input' (looked for: loops, veiled, ifaces, maps, wideKeys, modest, calm, conditions, laid).
  DERIVED. THE GIVEN ROWS OF THIS SEAT. 12 by the template 'for every input the law returns true; each argument reads behind the call as it read before'; 0 by the template 'total and deterministic' (their statements: YtodjlgkamokakaaGreatTotals.lean).
  GIVEN WITH THE SEED: the statements are not yours to turn. If you find one false, say at which input.
  Laid BY PROGRAM, IN A SANDBOX (cutbox-rows.mjs): the forced cells as the released guide's own fill.sh prints them over the translation e5c713cef5a72fbf… (all of the seat's roots in one cut). By AI agents, Wed Nov 11 2026. No macro, syntax, notation, axiom, sorry.
-/
import Derived.Test.YtodjlgkamokakaaGreatChecked
import GoSem.Claim
import GoSem.ClaimJoined
import GoSem.ClaimMapViews
import Derived.JoinedTies
import Derived.KernelRfl
namespace Go.Proofs.YtodjlgkamokakaaGreat
/- THE CELL 'sum', in the pinned program and in every row, IS THE sha256 OF THE DUMP (.gsa) THAT YtodjlgkamokakaaGreatProg.lean LOADS. Nothing in Lean hashes anything: it is a label: what it is worth is what the hold of that sum in a sandbox is worth. -/
noncomputable def Tryz.pinned : Pinned := { name := "ytodjlgkamokakaagreat", sum := "e5c713cef5a72fbfc22d6b6d7f9146aeead709f329cf98bbb883b049632ad535", checked := Tryz.checked }
namespace Rows
def none {H : Type} : Left H := { results := [], args := [] }

/-- 'cylinderlaw24.PseudoExact': WHATEVER THE INPUT: true; the input reads as it did. -/
def pseudoExactSpec : ChangeSpec := { name := "pseudoExact", fn := fun _ => fun
  | [d1, d2, d3] => { results := [.lit (.bool true)], args := [d1, d2, d3] }
  | _ => none }
def pseudoExactRow : OpenClaim := { program := "ytodjlgkamokakaagreat", sum := "e5c713cef5a72fbfc22d6b6d7f9146aeead709f329cf98bbb883b049632ad535", func := "cylinder/cylinderlaw24.PseudoExact", spec := "pseudoExact", unfollowed := true, recurses := true, named := ["math/bits.overflowError"], plainKeys := false, apart := false }
def PseudoExactSaid : Prop := pseudoExactRow.holds Tryz.pinned (OpenSpec.ofChange pseudoExactSpec)

/-- ITS FALSE NEIGHBOUR: 'it returns false'. Refute it at one input. -/
def pseudoExactWrong : ChangeSpec := { name := "pseudoExact", fn := fun _ => fun
  | [d1, d2, d3] => { results := [.lit (.bool false)], args := [d1, d2, d3] }
  | _ => none }
def PseudoExactWrongFalsely : Prop := pseudoExactRow.holds Tryz.pinned (OpenSpec.ofChange pseudoExactWrong)

/-- 'cylinderlaw24.PseudoDivides': WHATEVER THE INPUT: true; the input reads as it did. -/
def pseudoDividesSpec : ChangeSpec := { name := "pseudoDivides", fn := fun _ => fun
  | [d1, d2, d3] => { results := [.lit (.bool true)], args := [d1, d2, d3] }
  | _ => none }
def pseudoDividesRow : OpenClaim := { program := "ytodjlgkamokakaagreat", sum := "e5c713cef5a72fbfc22d6b6d7f9146aeead709f329cf98bbb883b049632ad535", func := "cylinder/cylinderlaw24.PseudoDivides", spec := "pseudoDivides", unfollowed := true, recurses := true, named := ["math/bits.overflowError"], plainKeys := false, apart := false }
def PseudoDividesSaid : Prop := pseudoDividesRow.holds Tryz.pinned (OpenSpec.ofChange pseudoDividesSpec)

/-- ITS FALSE NEIGHBOUR: 'it returns false'. Refute it at one input. -/
def pseudoDividesWrong : ChangeSpec := { name := "pseudoDivides", fn := fun _ => fun
  | [d1, d2, d3] => { results := [.lit (.bool false)], args := [d1, d2, d3] }
  | _ => none }
def PseudoDividesWrongFalsely : Prop := pseudoDividesRow.holds Tryz.pinned (OpenSpec.ofChange pseudoDividesWrong)

/-- 'cylinderlaw23.MainvarOrder': WHATEVER THE INPUT: true; the input reads as it did. -/
def mainvarOrderSpec : ChangeSpec := { name := "mainvarOrder", fn := fun _ => fun
  | [d1, d2] => { results := [.lit (.bool true)], args := [d1, d2] }
  | _ => none }
def mainvarOrderRow : OpenClaim := { program := "ytodjlgkamokakaagreat", sum := "e5c713cef5a72fbfc22d6b6d7f9146aeead709f329cf98bbb883b049632ad535", func := "cylinder/cylinderlaw23.MainvarOrder", spec := "mainvarOrder", unfollowed := true, recurses := true, named := ["math/bits.overflowError"], plainKeys := false, apart := false }
def MainvarOrderSaid : Prop := mainvarOrderRow.holds Tryz.pinned (OpenSpec.ofChange mainvarOrderSpec)

/-- ITS FALSE NEIGHBOUR: 'it returns false'. Refute it at one input. -/
def mainvarOrderWrong : ChangeSpec := { name := "mainvarOrder", fn := fun _ => fun
  | [d1, d2] => { results := [.lit (.bool false)], args := [d1, d2] }
  | _ => none }
def MainvarOrderWrongFalsely : Prop := mainvarOrderRow.holds Tryz.pinned (OpenSpec.ofChange mainvarOrderWrong)

/-- 'cylinderlaw23.MainvarJoin': WHATEVER THE INPUT: true; the input reads as it did. -/
def mainvarJoinSpec : ChangeSpec := { name := "mainvarJoin", fn := fun _ => fun
  | [d1, d2] => { results := [.lit (.bool true)], args := [d1, d2] }
  | _ => none }
def mainvarJoinRow : OpenClaim := { program := "ytodjlgkamokakaagreat", sum := "e5c713cef5a72fbfc22d6b6d7f9146aeead709f329cf98bbb883b049632ad535", func := "cylinder/cylinderlaw23.MainvarJoin", spec := "mainvarJoin", unfollowed := true, recurses := true, named := ["math/bits.overflowError"], plainKeys := false, apart := false }
def MainvarJoinSaid : Prop := mainvarJoinRow.holds Tryz.pinned (OpenSpec.ofChange mainvarJoinSpec)

/-- ITS FALSE NEIGHBOUR: 'it returns false'. Refute it at one input. -/
def mainvarJoinWrong : ChangeSpec := { name := "mainvarJoin", fn := fun _ => fun
  | [d1, d2] => { results := [.lit (.bool false)], args := [d1, d2] }
  | _ => none }
def MainvarJoinWrongFalsely : Prop := mainvarJoinRow.holds Tryz.pinned (OpenSpec.ofChange mainvarJoinWrong)

/-- 'cylinderlaw23.MainvarFamily': WHATEVER THE INPUT: true; the input reads as it did. -/
def mainvarFamilySpec : ChangeSpec := { name := "mainvarFamily", fn := fun _ => fun
  | [d] => { results := [.lit (.bool true)], args := [d] }
  | _ => none }
def mainvarFamilyRow : OpenClaim := { program := "ytodjlgkamokakaagreat", sum := "e5c713cef5a72fbfc22d6b6d7f9146aeead709f329cf98bbb883b049632ad535", func := "cylinder/cylinderlaw23.MainvarFamily", spec := "mainvarFamily", unfollowed := true, recurses := true, named := ["math/bits.overflowError"], plainKeys := false, apart := false }
def MainvarFamilySaid : Prop := mainvarFamilyRow.holds Tryz.pinned (OpenSpec.ofChange mainvarFamilySpec)

/-- ITS FALSE NEIGHBOUR: 'it returns false'. Refute it at one input. -/
def mainvarFamilyWrong : ChangeSpec := { name := "mainvarFamily", fn := fun _ => fun
  | [d] => { results := [.lit (.bool false)], args := [d] }
  | _ => none }
def MainvarFamilyWrongFalsely : Prop := mainvarFamilyRow.holds Tryz.pinned (OpenSpec.ofChange mainvarFamilyWrong)

/-- 'cylinderlaw23.MainvarProduct': WHATEVER THE INPUT: true; the input reads as it did. -/
def mainvarProductSpec : ChangeSpec := { name := "mainvarProduct", fn := fun _ => fun
  | [d1, d2, d3] => { results := [.lit (.bool true)], args := [d1, d2, d3] }
  | _ => none }
def mainvarProductRow : OpenClaim := { program := "ytodjlgkamokakaagreat", sum := "e5c713cef5a72fbfc22d6b6d7f9146aeead709f329cf98bbb883b049632ad535", func := "cylinder/cylinderlaw23.MainvarProduct", spec := "mainvarProduct", unfollowed := true, recurses := true, named := ["math/bits.overflowError"], plainKeys := false, apart := false }
def MainvarProductSaid : Prop := mainvarProductRow.holds Tryz.pinned (OpenSpec.ofChange mainvarProductSpec)

/-- ITS FALSE NEIGHBOUR: 'it returns false'. Refute it at one input. -/
def mainvarProductWrong : ChangeSpec := { name := "mainvarProduct", fn := fun _ => fun
  | [d1, d2, d3] => { results := [.lit (.bool false)], args := [d1, d2, d3] }
  | _ => none }
def MainvarProductWrongFalsely : Prop := mainvarProductRow.holds Tryz.pinned (OpenSpec.ofChange mainvarProductWrong)

/-- 'cylinderlaw23.MainvarOfLevel': WHATEVER THE INPUT: true; the input reads as it did. -/
def mainvarOfLevelSpec : ChangeSpec := { name := "mainvarOfLevel", fn := fun _ => fun
  | [d1, d2] => { results := [.lit (.bool true)], args := [d1, d2] }
  | _ => none }
def mainvarOfLevelRow : OpenClaim := { program := "ytodjlgkamokakaagreat", sum := "e5c713cef5a72fbfc22d6b6d7f9146aeead709f329cf98bbb883b049632ad535", func := "cylinder/cylinderlaw23.MainvarOfLevel", spec := "mainvarOfLevel", unfollowed := true, recurses := true, named := ["math/bits.overflowError"], plainKeys := false, apart := false }
def MainvarOfLevelSaid : Prop := mainvarOfLevelRow.holds Tryz.pinned (OpenSpec.ofChange mainvarOfLevelSpec)

/-- ITS FALSE NEIGHBOUR: 'it returns false'. Refute it at one input. -/
def mainvarOfLevelWrong : ChangeSpec := { name := "mainvarOfLevel", fn := fun _ => fun
  | [d1, d2] => { results := [.lit (.bool false)], args := [d1, d2] }
  | _ => none }
def MainvarOfLevelWrongFalsely : Prop := mainvarOfLevelRow.holds Tryz.pinned (OpenSpec.ofChange mainvarOfLevelWrong)

/-- 'cylinderlaw24.PseudoInexact': WHATEVER THE INPUT: true; the input reads as it did. -/
def pseudoInexactSpec : ChangeSpec := { name := "pseudoInexact", fn := fun _ => fun
  | [d1, d2, d3] => { results := [.lit (.bool true)], args := [d1, d2, d3] }
  | _ => none }
def pseudoInexactRow : OpenClaim := { program := "ytodjlgkamokakaagreat", sum := "e5c713cef5a72fbfc22d6b6d7f9146aeead709f329cf98bbb883b049632ad535", func := "cylinder/cylinderlaw24.PseudoInexact", spec := "pseudoInexact", unfollowed := true, recurses := true, named := ["math/bits.overflowError"], plainKeys := false, apart := false }
def PseudoInexactSaid : Prop := pseudoInexactRow.holds Tryz.pinned (OpenSpec.ofChange pseudoInexactSpec)

/-- ITS FALSE NEIGHBOUR: 'it returns false'. Refute it at one input. -/
def pseudoInexactWrong : ChangeSpec := { name := "pseudoInexact", fn := fun _ => fun
  | [d1, d2, d3] => { results := [.lit (.bool false)], args := [d1, d2, d3] }
  | _ => none }
def PseudoInexactWrongFalsely : Prop := pseudoInexactRow.holds Tryz.pinned (OpenSpec.ofChange pseudoInexactWrong)

/-- 'cylinderlaw24.PseudoMultiplicity': WHATEVER THE INPUT: true; the input reads as it did. -/
def pseudoMultiplicitySpec : ChangeSpec := { name := "pseudoMultiplicity", fn := fun _ => fun
  | [d1, d2, d3] => { results := [.lit (.bool true)], args := [d1, d2, d3] }
  | _ => none }
def pseudoMultiplicityRow : OpenClaim := { program := "ytodjlgkamokakaagreat", sum := "e5c713cef5a72fbfc22d6b6d7f9146aeead709f329cf98bbb883b049632ad535", func := "cylinder/cylinderlaw24.PseudoMultiplicity", spec := "pseudoMultiplicity", unfollowed := true, recurses := true, named := ["math/bits.overflowError"], plainKeys := false, apart := false }
def PseudoMultiplicitySaid : Prop := pseudoMultiplicityRow.holds Tryz.pinned (OpenSpec.ofChange pseudoMultiplicitySpec)

/-- ITS FALSE NEIGHBOUR: 'it returns false'. Refute it at one input. -/
def pseudoMultiplicityWrong : ChangeSpec := { name := "pseudoMultiplicity", fn := fun _ => fun
  | [d1, d2, d3] => { results := [.lit (.bool false)], args := [d1, d2, d3] }
  | _ => none }
def PseudoMultiplicityWrongFalsely : Prop := pseudoMultiplicityRow.holds Tryz.pinned (OpenSpec.ofChange pseudoMultiplicityWrong)

/-- 'cylinderlaw23.MainvarReductum': WHATEVER THE INPUT: true; the input reads as it did. -/
def mainvarReductumSpec : ChangeSpec := { name := "mainvarReductum", fn := fun _ => fun
  | [d1, d2] => { results := [.lit (.bool true)], args := [d1, d2] }
  | _ => none }
def mainvarReductumRow : OpenClaim := { program := "ytodjlgkamokakaagreat", sum := "e5c713cef5a72fbfc22d6b6d7f9146aeead709f329cf98bbb883b049632ad535", func := "cylinder/cylinderlaw23.MainvarReductum", spec := "mainvarReductum", unfollowed := true, recurses := true, named := ["math/bits.overflowError"], plainKeys := false, apart := false }
def MainvarReductumSaid : Prop := mainvarReductumRow.holds Tryz.pinned (OpenSpec.ofChange mainvarReductumSpec)

/-- ITS FALSE NEIGHBOUR: 'it returns false'. Refute it at one input. -/
def mainvarReductumWrong : ChangeSpec := { name := "mainvarReductum", fn := fun _ => fun
  | [d1, d2] => { results := [.lit (.bool false)], args := [d1, d2] }
  | _ => none }
def MainvarReductumWrongFalsely : Prop := mainvarReductumRow.holds Tryz.pinned (OpenSpec.ofChange mainvarReductumWrong)

/-- 'cylinderlaw24.PseudoWithout': WHATEVER THE INPUT: true; the input reads as it did. -/
def pseudoWithoutSpec : ChangeSpec := { name := "pseudoWithout", fn := fun _ => fun
  | [d1, d2] => { results := [.lit (.bool true)], args := [d1, d2] }
  | _ => none }
def pseudoWithoutRow : OpenClaim := { program := "ytodjlgkamokakaagreat", sum := "e5c713cef5a72fbfc22d6b6d7f9146aeead709f329cf98bbb883b049632ad535", func := "cylinder/cylinderlaw24.PseudoWithout", spec := "pseudoWithout", unfollowed := true, recurses := true, named := ["math/bits.overflowError"], plainKeys := false, apart := false }
def PseudoWithoutSaid : Prop := pseudoWithoutRow.holds Tryz.pinned (OpenSpec.ofChange pseudoWithoutSpec)

/-- ITS FALSE NEIGHBOUR: 'it returns false'. Refute it at one input. -/
def pseudoWithoutWrong : ChangeSpec := { name := "pseudoWithout", fn := fun _ => fun
  | [d1, d2] => { results := [.lit (.bool false)], args := [d1, d2] }
  | _ => none }
def PseudoWithoutWrongFalsely : Prop := pseudoWithoutRow.holds Tryz.pinned (OpenSpec.ofChange pseudoWithoutWrong)

/-- 'cylinderlaw23.MainvarDegree': WHATEVER THE INPUT: true; the input reads as it did. -/
def mainvarDegreeSpec : ChangeSpec := { name := "mainvarDegree", fn := fun _ => fun
  | [d1, d2] => { results := [.lit (.bool true)], args := [d1, d2] }
  | _ => none }
def mainvarDegreeRow : OpenClaim := { program := "ytodjlgkamokakaagreat", sum := "e5c713cef5a72fbfc22d6b6d7f9146aeead709f329cf98bbb883b049632ad535", func := "cylinder/cylinderlaw23.MainvarDegree", spec := "mainvarDegree", unfollowed := true, recurses := true, named := ["math/bits.overflowError"], plainKeys := false, apart := false }
def MainvarDegreeSaid : Prop := mainvarDegreeRow.holds Tryz.pinned (OpenSpec.ofChange mainvarDegreeSpec)

/-- ITS FALSE NEIGHBOUR: 'it returns false'. Refute it at one input. -/
def mainvarDegreeWrong : ChangeSpec := { name := "mainvarDegree", fn := fun _ => fun
  | [d1, d2] => { results := [.lit (.bool false)], args := [d1, d2] }
  | _ => none }
def MainvarDegreeWrongFalsely : Prop := mainvarDegreeRow.holds Tryz.pinned (OpenSpec.ofChange mainvarDegreeWrong)

/- THE SECOND FORM. 'bulk': how many values and letters a reading holds, each counted each time it is reached (what is shared counts as often as it is met; a slice's spare places count too). A statement '..UptoSaid' is the law's where the arguments, and the package variables that the reading takes, are together of bulk at most 1048576: NARROWER than '..Said'. Prove '..Said' where nothing that the law and all that it calls make is longer than what came in: it says more and counts as full. Else prove '..UptoSaid'. A law counts once. -/
mutual
def uptoBulk {H : Type} : DataW H → Nat
  | .lit (.string bytes) => bytes.length + 1
  | .lit _ => 1
  | .nil => 1
  | .ptr d => uptoBulk d + 1
  | .slice elems spare => uptoBulkAll elems + uptoBulkAll spare + 1
  | .agg parts => uptoBulkAll parts + 1
  | .iface _ d => uptoBulk d + 1
  | .map entries => uptoBulkEntries entries + 1
  | .held _ => 1
def uptoBulkAll {H : Type} : List (DataW H) → Nat
  | [] => 0
  | d :: r => uptoBulk d + uptoBulkAll r
def uptoBulkEntries {H : Type} : List (Lit × DataW H) → Nat
  | [] => 0
  | x :: r => uptoBulkEntry x + uptoBulkEntries r
def uptoBulkEntry {H : Type} : Lit × DataW H → Nat
  | (.string bytes, d) => bytes.length + uptoBulk d + 1
  | (_, d) => uptoBulk d + 1
 end
def uptoSmall : (H : Type) → List (DataW H) → Bool := fun _ ds => decide (uptoBulkAll ds ≤ 1048576)
def OpenSpec.upto (s : _root_.Go.ChangeSpec) : _root_.Go.OpenSpec := { _root_.Go.OpenSpec.ofChange s with cond := some uptoSmall }

/-- 'cylinderlaw24.PseudoExact', WHERE WHAT IT READS IS OF BULK AT MOST 1048576: true; the input reads as it did. -/
def pseudoExactUptoRow : OpenClaim := { program := "ytodjlgkamokakaagreat", sum := "e5c713cef5a72fbfc22d6b6d7f9146aeead709f329cf98bbb883b049632ad535", func := "cylinder/cylinderlaw24.PseudoExact", spec := "pseudoExact", unfollowed := true, recurses := true, named := ["math/bits.overflowError"], plainKeys := false, apart := false, narrowed := true }
def PseudoExactUptoSaid : Prop := pseudoExactUptoRow.holds Tryz.pinned (OpenSpec.upto pseudoExactSpec)

/-- 'cylinderlaw24.PseudoDivides', WHERE WHAT IT READS IS OF BULK AT MOST 1048576: true; the input reads as it did. -/
def pseudoDividesUptoRow : OpenClaim := { program := "ytodjlgkamokakaagreat", sum := "e5c713cef5a72fbfc22d6b6d7f9146aeead709f329cf98bbb883b049632ad535", func := "cylinder/cylinderlaw24.PseudoDivides", spec := "pseudoDivides", unfollowed := true, recurses := true, named := ["math/bits.overflowError"], plainKeys := false, apart := false, narrowed := true }
def PseudoDividesUptoSaid : Prop := pseudoDividesUptoRow.holds Tryz.pinned (OpenSpec.upto pseudoDividesSpec)

/-- 'cylinderlaw23.MainvarOrder', WHERE WHAT IT READS IS OF BULK AT MOST 1048576: true; the input reads as it did. -/
def mainvarOrderUptoRow : OpenClaim := { program := "ytodjlgkamokakaagreat", sum := "e5c713cef5a72fbfc22d6b6d7f9146aeead709f329cf98bbb883b049632ad535", func := "cylinder/cylinderlaw23.MainvarOrder", spec := "mainvarOrder", unfollowed := true, recurses := true, named := ["math/bits.overflowError"], plainKeys := false, apart := false, narrowed := true }
def MainvarOrderUptoSaid : Prop := mainvarOrderUptoRow.holds Tryz.pinned (OpenSpec.upto mainvarOrderSpec)

/-- 'cylinderlaw23.MainvarJoin', WHERE WHAT IT READS IS OF BULK AT MOST 1048576: true; the input reads as it did. -/
def mainvarJoinUptoRow : OpenClaim := { program := "ytodjlgkamokakaagreat", sum := "e5c713cef5a72fbfc22d6b6d7f9146aeead709f329cf98bbb883b049632ad535", func := "cylinder/cylinderlaw23.MainvarJoin", spec := "mainvarJoin", unfollowed := true, recurses := true, named := ["math/bits.overflowError"], plainKeys := false, apart := false, narrowed := true }
def MainvarJoinUptoSaid : Prop := mainvarJoinUptoRow.holds Tryz.pinned (OpenSpec.upto mainvarJoinSpec)

/-- 'cylinderlaw23.MainvarFamily', WHERE WHAT IT READS IS OF BULK AT MOST 1048576: true; the input reads as it did. -/
def mainvarFamilyUptoRow : OpenClaim := { program := "ytodjlgkamokakaagreat", sum := "e5c713cef5a72fbfc22d6b6d7f9146aeead709f329cf98bbb883b049632ad535", func := "cylinder/cylinderlaw23.MainvarFamily", spec := "mainvarFamily", unfollowed := true, recurses := true, named := ["math/bits.overflowError"], plainKeys := false, apart := false, narrowed := true }
def MainvarFamilyUptoSaid : Prop := mainvarFamilyUptoRow.holds Tryz.pinned (OpenSpec.upto mainvarFamilySpec)

/-- 'cylinderlaw23.MainvarProduct', WHERE WHAT IT READS IS OF BULK AT MOST 1048576: true; the input reads as it did. -/
def mainvarProductUptoRow : OpenClaim := { program := "ytodjlgkamokakaagreat", sum := "e5c713cef5a72fbfc22d6b6d7f9146aeead709f329cf98bbb883b049632ad535", func := "cylinder/cylinderlaw23.MainvarProduct", spec := "mainvarProduct", unfollowed := true, recurses := true, named := ["math/bits.overflowError"], plainKeys := false, apart := false, narrowed := true }
def MainvarProductUptoSaid : Prop := mainvarProductUptoRow.holds Tryz.pinned (OpenSpec.upto mainvarProductSpec)

/-- 'cylinderlaw23.MainvarOfLevel', WHERE WHAT IT READS IS OF BULK AT MOST 1048576: true; the input reads as it did. -/
def mainvarOfLevelUptoRow : OpenClaim := { program := "ytodjlgkamokakaagreat", sum := "e5c713cef5a72fbfc22d6b6d7f9146aeead709f329cf98bbb883b049632ad535", func := "cylinder/cylinderlaw23.MainvarOfLevel", spec := "mainvarOfLevel", unfollowed := true, recurses := true, named := ["math/bits.overflowError"], plainKeys := false, apart := false, narrowed := true }
def MainvarOfLevelUptoSaid : Prop := mainvarOfLevelUptoRow.holds Tryz.pinned (OpenSpec.upto mainvarOfLevelSpec)

/-- 'cylinderlaw24.PseudoInexact', WHERE WHAT IT READS IS OF BULK AT MOST 1048576: true; the input reads as it did. -/
def pseudoInexactUptoRow : OpenClaim := { program := "ytodjlgkamokakaagreat", sum := "e5c713cef5a72fbfc22d6b6d7f9146aeead709f329cf98bbb883b049632ad535", func := "cylinder/cylinderlaw24.PseudoInexact", spec := "pseudoInexact", unfollowed := true, recurses := true, named := ["math/bits.overflowError"], plainKeys := false, apart := false, narrowed := true }
def PseudoInexactUptoSaid : Prop := pseudoInexactUptoRow.holds Tryz.pinned (OpenSpec.upto pseudoInexactSpec)

/-- 'cylinderlaw24.PseudoMultiplicity', WHERE WHAT IT READS IS OF BULK AT MOST 1048576: true; the input reads as it did. -/
def pseudoMultiplicityUptoRow : OpenClaim := { program := "ytodjlgkamokakaagreat", sum := "e5c713cef5a72fbfc22d6b6d7f9146aeead709f329cf98bbb883b049632ad535", func := "cylinder/cylinderlaw24.PseudoMultiplicity", spec := "pseudoMultiplicity", unfollowed := true, recurses := true, named := ["math/bits.overflowError"], plainKeys := false, apart := false, narrowed := true }
def PseudoMultiplicityUptoSaid : Prop := pseudoMultiplicityUptoRow.holds Tryz.pinned (OpenSpec.upto pseudoMultiplicitySpec)

/-- 'cylinderlaw23.MainvarReductum', WHERE WHAT IT READS IS OF BULK AT MOST 1048576: true; the input reads as it did. -/
def mainvarReductumUptoRow : OpenClaim := { program := "ytodjlgkamokakaagreat", sum := "e5c713cef5a72fbfc22d6b6d7f9146aeead709f329cf98bbb883b049632ad535", func := "cylinder/cylinderlaw23.MainvarReductum", spec := "mainvarReductum", unfollowed := true, recurses := true, named := ["math/bits.overflowError"], plainKeys := false, apart := false, narrowed := true }
def MainvarReductumUptoSaid : Prop := mainvarReductumUptoRow.holds Tryz.pinned (OpenSpec.upto mainvarReductumSpec)

/-- 'cylinderlaw24.PseudoWithout', WHERE WHAT IT READS IS OF BULK AT MOST 1048576: true; the input reads as it did. -/
def pseudoWithoutUptoRow : OpenClaim := { program := "ytodjlgkamokakaagreat", sum := "e5c713cef5a72fbfc22d6b6d7f9146aeead709f329cf98bbb883b049632ad535", func := "cylinder/cylinderlaw24.PseudoWithout", spec := "pseudoWithout", unfollowed := true, recurses := true, named := ["math/bits.overflowError"], plainKeys := false, apart := false, narrowed := true }
def PseudoWithoutUptoSaid : Prop := pseudoWithoutUptoRow.holds Tryz.pinned (OpenSpec.upto pseudoWithoutSpec)

/-- 'cylinderlaw23.MainvarDegree', WHERE WHAT IT READS IS OF BULK AT MOST 1048576: true; the input reads as it did. -/
def mainvarDegreeUptoRow : OpenClaim := { program := "ytodjlgkamokakaagreat", sum := "e5c713cef5a72fbfc22d6b6d7f9146aeead709f329cf98bbb883b049632ad535", func := "cylinder/cylinderlaw23.MainvarDegree", spec := "mainvarDegree", unfollowed := true, recurses := true, named := ["math/bits.overflowError"], plainKeys := false, apart := false, narrowed := true }
def MainvarDegreeUptoSaid : Prop := mainvarDegreeUptoRow.holds Tryz.pinned (OpenSpec.upto mainvarDegreeSpec)

end Rows
end Go.Proofs.YtodjlgkamokakaaGreat
