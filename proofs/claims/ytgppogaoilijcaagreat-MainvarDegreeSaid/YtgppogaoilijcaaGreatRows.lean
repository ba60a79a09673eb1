/-
  NARROWER THAN 'FOR EVERY INPUT', by the rows' own cells (each row's printed sentence says how): SimplifyPolys: loops · SimplifyTruth: loops.
  DERIVED. THE GIVEN ROWS OF THIS SEAT. 12 by the template 'for every input the law returns true; each argument reads behind the call as it read before'; 0 by the template 'total and deterministic' (their statements: YtgppogaoilijcaaGreatTotals.lean).
  GIVEN WITH THE SEED: the statements are not yours to turn. If you find one false, say at which input.
  Laid BY PROGRAM, IN A SANDBOX (cutbox-rows.mjs): the forced cells as the released guide's own fill.sh prints them over the translation d27fd9e35f4af90e… (all of the seat's roots in one cut). By AI agents, Wed Nov 11 2026. No macro, syntax, notation, axiom, sorry.
-/
import Derived.Test.YtgppogaoilijcaaGreatChecked
import GoSem.Claim
import GoSem.ClaimJoined
import GoSem.ClaimMapViews
import Derived.JoinedTies
import Derived.KernelRfl
namespace Go.Proofs.YtgppogaoilijcaaGreat
/- THE CELL 'sum', in the pinned program and in every row, IS THE sha256 OF THE DUMP (.gsa) THAT YtgppogaoilijcaaGreatProg.lean LOADS. Nothing in Lean hashes anything: it is a label: what it is worth is what the hold of that sum in a sandbox is worth. -/
noncomputable def Tryz.pinned : Pinned := { name := "ytgppogaoilijcaagreat", sum := "d27fd9e35f4af90e78c14644986d0537f465c21f4e895cda2c75d2d892bdc893", checked := Tryz.checked }
namespace Rows
def none {H : Type} : Left H := { results := [], args := [] }

/-- 'cylinderlaw24.PseudoWithout': WHATEVER THE INPUT: true; the input reads as it did. -/
def pseudoWithoutSpec : ChangeSpec := { name := "pseudoWithout", fn := fun _ => fun
  | [d1, d2] => { results := [.lit (.bool true)], args := [d1, d2] }
  | _ => none }
def pseudoWithoutRow : OpenClaim := { program := "ytgppogaoilijcaagreat", sum := "d27fd9e35f4af90e78c14644986d0537f465c21f4e895cda2c75d2d892bdc893", func := "cylinder/cylinderlaw24.PseudoWithout", spec := "pseudoWithout", unfollowed := true, recurses := true, named := ["math/bits.overflowError"], plainKeys := false, apart := false }
def PseudoWithoutSaid : Prop := pseudoWithoutRow.holds Tryz.pinned (OpenSpec.ofChange pseudoWithoutSpec)

/-- ITS FALSE NEIGHBOUR: 'it returns false'. Refute it at one input. -/
def pseudoWithoutWrong : ChangeSpec := { name := "pseudoWithout", fn := fun _ => fun
  | [d1, d2] => { results := [.lit (.bool false)], args := [d1, d2] }
  | _ => none }
def PseudoWithoutWrongFalsely : Prop := pseudoWithoutRow.holds Tryz.pinned (OpenSpec.ofChange pseudoWithoutWrong)

/-- 'cylinderlaw23.MainvarOrder': WHATEVER THE INPUT: true; the input reads as it did. -/
def mainvarOrderSpec : ChangeSpec := { name := "mainvarOrder", fn := fun _ => fun
  | [d1, d2] => { results := [.lit (.bool true)], args := [d1, d2] }
  | _ => none }
def mainvarOrderRow : OpenClaim := { program := "ytgppogaoilijcaagreat", sum := "d27fd9e35f4af90e78c14644986d0537f465c21f4e895cda2c75d2d892bdc893", func := "cylinder/cylinderlaw23.MainvarOrder", spec := "mainvarOrder", unfollowed := true, recurses := true, named := ["math/bits.overflowError"], plainKeys := false, apart := false }
def MainvarOrderSaid : Prop := mainvarOrderRow.holds Tryz.pinned (OpenSpec.ofChange mainvarOrderSpec)

/-- ITS FALSE NEIGHBOUR: 'it returns false'. Refute it at one input. -/
def mainvarOrderWrong : ChangeSpec := { name := "mainvarOrder", fn := fun _ => fun
  | [d1, d2] => { results := [.lit (.bool false)], args := [d1, d2] }
  | _ => none }
def MainvarOrderWrongFalsely : Prop := mainvarOrderRow.holds Tryz.pinned (OpenSpec.ofChange mainvarOrderWrong)

/-- 'cylinderlaw23.MainvarJoin': WHATEVER THE INPUT: true; the input reads as it did. -/
def mainvarJoinSpec : ChangeSpec := { name := "mainvarJoin", fn := fun _ => fun
  | [d1, d2] => { results := [.lit (.bool true)], args := [d1, d2] }
  | _ => none }
def mainvarJoinRow : OpenClaim := { program := "ytgppogaoilijcaagreat", sum := "d27fd9e35f4af90e78c14644986d0537f465c21f4e895cda2c75d2d892bdc893", func := "cylinder/cylinderlaw23.MainvarJoin", spec := "mainvarJoin", unfollowed := true, recurses := true, named := ["math/bits.overflowError"], plainKeys := false, apart := false }
def MainvarJoinSaid : Prop := mainvarJoinRow.holds Tryz.pinned (OpenSpec.ofChange mainvarJoinSpec)

/-- ITS FALSE NEIGHBOUR: 'it returns false'. Refute it at one input. -/
def mainvarJoinWrong : ChangeSpec := { name := "mainvarJoin", fn := fun _ => fun
  | [d1, d2] => { results := [.lit (.bool false)], args := [d1, d2] }
  | _ => none }
def MainvarJoinWrongFalsely : Prop := mainvarJoinRow.holds Tryz.pinned (OpenSpec.ofChange mainvarJoinWrong)

/-- 'cylinderlaw23.MainvarFamily': WHATEVER THE INPUT: true; the input reads as it did. -/
def mainvarFamilySpec : ChangeSpec := { name := "mainvarFamily", fn := fun _ => fun
  | [d] => { results := [.lit (.bool true)], args := [d] }
  | _ => none }
def mainvarFamilyRow : OpenClaim := { program := "ytgppogaoilijcaagreat", sum := "d27fd9e35f4af90e78c14644986d0537f465c21f4e895cda2c75d2d892bdc893", func := "cylinder/cylinderlaw23.MainvarFamily", spec := "mainvarFamily", unfollowed := true, recurses := true, named := ["math/bits.overflowError"], plainKeys := false, apart := false }
def MainvarFamilySaid : Prop := mainvarFamilyRow.holds Tryz.pinned (OpenSpec.ofChange mainvarFamilySpec)

/-- ITS FALSE NEIGHBOUR: 'it returns false'. Refute it at one input. -/
def mainvarFamilyWrong : ChangeSpec := { name := "mainvarFamily", fn := fun _ => fun
  | [d] => { results := [.lit (.bool false)], args := [d] }
  | _ => none }
def MainvarFamilyWrongFalsely : Prop := mainvarFamilyRow.holds Tryz.pinned (OpenSpec.ofChange mainvarFamilyWrong)

/-- 'cylinderlaw23.MainvarProduct': WHATEVER THE INPUT: true; the input reads as it did. -/
def mainvarProductSpec : ChangeSpec := { name := "mainvarProduct", fn := fun _ => fun
  | [d1, d2, d3] => { results := [.lit (.bool true)], args := [d1, d2, d3] }
  | _ => none }
def mainvarProductRow : OpenClaim := { program := "ytgppogaoilijcaagreat", sum := "d27fd9e35f4af90e78c14644986d0537f465c21f4e895cda2c75d2d892bdc893", func := "cylinder/cylinderlaw23.MainvarProduct", spec := "mainvarProduct", unfollowed := true, recurses := true, named := ["math/bits.overflowError"], plainKeys := false, apart := false }
def MainvarProductSaid : Prop := mainvarProductRow.holds Tryz.pinned (OpenSpec.ofChange mainvarProductSpec)

/-- ITS FALSE NEIGHBOUR: 'it returns false'. Refute it at one input. -/
def mainvarProductWrong : ChangeSpec := { name := "mainvarProduct", fn := fun _ => fun
  | [d1, d2, d3] => { results := [.lit (.bool false)], args := [d1, d2, d3] }
  | _ => none }
def MainvarProductWrongFalsely : Prop := mainvarProductRow.holds Tryz.pinned (OpenSpec.ofChange mainvarProductWrong)

/-- 'cylinderlaw23.MainvarOfLevel': WHATEVER THE INPUT: true; the input reads as it did. -/
def mainvarOfLevelSpec : ChangeSpec := { name := "mainvarOfLevel", fn := fun _ => fun
  | [d1, d2] => { results := [.lit (.bool true)], args := [d1, d2] }
  | _ => none }
def mainvarOfLevelRow : OpenClaim := { program := "ytgppogaoilijcaagreat", sum := "d27fd9e35f4af90e78c14644986d0537f465c21f4e895cda2c75d2d892bdc893", func := "cylinder/cylinderlaw23.MainvarOfLevel", spec := "mainvarOfLevel", unfollowed := true, recurses := true, named := ["math/bits.overflowError"], plainKeys := false, apart := false }
def MainvarOfLevelSaid : Prop := mainvarOfLevelRow.holds Tryz.pinned (OpenSpec.ofChange mainvarOfLevelSpec)

/-- ITS FALSE NEIGHBOUR: 'it returns false'. Refute it at one input. -/
def mainvarOfLevelWrong : ChangeSpec := { name := "mainvarOfLevel", fn := fun _ => fun
  | [d1, d2] => { results := [.lit (.bool false)], args := [d1, d2] }
  | _ => none }
def MainvarOfLevelWrongFalsely : Prop := mainvarOfLevelRow.holds Tryz.pinned (OpenSpec.ofChange mainvarOfLevelWrong)

/-- 'cylinderlaw23.MainvarReductum': WHATEVER THE INPUT: true; the input reads as it did. -/
def mainvarReductumSpec : ChangeSpec := { name := "mainvarReductum", fn := fun _ => fun
  | [d1, d2] => { results := [.lit (.bool true)], args := [d1, d2] }
  | _ => none }
def mainvarReductumRow : OpenClaim := { program := "ytgppogaoilijcaagreat", sum := "d27fd9e35f4af90e78c14644986d0537f465c21f4e895cda2c75d2d892bdc893", func := "cylinder/cylinderlaw23.MainvarReductum", spec := "mainvarReductum", unfollowed := true, recurses := true, named := ["math/bits.overflowError"], plainKeys := false, apart := false }
def MainvarReductumSaid : Prop := mainvarReductumRow.holds Tryz.pinned (OpenSpec.ofChange mainvarReductumSpec)

/-- ITS FALSE NEIGHBOUR: 'it returns false'. Refute it at one input. -/
def mainvarReductumWrong : ChangeSpec := { name := "mainvarReductum", fn := fun _ => fun
  | [d1, d2] => { results := [.lit (.bool false)], args := [d1, d2] }
  | _ => none }
def MainvarReductumWrongFalsely : Prop := mainvarReductumRow.holds Tryz.pinned (OpenSpec.ofChange mainvarReductumWrong)

/-- 'cylinderlaw23.MainvarDegree': WHATEVER THE INPUT: true; the input reads as it did. -/
def mainvarDegreeSpec : ChangeSpec := { name := "mainvarDegree", fn := fun _ => fun
  | [d1, d2] => { results := [.lit (.bool true)], args := [d1, d2] }
  | _ => none }
def mainvarDegreeRow : OpenClaim := { program := "ytgppogaoilijcaagreat", sum := "d27fd9e35f4af90e78c14644986d0537f465c21f4e895cda2c75d2d892bdc893", func := "cylinder/cylinderlaw23.MainvarDegree", spec := "mainvarDegree", unfollowed := true, recurses := true, named := ["math/bits.overflowError"], plainKeys := false, apart := false }
def MainvarDegreeSaid : Prop := mainvarDegreeRow.holds Tryz.pinned (OpenSpec.ofChange mainvarDegreeSpec)

/-- ITS FALSE NEIGHBOUR: 'it returns false'. Refute it at one input. -/
def mainvarDegreeWrong : ChangeSpec := { name := "mainvarDegree", fn := fun _ => fun
  | [d1, d2] => { results := [.lit (.bool false)], args := [d1, d2] }
  | _ => none }
def MainvarDegreeWrongFalsely : Prop := mainvarDegreeRow.holds Tryz.pinned (OpenSpec.ofChange mainvarDegreeWrong)

/-- 'cylinderlaw24.PseudoForms': WHATEVER THE INPUT: true; the input reads as it did. -/
def pseudoFormsSpec : ChangeSpec := { name := "pseudoForms", fn := fun _ => fun
  | [d1, d2, d3] => { results := [.lit (.bool true)], args := [d1, d2, d3] }
  | _ => none }
def pseudoFormsRow : OpenClaim := { program := "ytgppogaoilijcaagreat", sum := "d27fd9e35f4af90e78c14644986d0537f465c21f4e895cda2c75d2d892bdc893", func := "cylinder/cylinderlaw24.PseudoForms", spec := "pseudoForms", unfollowed := true, recurses := true, named := ["math/bits.overflowError"], plainKeys := false, apart := false }
def PseudoFormsSaid : Prop := pseudoFormsRow.holds Tryz.pinned (OpenSpec.ofChange pseudoFormsSpec)

/-- ITS FALSE NEIGHBOUR: 'it returns false'. Refute it at one input. -/
def pseudoFormsWrong : ChangeSpec := { name := "pseudoForms", fn := fun _ => fun
  | [d1, d2, d3] => { results := [.lit (.bool false)], args := [d1, d2, d3] }
  | _ => none }
def PseudoFormsWrongFalsely : Prop := pseudoFormsRow.holds Tryz.pinned (OpenSpec.ofChange pseudoFormsWrong)

/-- 'cylinderlaw24.PseudoDivide': WHATEVER THE INPUT: true; the input reads as it did. -/
def pseudoDivideSpec : ChangeSpec := { name := "pseudoDivide", fn := fun _ => fun
  | [d1, d2, d3] => { results := [.lit (.bool true)], args := [d1, d2, d3] }
  | _ => none }
def pseudoDivideRow : OpenClaim := { program := "ytgppogaoilijcaagreat", sum := "d27fd9e35f4af90e78c14644986d0537f465c21f4e895cda2c75d2d892bdc893", func := "cylinder/cylinderlaw24.PseudoDivide", spec := "pseudoDivide", unfollowed := true, recurses := true, named := ["math/bits.overflowError"], plainKeys := false, apart := false }
def PseudoDivideSaid : Prop := pseudoDivideRow.holds Tryz.pinned (OpenSpec.ofChange pseudoDivideSpec)

/-- ITS FALSE NEIGHBOUR: 'it returns false'. Refute it at one input. -/
def pseudoDivideWrong : ChangeSpec := { name := "pseudoDivide", fn := fun _ => fun
  | [d1, d2, d3] => { results := [.lit (.bool false)], args := [d1, d2, d3] }
  | _ => none }
def PseudoDivideWrongFalsely : Prop := pseudoDivideRow.holds Tryz.pinned (OpenSpec.ofChange pseudoDivideWrong)

/-- 'cylinderlaw39.SimplifyPolys': WHATEVER THE INPUT: true; the input reads as it did. -/
def simplifyPolysSpec : ChangeSpec := { name := "simplifyPolys", fn := fun _ => fun
  | [d] => { results := [.lit (.bool true)], args := [d] }
  | _ => none }
def simplifyPolysRow : OpenClaim := { program := "ytgppogaoilijcaagreat", sum := "d27fd9e35f4af90e78c14644986d0537f465c21f4e895cda2c75d2d892bdc893", func := "cylinder/cylinderlaw39.SimplifyPolys", spec := "simplifyPolys", unfollowed := true, recurses := true, named := ["math/bits.overflowError"], loops := true, plainKeys := false, apart := false }
def SimplifyPolysSaid : Prop := simplifyPolysRow.holds Tryz.pinned (OpenSpec.ofChange simplifyPolysSpec)

/-- ITS FALSE NEIGHBOUR: 'it returns false'. Refute it at one input. -/
def simplifyPolysWrong : ChangeSpec := { name := "simplifyPolys", fn := fun _ => fun
  | [d] => { results := [.lit (.bool false)], args := [d] }
  | _ => none }
def SimplifyPolysWrongFalsely : Prop := simplifyPolysRow.holds Tryz.pinned (OpenSpec.ofChange simplifyPolysWrong)

/-- 'cylinderlaw39.SimplifyTruth': WHATEVER THE INPUT: true; the input reads as it did. -/
def simplifyTruthSpec : ChangeSpec := { name := "simplifyTruth", fn := fun _ => fun
  | [d1, d2] => { results := [.lit (.bool true)], args := [d1, d2] }
  | _ => none }
def simplifyTruthRow : OpenClaim := { program := "ytgppogaoilijcaagreat", sum := "d27fd9e35f4af90e78c14644986d0537f465c21f4e895cda2c75d2d892bdc893", func := "cylinder/cylinderlaw39.SimplifyTruth", spec := "simplifyTruth", unfollowed := true, recurses := true, named := ["math/bits.overflowError"], loops := true, plainKeys := false, apart := false }
def SimplifyTruthSaid : Prop := simplifyTruthRow.holds Tryz.pinned (OpenSpec.ofChange simplifyTruthSpec)

/-- ITS FALSE NEIGHBOUR: 'it returns false'. Refute it at one input. -/
def simplifyTruthWrong : ChangeSpec := { name := "simplifyTruth", fn := fun _ => fun
  | [d1, d2] => { results := [.lit (.bool false)], args := [d1, d2] }
  | _ => none }
def SimplifyTruthWrongFalsely : Prop := simplifyTruthRow.holds Tryz.pinned (OpenSpec.ofChange simplifyTruthWrong)

/- THE SECOND FORM. 'bulk': how many values and letters a reading holds, each counted each time it is reached (what is shared counts as often as it is met; a slice's spare places count too). A statement '..UptoSaid' is the law's where the arguments, and the package variables that the reading takes, are together of bulk at most 1048576: NARROWER than '..Said'. Prove '..Said' where nothing that the law and all that it calls make is longer than what came in: it says more and counts as full. Else prove '..UptoSaid'. A law counts once. -/
mutual
def uptoBulk {H : Type} : DataW H → Nat
  | .lit (.string bytes) => bytes.length + 1
  | .lit _ => 1
  | .nil => 1
  | .ptr d => uptoBulk d + 1
  | .slice elems spare => uptoBulkAll elems + uptoBulkAll spare + 1
  | .agg parts => uptoBulkAll parts + 1
  | .iface _ d => uptoBulk d + 1
  | .map entries => uptoBulkEntries entries + 1
  | .held _ => 1
def uptoBulkAll {H : Type} : List (DataW H) → Nat
  | [] => 0
  | d :: r => uptoBulk d + uptoBulkAll r
def uptoBulkEntries {H : Type} : List (Lit × DataW H) → Nat
  | [] => 0
  | x :: r => uptoBulkEntry x + uptoBulkEntries r
def uptoBulkEntry {H : Type} : Lit × DataW H → Nat
  | (.string bytes, d) => bytes.length + uptoBulk d + 1
  | (_, d) => uptoBulk d + 1
 end
def uptoSmall : (H : Type) → List (DataW H) → Bool := fun _ ds => decide (uptoBulkAll ds ≤ 1048576)
def OpenSpec.upto (s : _root_.Go.ChangeSpec) : _root_.Go.OpenSpec := { _root_.Go.OpenSpec.ofChange s with cond := some uptoSmall }

/-- 'cylinderlaw24.PseudoWithout', WHERE WHAT IT READS IS OF BULK AT MOST 1048576: true; the input reads as it did. -/
def pseudoWithoutUptoRow : OpenClaim := { program := "ytgppogaoilijcaagreat", sum := "d27fd9e35f4af90e78c14644986d0537f465c21f4e895cda2c75d2d892bdc893", func := "cylinder/cylinderlaw24.PseudoWithout", spec := "pseudoWithout", unfollowed := true, recurses := true, named := ["math/bits.overflowError"], plainKeys := false, apart := false, narrowed := true }
def PseudoWithoutUptoSaid : Prop := pseudoWithoutUptoRow.holds Tryz.pinned (OpenSpec.upto pseudoWithoutSpec)

/-- 'cylinderlaw23.MainvarOrder', WHERE WHAT IT READS IS OF BULK AT MOST 1048576: true; the input reads as it did. -/
def mainvarOrderUptoRow : OpenClaim := { program := "ytgppogaoilijcaagreat", sum := "d27fd9e35f4af90e78c14644986d0537f465c21f4e895cda2c75d2d892bdc893", func := "cylinder/cylinderlaw23.MainvarOrder", spec := "mainvarOrder", unfollowed := true, recurses := true, named := ["math/bits.overflowError"], plainKeys := false, apart := false, narrowed := true }
def MainvarOrderUptoSaid : Prop := mainvarOrderUptoRow.holds Tryz.pinned (OpenSpec.upto mainvarOrderSpec)

/-- 'cylinderlaw23.MainvarJoin', WHERE WHAT IT READS IS OF BULK AT MOST 1048576: true; the input reads as it did. -/
def mainvarJoinUptoRow : OpenClaim := { program := "ytgppogaoilijcaagreat", sum := "d27fd9e35f4af90e78c14644986d0537f465c21f4e895cda2c75d2d892bdc893", func := "cylinder/cylinderlaw23.MainvarJoin", spec := "mainvarJoin", unfollowed := true, recurses := true, named := ["math/bits.overflowError"], plainKeys := false, apart := false, narrowed := true }
def MainvarJoinUptoSaid : Prop := mainvarJoinUptoRow.holds Tryz.pinned (OpenSpec.upto mainvarJoinSpec)

/-- 'cylinderlaw23.MainvarFamily', WHERE WHAT IT READS IS OF BULK AT MOST 1048576: true; the input reads as it did. -/
def mainvarFamilyUptoRow : OpenClaim := { program := "ytgppogaoilijcaagreat", sum := "d27fd9e35f4af90e78c14644986d0537f465c21f4e895cda2c75d2d892bdc893", func := "cylinder/cylinderlaw23.MainvarFamily", spec := "mainvarFamily", unfollowed := true, recurses := true, named := ["math/bits.overflowError"], plainKeys := false, apart := false, narrowed := true }
def MainvarFamilyUptoSaid : Prop := mainvarFamilyUptoRow.holds Tryz.pinned (OpenSpec.upto mainvarFamilySpec)

/-- 'cylinderlaw23.MainvarProduct', WHERE WHAT IT READS IS OF BULK AT MOST 1048576: true; the input reads as it did. -/
def mainvarProductUptoRow : OpenClaim := { program := "ytgppogaoilijcaagreat", sum := "d27fd9e35f4af90e78c14644986d0537f465c21f4e895cda2c75d2d892bdc893", func := "cylinder/cylinderlaw23.MainvarProduct", spec := "mainvarProduct", unfollowed := true, recurses := true, named := ["math/bits.overflowError"], plainKeys := false, apart := false, narrowed := true }
def MainvarProductUptoSaid : Prop := mainvarProductUptoRow.holds Tryz.pinned (OpenSpec.upto mainvarProductSpec)

/-- 'cylinderlaw23.MainvarOfLevel', WHERE WHAT IT READS IS OF BULK AT MOST 1048576: true; the input reads as it did. -/
def mainvarOfLevelUptoRow : OpenClaim := { program := "ytgppogaoilijcaagreat", sum := "d27fd9e35f4af90e78c14644986d0537f465c21f4e895cda2c75d2d892bdc893", func := "cylinder/cylinderlaw23.MainvarOfLevel", spec := "mainvarOfLevel", unfollowed := true, recurses := true, named := ["math/bits.overflowError"], plainKeys := false, apart := false, narrowed := true }
def MainvarOfLevelUptoSaid : Prop := mainvarOfLevelUptoRow.holds Tryz.pinned (OpenSpec.upto mainvarOfLevelSpec)

/-- 'cylinderlaw23.MainvarReductum', WHERE WHAT IT READS IS OF BULK AT MOST 1048576: true; the input reads as it did. -/
def mainvarReductumUptoRow : OpenClaim := { program := "ytgppogaoilijcaagreat", sum := "d27fd9e35f4af90e78c14644986d0537f465c21f4e895cda2c75d2d892bdc893", func := "cylinder/cylinderlaw23.MainvarReductum", spec := "mainvarReductum", unfollowed := true, recurses := true, named := ["math/bits.overflowError"], plainKeys := false, apart := false, narrowed := true }
def MainvarReductumUptoSaid : Prop := mainvarReductumUptoRow.holds Tryz.pinned (OpenSpec.upto mainvarReductumSpec)

/-- 'cylinderlaw23.MainvarDegree', WHERE WHAT IT READS IS OF BULK AT MOST 1048576: true; the input reads as it did. -/
def mainvarDegreeUptoRow : OpenClaim := { program := "ytgppogaoilijcaagreat", sum := "d27fd9e35f4af90e78c14644986d0537f465c21f4e895cda2c75d2d892bdc893", func := "cylinder/cylinderlaw23.MainvarDegree", spec := "mainvarDegree", unfollowed := true, recurses := true, named := ["math/bits.overflowError"], plainKeys := false, apart := false, narrowed := true }
def MainvarDegreeUptoSaid : Prop := mainvarDegreeUptoRow.holds Tryz.pinned (OpenSpec.upto mainvarDegreeSpec)

/-- 'cylinderlaw24.PseudoForms', WHERE WHAT IT READS IS OF BULK AT MOST 1048576: true; the input reads as it did. -/
def pseudoFormsUptoRow : OpenClaim := { program := "ytgppogaoilijcaagreat", sum := "d27fd9e35f4af90e78c14644986d0537f465c21f4e895cda2c75d2d892bdc893", func := "cylinder/cylinderlaw24.PseudoForms", spec := "pseudoForms", unfollowed := true, recurses := true, named := ["math/bits.overflowError"], plainKeys := false, apart := false, narrowed := true }
def PseudoFormsUptoSaid : Prop := pseudoFormsUptoRow.holds Tryz.pinned (OpenSpec.upto pseudoFormsSpec)

/-- 'cylinderlaw24.PseudoDivide', WHERE WHAT IT READS IS OF BULK AT MOST 1048576: true; the input reads as it did. -/
def pseudoDivideUptoRow : OpenClaim := { program := "ytgppogaoilijcaagreat", sum := "d27fd9e35f4af90e78c14644986d0537f465c21f4e895cda2c75d2d892bdc893", func := "cylinder/cylinderlaw24.PseudoDivide", spec := "pseudoDivide", unfollowed := true, recurses := true, named := ["math/bits.overflowError"], plainKeys := false, apart := false, narrowed := true }
def PseudoDivideUptoSaid : Prop := pseudoDivideUptoRow.holds Tryz.pinned (OpenSpec.upto pseudoDivideSpec)

/-- 'cylinderlaw39.SimplifyPolys', WHERE WHAT IT READS IS OF BULK AT MOST 1048576: true; the input reads as it did. -/
def simplifyPolysUptoRow : OpenClaim := { program := "ytgppogaoilijcaagreat", sum := "d27fd9e35f4af90e78c14644986d0537f465c21f4e895cda2c75d2d892bdc893", func := "cylinder/cylinderlaw39.SimplifyPolys", spec := "simplifyPolys", unfollowed := true, recurses := true, named := ["math/bits.overflowError"], loops := true, plainKeys := false, apart := false, narrowed := true }
def SimplifyPolysUptoSaid : Prop := simplifyPolysUptoRow.holds Tryz.pinned (OpenSpec.upto simplifyPolysSpec)

/-- 'cylinderlaw39.SimplifyTruth', WHERE WHAT IT READS IS OF BULK AT MOST 1048576: true; the input reads as it did. -/
def simplifyTruthUptoRow : OpenClaim := { program := "ytgppogaoilijcaagreat", sum := "d27fd9e35f4af90e78c14644986d0537f465c21f4e895cda2c75d2d892bdc893", func := "cylinder/cylinderlaw39.SimplifyTruth", spec := "simplifyTruth", unfollowed := true, recurses := true, named := ["math/bits.overflowError"], loops := true, plainKeys := false, apart := false, narrowed := true }
def SimplifyTruthUptoSaid : Prop := simplifyTruthUptoRow.holds Tryz.pinned (OpenSpec.upto simplifyTruthSpec)

end Rows
end Go.Proofs.YtgppogaoilijcaaGreat
