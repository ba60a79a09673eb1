/-
  NARROWER THAN 'FOR EVERY INPUT', by the rows' own cells (each row's printed sentence says how): SimplifyPolys: loops · SimplifyTruth: loops · SimplifyFolds: loops.
  DERIVED. THE GIVEN ROWS OF THIS SEAT. 12 by the template 'for every input the law returns true; each argument reads behind the call as it read before'; 0 by the template 'total and deterministic' (their statements: YtjcceddloogiiaaGreatTotals.lean).
  GIVEN WITH THE SEED: the statements are not yours to turn. If you find one false, say at which input.
  Laid BY PROGRAM, IN A SANDBOX (cutbox-rows.mjs): the forced cells as the released guide's own fill.sh prints them over the translation 94f2fcfc0b340aa0… (all of the seat's roots in one cut). By AI agents, Wed Nov 11 2026. No macro, syntax, notation, axiom, sorry.
-/
import Derived.Test.YtjcceddloogiiaaGreatChecked
import GoSem.Claim
import GoSem.ClaimJoined
import GoSem.ClaimMapViews
import Derived.JoinedTies
import Derived.KernelRfl
namespace Go.Proofs.YtjcceddloogiiaaGreat
/- THE CELL 'sum', in the pinned program and in every row, IS THE sha256 OF THE DUMP (.gsa) THAT YtjcceddloogiiaaGreatProg.lean LOADS. Nothing in Lean hashes anything: it is a label: what it is worth is what the hold of that sum in a sandbox is worth. -/
noncomputable def Tryz.pinned : Pinned := { name := "ytjcceddloogiiaagreat", sum := "94f2fcfc0b340aa09905e063c4801678996d83e2785015d4050a6917cdf8e4a2", checked := Tryz.checked }
namespace Rows
def none {H : Type} : Left H := { results := [], args := [] }

/-- 'cylinderlaw23.MainvarFamily': WHATEVER THE INPUT: true; the input reads as it did. -/
def mainvarFamilySpec : ChangeSpec := { name := "mainvarFamily", fn := fun _ => fun
  | [d] => { results := [.lit (.bool true)], args := [d] }
  | _ => none }
def mainvarFamilyRow : OpenClaim := { program := "ytjcceddloogiiaagreat", sum := "94f2fcfc0b340aa09905e063c4801678996d83e2785015d4050a6917cdf8e4a2", func := "cylinder/cylinderlaw23.MainvarFamily", spec := "mainvarFamily", unfollowed := true, recurses := true, named := ["math/bits.overflowError"], plainKeys := false, apart := false }
def MainvarFamilySaid : Prop := mainvarFamilyRow.holds Tryz.pinned (OpenSpec.ofChange mainvarFamilySpec)

/-- ITS FALSE NEIGHBOUR: 'it returns false'. Refute it at one input. -/
def mainvarFamilyWrong : ChangeSpec := { name := "mainvarFamily", fn := fun _ => fun
  | [d] => { results := [.lit (.bool false)], args := [d] }
  | _ => none }
def MainvarFamilyWrongFalsely : Prop := mainvarFamilyRow.holds Tryz.pinned (OpenSpec.ofChange mainvarFamilyWrong)

/-- 'cylinderlaw39.SimplifyPolys': WHATEVER THE INPUT: true; the input reads as it did. -/
def simplifyPolysSpec : ChangeSpec := { name := "simplifyPolys", fn := fun _ => fun
  | [d] => { results := [.lit (.bool true)], args := [d] }
  | _ => none }
def simplifyPolysRow : OpenClaim := { program := "ytjcceddloogiiaagreat", sum := "94f2fcfc0b340aa09905e063c4801678996d83e2785015d4050a6917cdf8e4a2", func := "cylinder/cylinderlaw39.SimplifyPolys", spec := "simplifyPolys", unfollowed := true, recurses := true, named := ["math/bits.overflowError"], loops := true, plainKeys := false, apart := false }
def SimplifyPolysSaid : Prop := simplifyPolysRow.holds Tryz.pinned (OpenSpec.ofChange simplifyPolysSpec)

/-- ITS FALSE NEIGHBOUR: 'it returns false'. Refute it at one input. -/
def simplifyPolysWrong : ChangeSpec := { name := "simplifyPolys", fn := fun _ => fun
  | [d] => { results := [.lit (.bool false)], args := [d] }
  | _ => none }
def SimplifyPolysWrongFalsely : Prop := simplifyPolysRow.holds Tryz.pinned (OpenSpec.ofChange simplifyPolysWrong)

/-- 'cylinderlaw24.PseudoForms': WHATEVER THE INPUT: true; the input reads as it did. -/
def pseudoFormsSpec : ChangeSpec := { name := "pseudoForms", fn := fun _ => fun
  | [d1, d2, d3] => { results := [.lit (.bool true)], args := [d1, d2, d3] }
  | _ => none }
def pseudoFormsRow : OpenClaim := { program := "ytjcceddloogiiaagreat", sum := "94f2fcfc0b340aa09905e063c4801678996d83e2785015d4050a6917cdf8e4a2", func := "cylinder/cylinderlaw24.PseudoForms", spec := "pseudoForms", unfollowed := true, recurses := true, named := ["math/bits.overflowError"], plainKeys := false, apart := false }
def PseudoFormsSaid : Prop := pseudoFormsRow.holds Tryz.pinned (OpenSpec.ofChange pseudoFormsSpec)

/-- ITS FALSE NEIGHBOUR: 'it returns false'. Refute it at one input. -/
def pseudoFormsWrong : ChangeSpec := { name := "pseudoForms", fn := fun _ => fun
  | [d1, d2, d3] => { results := [.lit (.bool false)], args := [d1, d2, d3] }
  | _ => none }
def PseudoFormsWrongFalsely : Prop := pseudoFormsRow.holds Tryz.pinned (OpenSpec.ofChange pseudoFormsWrong)

/-- 'cylinderlaw39.SimplifyTruth': WHATEVER THE INPUT: true; the input reads as it did. -/
def simplifyTruthSpec : ChangeSpec := { name := "simplifyTruth", fn := fun _ => fun
  | [d1, d2] => { results := [.lit (.bool true)], args := [d1, d2] }
  | _ => none }
def simplifyTruthRow : OpenClaim := { program := "ytjcceddloogiiaagreat", sum := "94f2fcfc0b340aa09905e063c4801678996d83e2785015d4050a6917cdf8e4a2", func := "cylinder/cylinderlaw39.SimplifyTruth", spec := "simplifyTruth", unfollowed := true, recurses := true, named := ["math/bits.overflowError"], loops := true, plainKeys := false, apart := false }
def SimplifyTruthSaid : Prop := simplifyTruthRow.holds Tryz.pinned (OpenSpec.ofChange simplifyTruthSpec)

/-- ITS FALSE NEIGHBOUR: 'it returns false'. Refute it at one input. -/
def simplifyTruthWrong : ChangeSpec := { name := "simplifyTruth", fn := fun _ => fun
  | [d1, d2] => { results := [.lit (.bool false)], args := [d1, d2] }
  | _ => none }
def SimplifyTruthWrongFalsely : Prop := simplifyTruthRow.holds Tryz.pinned (OpenSpec.ofChange simplifyTruthWrong)

/-- 'cylinderlaw39.SimplifyFolds': WHATEVER THE INPUT: true; the input reads as it did. -/
def simplifyFoldsSpec : ChangeSpec := { name := "simplifyFolds", fn := fun _ => fun
  | [d1, d2, d3] => { results := [.lit (.bool true)], args := [d1, d2, d3] }
  | _ => none }
def simplifyFoldsRow : OpenClaim := { program := "ytjcceddloogiiaagreat", sum := "94f2fcfc0b340aa09905e063c4801678996d83e2785015d4050a6917cdf8e4a2", func := "cylinder/cylinderlaw39.SimplifyFolds", spec := "simplifyFolds", unfollowed := true, recurses := true, named := ["math/bits.overflowError"], loops := true, plainKeys := false, apart := false }
def SimplifyFoldsSaid : Prop := simplifyFoldsRow.holds Tryz.pinned (OpenSpec.ofChange simplifyFoldsSpec)

/-- ITS FALSE NEIGHBOUR: 'it returns false'. Refute it at one input. -/
def simplifyFoldsWrong : ChangeSpec := { name := "simplifyFolds", fn := fun _ => fun
  | [d1, d2, d3] => { results := [.lit (.bool false)], args := [d1, d2, d3] }
  | _ => none }
def SimplifyFoldsWrongFalsely : Prop := simplifyFoldsRow.holds Tryz.pinned (OpenSpec.ofChange simplifyFoldsWrong)

/-- 'cylinderlaw25.SubresultantExchange': WHATEVER THE INPUT: true; the input reads as it did. -/
def subresultantExchangeSpec : ChangeSpec := { name := "subresultantExchange", fn := fun _ => fun
  | [d1, d2, d3] => { results := [.lit (.bool true)], args := [d1, d2, d3] }
  | _ => none }
def subresultantExchangeRow : OpenClaim := { program := "ytjcceddloogiiaagreat", sum := "94f2fcfc0b340aa09905e063c4801678996d83e2785015d4050a6917cdf8e4a2", func := "cylinder/cylinderlaw25.SubresultantExchange", spec := "subresultantExchange", unfollowed := true, recurses := true, named := ["math/bits.overflowError"], plainKeys := false, apart := false }
def SubresultantExchangeSaid : Prop := subresultantExchangeRow.holds Tryz.pinned (OpenSpec.ofChange subresultantExchangeSpec)

/-- ITS FALSE NEIGHBOUR: 'it returns false'. Refute it at one input. -/
def subresultantExchangeWrong : ChangeSpec := { name := "subresultantExchange", fn := fun _ => fun
  | [d1, d2, d3] => { results := [.lit (.bool false)], args := [d1, d2, d3] }
  | _ => none }
def SubresultantExchangeWrongFalsely : Prop := subresultantExchangeRow.holds Tryz.pinned (OpenSpec.ofChange subresultantExchangeWrong)

/-- 'cylinderlaw25.SubresultantScale': WHATEVER THE INPUT: true; the input reads as it did. -/
def subresultantScaleSpec : ChangeSpec := { name := "subresultantScale", fn := fun _ => fun
  | [d1, d2, d3] => { results := [.lit (.bool true)], args := [d1, d2, d3] }
  | _ => none }
def subresultantScaleRow : OpenClaim := { program := "ytjcceddloogiiaagreat", sum := "94f2fcfc0b340aa09905e063c4801678996d83e2785015d4050a6917cdf8e4a2", func := "cylinder/cylinderlaw25.SubresultantScale", spec := "subresultantScale", unfollowed := true, recurses := true, named := ["math/bits.overflowError"], plainKeys := false, apart := false }
def SubresultantScaleSaid : Prop := subresultantScaleRow.holds Tryz.pinned (OpenSpec.ofChange subresultantScaleSpec)

/-- ITS FALSE NEIGHBOUR: 'it returns false'. Refute it at one input. -/
def subresultantScaleWrong : ChangeSpec := { name := "subresultantScale", fn := fun _ => fun
  | [d1, d2, d3] => { results := [.lit (.bool false)], args := [d1, d2, d3] }
  | _ => none }
def SubresultantScaleWrongFalsely : Prop := subresultantScaleRow.holds Tryz.pinned (OpenSpec.ofChange subresultantScaleWrong)

/-- 'cylinderlaw24.PseudoDivide': WHATEVER THE INPUT: true; the input reads as it did. -/
def pseudoDivideSpec : ChangeSpec := { name := "pseudoDivide", fn := fun _ => fun
  | [d1, d2, d3] => { results := [.lit (.bool true)], args := [d1, d2, d3] }
  | _ => none }
def pseudoDivideRow : OpenClaim := { program := "ytjcceddloogiiaagreat", sum := "94f2fcfc0b340aa09905e063c4801678996d83e2785015d4050a6917cdf8e4a2", func := "cylinder/cylinderlaw24.PseudoDivide", spec := "pseudoDivide", unfollowed := true, recurses := true, named := ["math/bits.overflowError"], plainKeys := false, apart := false }
def PseudoDivideSaid : Prop := pseudoDivideRow.holds Tryz.pinned (OpenSpec.ofChange pseudoDivideSpec)

/-- ITS FALSE NEIGHBOUR: 'it returns false'. Refute it at one input. -/
def pseudoDivideWrong : ChangeSpec := { name := "pseudoDivide", fn := fun _ => fun
  | [d1, d2, d3] => { results := [.lit (.bool false)], args := [d1, d2, d3] }
  | _ => none }
def PseudoDivideWrongFalsely : Prop := pseudoDivideRow.holds Tryz.pinned (OpenSpec.ofChange pseudoDivideWrong)

/-- 'cylinderlaw25.SubresultantChain': WHATEVER THE INPUT: true; the input reads as it did. -/
def subresultantChainSpec : ChangeSpec := { name := "subresultantChain", fn := fun _ => fun
  | [d1, d2, d3] => { results := [.lit (.bool true)], args := [d1, d2, d3] }
  | _ => none }
def subresultantChainRow : OpenClaim := { program := "ytjcceddloogiiaagreat", sum := "94f2fcfc0b340aa09905e063c4801678996d83e2785015d4050a6917cdf8e4a2", func := "cylinder/cylinderlaw25.SubresultantChain", spec := "subresultantChain", unfollowed := true, recurses := true, named := ["math/bits.overflowError"], plainKeys := false, apart := false }
def SubresultantChainSaid : Prop := subresultantChainRow.holds Tryz.pinned (OpenSpec.ofChange subresultantChainSpec)

/-- ITS FALSE NEIGHBOUR: 'it returns false'. Refute it at one input. -/
def subresultantChainWrong : ChangeSpec := { name := "subresultantChain", fn := fun _ => fun
  | [d1, d2, d3] => { results := [.lit (.bool false)], args := [d1, d2, d3] }
  | _ => none }
def SubresultantChainWrongFalsely : Prop := subresultantChainRow.holds Tryz.pinned (OpenSpec.ofChange subresultantChainWrong)

/-- 'cylinderlaw25.SubresultantMatrices': WHATEVER THE INPUT: true; the input reads as it did. -/
def subresultantMatricesSpec : ChangeSpec := { name := "subresultantMatrices", fn := fun _ => fun
  | [d1, d2, d3] => { results := [.lit (.bool true)], args := [d1, d2, d3] }
  | _ => none }
def subresultantMatricesRow : OpenClaim := { program := "ytjcceddloogiiaagreat", sum := "94f2fcfc0b340aa09905e063c4801678996d83e2785015d4050a6917cdf8e4a2", func := "cylinder/cylinderlaw25.SubresultantMatrices", spec := "subresultantMatrices", unfollowed := true, recurses := true, named := ["math/bits.overflowError"], plainKeys := false, apart := false }
def SubresultantMatricesSaid : Prop := subresultantMatricesRow.holds Tryz.pinned (OpenSpec.ofChange subresultantMatricesSpec)

/-- ITS FALSE NEIGHBOUR: 'it returns false'. Refute it at one input. -/
def subresultantMatricesWrong : ChangeSpec := { name := "subresultantMatrices", fn := fun _ => fun
  | [d1, d2, d3] => { results := [.lit (.bool false)], args := [d1, d2, d3] }
  | _ => none }
def SubresultantMatricesWrongFalsely : Prop := subresultantMatricesRow.holds Tryz.pinned (OpenSpec.ofChange subresultantMatricesWrong)

/-- 'cylinderlaw25.SubresultantDeterminant': WHATEVER THE INPUT: true; the input reads as it did. -/
def subresultantDeterminantSpec : ChangeSpec := { name := "subresultantDeterminant", fn := fun _ => fun
  | [d] => { results := [.lit (.bool true)], args := [d] }
  | _ => none }
def subresultantDeterminantRow : OpenClaim := { program := "ytjcceddloogiiaagreat", sum := "94f2fcfc0b340aa09905e063c4801678996d83e2785015d4050a6917cdf8e4a2", func := "cylinder/cylinderlaw25.SubresultantDeterminant", spec := "subresultantDeterminant", unfollowed := true, recurses := true, named := ["math/bits.overflowError"], plainKeys := false, apart := false }
def SubresultantDeterminantSaid : Prop := subresultantDeterminantRow.holds Tryz.pinned (OpenSpec.ofChange subresultantDeterminantSpec)

/-- ITS FALSE NEIGHBOUR: 'it returns false'. Refute it at one input. -/
def subresultantDeterminantWrong : ChangeSpec := { name := "subresultantDeterminant", fn := fun _ => fun
  | [d] => { results := [.lit (.bool false)], args := [d] }
  | _ => none }
def SubresultantDeterminantWrongFalsely : Prop := subresultantDeterminantRow.holds Tryz.pinned (OpenSpec.ofChange subresultantDeterminantWrong)

/-- 'cylinderlaw24.PseudoUni': WHATEVER THE INPUT: true; the input reads as it did. -/
def pseudoUniSpec : ChangeSpec := { name := "pseudoUni", fn := fun _ => fun
  | [d1, d2, d3] => { results := [.lit (.bool true)], args := [d1, d2, d3] }
  | _ => none }
def pseudoUniRow : OpenClaim := { program := "ytjcceddloogiiaagreat", sum := "94f2fcfc0b340aa09905e063c4801678996d83e2785015d4050a6917cdf8e4a2", func := "cylinder/cylinderlaw24.PseudoUni", spec := "pseudoUni", unfollowed := true, recurses := true, named := ["math/bits.overflowError"], plainKeys := false, apart := false }
def PseudoUniSaid : Prop := pseudoUniRow.holds Tryz.pinned (OpenSpec.ofChange pseudoUniSpec)

/-- ITS FALSE NEIGHBOUR: 'it returns false'. Refute it at one input. -/
def pseudoUniWrong : ChangeSpec := { name := "pseudoUni", fn := fun _ => fun
  | [d1, d2, d3] => { results := [.lit (.bool false)], args := [d1, d2, d3] }
  | _ => none }
def PseudoUniWrongFalsely : Prop := pseudoUniRow.holds Tryz.pinned (OpenSpec.ofChange pseudoUniWrong)

/- THE SECOND FORM. 'bulk': how many values and letters a reading holds, each counted each time it is reached (what is shared counts as often as it is met; a slice's spare places count too). A statement '..UptoSaid' is the law's where the arguments, and the package variables that the reading takes, are together of bulk at most 1048576: NARROWER than '..Said'. Prove '..Said' where nothing that the law and all that it calls make is longer than what came in: it says more and counts as full. Else prove '..UptoSaid'. A law counts once. -/
mutual
def uptoBulk {H : Type} : DataW H → Nat
  | .lit (.string bytes) => bytes.length + 1
  | .lit _ => 1
  | .nil => 1
  | .ptr d => uptoBulk d + 1
  | .slice elems spare => uptoBulkAll elems + uptoBulkAll spare + 1
  | .agg parts => uptoBulkAll parts + 1
  | .iface _ d => uptoBulk d + 1
  | .map entries => uptoBulkEntries entries + 1
  | .held _ => 1
def uptoBulkAll {H : Type} : List (DataW H) → Nat
  | [] => 0
  | d :: r => uptoBulk d + uptoBulkAll r
def uptoBulkEntries {H : Type} : List (Lit × DataW H) → Nat
  | [] => 0
  | x :: r => uptoBulkEntry x + uptoBulkEntries r
def uptoBulkEntry {H : Type} : Lit × DataW H → Nat
  | (.string bytes, d) => bytes.length + uptoBulk d + 1
  | (_, d) => uptoBulk d + 1
 end
def uptoSmall : (H : Type) → List (DataW H) → Bool := fun _ ds => decide (uptoBulkAll ds ≤ 1048576)
def OpenSpec.upto (s : _root_.Go.ChangeSpec) : _root_.Go.OpenSpec := { _root_.Go.OpenSpec.ofChange s with cond := some uptoSmall }

/-- 'cylinderlaw23.MainvarFamily', WHERE WHAT IT READS IS OF BULK AT MOST 1048576: true; the input reads as it did. -/
def mainvarFamilyUptoRow : OpenClaim := { program := "ytjcceddloogiiaagreat", sum := "94f2fcfc0b340aa09905e063c4801678996d83e2785015d4050a6917cdf8e4a2", func := "cylinder/cylinderlaw23.MainvarFamily", spec := "mainvarFamily", unfollowed := true, recurses := true, named := ["math/bits.overflowError"], plainKeys := false, apart := false, narrowed := true }
def MainvarFamilyUptoSaid : Prop := mainvarFamilyUptoRow.holds Tryz.pinned (OpenSpec.upto mainvarFamilySpec)

/-- 'cylinderlaw39.SimplifyPolys', WHERE WHAT IT READS IS OF BULK AT MOST 1048576: true; the input reads as it did. -/
def simplifyPolysUptoRow : OpenClaim := { program := "ytjcceddloogiiaagreat", sum := "94f2fcfc0b340aa09905e063c4801678996d83e2785015d4050a6917cdf8e4a2", func := "cylinder/cylinderlaw39.SimplifyPolys", spec := "simplifyPolys", unfollowed := true, recurses := true, named := ["math/bits.overflowError"], loops := true, plainKeys := false, apart := false, narrowed := true }
def SimplifyPolysUptoSaid : Prop := simplifyPolysUptoRow.holds Tryz.pinned (OpenSpec.upto simplifyPolysSpec)

/-- 'cylinderlaw24.PseudoForms', WHERE WHAT IT READS IS OF BULK AT MOST 1048576: true; the input reads as it did. -/
def pseudoFormsUptoRow : OpenClaim := { program := "ytjcceddloogiiaagreat", sum := "94f2fcfc0b340aa09905e063c4801678996d83e2785015d4050a6917cdf8e4a2", func := "cylinder/cylinderlaw24.PseudoForms", spec := "pseudoForms", unfollowed := true, recurses := true, named := ["math/bits.overflowError"], plainKeys := false, apart := false, narrowed := true }
def PseudoFormsUptoSaid : Prop := pseudoFormsUptoRow.holds Tryz.pinned (OpenSpec.upto pseudoFormsSpec)

/-- 'cylinderlaw39.SimplifyTruth', WHERE WHAT IT READS IS OF BULK AT MOST 1048576: true; the input reads as it did. -/
def simplifyTruthUptoRow : OpenClaim := { program := "ytjcceddloogiiaagreat", sum := "94f2fcfc0b340aa09905e063c4801678996d83e2785015d4050a6917cdf8e4a2", func := "cylinder/cylinderlaw39.SimplifyTruth", spec := "simplifyTruth", unfollowed := true, recurses := true, named := ["math/bits.overflowError"], loops := true, plainKeys := false, apart := false, narrowed := true }
def SimplifyTruthUptoSaid : Prop := simplifyTruthUptoRow.holds Tryz.pinned (OpenSpec.upto simplifyTruthSpec)

/-- 'cylinderlaw39.SimplifyFolds', WHERE WHAT IT READS IS OF BULK AT MOST 1048576: true; the input reads as it did. -/
def simplifyFoldsUptoRow : OpenClaim := { program := "ytjcceddloogiiaagreat", sum := "94f2fcfc0b340aa09905e063c4801678996d83e2785015d4050a6917cdf8e4a2", func := "cylinder/cylinderlaw39.SimplifyFolds", spec := "simplifyFolds", unfollowed := true, recurses := true, named := ["math/bits.overflowError"], loops := true, plainKeys := false, apart := false, narrowed := true }
def SimplifyFoldsUptoSaid : Prop := simplifyFoldsUptoRow.holds Tryz.pinned (OpenSpec.upto simplifyFoldsSpec)

/-- 'cylinderlaw25.SubresultantExchange', WHERE WHAT IT READS IS OF BULK AT MOST 1048576: true; the input reads as it did. -/
def subresultantExchangeUptoRow : OpenClaim := { program := "ytjcceddloogiiaagreat", sum := "94f2fcfc0b340aa09905e063c4801678996d83e2785015d4050a6917cdf8e4a2", func := "cylinder/cylinderlaw25.SubresultantExchange", spec := "subresultantExchange", unfollowed := true, recurses := true, named := ["math/bits.overflowError"], plainKeys := false, apart := false, narrowed := true }
def SubresultantExchangeUptoSaid : Prop := subresultantExchangeUptoRow.holds Tryz.pinned (OpenSpec.upto subresultantExchangeSpec)

/-- 'cylinderlaw25.SubresultantScale', WHERE WHAT IT READS IS OF BULK AT MOST 1048576: true; the input reads as it did. -/
def subresultantScaleUptoRow : OpenClaim := { program := "ytjcceddloogiiaagreat", sum := "94f2fcfc0b340aa09905e063c4801678996d83e2785015d4050a6917cdf8e4a2", func := "cylinder/cylinderlaw25.SubresultantScale", spec := "subresultantScale", unfollowed := true, recurses := true, named := ["math/bits.overflowError"], plainKeys := false, apart := false, narrowed := true }
def SubresultantScaleUptoSaid : Prop := subresultantScaleUptoRow.holds Tryz.pinned (OpenSpec.upto subresultantScaleSpec)

/-- 'cylinderlaw24.PseudoDivide', WHERE WHAT IT READS IS OF BULK AT MOST 1048576: true; the input reads as it did. -/
def pseudoDivideUptoRow : OpenClaim := { program := "ytjcceddloogiiaagreat", sum := "94f2fcfc0b340aa09905e063c4801678996d83e2785015d4050a6917cdf8e4a2", func := "cylinder/cylinderlaw24.PseudoDivide", spec := "pseudoDivide", unfollowed := true, recurses := true, named := ["math/bits.overflowError"], plainKeys := false, apart := false, narrowed := true }
def PseudoDivideUptoSaid : Prop := pseudoDivideUptoRow.holds Tryz.pinned (OpenSpec.upto pseudoDivideSpec)

/-- 'cylinderlaw25.SubresultantChain', WHERE WHAT IT READS IS OF BULK AT MOST 1048576: true; the input reads as it did. -/
def subresultantChainUptoRow : OpenClaim := { program := "ytjcceddloogiiaagreat", sum := "94f2fcfc0b340aa09905e063c4801678996d83e2785015d4050a6917cdf8e4a2", func := "cylinder/cylinderlaw25.SubresultantChain", spec := "subresultantChain", unfollowed := true, recurses := true, named := ["math/bits.overflowError"], plainKeys := false, apart := false, narrowed := true }
def SubresultantChainUptoSaid : Prop := subresultantChainUptoRow.holds Tryz.pinned (OpenSpec.upto subresultantChainSpec)

/-- 'cylinderlaw25.SubresultantMatrices', WHERE WHAT IT READS IS OF BULK AT MOST 1048576: true; the input reads as it did. -/
def subresultantMatricesUptoRow : OpenClaim := { program := "ytjcceddloogiiaagreat", sum := "94f2fcfc0b340aa09905e063c4801678996d83e2785015d4050a6917cdf8e4a2", func := "cylinder/cylinderlaw25.SubresultantMatrices", spec := "subresultantMatrices", unfollowed := true, recurses := true, named := ["math/bits.overflowError"], plainKeys := false, apart := false, narrowed := true }
def SubresultantMatricesUptoSaid : Prop := subresultantMatricesUptoRow.holds Tryz.pinned (OpenSpec.upto subresultantMatricesSpec)

/-- 'cylinderlaw25.SubresultantDeterminant', WHERE WHAT IT READS IS OF BULK AT MOST 1048576: true; the input reads as it did. -/
def subresultantDeterminantUptoRow : OpenClaim := { program := "ytjcceddloogiiaagreat", sum := "94f2fcfc0b340aa09905e063c4801678996d83e2785015d4050a6917cdf8e4a2", func := "cylinder/cylinderlaw25.SubresultantDeterminant", spec := "subresultantDeterminant", unfollowed := true, recurses := true, named := ["math/bits.overflowError"], plainKeys := false, apart := false, narrowed := true }
def SubresultantDeterminantUptoSaid : Prop := subresultantDeterminantUptoRow.holds Tryz.pinned (OpenSpec.upto subresultantDeterminantSpec)

/-- 'cylinderlaw24.PseudoUni', WHERE WHAT IT READS IS OF BULK AT MOST 1048576: true; the input reads as it did. -/
def pseudoUniUptoRow : OpenClaim := { program := "ytjcceddloogiiaagreat", sum := "94f2fcfc0b340aa09905e063c4801678996d83e2785015d4050a6917cdf8e4a2", func := "cylinder/cylinderlaw24.PseudoUni", spec := "pseudoUni", unfollowed := true, recurses := true, named := ["math/bits.overflowError"], plainKeys := false, apart := false, narrowed := true }
def PseudoUniUptoSaid : Prop := pseudoUniUptoRow.holds Tryz.pinned (OpenSpec.upto pseudoUniSpec)

end Rows
end Go.Proofs.YtjcceddloogiiaaGreat
