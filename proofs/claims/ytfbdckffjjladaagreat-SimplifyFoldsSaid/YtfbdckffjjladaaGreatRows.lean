/-
  NARROWER THAN 'FOR EVERY INPUT', by the rows' own cells (each row's printed sentence says how): SimplifyPolys: loops · SimplifyTruth: loops · SimplifyFolds: loops · SimplifyPrenex: loops · SimplifySmaller: loops · SimplifySimple: loops · SimplifyNot: loops.
  DERIVED. THE GIVEN ROWS OF THIS SEAT. 12 by the template 'for every input the law returns true; each argument reads behind the call as it read before'; 0 by the template 'total and deterministic' (their statements: YtfbdckffjjladaaGreatTotals.lean).
  GIVEN WITH THE SEED: the statements are not yours to turn. If you find one false, say at which input.
  Laid BY PROGRAM, IN A SANDBOX (cutbox-rows.mjs): the forced cells as the released guide's own fill.sh prints them over the translation 89c4fcae3d8dce9c… (all of the seat's roots in one cut). By AI agents, Wed Nov 11 2026. No macro, syntax, notation, axiom, sorry.
-/
import Derived.Test.YtfbdckffjjladaaGreatChecked
import GoSem.Claim
import GoSem.ClaimJoined
import GoSem.ClaimMapViews
import Derived.JoinedTies
import Derived.KernelRfl
namespace Go.Proofs.YtfbdckffjjladaaGreat
/- THE CELL 'sum', in the pinned program and in every row, IS THE sha256 OF THE DUMP (.gsa) THAT YtfbdckffjjladaaGreatProg.lean LOADS. Nothing in Lean hashes anything: it is a label: what it is worth is what the hold of that sum in a sandbox is worth. -/
noncomputable def Tryz.pinned : Pinned := { name := "ytfbdckffjjladaagreat", sum := "89c4fcae3d8dce9caee12cf61bc3addfbc8eb056bc9aec655049d46cdb271b92", checked := Tryz.checked }
namespace Rows
def none {H : Type} : Left H := { results := [], args := [] }

/-- 'cylinderlaw39.SimplifyPolys': WHATEVER THE INPUT: true; the input reads as it did. -/
def simplifyPolysSpec : ChangeSpec := { name := "simplifyPolys", fn := fun _ => fun
  | [d] => { results := [.lit (.bool true)], args := [d] }
  | _ => none }
def simplifyPolysRow : OpenClaim := { program := "ytfbdckffjjladaagreat", sum := "89c4fcae3d8dce9caee12cf61bc3addfbc8eb056bc9aec655049d46cdb271b92", func := "cylinder/cylinderlaw39.SimplifyPolys", spec := "simplifyPolys", unfollowed := true, recurses := true, named := ["math/bits.overflowError"], loops := true, plainKeys := false, apart := false }
def SimplifyPolysSaid : Prop := simplifyPolysRow.holds Tryz.pinned (OpenSpec.ofChange simplifyPolysSpec)

/-- ITS FALSE NEIGHBOUR: 'it returns false'. Refute it at one input. -/
def simplifyPolysWrong : ChangeSpec := { name := "simplifyPolys", fn := fun _ => fun
  | [d] => { results := [.lit (.bool false)], args := [d] }
  | _ => none }
def SimplifyPolysWrongFalsely : Prop := simplifyPolysRow.holds Tryz.pinned (OpenSpec.ofChange simplifyPolysWrong)

/-- 'cylinderlaw39.SimplifyTruth': WHATEVER THE INPUT: true; the input reads as it did. -/
def simplifyTruthSpec : ChangeSpec := { name := "simplifyTruth", fn := fun _ => fun
  | [d1, d2] => { results := [.lit (.bool true)], args := [d1, d2] }
  | _ => none }
def simplifyTruthRow : OpenClaim := { program := "ytfbdckffjjladaagreat", sum := "89c4fcae3d8dce9caee12cf61bc3addfbc8eb056bc9aec655049d46cdb271b92", func := "cylinder/cylinderlaw39.SimplifyTruth", spec := "simplifyTruth", unfollowed := true, recurses := true, named := ["math/bits.overflowError"], loops := true, plainKeys := false, apart := false }
def SimplifyTruthSaid : Prop := simplifyTruthRow.holds Tryz.pinned (OpenSpec.ofChange simplifyTruthSpec)

/-- ITS FALSE NEIGHBOUR: 'it returns false'. Refute it at one input. -/
def simplifyTruthWrong : ChangeSpec := { name := "simplifyTruth", fn := fun _ => fun
  | [d1, d2] => { results := [.lit (.bool false)], args := [d1, d2] }
  | _ => none }
def SimplifyTruthWrongFalsely : Prop := simplifyTruthRow.holds Tryz.pinned (OpenSpec.ofChange simplifyTruthWrong)

/-- 'cylinderlaw39.SimplifyFolds': WHATEVER THE INPUT: true; the input reads as it did. -/
def simplifyFoldsSpec : ChangeSpec := { name := "simplifyFolds", fn := fun _ => fun
  | [d1, d2, d3] => { results := [.lit (.bool true)], args := [d1, d2, d3] }
  | _ => none }
def simplifyFoldsRow : OpenClaim := { program := "ytfbdckffjjladaagreat", sum := "89c4fcae3d8dce9caee12cf61bc3addfbc8eb056bc9aec655049d46cdb271b92", func := "cylinder/cylinderlaw39.SimplifyFolds", spec := "simplifyFolds", unfollowed := true, recurses := true, named := ["math/bits.overflowError"], loops := true, plainKeys := false, apart := false }
def SimplifyFoldsSaid : Prop := simplifyFoldsRow.holds Tryz.pinned (OpenSpec.ofChange simplifyFoldsSpec)

/-- ITS FALSE NEIGHBOUR: 'it returns false'. Refute it at one input. -/
def simplifyFoldsWrong : ChangeSpec := { name := "simplifyFolds", fn := fun _ => fun
  | [d1, d2, d3] => { results := [.lit (.bool false)], args := [d1, d2, d3] }
  | _ => none }
def SimplifyFoldsWrongFalsely : Prop := simplifyFoldsRow.holds Tryz.pinned (OpenSpec.ofChange simplifyFoldsWrong)

/-- 'cylinderlaw39.SimplifyPrenex': WHATEVER THE INPUT: true; the input reads as it did. -/
def simplifyPrenexSpec : ChangeSpec := { name := "simplifyPrenex", fn := fun _ => fun
  | [d] => { results := [.lit (.bool true)], args := [d] }
  | _ => none }
def simplifyPrenexRow : OpenClaim := { program := "ytfbdckffjjladaagreat", sum := "89c4fcae3d8dce9caee12cf61bc3addfbc8eb056bc9aec655049d46cdb271b92", func := "cylinder/cylinderlaw39.SimplifyPrenex", spec := "simplifyPrenex", unfollowed := true, recurses := true, named := ["math/bits.overflowError"], loops := true, plainKeys := false, apart := false }
def SimplifyPrenexSaid : Prop := simplifyPrenexRow.holds Tryz.pinned (OpenSpec.ofChange simplifyPrenexSpec)

/-- ITS FALSE NEIGHBOUR: 'it returns false'. Refute it at one input. -/
def simplifyPrenexWrong : ChangeSpec := { name := "simplifyPrenex", fn := fun _ => fun
  | [d] => { results := [.lit (.bool false)], args := [d] }
  | _ => none }
def SimplifyPrenexWrongFalsely : Prop := simplifyPrenexRow.holds Tryz.pinned (OpenSpec.ofChange simplifyPrenexWrong)

/-- 'cylinderlaw39.SimplifySmaller': WHATEVER THE INPUT: true; the input reads as it did. -/
def simplifySmallerSpec : ChangeSpec := { name := "simplifySmaller", fn := fun _ => fun
  | [d] => { results := [.lit (.bool true)], args := [d] }
  | _ => none }
def simplifySmallerRow : OpenClaim := { program := "ytfbdckffjjladaagreat", sum := "89c4fcae3d8dce9caee12cf61bc3addfbc8eb056bc9aec655049d46cdb271b92", func := "cylinder/cylinderlaw39.SimplifySmaller", spec := "simplifySmaller", unfollowed := true, recurses := true, named := ["math/bits.overflowError"], loops := true, plainKeys := false, apart := false }
def SimplifySmallerSaid : Prop := simplifySmallerRow.holds Tryz.pinned (OpenSpec.ofChange simplifySmallerSpec)

/-- ITS FALSE NEIGHBOUR: 'it returns false'. Refute it at one input. -/
def simplifySmallerWrong : ChangeSpec := { name := "simplifySmaller", fn := fun _ => fun
  | [d] => { results := [.lit (.bool false)], args := [d] }
  | _ => none }
def SimplifySmallerWrongFalsely : Prop := simplifySmallerRow.holds Tryz.pinned (OpenSpec.ofChange simplifySmallerWrong)

/-- 'cylinderlaw39.SimplifySimple': WHATEVER THE INPUT: true; the input reads as it did. -/
def simplifySimpleSpec : ChangeSpec := { name := "simplifySimple", fn := fun _ => fun
  | [d] => { results := [.lit (.bool true)], args := [d] }
  | _ => none }
def simplifySimpleRow : OpenClaim := { program := "ytfbdckffjjladaagreat", sum := "89c4fcae3d8dce9caee12cf61bc3addfbc8eb056bc9aec655049d46cdb271b92", func := "cylinder/cylinderlaw39.SimplifySimple", spec := "simplifySimple", unfollowed := true, recurses := true, named := ["math/bits.overflowError"], loops := true, plainKeys := false, apart := false }
def SimplifySimpleSaid : Prop := simplifySimpleRow.holds Tryz.pinned (OpenSpec.ofChange simplifySimpleSpec)

/-- ITS FALSE NEIGHBOUR: 'it returns false'. Refute it at one input. -/
def simplifySimpleWrong : ChangeSpec := { name := "simplifySimple", fn := fun _ => fun
  | [d] => { results := [.lit (.bool false)], args := [d] }
  | _ => none }
def SimplifySimpleWrongFalsely : Prop := simplifySimpleRow.holds Tryz.pinned (OpenSpec.ofChange simplifySimpleWrong)

/-- 'cylinderlaw39.SimplifyNot': WHATEVER THE INPUT: true; the input reads as it did. -/
def simplifyNotSpec : ChangeSpec := { name := "simplifyNot", fn := fun _ => fun
  | [d1, d2] => { results := [.lit (.bool true)], args := [d1, d2] }
  | _ => none }
def simplifyNotRow : OpenClaim := { program := "ytfbdckffjjladaagreat", sum := "89c4fcae3d8dce9caee12cf61bc3addfbc8eb056bc9aec655049d46cdb271b92", func := "cylinder/cylinderlaw39.SimplifyNot", spec := "simplifyNot", unfollowed := true, recurses := true, named := ["math/bits.overflowError"], loops := true, plainKeys := false, apart := false }
def SimplifyNotSaid : Prop := simplifyNotRow.holds Tryz.pinned (OpenSpec.ofChange simplifyNotSpec)

/-- ITS FALSE NEIGHBOUR: 'it returns false'. Refute it at one input. -/
def simplifyNotWrong : ChangeSpec := { name := "simplifyNot", fn := fun _ => fun
  | [d1, d2] => { results := [.lit (.bool false)], args := [d1, d2] }
  | _ => none }
def SimplifyNotWrongFalsely : Prop := simplifyNotRow.holds Tryz.pinned (OpenSpec.ofChange simplifyNotWrong)

/-- 'cylinderlaw25.SubresultantMatrices': WHATEVER THE INPUT: true; the input reads as it did. -/
def subresultantMatricesSpec : ChangeSpec := { name := "subresultantMatrices", fn := fun _ => fun
  | [d1, d2, d3] => { results := [.lit (.bool true)], args := [d1, d2, d3] }
  | _ => none }
def subresultantMatricesRow : OpenClaim := { program := "ytfbdckffjjladaagreat", sum := "89c4fcae3d8dce9caee12cf61bc3addfbc8eb056bc9aec655049d46cdb271b92", func := "cylinder/cylinderlaw25.SubresultantMatrices", spec := "subresultantMatrices", unfollowed := true, recurses := true, named := ["math/bits.overflowError"], plainKeys := false, apart := false }
def SubresultantMatricesSaid : Prop := subresultantMatricesRow.holds Tryz.pinned (OpenSpec.ofChange subresultantMatricesSpec)

/-- ITS FALSE NEIGHBOUR: 'it returns false'. Refute it at one input. -/
def subresultantMatricesWrong : ChangeSpec := { name := "subresultantMatrices", fn := fun _ => fun
  | [d1, d2, d3] => { results := [.lit (.bool false)], args := [d1, d2, d3] }
  | _ => none }
def SubresultantMatricesWrongFalsely : Prop := subresultantMatricesRow.holds Tryz.pinned (OpenSpec.ofChange subresultantMatricesWrong)

/-- 'cylinderlaw25.SubresultantExchange': WHATEVER THE INPUT: true; the input reads as it did. -/
def subresultantExchangeSpec : ChangeSpec := { name := "subresultantExchange", fn := fun _ => fun
  | [d1, d2, d3] => { results := [.lit (.bool true)], args := [d1, d2, d3] }
  | _ => none }
def subresultantExchangeRow : OpenClaim := { program := "ytfbdckffjjladaagreat", sum := "89c4fcae3d8dce9caee12cf61bc3addfbc8eb056bc9aec655049d46cdb271b92", func := "cylinder/cylinderlaw25.SubresultantExchange", spec := "subresultantExchange", unfollowed := true, recurses := true, named := ["math/bits.overflowError"], plainKeys := false, apart := false }
def SubresultantExchangeSaid : Prop := subresultantExchangeRow.holds Tryz.pinned (OpenSpec.ofChange subresultantExchangeSpec)

/-- ITS FALSE NEIGHBOUR: 'it returns false'. Refute it at one input. -/
def subresultantExchangeWrong : ChangeSpec := { name := "subresultantExchange", fn := fun _ => fun
  | [d1, d2, d3] => { results := [.lit (.bool false)], args := [d1, d2, d3] }
  | _ => none }
def SubresultantExchangeWrongFalsely : Prop := subresultantExchangeRow.holds Tryz.pinned (OpenSpec.ofChange subresultantExchangeWrong)

/-- 'cylinderlaw25.SubresultantScale': WHATEVER THE INPUT: true; the input reads as it did. -/
def subresultantScaleSpec : ChangeSpec := { name := "subresultantScale", fn := fun _ => fun
  | [d1, d2, d3] => { results := [.lit (.bool true)], args := [d1, d2, d3] }
  | _ => none }
def subresultantScaleRow : OpenClaim := { program := "ytfbdckffjjladaagreat", sum := "89c4fcae3d8dce9caee12cf61bc3addfbc8eb056bc9aec655049d46cdb271b92", func := "cylinder/cylinderlaw25.SubresultantScale", spec := "subresultantScale", unfollowed := true, recurses := true, named := ["math/bits.overflowError"], plainKeys := false, apart := false }
def SubresultantScaleSaid : Prop := subresultantScaleRow.holds Tryz.pinned (OpenSpec.ofChange subresultantScaleSpec)

/-- ITS FALSE NEIGHBOUR: 'it returns false'. Refute it at one input. -/
def subresultantScaleWrong : ChangeSpec := { name := "subresultantScale", fn := fun _ => fun
  | [d1, d2, d3] => { results := [.lit (.bool false)], args := [d1, d2, d3] }
  | _ => none }
def SubresultantScaleWrongFalsely : Prop := subresultantScaleRow.holds Tryz.pinned (OpenSpec.ofChange subresultantScaleWrong)

/-- 'cylinderlaw25.SubresultantChain': WHATEVER THE INPUT: true; the input reads as it did. -/
def subresultantChainSpec : ChangeSpec := { name := "subresultantChain", fn := fun _ => fun
  | [d1, d2, d3] => { results := [.lit (.bool true)], args := [d1, d2, d3] }
  | _ => none }
def subresultantChainRow : OpenClaim := { program := "ytfbdckffjjladaagreat", sum := "89c4fcae3d8dce9caee12cf61bc3addfbc8eb056bc9aec655049d46cdb271b92", func := "cylinder/cylinderlaw25.SubresultantChain", spec := "subresultantChain", unfollowed := true, recurses := true, named := ["math/bits.overflowError"], plainKeys := false, apart := false }
def SubresultantChainSaid : Prop := subresultantChainRow.holds Tryz.pinned (OpenSpec.ofChange subresultantChainSpec)

/-- ITS FALSE NEIGHBOUR: 'it returns false'. Refute it at one input. -/
def subresultantChainWrong : ChangeSpec := { name := "subresultantChain", fn := fun _ => fun
  | [d1, d2, d3] => { results := [.lit (.bool false)], args := [d1, d2, d3] }
  | _ => none }
def SubresultantChainWrongFalsely : Prop := subresultantChainRow.holds Tryz.pinned (OpenSpec.ofChange subresultantChainWrong)

/-- 'cylinderlaw24.PseudoUni': WHATEVER THE INPUT: true; the input reads as it did. -/
def pseudoUniSpec : ChangeSpec := { name := "pseudoUni", fn := fun _ => fun
  | [d1, d2, d3] => { results := [.lit (.bool true)], args := [d1, d2, d3] }
  | _ => none }
def pseudoUniRow : OpenClaim := { program := "ytfbdckffjjladaagreat", sum := "89c4fcae3d8dce9caee12cf61bc3addfbc8eb056bc9aec655049d46cdb271b92", func := "cylinder/cylinderlaw24.PseudoUni", spec := "pseudoUni", unfollowed := true, recurses := true, named := ["math/bits.overflowError"], plainKeys := false, apart := false }
def PseudoUniSaid : Prop := pseudoUniRow.holds Tryz.pinned (OpenSpec.ofChange pseudoUniSpec)

/-- ITS FALSE NEIGHBOUR: 'it returns false'. Refute it at one input. -/
def pseudoUniWrong : ChangeSpec := { name := "pseudoUni", fn := fun _ => fun
  | [d1, d2, d3] => { results := [.lit (.bool false)], args := [d1, d2, d3] }
  | _ => none }
def PseudoUniWrongFalsely : Prop := pseudoUniRow.holds Tryz.pinned (OpenSpec.ofChange pseudoUniWrong)

/- THE SECOND FORM. 'bulk': how many values and letters a reading holds, each counted each time it is reached (what is shared counts as often as it is met; a slice's spare places count too). A statement '..UptoSaid' is the law's where the arguments, and the package variables that the reading takes, are together of bulk at most 1048576: NARROWER than '..Said'. Prove '..Said' where nothing that the law and all that it calls make is longer than what came in: it says more and counts as full. Else prove '..UptoSaid'. A law counts once. -/
mutual
def uptoBulk {H : Type} : DataW H → Nat
  | .lit (.string bytes) => bytes.length + 1
  | .lit _ => 1
  | .nil => 1
  | .ptr d => uptoBulk d + 1
  | .slice elems spare => uptoBulkAll elems + uptoBulkAll spare + 1
  | .agg parts => uptoBulkAll parts + 1
  | .iface _ d => uptoBulk d + 1
  | .map entries => uptoBulkEntries entries + 1
  | .held _ => 1
def uptoBulkAll {H : Type} : List (DataW H) → Nat
  | [] => 0
  | d :: r => uptoBulk d + uptoBulkAll r
def uptoBulkEntries {H : Type} : List (Lit × DataW H) → Nat
  | [] => 0
  | x :: r => uptoBulkEntry x + uptoBulkEntries r
def uptoBulkEntry {H : Type} : Lit × DataW H → Nat
  | (.string bytes, d) => bytes.length + uptoBulk d + 1
  | (_, d) => uptoBulk d + 1
 end
def uptoSmall : (H : Type) → List (DataW H) → Bool := fun _ ds => decide (uptoBulkAll ds ≤ 1048576)
def OpenSpec.upto (s : _root_.Go.ChangeSpec) : _root_.Go.OpenSpec := { _root_.Go.OpenSpec.ofChange s with cond := some uptoSmall }

/-- 'cylinderlaw39.SimplifyPolys', WHERE WHAT IT READS IS OF BULK AT MOST 1048576: true; the input reads as it did. -/
def simplifyPolysUptoRow : OpenClaim := { program := "ytfbdckffjjladaagreat", sum := "89c4fcae3d8dce9caee12cf61bc3addfbc8eb056bc9aec655049d46cdb271b92", func := "cylinder/cylinderlaw39.SimplifyPolys", spec := "simplifyPolys", unfollowed := true, recurses := true, named := ["math/bits.overflowError"], loops := true, plainKeys := false, apart := false, narrowed := true }
def SimplifyPolysUptoSaid : Prop := simplifyPolysUptoRow.holds Tryz.pinned (OpenSpec.upto simplifyPolysSpec)

/-- 'cylinderlaw39.SimplifyTruth', WHERE WHAT IT READS IS OF BULK AT MOST 1048576: true; the input reads as it did. -/
def simplifyTruthUptoRow : OpenClaim := { program := "ytfbdckffjjladaagreat", sum := "89c4fcae3d8dce9caee12cf61bc3addfbc8eb056bc9aec655049d46cdb271b92", func := "cylinder/cylinderlaw39.SimplifyTruth", spec := "simplifyTruth", unfollowed := true, recurses := true, named := ["math/bits.overflowError"], loops := true, plainKeys := false, apart := false, narrowed := true }
def SimplifyTruthUptoSaid : Prop := simplifyTruthUptoRow.holds Tryz.pinned (OpenSpec.upto simplifyTruthSpec)

/-- 'cylinderlaw39.SimplifyFolds', WHERE WHAT IT READS IS OF BULK AT MOST 1048576: true; the input reads as it did. -/
def simplifyFoldsUptoRow : OpenClaim := { program := "ytfbdckffjjladaagreat", sum := "89c4fcae3d8dce9caee12cf61bc3addfbc8eb056bc9aec655049d46cdb271b92", func := "cylinder/cylinderlaw39.SimplifyFolds", spec := "simplifyFolds", unfollowed := true, recurses := true, named := ["math/bits.overflowError"], loops := true, plainKeys := false, apart := false, narrowed := true }
def SimplifyFoldsUptoSaid : Prop := simplifyFoldsUptoRow.holds Tryz.pinned (OpenSpec.upto simplifyFoldsSpec)

/-- 'cylinderlaw39.SimplifyPrenex', WHERE WHAT IT READS IS OF BULK AT MOST 1048576: true; the input reads as it did. -/
def simplifyPrenexUptoRow : OpenClaim := { program := "ytfbdckffjjladaagreat", sum := "89c4fcae3d8dce9caee12cf61bc3addfbc8eb056bc9aec655049d46cdb271b92", func := "cylinder/cylinderlaw39.SimplifyPrenex", spec := "simplifyPrenex", unfollowed := true, recurses := true, named := ["math/bits.overflowError"], loops := true, plainKeys := false, apart := false, narrowed := true }
def SimplifyPrenexUptoSaid : Prop := simplifyPrenexUptoRow.holds Tryz.pinned (OpenSpec.upto simplifyPrenexSpec)

/-- 'cylinderlaw39.SimplifySmaller', WHERE WHAT IT READS IS OF BULK AT MOST 1048576: true; the input reads as it did. -/
def simplifySmallerUptoRow : OpenClaim := { program := "ytfbdckffjjladaagreat", sum := "89c4fcae3d8dce9caee12cf61bc3addfbc8eb056bc9aec655049d46cdb271b92", func := "cylinder/cylinderlaw39.SimplifySmaller", spec := "simplifySmaller", unfollowed := true, recurses := true, named := ["math/bits.overflowError"], loops := true, plainKeys := false, apart := false, narrowed := true }
def SimplifySmallerUptoSaid : Prop := simplifySmallerUptoRow.holds Tryz.pinned (OpenSpec.upto simplifySmallerSpec)

/-- 'cylinderlaw39.SimplifySimple', WHERE WHAT IT READS IS OF BULK AT MOST 1048576: true; the input reads as it did. -/
def simplifySimpleUptoRow : OpenClaim := { program := "ytfbdckffjjladaagreat", sum := "89c4fcae3d8dce9caee12cf61bc3addfbc8eb056bc9aec655049d46cdb271b92", func := "cylinder/cylinderlaw39.SimplifySimple", spec := "simplifySimple", unfollowed := true, recurses := true, named := ["math/bits.overflowError"], loops := true, plainKeys := false, apart := false, narrowed := true }
def SimplifySimpleUptoSaid : Prop := simplifySimpleUptoRow.holds Tryz.pinned (OpenSpec.upto simplifySimpleSpec)

/-- 'cylinderlaw39.SimplifyNot', WHERE WHAT IT READS IS OF BULK AT MOST 1048576: true; the input reads as it did. -/
def simplifyNotUptoRow : OpenClaim := { program := "ytfbdckffjjladaagreat", sum := "89c4fcae3d8dce9caee12cf61bc3addfbc8eb056bc9aec655049d46cdb271b92", func := "cylinder/cylinderlaw39.SimplifyNot", spec := "simplifyNot", unfollowed := true, recurses := true, named := ["math/bits.overflowError"], loops := true, plainKeys := false, apart := false, narrowed := true }
def SimplifyNotUptoSaid : Prop := simplifyNotUptoRow.holds Tryz.pinned (OpenSpec.upto simplifyNotSpec)

/-- 'cylinderlaw25.SubresultantMatrices', WHERE WHAT IT READS IS OF BULK AT MOST 1048576: true; the input reads as it did. -/
def subresultantMatricesUptoRow : OpenClaim := { program := "ytfbdckffjjladaagreat", sum := "89c4fcae3d8dce9caee12cf61bc3addfbc8eb056bc9aec655049d46cdb271b92", func := "cylinder/cylinderlaw25.SubresultantMatrices", spec := "subresultantMatrices", unfollowed := true, recurses := true, named := ["math/bits.overflowError"], plainKeys := false, apart := false, narrowed := true }
def SubresultantMatricesUptoSaid : Prop := subresultantMatricesUptoRow.holds Tryz.pinned (OpenSpec.upto subresultantMatricesSpec)

/-- 'cylinderlaw25.SubresultantExchange', WHERE WHAT IT READS IS OF BULK AT MOST 1048576: true; the input reads as it did. -/
def subresultantExchangeUptoRow : OpenClaim := { program := "ytfbdckffjjladaagreat", sum := "89c4fcae3d8dce9caee12cf61bc3addfbc8eb056bc9aec655049d46cdb271b92", func := "cylinder/cylinderlaw25.SubresultantExchange", spec := "subresultantExchange", unfollowed := true, recurses := true, named := ["math/bits.overflowError"], plainKeys := false, apart := false, narrowed := true }
def SubresultantExchangeUptoSaid : Prop := subresultantExchangeUptoRow.holds Tryz.pinned (OpenSpec.upto subresultantExchangeSpec)

/-- 'cylinderlaw25.SubresultantScale', WHERE WHAT IT READS IS OF BULK AT MOST 1048576: true; the input reads as it did. -/
def subresultantScaleUptoRow : OpenClaim := { program := "ytfbdckffjjladaagreat", sum := "89c4fcae3d8dce9caee12cf61bc3addfbc8eb056bc9aec655049d46cdb271b92", func := "cylinder/cylinderlaw25.SubresultantScale", spec := "subresultantScale", unfollowed := true, recurses := true, named := ["math/bits.overflowError"], plainKeys := false, apart := false, narrowed := true }
def SubresultantScaleUptoSaid : Prop := subresultantScaleUptoRow.holds Tryz.pinned (OpenSpec.upto subresultantScaleSpec)

/-- 'cylinderlaw25.SubresultantChain', WHERE WHAT IT READS IS OF BULK AT MOST 1048576: true; the input reads as it did. -/
def subresultantChainUptoRow : OpenClaim := { program := "ytfbdckffjjladaagreat", sum := "89c4fcae3d8dce9caee12cf61bc3addfbc8eb056bc9aec655049d46cdb271b92", func := "cylinder/cylinderlaw25.SubresultantChain", spec := "subresultantChain", unfollowed := true, recurses := true, named := ["math/bits.overflowError"], plainKeys := false, apart := false, narrowed := true }
def SubresultantChainUptoSaid : Prop := subresultantChainUptoRow.holds Tryz.pinned (OpenSpec.upto subresultantChainSpec)

/-- 'cylinderlaw24.PseudoUni', WHERE WHAT IT READS IS OF BULK AT MOST 1048576: true; the input reads as it did. -/
def pseudoUniUptoRow : OpenClaim := { program := "ytfbdckffjjladaagreat", sum := "89c4fcae3d8dce9caee12cf61bc3addfbc8eb056bc9aec655049d46cdb271b92", func := "cylinder/cylinderlaw24.PseudoUni", spec := "pseudoUni", unfollowed := true, recurses := true, named := ["math/bits.overflowError"], plainKeys := false, apart := false, narrowed := true }
def PseudoUniUptoSaid : Prop := pseudoUniUptoRow.holds Tryz.pinned (OpenSpec.upto pseudoUniSpec)

end Rows
end Go.Proofs.YtfbdckffjjladaaGreat
