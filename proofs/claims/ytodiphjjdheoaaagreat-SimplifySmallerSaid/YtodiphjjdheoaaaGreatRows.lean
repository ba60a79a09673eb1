/-
  NARROWER THAN 'FOR EVERY INPUT', by the rows' own cells (each row's printed sentence says how): SimplifyTruth: loops · SimplifySmaller: loops · SimplifyPrenex: loops · SimplifySimple: loops · SimplifyNot: loops.
  DERIVED. THE GIVEN ROWS OF THIS SEAT. 8 by the template 'for every input the law returns true; each argument reads behind the call as it read before'; 0 by the template 'total and deterministic' (their statements: YtodiphjjdheoaaaGreatTotals.lean).
  GIVEN WITH THE SEED: the statements are not yours to turn. If you find one false, say at which input.
  Laid BY PROGRAM, IN A SANDBOX (cutbox-rows.mjs): the forced cells as the released guide's own fill.sh prints them over the translation 2182d882321195b1… (all of the seat's roots in one cut). By AI agents, Wed Nov 11 2026. No macro, syntax, notation, axiom, sorry.
-/
import Derived.Test.YtodiphjjdheoaaaGreatChecked
import GoSem.Claim
import GoSem.ClaimJoined
import GoSem.ClaimMapViews
import Derived.JoinedTies
import Derived.KernelRfl
namespace Go.Proofs.YtodiphjjdheoaaaGreat
/- THE CELL 'sum', in the pinned program and in every row, IS THE sha256 OF THE DUMP (.gsa) THAT YtodiphjjdheoaaaGreatProg.lean LOADS. Nothing in Lean hashes anything: it is a label: what it is worth is what the hold of that sum in a sandbox is worth. -/
noncomputable def Tryz.pinned : Pinned := { name := "ytodiphjjdheoaaagreat", sum := "2182d882321195b1f3e27dc123a6e92934dbe8b0f442e7505d574079425b240d", checked := Tryz.checked }
namespace Rows
def none {H : Type} : Left H := { results := [], args := [] }

/-- 'cylinderlaw39.SimplifyTruth': WHATEVER THE INPUT: true; the input reads as it did. -/
def simplifyTruthSpec : ChangeSpec := { name := "simplifyTruth", fn := fun _ => fun
  | [d1, d2] => { results := [.lit (.bool true)], args := [d1, d2] }
  | _ => none }
def simplifyTruthRow : OpenClaim := { program := "ytodiphjjdheoaaagreat", sum := "2182d882321195b1f3e27dc123a6e92934dbe8b0f442e7505d574079425b240d", func := "cylinder/cylinderlaw39.SimplifyTruth", spec := "simplifyTruth", unfollowed := true, recurses := true, named := ["math/bits.overflowError"], loops := true, plainKeys := false, apart := false }
def SimplifyTruthSaid : Prop := simplifyTruthRow.holds Tryz.pinned (OpenSpec.ofChange simplifyTruthSpec)

/-- ITS FALSE NEIGHBOUR: 'it returns false'. Refute it at one input. -/
def simplifyTruthWrong : ChangeSpec := { name := "simplifyTruth", fn := fun _ => fun
  | [d1, d2] => { results := [.lit (.bool false)], args := [d1, d2] }
  | _ => none }
def SimplifyTruthWrongFalsely : Prop := simplifyTruthRow.holds Tryz.pinned (OpenSpec.ofChange simplifyTruthWrong)

/-- 'cylinderlaw39.SimplifySmaller': WHATEVER THE INPUT: true; the input reads as it did. -/
def simplifySmallerSpec : ChangeSpec := { name := "simplifySmaller", fn := fun _ => fun
  | [d] => { results := [.lit (.bool true)], args := [d] }
  | _ => none }
def simplifySmallerRow : OpenClaim := { program := "ytodiphjjdheoaaagreat", sum := "2182d882321195b1f3e27dc123a6e92934dbe8b0f442e7505d574079425b240d", func := "cylinder/cylinderlaw39.SimplifySmaller", spec := "simplifySmaller", unfollowed := true, recurses := true, named := ["math/bits.overflowError"], loops := true, plainKeys := false, apart := false }
def SimplifySmallerSaid : Prop := simplifySmallerRow.holds Tryz.pinned (OpenSpec.ofChange simplifySmallerSpec)

/-- ITS FALSE NEIGHBOUR: 'it returns false'. Refute it at one input. -/
def simplifySmallerWrong : ChangeSpec := { name := "simplifySmaller", fn := fun _ => fun
  | [d] => { results := [.lit (.bool false)], args := [d] }
  | _ => none }
def SimplifySmallerWrongFalsely : Prop := simplifySmallerRow.holds Tryz.pinned (OpenSpec.ofChange simplifySmallerWrong)

/-- 'cylinderlaw39.SimplifyPrenex': WHATEVER THE INPUT: true; the input reads as it did. -/
def simplifyPrenexSpec : ChangeSpec := { name := "simplifyPrenex", fn := fun _ => fun
  | [d] => { results := [.lit (.bool true)], args := [d] }
  | _ => none }
def simplifyPrenexRow : OpenClaim := { program := "ytodiphjjdheoaaagreat", sum := "2182d882321195b1f3e27dc123a6e92934dbe8b0f442e7505d574079425b240d", func := "cylinder/cylinderlaw39.SimplifyPrenex", spec := "simplifyPrenex", unfollowed := true, recurses := true, named := ["math/bits.overflowError"], loops := true, plainKeys := false, apart := false }
def SimplifyPrenexSaid : Prop := simplifyPrenexRow.holds Tryz.pinned (OpenSpec.ofChange simplifyPrenexSpec)

/-- ITS FALSE NEIGHBOUR: 'it returns false'. Refute it at one input. -/
def simplifyPrenexWrong : ChangeSpec := { name := "simplifyPrenex", fn := fun _ => fun
  | [d] => { results := [.lit (.bool false)], args := [d] }
  | _ => none }
def SimplifyPrenexWrongFalsely : Prop := simplifyPrenexRow.holds Tryz.pinned (OpenSpec.ofChange simplifyPrenexWrong)

/-- 'cylinderlaw39.SimplifySimple': WHATEVER THE INPUT: true; the input reads as it did. -/
def simplifySimpleSpec : ChangeSpec := { name := "simplifySimple", fn := fun _ => fun
  | [d] => { results := [.lit (.bool true)], args := [d] }
  | _ => none }
def simplifySimpleRow : OpenClaim := { program := "ytodiphjjdheoaaagreat", sum := "2182d882321195b1f3e27dc123a6e92934dbe8b0f442e7505d574079425b240d", func := "cylinder/cylinderlaw39.SimplifySimple", spec := "simplifySimple", unfollowed := true, recurses := true, named := ["math/bits.overflowError"], loops := true, plainKeys := false, apart := false }
def SimplifySimpleSaid : Prop := simplifySimpleRow.holds Tryz.pinned (OpenSpec.ofChange simplifySimpleSpec)

/-- ITS FALSE NEIGHBOUR: 'it returns false'. Refute it at one input. -/
def simplifySimpleWrong : ChangeSpec := { name := "simplifySimple", fn := fun _ => fun
  | [d] => { results := [.lit (.bool false)], args := [d] }
  | _ => none }
def SimplifySimpleWrongFalsely : Prop := simplifySimpleRow.holds Tryz.pinned (OpenSpec.ofChange simplifySimpleWrong)

/-- 'cylinderlaw39.SimplifyNot': WHATEVER THE INPUT: true; the input reads as it did. -/
def simplifyNotSpec : ChangeSpec := { name := "simplifyNot", fn := fun _ => fun
  | [d1, d2] => { results := [.lit (.bool true)], args := [d1, d2] }
  | _ => none }
def simplifyNotRow : OpenClaim := { program := "ytodiphjjdheoaaagreat", sum := "2182d882321195b1f3e27dc123a6e92934dbe8b0f442e7505d574079425b240d", func := "cylinder/cylinderlaw39.SimplifyNot", spec := "simplifyNot", unfollowed := true, recurses := true, named := ["math/bits.overflowError"], loops := true, plainKeys := false, apart := false }
def SimplifyNotSaid : Prop := simplifyNotRow.holds Tryz.pinned (OpenSpec.ofChange simplifyNotSpec)

/-- ITS FALSE NEIGHBOUR: 'it returns false'. Refute it at one input. -/
def simplifyNotWrong : ChangeSpec := { name := "simplifyNot", fn := fun _ => fun
  | [d1, d2] => { results := [.lit (.bool false)], args := [d1, d2] }
  | _ => none }
def SimplifyNotWrongFalsely : Prop := simplifyNotRow.holds Tryz.pinned (OpenSpec.ofChange simplifyNotWrong)

/-- 'cylinderlaw25.SubresultantMatrices': WHATEVER THE INPUT: true; the input reads as it did. -/
def subresultantMatricesSpec : ChangeSpec := { name := "subresultantMatrices", fn := fun _ => fun
  | [d1, d2, d3] => { results := [.lit (.bool true)], args := [d1, d2, d3] }
  | _ => none }
def subresultantMatricesRow : OpenClaim := { program := "ytodiphjjdheoaaagreat", sum := "2182d882321195b1f3e27dc123a6e92934dbe8b0f442e7505d574079425b240d", func := "cylinder/cylinderlaw25.SubresultantMatrices", spec := "subresultantMatrices", unfollowed := true, recurses := true, named := ["math/bits.overflowError"], plainKeys := false, apart := false }
def SubresultantMatricesSaid : Prop := subresultantMatricesRow.holds Tryz.pinned (OpenSpec.ofChange subresultantMatricesSpec)

/-- ITS FALSE NEIGHBOUR: 'it returns false'. Refute it at one input. -/
def subresultantMatricesWrong : ChangeSpec := { name := "subresultantMatrices", fn := fun _ => fun
  | [d1, d2, d3] => { results := [.lit (.bool false)], args := [d1, d2, d3] }
  | _ => none }
def SubresultantMatricesWrongFalsely : Prop := subresultantMatricesRow.holds Tryz.pinned (OpenSpec.ofChange subresultantMatricesWrong)

/-- 'cylinderlaw25.SubresultantExchange': WHATEVER THE INPUT: true; the input reads as it did. -/
def subresultantExchangeSpec : ChangeSpec := { name := "subresultantExchange", fn := fun _ => fun
  | [d1, d2, d3] => { results := [.lit (.bool true)], args := [d1, d2, d3] }
  | _ => none }
def subresultantExchangeRow : OpenClaim := { program := "ytodiphjjdheoaaagreat", sum := "2182d882321195b1f3e27dc123a6e92934dbe8b0f442e7505d574079425b240d", func := "cylinder/cylinderlaw25.SubresultantExchange", spec := "subresultantExchange", unfollowed := true, recurses := true, named := ["math/bits.overflowError"], plainKeys := false, apart := false }
def SubresultantExchangeSaid : Prop := subresultantExchangeRow.holds Tryz.pinned (OpenSpec.ofChange subresultantExchangeSpec)

/-- ITS FALSE NEIGHBOUR: 'it returns false'. Refute it at one input. -/
def subresultantExchangeWrong : ChangeSpec := { name := "subresultantExchange", fn := fun _ => fun
  | [d1, d2, d3] => { results := [.lit (.bool false)], args := [d1, d2, d3] }
  | _ => none }
def SubresultantExchangeWrongFalsely : Prop := subresultantExchangeRow.holds Tryz.pinned (OpenSpec.ofChange subresultantExchangeWrong)

/-- 'cylinderlaw25.SubresultantDeterminant': WHATEVER THE INPUT: true; the input reads as it did. -/
def subresultantDeterminantSpec : ChangeSpec := { name := "subresultantDeterminant", fn := fun _ => fun
  | [d] => { results := [.lit (.bool true)], args := [d] }
  | _ => none }
def subresultantDeterminantRow : OpenClaim := { program := "ytodiphjjdheoaaagreat", sum := "2182d882321195b1f3e27dc123a6e92934dbe8b0f442e7505d574079425b240d", func := "cylinder/cylinderlaw25.SubresultantDeterminant", spec := "subresultantDeterminant", unfollowed := true, recurses := true, named := ["math/bits.overflowError"], plainKeys := false, apart := false }
def SubresultantDeterminantSaid : Prop := subresultantDeterminantRow.holds Tryz.pinned (OpenSpec.ofChange subresultantDeterminantSpec)

/-- ITS FALSE NEIGHBOUR: 'it returns false'. Refute it at one input. -/
def subresultantDeterminantWrong : ChangeSpec := { name := "subresultantDeterminant", fn := fun _ => fun
  | [d] => { results := [.lit (.bool false)], args := [d] }
  | _ => none }
def SubresultantDeterminantWrongFalsely : Prop := subresultantDeterminantRow.holds Tryz.pinned (OpenSpec.ofChange subresultantDeterminantWrong)

/- THE SECOND FORM. 'bulk': how many values and letters a reading holds, each counted each time it is reached (what is shared counts as often as it is met; a slice's spare places count too). A statement '..UptoSaid' is the law's where the arguments, and the package variables that the reading takes, are together of bulk at most 1048576: NARROWER than '..Said'. Prove '..Said' where nothing that the law and all that it calls make is longer than what came in: it says more and counts as full. Else prove '..UptoSaid'. A law counts once. -/
mutual
def uptoBulk {H : Type} : DataW H → Nat
  | .lit (.string bytes) => bytes.length + 1
  | .lit _ => 1
  | .nil => 1
  | .ptr d => uptoBulk d + 1
  | .slice elems spare => uptoBulkAll elems + uptoBulkAll spare + 1
  | .agg parts => uptoBulkAll parts + 1
  | .iface _ d => uptoBulk d + 1
  | .map entries => uptoBulkEntries entries + 1
  | .held _ => 1
def uptoBulkAll {H : Type} : List (DataW H) → Nat
  | [] => 0
  | d :: r => uptoBulk d + uptoBulkAll r
def uptoBulkEntries {H : Type} : List (Lit × DataW H) → Nat
  | [] => 0
  | x :: r => uptoBulkEntry x + uptoBulkEntries r
def uptoBulkEntry {H : Type} : Lit × DataW H → Nat
  | (.string bytes, d) => bytes.length + uptoBulk d + 1
  | (_, d) => uptoBulk d + 1
 end
def uptoSmall : (H : Type) → List (DataW H) → Bool := fun _ ds => decide (uptoBulkAll ds ≤ 1048576)
def OpenSpec.upto (s : _root_.Go.ChangeSpec) : _root_.Go.OpenSpec := { _root_.Go.OpenSpec.ofChange s with cond := some uptoSmall }

/-- 'cylinderlaw39.SimplifyTruth', WHERE WHAT IT READS IS OF BULK AT MOST 1048576: true; the input reads as it did. -/
def simplifyTruthUptoRow : OpenClaim := { program := "ytodiphjjdheoaaagreat", sum := "2182d882321195b1f3e27dc123a6e92934dbe8b0f442e7505d574079425b240d", func := "cylinder/cylinderlaw39.SimplifyTruth", spec := "simplifyTruth", unfollowed := true, recurses := true, named := ["math/bits.overflowError"], loops := true, plainKeys := false, apart := false, narrowed := true }
def SimplifyTruthUptoSaid : Prop := simplifyTruthUptoRow.holds Tryz.pinned (OpenSpec.upto simplifyTruthSpec)

/-- 'cylinderlaw39.SimplifySmaller', WHERE WHAT IT READS IS OF BULK AT MOST 1048576: true; the input reads as it did. -/
def simplifySmallerUptoRow : OpenClaim := { program := "ytodiphjjdheoaaagreat", sum := "2182d882321195b1f3e27dc123a6e92934dbe8b0f442e7505d574079425b240d", func := "cylinder/cylinderlaw39.SimplifySmaller", spec := "simplifySmaller", unfollowed := true, recurses := true, named := ["math/bits.overflowError"], loops := true, plainKeys := false, apart := false, narrowed := true }
def SimplifySmallerUptoSaid : Prop := simplifySmallerUptoRow.holds Tryz.pinned (OpenSpec.upto simplifySmallerSpec)

/-- 'cylinderlaw39.SimplifyPrenex', WHERE WHAT IT READS IS OF BULK AT MOST 1048576: true; the input reads as it did. -/
def simplifyPrenexUptoRow : OpenClaim := { program := "ytodiphjjdheoaaagreat", sum := "2182d882321195b1f3e27dc123a6e92934dbe8b0f442e7505d574079425b240d", func := "cylinder/cylinderlaw39.SimplifyPrenex", spec := "simplifyPrenex", unfollowed := true, recurses := true, named := ["math/bits.overflowError"], loops := true, plainKeys := false, apart := false, narrowed := true }
def SimplifyPrenexUptoSaid : Prop := simplifyPrenexUptoRow.holds Tryz.pinned (OpenSpec.upto simplifyPrenexSpec)

/-- 'cylinderlaw39.SimplifySimple', WHERE WHAT IT READS IS OF BULK AT MOST 1048576: true; the input reads as it did. -/
def simplifySimpleUptoRow : OpenClaim := { program := "ytodiphjjdheoaaagreat", sum := "2182d882321195b1f3e27dc123a6e92934dbe8b0f442e7505d574079425b240d", func := "cylinder/cylinderlaw39.SimplifySimple", spec := "simplifySimple", unfollowed := true, recurses := true, named := ["math/bits.overflowError"], loops := true, plainKeys := false, apart := false, narrowed := true }
def SimplifySimpleUptoSaid : Prop := simplifySimpleUptoRow.holds Tryz.pinned (OpenSpec.upto simplifySimpleSpec)

/-- 'cylinderlaw39.SimplifyNot', WHERE WHAT IT READS IS OF BULK AT MOST 1048576: true; the input reads as it did. -/
def simplifyNotUptoRow : OpenClaim := { program := "ytodiphjjdheoaaagreat", sum := "2182d882321195b1f3e27dc123a6e92934dbe8b0f442e7505d574079425b240d", func := "cylinder/cylinderlaw39.SimplifyNot", spec := "simplifyNot", unfollowed := true, recurses := true, named := ["math/bits.overflowError"], loops := true, plainKeys := false, apart := false, narrowed := true }
def SimplifyNotUptoSaid : Prop := simplifyNotUptoRow.holds Tryz.pinned (OpenSpec.upto simplifyNotSpec)

/-- 'cylinderlaw25.SubresultantMatrices', WHERE WHAT IT READS IS OF BULK AT MOST 1048576: true; the input reads as it did. -/
def subresultantMatricesUptoRow : OpenClaim := { program := "ytodiphjjdheoaaagreat", sum := "2182d882321195b1f3e27dc123a6e92934dbe8b0f442e7505d574079425b240d", func := "cylinder/cylinderlaw25.SubresultantMatrices", spec := "subresultantMatrices", unfollowed := true, recurses := true, named := ["math/bits.overflowError"], plainKeys := false, apart := false, narrowed := true }
def SubresultantMatricesUptoSaid : Prop := subresultantMatricesUptoRow.holds Tryz.pinned (OpenSpec.upto subresultantMatricesSpec)

/-- 'cylinderlaw25.SubresultantExchange', WHERE WHAT IT READS IS OF BULK AT MOST 1048576: true; the input reads as it did. -/
def subresultantExchangeUptoRow : OpenClaim := { program := "ytodiphjjdheoaaagreat", sum := "2182d882321195b1f3e27dc123a6e92934dbe8b0f442e7505d574079425b240d", func := "cylinder/cylinderlaw25.SubresultantExchange", spec := "subresultantExchange", unfollowed := true, recurses := true, named := ["math/bits.overflowError"], plainKeys := false, apart := false, narrowed := true }
def SubresultantExchangeUptoSaid : Prop := subresultantExchangeUptoRow.holds Tryz.pinned (OpenSpec.upto subresultantExchangeSpec)

/-- 'cylinderlaw25.SubresultantDeterminant', WHERE WHAT IT READS IS OF BULK AT MOST 1048576: true; the input reads as it did. -/
def subresultantDeterminantUptoRow : OpenClaim := { program := "ytodiphjjdheoaaagreat", sum := "2182d882321195b1f3e27dc123a6e92934dbe8b0f442e7505d574079425b240d", func := "cylinder/cylinderlaw25.SubresultantDeterminant", spec := "subresultantDeterminant", unfollowed := true, recurses := true, named := ["math/bits.overflowError"], plainKeys := false, apart := false, narrowed := true }
def SubresultantDeterminantUptoSaid : Prop := subresultantDeterminantUptoRow.holds Tryz.pinned (OpenSpec.upto subresultantDeterminantSpec)

end Rows
end Go.Proofs.YtodiphjjdheoaaaGreat
