/-
  No cell of these rows narrows 'for every input' (looked for: loops, veiled, ifaces, maps, wideKeys, modest, calm, conditions, laid).
  DERIVED. THE GIVEN ROWS OF THIS SEAT. 4 by the template 'for every input the law returns true; each argument reads behind the call as it read before'; 0 by the template 'total and deterministic' (their statements: YtpclggidcmmemaaGreatTotals.lean).
  GIVEN WITH THE SEED: the statements are not yours to turn. If you find one false, say at which input.
  Laid BY PROGRAM, IN A SANDBOX (cutbox-rows.mjs): the forced cells as the released guide's own fill.sh prints them over the translation f20243cdaa93916b… (all of the seat's roots in one cut). By AI agents, Wed Nov 11 2026. No macro, syntax, notation, axiom, sorry.
-/
import Derived.Test.YtpclggidcmmemaaGreatChecked
import GoSem.Claim
import GoSem.ClaimJoined
import GoSem.ClaimMapViews
import Derived.JoinedTies
import Derived.KernelRfl
namespace Go.Proofs.YtpclggidcmmemaaGreat
/- THE CELL 'sum', in the pinned program and in every row, IS THE sha256 OF THE DUMP (.gsa) THAT YtpclggidcmmemaaGreatProg.lean LOADS. Nothing in Lean hashes anything: it is a label: what it is worth is what the hold of that sum in a sandbox is worth. -/
noncomputable def Tryz.pinned : Pinned := { name := "ytpclggidcmmemaagreat", sum := "f20243cdaa93916b17e62111a2dd6c813441f8c2f80b7071927755881e9f1cff", checked := Tryz.checked }
namespace Rows
def none {H : Type} : Left H := { results := [], args := [] }

/-- 'cylinderlaw25.SubresultantMatrices': WHATEVER THE INPUT: true; the input reads as it did. -/
def subresultantMatricesSpec : ChangeSpec := { name := "subresultantMatrices", fn := fun _ => fun
  | [d1, d2, d3] => { results := [.lit (.bool true)], args := [d1, d2, d3] }
  | _ => none }
def subresultantMatricesRow : OpenClaim := { program := "ytpclggidcmmemaagreat", sum := "f20243cdaa93916b17e62111a2dd6c813441f8c2f80b7071927755881e9f1cff", func := "cylinder/cylinderlaw25.SubresultantMatrices", spec := "subresultantMatrices", unfollowed := true, recurses := true, named := ["math/bits.overflowError"], plainKeys := false, apart := false }
def SubresultantMatricesSaid : Prop := subresultantMatricesRow.holds Tryz.pinned (OpenSpec.ofChange subresultantMatricesSpec)

/-- ITS FALSE NEIGHBOUR: 'it returns false'. Refute it at one input. -/
def subresultantMatricesWrong : ChangeSpec := { name := "subresultantMatrices", fn := fun _ => fun
  | [d1, d2, d3] => { results := [.lit (.bool false)], args := [d1, d2, d3] }
  | _ => none }
def SubresultantMatricesWrongFalsely : Prop := subresultantMatricesRow.holds Tryz.pinned (OpenSpec.ofChange subresultantMatricesWrong)

/-- 'cylinderlaw25.SubresultantDeterminant': WHATEVER THE INPUT: true; the input reads as it did. -/
def subresultantDeterminantSpec : ChangeSpec := { name := "subresultantDeterminant", fn := fun _ => fun
  | [d] => { results := [.lit (.bool true)], args := [d] }
  | _ => none }
def subresultantDeterminantRow : OpenClaim := { program := "ytpclggidcmmemaagreat", sum := "f20243cdaa93916b17e62111a2dd6c813441f8c2f80b7071927755881e9f1cff", func := "cylinder/cylinderlaw25.SubresultantDeterminant", spec := "subresultantDeterminant", unfollowed := true, recurses := true, named := ["math/bits.overflowError"], plainKeys := false, apart := false }
def SubresultantDeterminantSaid : Prop := subresultantDeterminantRow.holds Tryz.pinned (OpenSpec.ofChange subresultantDeterminantSpec)

/-- ITS FALSE NEIGHBOUR: 'it returns false'. Refute it at one input. -/
def subresultantDeterminantWrong : ChangeSpec := { name := "subresultantDeterminant", fn := fun _ => fun
  | [d] => { results := [.lit (.bool false)], args := [d] }
  | _ => none }
def SubresultantDeterminantWrongFalsely : Prop := subresultantDeterminantRow.holds Tryz.pinned (OpenSpec.ofChange subresultantDeterminantWrong)

/-- 'cylinderlaw25.SubresultantExchange': WHATEVER THE INPUT: true; the input reads as it did. -/
def subresultantExchangeSpec : ChangeSpec := { name := "subresultantExchange", fn := fun _ => fun
  | [d1, d2, d3] => { results := [.lit (.bool true)], args := [d1, d2, d3] }
  | _ => none }
def subresultantExchangeRow : OpenClaim := { program := "ytpclggidcmmemaagreat", sum := "f20243cdaa93916b17e62111a2dd6c813441f8c2f80b7071927755881e9f1cff", func := "cylinder/cylinderlaw25.SubresultantExchange", spec := "subresultantExchange", unfollowed := true, recurses := true, named := ["math/bits.overflowError"], plainKeys := false, apart := false }
def SubresultantExchangeSaid : Prop := subresultantExchangeRow.holds Tryz.pinned (OpenSpec.ofChange subresultantExchangeSpec)

/-- ITS FALSE NEIGHBOUR: 'it returns false'. Refute it at one input. -/
def subresultantExchangeWrong : ChangeSpec := { name := "subresultantExchange", fn := fun _ => fun
  | [d1, d2, d3] => { results := [.lit (.bool false)], args := [d1, d2, d3] }
  | _ => none }
def SubresultantExchangeWrongFalsely : Prop := subresultantExchangeRow.holds Tryz.pinned (OpenSpec.ofChange subresultantExchangeWrong)

/-- 'cylinderlaw24.PseudoUni': WHATEVER THE INPUT: true; the input reads as it did. -/
def pseudoUniSpec : ChangeSpec := { name := "pseudoUni", fn := fun _ => fun
  | [d1, d2, d3] => { results := [.lit (.bool true)], args := [d1, d2, d3] }
  | _ => none }
def pseudoUniRow : OpenClaim := { program := "ytpclggidcmmemaagreat", sum := "f20243cdaa93916b17e62111a2dd6c813441f8c2f80b7071927755881e9f1cff", func := "cylinder/cylinderlaw24.PseudoUni", spec := "pseudoUni", unfollowed := true, recurses := true, named := ["math/bits.overflowError"], plainKeys := false, apart := false }
def PseudoUniSaid : Prop := pseudoUniRow.holds Tryz.pinned (OpenSpec.ofChange pseudoUniSpec)

/-- ITS FALSE NEIGHBOUR: 'it returns false'. Refute it at one input. -/
def pseudoUniWrong : ChangeSpec := { name := "pseudoUni", fn := fun _ => fun
  | [d1, d2, d3] => { results := [.lit (.bool false)], args := [d1, d2, d3] }
  | _ => none }
def PseudoUniWrongFalsely : Prop := pseudoUniRow.holds Tryz.pinned (OpenSpec.ofChange pseudoUniWrong)

/- THE SECOND FORM. 'bulk': how many values and letters a reading holds, each counted each time it is reached (what is shared counts as often as it is met; a slice's spare places count too). A statement '..UptoSaid' is the law's where the arguments, and the package variables that the reading takes, are together of bulk at most 1048576: NARROWER than '..Said'. Prove '..Said' where nothing that the law and all that it calls make is longer than what came in: it says more and counts as full. Else prove '..UptoSaid'. A law counts once. -/
mutual
def uptoBulk {H : Type} : DataW H → Nat
  | .lit (.string bytes) => bytes.length + 1
  | .lit _ => 1
  | .nil => 1
  | .ptr d => uptoBulk d + 1
  | .slice elems spare => uptoBulkAll elems + uptoBulkAll spare + 1
  | .agg parts => uptoBulkAll parts + 1
  | .iface _ d => uptoBulk d + 1
  | .map entries => uptoBulkEntries entries + 1
  | .held _ => 1
def uptoBulkAll {H : Type} : List (DataW H) → Nat
  | [] => 0
  | d :: r => uptoBulk d + uptoBulkAll r
def uptoBulkEntries {H : Type} : List (Lit × DataW H) → Nat
  | [] => 0
  | x :: r => uptoBulkEntry x + uptoBulkEntries r
def uptoBulkEntry {H : Type} : Lit × DataW H → Nat
  | (.string bytes, d) => bytes.length + uptoBulk d + 1
  | (_, d) => uptoBulk d + 1
 end
def uptoSmall : (H : Type) → List (DataW H) → Bool := fun _ ds => decide (uptoBulkAll ds ≤ 1048576)
def OpenSpec.upto (s : _root_.Go.ChangeSpec) : _root_.Go.OpenSpec := { _root_.Go.OpenSpec.ofChange s with cond := some uptoSmall }

/-- 'cylinderlaw25.SubresultantMatrices', WHERE WHAT IT READS IS OF BULK AT MOST 1048576: true; the input reads as it did. -/
def subresultantMatricesUptoRow : OpenClaim := { program := "ytpclggidcmmemaagreat", sum := "f20243cdaa93916b17e62111a2dd6c813441f8c2f80b7071927755881e9f1cff", func := "cylinder/cylinderlaw25.SubresultantMatrices", spec := "subresultantMatrices", unfollowed := true, recurses := true, named := ["math/bits.overflowError"], plainKeys := false, apart := false, narrowed := true }
def SubresultantMatricesUptoSaid : Prop := subresultantMatricesUptoRow.holds Tryz.pinned (OpenSpec.upto subresultantMatricesSpec)

/-- 'cylinderlaw25.SubresultantDeterminant', WHERE WHAT IT READS IS OF BULK AT MOST 1048576: true; the input reads as it did. -/
def subresultantDeterminantUptoRow : OpenClaim := { program := "ytpclggidcmmemaagreat", sum := "f20243cdaa93916b17e62111a2dd6c813441f8c2f80b7071927755881e9f1cff", func := "cylinder/cylinderlaw25.SubresultantDeterminant", spec := "subresultantDeterminant", unfollowed := true, recurses := true, named := ["math/bits.overflowError"], plainKeys := false, apart := false, narrowed := true }
def SubresultantDeterminantUptoSaid : Prop := subresultantDeterminantUptoRow.holds Tryz.pinned (OpenSpec.upto subresultantDeterminantSpec)

/-- 'cylinderlaw25.SubresultantExchange', WHERE WHAT IT READS IS OF BULK AT MOST 1048576: true; the input reads as it did. -/
def subresultantExchangeUptoRow : OpenClaim := { program := "ytpclggidcmmemaagreat", sum := "f20243cdaa93916b17e62111a2dd6c813441f8c2f80b7071927755881e9f1cff", func := "cylinder/cylinderlaw25.SubresultantExchange", spec := "subresultantExchange", unfollowed := true, recurses := true, named := ["math/bits.overflowError"], plainKeys := false, apart := false, narrowed := true }
def SubresultantExchangeUptoSaid : Prop := subresultantExchangeUptoRow.holds Tryz.pinned (OpenSpec.upto subresultantExchangeSpec)

/-- 'cylinderlaw24.PseudoUni', WHERE WHAT IT READS IS OF BULK AT MOST 1048576: true; the input reads as it did. -/
def pseudoUniUptoRow : OpenClaim := { program := "ytpclggidcmmemaagreat", sum := "f20243cdaa93916b17e62111a2dd6c813441f8c2f80b7071927755881e9f1cff", func := "cylinder/cylinderlaw24.PseudoUni", spec := "pseudoUni", unfollowed := true, recurses := true, named := ["math/bits.overflowError"], plainKeys := false, apart := false, narrowed := true }
def PseudoUniUptoSaid : Prop := pseudoUniUptoRow.holds Tryz.pinned (OpenSpec.upto pseudoUniSpec)

end Rows
end Go.Proofs.YtpclggidcmmemaaGreat
