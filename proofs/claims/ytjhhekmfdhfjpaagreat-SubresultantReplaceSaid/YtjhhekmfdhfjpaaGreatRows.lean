/-
  No cell of these rows narrows 'for every input' (looked for: loops, veiled, ifaces, maps, wideKeys, modest, calm, conditions, laid).
  DERIVED. THE GIVEN ROWS OF THIS SEAT. 5 by the template 'for every input the law returns true; each argument reads behind the call as it read before'; 0 by the template 'total and deterministic' (their statements: YtjhhekmfdhfjpaaGreatTotals.lean).
  GIVEN WITH THE SEED: the statements are not yours to turn. If you find one false, say at which input.
  Laid BY PROGRAM, IN A SANDBOX (cutbox-rows.mjs): the forced cells as the released guide's own fill.sh prints them over the translation d0ba5c7b47318ff1… (all of the seat's roots in one cut). By AI agents, Wed Nov 11 2026. No macro, syntax, notation, axiom, sorry.
-/
import Derived.Test.YtjhhekmfdhfjpaaGreatChecked
import GoSem.Claim
import GoSem.ClaimJoined
import GoSem.ClaimMapViews
import Derived.JoinedTies
import Derived.KernelRfl
namespace Go.Proofs.YtjhhekmfdhfjpaaGreat
/- THE CELL 'sum', in the pinned program and in every row, IS THE sha256 OF THE DUMP (.gsa) THAT YtjhhekmfdhfjpaaGreatProg.lean LOADS. Nothing in Lean hashes anything: it is a label: what it is worth is what the hold of that sum in a sandbox is worth. -/
noncomputable def Tryz.pinned : Pinned := { name := "ytjhhekmfdhfjpaagreat", sum := "d0ba5c7b47318ff1ef9b813706692edc190cae709f038af1bbc9d7e515eb7717", checked := Tryz.checked }
namespace Rows
def none {H : Type} : Left H := { results := [], args := [] }

/-- 'cylinderlaw25.SubresultantExchange': WHATEVER THE INPUT: true; the input reads as it did. -/
def subresultantExchangeSpec : ChangeSpec := { name := "subresultantExchange", fn := fun _ => fun
  | [d1, d2, d3] => { results := [.lit (.bool true)], args := [d1, d2, d3] }
  | _ => none }
def subresultantExchangeRow : OpenClaim := { program := "ytjhhekmfdhfjpaagreat", sum := "d0ba5c7b47318ff1ef9b813706692edc190cae709f038af1bbc9d7e515eb7717", func := "cylinder/cylinderlaw25.SubresultantExchange", spec := "subresultantExchange", unfollowed := true, recurses := true, named := ["math/bits.overflowError"], plainKeys := false, apart := false }
def SubresultantExchangeSaid : Prop := subresultantExchangeRow.holds Tryz.pinned (OpenSpec.ofChange subresultantExchangeSpec)

/-- ITS FALSE NEIGHBOUR: 'it returns false'. Refute it at one input. -/
def subresultantExchangeWrong : ChangeSpec := { name := "subresultantExchange", fn := fun _ => fun
  | [d1, d2, d3] => { results := [.lit (.bool false)], args := [d1, d2, d3] }
  | _ => none }
def SubresultantExchangeWrongFalsely : Prop := subresultantExchangeRow.holds Tryz.pinned (OpenSpec.ofChange subresultantExchangeWrong)

/-- 'cylinderlaw25.SubresultantScale': WHATEVER THE INPUT: true; the input reads as it did. -/
def subresultantScaleSpec : ChangeSpec := { name := "subresultantScale", fn := fun _ => fun
  | [d1, d2, d3] => { results := [.lit (.bool true)], args := [d1, d2, d3] }
  | _ => none }
def subresultantScaleRow : OpenClaim := { program := "ytjhhekmfdhfjpaagreat", sum := "d0ba5c7b47318ff1ef9b813706692edc190cae709f038af1bbc9d7e515eb7717", func := "cylinder/cylinderlaw25.SubresultantScale", spec := "subresultantScale", unfollowed := true, recurses := true, named := ["math/bits.overflowError"], plainKeys := false, apart := false }
def SubresultantScaleSaid : Prop := subresultantScaleRow.holds Tryz.pinned (OpenSpec.ofChange subresultantScaleSpec)

/-- ITS FALSE NEIGHBOUR: 'it returns false'. Refute it at one input. -/
def subresultantScaleWrong : ChangeSpec := { name := "subresultantScale", fn := fun _ => fun
  | [d1, d2, d3] => { results := [.lit (.bool false)], args := [d1, d2, d3] }
  | _ => none }
def SubresultantScaleWrongFalsely : Prop := subresultantScaleRow.holds Tryz.pinned (OpenSpec.ofChange subresultantScaleWrong)

/-- 'cylinderlaw25.SubresultantChain': WHATEVER THE INPUT: true; the input reads as it did. -/
def subresultantChainSpec : ChangeSpec := { name := "subresultantChain", fn := fun _ => fun
  | [d1, d2, d3] => { results := [.lit (.bool true)], args := [d1, d2, d3] }
  | _ => none }
def subresultantChainRow : OpenClaim := { program := "ytjhhekmfdhfjpaagreat", sum := "d0ba5c7b47318ff1ef9b813706692edc190cae709f038af1bbc9d7e515eb7717", func := "cylinder/cylinderlaw25.SubresultantChain", spec := "subresultantChain", unfollowed := true, recurses := true, named := ["math/bits.overflowError"], plainKeys := false, apart := false }
def SubresultantChainSaid : Prop := subresultantChainRow.holds Tryz.pinned (OpenSpec.ofChange subresultantChainSpec)

/-- ITS FALSE NEIGHBOUR: 'it returns false'. Refute it at one input. -/
def subresultantChainWrong : ChangeSpec := { name := "subresultantChain", fn := fun _ => fun
  | [d1, d2, d3] => { results := [.lit (.bool false)], args := [d1, d2, d3] }
  | _ => none }
def SubresultantChainWrongFalsely : Prop := subresultantChainRow.holds Tryz.pinned (OpenSpec.ofChange subresultantChainWrong)

/-- 'cylinderlaw25.SubresultantGcd': WHATEVER THE INPUT: true; the input reads as it did. -/
def subresultantGcdSpec : ChangeSpec := { name := "subresultantGcd", fn := fun _ => fun
  | [d1, d2, d3] => { results := [.lit (.bool true)], args := [d1, d2, d3] }
  | _ => none }
def subresultantGcdRow : OpenClaim := { program := "ytjhhekmfdhfjpaagreat", sum := "d0ba5c7b47318ff1ef9b813706692edc190cae709f038af1bbc9d7e515eb7717", func := "cylinder/cylinderlaw25.SubresultantGcd", spec := "subresultantGcd", unfollowed := true, recurses := true, named := ["math/bits.overflowError"], plainKeys := false, apart := false }
def SubresultantGcdSaid : Prop := subresultantGcdRow.holds Tryz.pinned (OpenSpec.ofChange subresultantGcdSpec)

/-- ITS FALSE NEIGHBOUR: 'it returns false'. Refute it at one input. -/
def subresultantGcdWrong : ChangeSpec := { name := "subresultantGcd", fn := fun _ => fun
  | [d1, d2, d3] => { results := [.lit (.bool false)], args := [d1, d2, d3] }
  | _ => none }
def SubresultantGcdWrongFalsely : Prop := subresultantGcdRow.holds Tryz.pinned (OpenSpec.ofChange subresultantGcdWrong)

/-- 'cylinderlaw25.SubresultantReplace': WHATEVER THE INPUT: true; the input reads as it did. -/
def subresultantReplaceSpec : ChangeSpec := { name := "subresultantReplace", fn := fun _ => fun
  | [d1, d2, d3] => { results := [.lit (.bool true)], args := [d1, d2, d3] }
  | _ => none }
def subresultantReplaceRow : OpenClaim := { program := "ytjhhekmfdhfjpaagreat", sum := "d0ba5c7b47318ff1ef9b813706692edc190cae709f038af1bbc9d7e515eb7717", func := "cylinder/cylinderlaw25.SubresultantReplace", spec := "subresultantReplace", unfollowed := true, recurses := true, named := ["math/bits.overflowError"], plainKeys := false, apart := false }
def SubresultantReplaceSaid : Prop := subresultantReplaceRow.holds Tryz.pinned (OpenSpec.ofChange subresultantReplaceSpec)

/-- ITS FALSE NEIGHBOUR: 'it returns false'. Refute it at one input. -/
def subresultantReplaceWrong : ChangeSpec := { name := "subresultantReplace", fn := fun _ => fun
  | [d1, d2, d3] => { results := [.lit (.bool false)], args := [d1, d2, d3] }
  | _ => none }
def SubresultantReplaceWrongFalsely : Prop := subresultantReplaceRow.holds Tryz.pinned (OpenSpec.ofChange subresultantReplaceWrong)

/- THE SECOND FORM. 'bulk': how many values and letters a reading holds, each counted each time it is reached (what is shared counts as often as it is met; a slice's spare places count too). A statement '..UptoSaid' is the law's where the arguments, and the package variables that the reading takes, are together of bulk at most 1048576: NARROWER than '..Said'. Prove '..Said' where nothing that the law and all that it calls make is longer than what came in: it says more and counts as full. Else prove '..UptoSaid'. A law counts once. -/
mutual
def uptoBulk {H : Type} : DataW H → Nat
  | .lit (.string bytes) => bytes.length + 1
  | .lit _ => 1
  | .nil => 1
  | .ptr d => uptoBulk d + 1
  | .slice elems spare => uptoBulkAll elems + uptoBulkAll spare + 1
  | .agg parts => uptoBulkAll parts + 1
  | .iface _ d => uptoBulk d + 1
  | .map entries => uptoBulkEntries entries + 1
  | .held _ => 1
def uptoBulkAll {H : Type} : List (DataW H) → Nat
  | [] => 0
  | d :: r => uptoBulk d + uptoBulkAll r
def uptoBulkEntries {H : Type} : List (Lit × DataW H) → Nat
  | [] => 0
  | x :: r => uptoBulkEntry x + uptoBulkEntries r
def uptoBulkEntry {H : Type} : Lit × DataW H → Nat
  | (.string bytes, d) => bytes.length + uptoBulk d + 1
  | (_, d) => uptoBulk d + 1
 end
def uptoSmall : (H : Type) → List (DataW H) → Bool := fun _ ds => decide (uptoBulkAll ds ≤ 1048576)
def OpenSpec.upto (s : _root_.Go.ChangeSpec) : _root_.Go.OpenSpec := { _root_.Go.OpenSpec.ofChange s with cond := some uptoSmall }

/-- 'cylinderlaw25.SubresultantExchange', WHERE WHAT IT READS IS OF BULK AT MOST 1048576: true; the input reads as it did. -/
def subresultantExchangeUptoRow : OpenClaim := { program := "ytjhhekmfdhfjpaagreat", sum := "d0ba5c7b47318ff1ef9b813706692edc190cae709f038af1bbc9d7e515eb7717", func := "cylinder/cylinderlaw25.SubresultantExchange", spec := "subresultantExchange", unfollowed := true, recurses := true, named := ["math/bits.overflowError"], plainKeys := false, apart := false, narrowed := true }
def SubresultantExchangeUptoSaid : Prop := subresultantExchangeUptoRow.holds Tryz.pinned (OpenSpec.upto subresultantExchangeSpec)

/-- 'cylinderlaw25.SubresultantScale', WHERE WHAT IT READS IS OF BULK AT MOST 1048576: true; the input reads as it did. -/
def subresultantScaleUptoRow : OpenClaim := { program := "ytjhhekmfdhfjpaagreat", sum := "d0ba5c7b47318ff1ef9b813706692edc190cae709f038af1bbc9d7e515eb7717", func := "cylinder/cylinderlaw25.SubresultantScale", spec := "subresultantScale", unfollowed := true, recurses := true, named := ["math/bits.overflowError"], plainKeys := false, apart := false, narrowed := true }
def SubresultantScaleUptoSaid : Prop := subresultantScaleUptoRow.holds Tryz.pinned (OpenSpec.upto subresultantScaleSpec)

/-- 'cylinderlaw25.SubresultantChain', WHERE WHAT IT READS IS OF BULK AT MOST 1048576: true; the input reads as it did. -/
def subresultantChainUptoRow : OpenClaim := { program := "ytjhhekmfdhfjpaagreat", sum := "d0ba5c7b47318ff1ef9b813706692edc190cae709f038af1bbc9d7e515eb7717", func := "cylinder/cylinderlaw25.SubresultantChain", spec := "subresultantChain", unfollowed := true, recurses := true, named := ["math/bits.overflowError"], plainKeys := false, apart := false, narrowed := true }
def SubresultantChainUptoSaid : Prop := subresultantChainUptoRow.holds Tryz.pinned (OpenSpec.upto subresultantChainSpec)

/-- 'cylinderlaw25.SubresultantGcd', WHERE WHAT IT READS IS OF BULK AT MOST 1048576: true; the input reads as it did. -/
def subresultantGcdUptoRow : OpenClaim := { program := "ytjhhekmfdhfjpaagreat", sum := "d0ba5c7b47318ff1ef9b813706692edc190cae709f038af1bbc9d7e515eb7717", func := "cylinder/cylinderlaw25.SubresultantGcd", spec := "subresultantGcd", unfollowed := true, recurses := true, named := ["math/bits.overflowError"], plainKeys := false, apart := false, narrowed := true }
def SubresultantGcdUptoSaid : Prop := subresultantGcdUptoRow.holds Tryz.pinned (OpenSpec.upto subresultantGcdSpec)

/-- 'cylinderlaw25.SubresultantReplace', WHERE WHAT IT READS IS OF BULK AT MOST 1048576: true; the input reads as it did. -/
def subresultantReplaceUptoRow : OpenClaim := { program := "ytjhhekmfdhfjpaagreat", sum := "d0ba5c7b47318ff1ef9b813706692edc190cae709f038af1bbc9d7e515eb7717", func := "cylinder/cylinderlaw25.SubresultantReplace", spec := "subresultantReplace", unfollowed := true, recurses := true, named := ["math/bits.overflowError"], plainKeys := false, apart := false, narrowed := true }
def SubresultantReplaceUptoSaid : Prop := subresultantReplaceUptoRow.holds Tryz.pinned (OpenSpec.upto subresultantReplaceSpec)

end Rows
end Go.Proofs.YtjhhekmfdhfjpaaGreat
