/-
  No cell of these rows narrows 'for every input' (looked for: loops, veiled, ifaces, maps, wideKeys, modest, calm, conditions, laid).
  DERIVED. THE GIVEN ROWS OF THIS SEAT. 5 by the template 'for every input the law returns true; each argument reads behind the call as it read before'; 0 by the template 'total and deterministic' (their statements: YtmcfpnmoklnhoaaGreatTotals.lean).
  GIVEN WITH THE SEED: the statements are not yours to turn. If you find one false, say at which input.
  Laid BY PROGRAM, IN A SANDBOX (cutbox-rows.mjs): the forced cells as the released guide's own fill.sh prints them over the translation bc4f4da2f821a832… (all of the seat's roots in one cut). By AI agents, Wed Nov 11 2026. No macro, syntax, notation, axiom, sorry.
-/
import Derived.Test.YtmcfpnmoklnhoaaGreatChecked
import GoSem.Claim
import GoSem.ClaimJoined
import GoSem.ClaimMapViews
import Derived.JoinedTies
import Derived.KernelRfl
namespace Go.Proofs.YtmcfpnmoklnhoaaGreat
/- THE CELL 'sum', in the pinned program and in every row, IS THE sha256 OF THE DUMP (.gsa) THAT YtmcfpnmoklnhoaaGreatProg.lean LOADS. Nothing in Lean hashes anything: it is a label: what it is worth is what the hold of that sum in a sandbox is worth. -/
noncomputable def Tryz.pinned : Pinned := { name := "ytmcfpnmoklnhoaagreat", sum := "bc4f4da2f821a8328710822d018bb3d9c4d7fe67217228a85856b4d9640abacd", checked := Tryz.checked }
namespace Rows
def none {H : Type} : Left H := { results := [], args := [] }

/-- 'cylinderlaw24.PseudoUni': WHATEVER THE INPUT: true; the input reads as it did. -/
def pseudoUniSpec : ChangeSpec := { name := "pseudoUni", fn := fun _ => fun
  | [d1, d2, d3] => { results := [.lit (.bool true)], args := [d1, d2, d3] }
  | _ => none }
def pseudoUniRow : OpenClaim := { program := "ytmcfpnmoklnhoaagreat", sum := "bc4f4da2f821a8328710822d018bb3d9c4d7fe67217228a85856b4d9640abacd", func := "cylinder/cylinderlaw24.PseudoUni", spec := "pseudoUni", unfollowed := true, recurses := true, named := ["math/bits.overflowError"], plainKeys := false, apart := false }
def PseudoUniSaid : Prop := pseudoUniRow.holds Tryz.pinned (OpenSpec.ofChange pseudoUniSpec)

/-- ITS FALSE NEIGHBOUR: 'it returns false'. Refute it at one input. -/
def pseudoUniWrong : ChangeSpec := { name := "pseudoUni", fn := fun _ => fun
  | [d1, d2, d3] => { results := [.lit (.bool false)], args := [d1, d2, d3] }
  | _ => none }
def PseudoUniWrongFalsely : Prop := pseudoUniRow.holds Tryz.pinned (OpenSpec.ofChange pseudoUniWrong)

/-- 'cylinderlaw26.ResultantRoots': WHATEVER THE INPUT: true; the input reads as it did. -/
def resultantRootsSpec : ChangeSpec := { name := "resultantRoots", fn := fun _ => fun
  | [d1, d2, d3] => { results := [.lit (.bool true)], args := [d1, d2, d3] }
  | _ => none }
def resultantRootsRow : OpenClaim := { program := "ytmcfpnmoklnhoaagreat", sum := "bc4f4da2f821a8328710822d018bb3d9c4d7fe67217228a85856b4d9640abacd", func := "cylinder/cylinderlaw26.ResultantRoots", spec := "resultantRoots", unfollowed := true, recurses := true, named := ["math/bits.overflowError"], plainKeys := false, apart := false }
def ResultantRootsSaid : Prop := resultantRootsRow.holds Tryz.pinned (OpenSpec.ofChange resultantRootsSpec)

/-- ITS FALSE NEIGHBOUR: 'it returns false'. Refute it at one input. -/
def resultantRootsWrong : ChangeSpec := { name := "resultantRoots", fn := fun _ => fun
  | [d1, d2, d3] => { results := [.lit (.bool false)], args := [d1, d2, d3] }
  | _ => none }
def ResultantRootsWrongFalsely : Prop := resultantRootsRow.holds Tryz.pinned (OpenSpec.ofChange resultantRootsWrong)

/-- 'cylinderlaw25.SubresultantUni': WHATEVER THE INPUT: true; the input reads as it did. -/
def subresultantUniSpec : ChangeSpec := { name := "subresultantUni", fn := fun _ => fun
  | [d1, d2, d3] => { results := [.lit (.bool true)], args := [d1, d2, d3] }
  | _ => none }
def subresultantUniRow : OpenClaim := { program := "ytmcfpnmoklnhoaagreat", sum := "bc4f4da2f821a8328710822d018bb3d9c4d7fe67217228a85856b4d9640abacd", func := "cylinder/cylinderlaw25.SubresultantUni", spec := "subresultantUni", unfollowed := true, recurses := true, named := ["math/bits.overflowError"], plainKeys := false, apart := false }
def SubresultantUniSaid : Prop := subresultantUniRow.holds Tryz.pinned (OpenSpec.ofChange subresultantUniSpec)

/-- ITS FALSE NEIGHBOUR: 'it returns false'. Refute it at one input. -/
def subresultantUniWrong : ChangeSpec := { name := "subresultantUni", fn := fun _ => fun
  | [d1, d2, d3] => { results := [.lit (.bool false)], args := [d1, d2, d3] }
  | _ => none }
def SubresultantUniWrongFalsely : Prop := subresultantUniRow.holds Tryz.pinned (OpenSpec.ofChange subresultantUniWrong)

/-- 'cylinderlaw26.ResultantEliminate': WHATEVER THE INPUT: true; the input reads as it did. -/
def resultantEliminateSpec : ChangeSpec := { name := "resultantEliminate", fn := fun _ => fun
  | [d1, d2, d3] => { results := [.lit (.bool true)], args := [d1, d2, d3] }
  | _ => none }
def resultantEliminateRow : OpenClaim := { program := "ytmcfpnmoklnhoaagreat", sum := "bc4f4da2f821a8328710822d018bb3d9c4d7fe67217228a85856b4d9640abacd", func := "cylinder/cylinderlaw26.ResultantEliminate", spec := "resultantEliminate", unfollowed := true, recurses := true, named := ["math/bits.overflowError"], plainKeys := false, apart := false }
def ResultantEliminateSaid : Prop := resultantEliminateRow.holds Tryz.pinned (OpenSpec.ofChange resultantEliminateSpec)

/-- ITS FALSE NEIGHBOUR: 'it returns false'. Refute it at one input. -/
def resultantEliminateWrong : ChangeSpec := { name := "resultantEliminate", fn := fun _ => fun
  | [d1, d2, d3] => { results := [.lit (.bool false)], args := [d1, d2, d3] }
  | _ => none }
def ResultantEliminateWrongFalsely : Prop := resultantEliminateRow.holds Tryz.pinned (OpenSpec.ofChange resultantEliminateWrong)

/-- 'cylinderlaw26.ResultantUni': WHATEVER THE INPUT: true; the input reads as it did. -/
def resultantUniSpec : ChangeSpec := { name := "resultantUni", fn := fun _ => fun
  | [d1, d2, d3] => { results := [.lit (.bool true)], args := [d1, d2, d3] }
  | _ => none }
def resultantUniRow : OpenClaim := { program := "ytmcfpnmoklnhoaagreat", sum := "bc4f4da2f821a8328710822d018bb3d9c4d7fe67217228a85856b4d9640abacd", func := "cylinder/cylinderlaw26.ResultantUni", spec := "resultantUni", unfollowed := true, recurses := true, named := ["math/bits.overflowError"], plainKeys := false, apart := false }
def ResultantUniSaid : Prop := resultantUniRow.holds Tryz.pinned (OpenSpec.ofChange resultantUniSpec)

/-- ITS FALSE NEIGHBOUR: 'it returns false'. Refute it at one input. -/
def resultantUniWrong : ChangeSpec := { name := "resultantUni", fn := fun _ => fun
  | [d1, d2, d3] => { results := [.lit (.bool false)], args := [d1, d2, d3] }
  | _ => none }
def ResultantUniWrongFalsely : Prop := resultantUniRow.holds Tryz.pinned (OpenSpec.ofChange resultantUniWrong)

/- THE SECOND FORM. 'bulk': how many values and letters a reading holds, each counted each time it is reached (what is shared counts as often as it is met; a slice's spare places count too). A statement '..UptoSaid' is the law's where the arguments, and the package variables that the reading takes, are together of bulk at most 1048576: NARROWER than '..Said'. Prove '..Said' where nothing that the law and all that it calls make is longer than what came in: it says more and counts as full. Else prove '..UptoSaid'. A law counts once. -/
mutual
def uptoBulk {H : Type} : DataW H → Nat
  | .lit (.string bytes) => bytes.length + 1
  | .lit _ => 1
  | .nil => 1
  | .ptr d => uptoBulk d + 1
  | .slice elems spare => uptoBulkAll elems + uptoBulkAll spare + 1
  | .agg parts => uptoBulkAll parts + 1
  | .iface _ d => uptoBulk d + 1
  | .map entries => uptoBulkEntries entries + 1
  | .held _ => 1
def uptoBulkAll {H : Type} : List (DataW H) → Nat
  | [] => 0
  | d :: r => uptoBulk d + uptoBulkAll r
def uptoBulkEntries {H : Type} : List (Lit × DataW H) → Nat
  | [] => 0
  | x :: r => uptoBulkEntry x + uptoBulkEntries r
def uptoBulkEntry {H : Type} : Lit × DataW H → Nat
  | (.string bytes, d) => bytes.length + uptoBulk d + 1
  | (_, d) => uptoBulk d + 1
 end
def uptoSmall : (H : Type) → List (DataW H) → Bool := fun _ ds => decide (uptoBulkAll ds ≤ 1048576)
def OpenSpec.upto (s : _root_.Go.ChangeSpec) : _root_.Go.OpenSpec := { _root_.Go.OpenSpec.ofChange s with cond := some uptoSmall }

/-- 'cylinderlaw24.PseudoUni', WHERE WHAT IT READS IS OF BULK AT MOST 1048576: true; the input reads as it did. -/
def pseudoUniUptoRow : OpenClaim := { program := "ytmcfpnmoklnhoaagreat", sum := "bc4f4da2f821a8328710822d018bb3d9c4d7fe67217228a85856b4d9640abacd", func := "cylinder/cylinderlaw24.PseudoUni", spec := "pseudoUni", unfollowed := true, recurses := true, named := ["math/bits.overflowError"], plainKeys := false, apart := false, narrowed := true }
def PseudoUniUptoSaid : Prop := pseudoUniUptoRow.holds Tryz.pinned (OpenSpec.upto pseudoUniSpec)

/-- 'cylinderlaw26.ResultantRoots', WHERE WHAT IT READS IS OF BULK AT MOST 1048576: true; the input reads as it did. -/
def resultantRootsUptoRow : OpenClaim := { program := "ytmcfpnmoklnhoaagreat", sum := "bc4f4da2f821a8328710822d018bb3d9c4d7fe67217228a85856b4d9640abacd", func := "cylinder/cylinderlaw26.ResultantRoots", spec := "resultantRoots", unfollowed := true, recurses := true, named := ["math/bits.overflowError"], plainKeys := false, apart := false, narrowed := true }
def ResultantRootsUptoSaid : Prop := resultantRootsUptoRow.holds Tryz.pinned (OpenSpec.upto resultantRootsSpec)

/-- 'cylinderlaw25.SubresultantUni', WHERE WHAT IT READS IS OF BULK AT MOST 1048576: true; the input reads as it did. -/
def subresultantUniUptoRow : OpenClaim := { program := "ytmcfpnmoklnhoaagreat", sum := "bc4f4da2f821a8328710822d018bb3d9c4d7fe67217228a85856b4d9640abacd", func := "cylinder/cylinderlaw25.SubresultantUni", spec := "subresultantUni", unfollowed := true, recurses := true, named := ["math/bits.overflowError"], plainKeys := false, apart := false, narrowed := true }
def SubresultantUniUptoSaid : Prop := subresultantUniUptoRow.holds Tryz.pinned (OpenSpec.upto subresultantUniSpec)

/-- 'cylinderlaw26.ResultantEliminate', WHERE WHAT IT READS IS OF BULK AT MOST 1048576: true; the input reads as it did. -/
def resultantEliminateUptoRow : OpenClaim := { program := "ytmcfpnmoklnhoaagreat", sum := "bc4f4da2f821a8328710822d018bb3d9c4d7fe67217228a85856b4d9640abacd", func := "cylinder/cylinderlaw26.ResultantEliminate", spec := "resultantEliminate", unfollowed := true, recurses := true, named := ["math/bits.overflowError"], plainKeys := false, apart := false, narrowed := true }
def ResultantEliminateUptoSaid : Prop := resultantEliminateUptoRow.holds Tryz.pinned (OpenSpec.upto resultantEliminateSpec)

/-- 'cylinderlaw26.ResultantUni', WHERE WHAT IT READS IS OF BULK AT MOST 1048576: true; the input reads as it did. -/
def resultantUniUptoRow : OpenClaim := { program := "ytmcfpnmoklnhoaagreat", sum := "bc4f4da2f821a8328710822d018bb3d9c4d7fe67217228a85856b4d9640abacd", func := "cylinder/cylinderlaw26.ResultantUni", spec := "resultantUni", unfollowed := true, recurses := true, named := ["math/bits.overflowError"], plainKeys := false, apart := false, narrowed := true }
def ResultantUniUptoSaid : Prop := resultantUniUptoRow.holds Tryz.pinned (OpenSpec.upto resultantUniSpec)

end Rows
end Go.Proofs.YtmcfpnmoklnhoaaGreat
