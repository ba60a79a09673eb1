/-
  No cell of these rows narrows 'for every input' (looked for: loops, veiled, ifaces, maps, wideKeys, modest, calm, conditions, laid).
  DERIVED. THE GIVEN ROWS OF THIS SEAT. 5 by the template 'for every input the law returns true; each argument reads behind the call as it read before'; 0 by the template 'total and deterministic' (their statements: YtlmipmebdelgbaaGreatTotals.lean).
  GIVEN WITH THE SEED: the statements are not yours to turn. If you find one false, say at which input.
  Laid BY PROGRAM, IN A SANDBOX (cutbox-rows.mjs): the forced cells as the released guide's own fill.sh prints them over the translation ce73c4dc8436188a… (all of the seat's roots in one cut). By AI agents, Wed Nov 11 2026. No macro, syntax, notation, axiom, sorry.
-/
import Derived.Test.YtlmipmebdelgbaaGreatChecked
import GoSem.Claim
import GoSem.ClaimJoined
import GoSem.ClaimMapViews
import Derived.JoinedTies
import Derived.KernelRfl
namespace Go.Proofs.YtlmipmebdelgbaaGreat
/- THE CELL 'sum', in the pinned program and in every row, IS THE sha256 OF THE DUMP (.gsa) THAT YtlmipmebdelgbaaGreatProg.lean LOADS. Nothing in Lean hashes anything: it is a label: what it is worth is what the hold of that sum in a sandbox is worth. -/
noncomputable def Tryz.pinned : Pinned := { name := "ytlmipmebdelgbaagreat", sum := "ce73c4dc8436188a4f2173c258f08aa1e9b68192bcba35c0c3a89af9d22a3dda", checked := Tryz.checked }
namespace Rows
def none {H : Type} : Left H := { results := [], args := [] }

/-- 'cylinderlaw26.ResultantDiscriminant': WHATEVER THE INPUT: true; the input reads as it did. -/
def resultantDiscriminantSpec : ChangeSpec := { name := "resultantDiscriminant", fn := fun _ => fun
  | [d1, d2, d3] => { results := [.lit (.bool true)], args := [d1, d2, d3] }
  | _ => none }
def resultantDiscriminantRow : OpenClaim := { program := "ytlmipmebdelgbaagreat", sum := "ce73c4dc8436188a4f2173c258f08aa1e9b68192bcba35c0c3a89af9d22a3dda", func := "cylinder/cylinderlaw26.ResultantDiscriminant", spec := "resultantDiscriminant", unfollowed := true, recurses := true, named := ["math/bits.overflowError"], plainKeys := false, apart := false }
def ResultantDiscriminantSaid : Prop := resultantDiscriminantRow.holds Tryz.pinned (OpenSpec.ofChange resultantDiscriminantSpec)

/-- ITS FALSE NEIGHBOUR: 'it returns false'. Refute it at one input. -/
def resultantDiscriminantWrong : ChangeSpec := { name := "resultantDiscriminant", fn := fun _ => fun
  | [d1, d2, d3] => { results := [.lit (.bool false)], args := [d1, d2, d3] }
  | _ => none }
def ResultantDiscriminantWrongFalsely : Prop := resultantDiscriminantRow.holds Tryz.pinned (OpenSpec.ofChange resultantDiscriminantWrong)

/-- 'cylinderlaw26.ResultantDeterminant': WHATEVER THE INPUT: true; the input reads as it did. -/
def resultantDeterminantSpec : ChangeSpec := { name := "resultantDeterminant", fn := fun _ => fun
  | [d1, d2, d3] => { results := [.lit (.bool true)], args := [d1, d2, d3] }
  | _ => none }
def resultantDeterminantRow : OpenClaim := { program := "ytlmipmebdelgbaagreat", sum := "ce73c4dc8436188a4f2173c258f08aa1e9b68192bcba35c0c3a89af9d22a3dda", func := "cylinder/cylinderlaw26.ResultantDeterminant", spec := "resultantDeterminant", unfollowed := true, recurses := true, named := ["math/bits.overflowError"], plainKeys := false, apart := false }
def ResultantDeterminantSaid : Prop := resultantDeterminantRow.holds Tryz.pinned (OpenSpec.ofChange resultantDeterminantSpec)

/-- ITS FALSE NEIGHBOUR: 'it returns false'. Refute it at one input. -/
def resultantDeterminantWrong : ChangeSpec := { name := "resultantDeterminant", fn := fun _ => fun
  | [d1, d2, d3] => { results := [.lit (.bool false)], args := [d1, d2, d3] }
  | _ => none }
def ResultantDeterminantWrongFalsely : Prop := resultantDeterminantRow.holds Tryz.pinned (OpenSpec.ofChange resultantDeterminantWrong)

/-- 'cylinderlaw26.ResultantProduct': WHATEVER THE INPUT: true; the input reads as it did. -/
def resultantProductSpec : ChangeSpec := { name := "resultantProduct", fn := fun _ => fun
  | [d1, d2, d3] => { results := [.lit (.bool true)], args := [d1, d2, d3] }
  | _ => none }
def resultantProductRow : OpenClaim := { program := "ytlmipmebdelgbaagreat", sum := "ce73c4dc8436188a4f2173c258f08aa1e9b68192bcba35c0c3a89af9d22a3dda", func := "cylinder/cylinderlaw26.ResultantProduct", spec := "resultantProduct", unfollowed := true, recurses := true, named := ["math/bits.overflowError"], plainKeys := false, apart := false }
def ResultantProductSaid : Prop := resultantProductRow.holds Tryz.pinned (OpenSpec.ofChange resultantProductSpec)

/-- ITS FALSE NEIGHBOUR: 'it returns false'. Refute it at one input. -/
def resultantProductWrong : ChangeSpec := { name := "resultantProduct", fn := fun _ => fun
  | [d1, d2, d3] => { results := [.lit (.bool false)], args := [d1, d2, d3] }
  | _ => none }
def ResultantProductWrongFalsely : Prop := resultantProductRow.holds Tryz.pinned (OpenSpec.ofChange resultantProductWrong)

/-- 'cylinderlaw26.ResultantCommon': WHATEVER THE INPUT: true; the input reads as it did. -/
def resultantCommonSpec : ChangeSpec := { name := "resultantCommon", fn := fun _ => fun
  | [d1, d2, d3] => { results := [.lit (.bool true)], args := [d1, d2, d3] }
  | _ => none }
def resultantCommonRow : OpenClaim := { program := "ytlmipmebdelgbaagreat", sum := "ce73c4dc8436188a4f2173c258f08aa1e9b68192bcba35c0c3a89af9d22a3dda", func := "cylinder/cylinderlaw26.ResultantCommon", spec := "resultantCommon", unfollowed := true, recurses := true, named := ["math/bits.overflowError"], plainKeys := false, apart := false }
def ResultantCommonSaid : Prop := resultantCommonRow.holds Tryz.pinned (OpenSpec.ofChange resultantCommonSpec)

/-- ITS FALSE NEIGHBOUR: 'it returns false'. Refute it at one input. -/
def resultantCommonWrong : ChangeSpec := { name := "resultantCommon", fn := fun _ => fun
  | [d1, d2, d3] => { results := [.lit (.bool false)], args := [d1, d2, d3] }
  | _ => none }
def ResultantCommonWrongFalsely : Prop := resultantCommonRow.holds Tryz.pinned (OpenSpec.ofChange resultantCommonWrong)

/-- 'cylinderlaw26.ResultantDegree': WHATEVER THE INPUT: true; the input reads as it did. -/
def resultantDegreeSpec : ChangeSpec := { name := "resultantDegree", fn := fun _ => fun
  | [d1, d2, d3] => { results := [.lit (.bool true)], args := [d1, d2, d3] }
  | _ => none }
def resultantDegreeRow : OpenClaim := { program := "ytlmipmebdelgbaagreat", sum := "ce73c4dc8436188a4f2173c258f08aa1e9b68192bcba35c0c3a89af9d22a3dda", func := "cylinder/cylinderlaw26.ResultantDegree", spec := "resultantDegree", unfollowed := true, recurses := true, named := ["math/bits.overflowError"], plainKeys := false, apart := false }
def ResultantDegreeSaid : Prop := resultantDegreeRow.holds Tryz.pinned (OpenSpec.ofChange resultantDegreeSpec)

/-- ITS FALSE NEIGHBOUR: 'it returns false'. Refute it at one input. -/
def resultantDegreeWrong : ChangeSpec := { name := "resultantDegree", fn := fun _ => fun
  | [d1, d2, d3] => { results := [.lit (.bool false)], args := [d1, d2, d3] }
  | _ => none }
def ResultantDegreeWrongFalsely : Prop := resultantDegreeRow.holds Tryz.pinned (OpenSpec.ofChange resultantDegreeWrong)

/- THE SECOND FORM. 'bulk': how many values and letters a reading holds, each counted each time it is reached (what is shared counts as often as it is met; a slice's spare places count too). A statement '..UptoSaid' is the law's where the arguments, and the package variables that the reading takes, are together of bulk at most 1048576: NARROWER than '..Said'. Prove '..Said' where nothing that the law and all that it calls make is longer than what came in: it says more and counts as full. Else prove '..UptoSaid'. A law counts once. -/
mutual
def uptoBulk {H : Type} : DataW H → Nat
  | .lit (.string bytes) => bytes.length + 1
  | .lit _ => 1
  | .nil => 1
  | .ptr d => uptoBulk d + 1
  | .slice elems spare => uptoBulkAll elems + uptoBulkAll spare + 1
  | .agg parts => uptoBulkAll parts + 1
  | .iface _ d => uptoBulk d + 1
  | .map entries => uptoBulkEntries entries + 1
  | .held _ => 1
def uptoBulkAll {H : Type} : List (DataW H) → Nat
  | [] => 0
  | d :: r => uptoBulk d + uptoBulkAll r
def uptoBulkEntries {H : Type} : List (Lit × DataW H) → Nat
  | [] => 0
  | x :: r => uptoBulkEntry x + uptoBulkEntries r
def uptoBulkEntry {H : Type} : Lit × DataW H → Nat
  | (.string bytes, d) => bytes.length + uptoBulk d + 1
  | (_, d) => uptoBulk d + 1
 end
def uptoSmall : (H : Type) → List (DataW H) → Bool := fun _ ds => decide (uptoBulkAll ds ≤ 1048576)
def OpenSpec.upto (s : _root_.Go.ChangeSpec) : _root_.Go.OpenSpec := { _root_.Go.OpenSpec.ofChange s with cond := some uptoSmall }

/-- 'cylinderlaw26.ResultantDiscriminant', WHERE WHAT IT READS IS OF BULK AT MOST 1048576: true; the input reads as it did. -/
def resultantDiscriminantUptoRow : OpenClaim := { program := "ytlmipmebdelgbaagreat", sum := "ce73c4dc8436188a4f2173c258f08aa1e9b68192bcba35c0c3a89af9d22a3dda", func := "cylinder/cylinderlaw26.ResultantDiscriminant", spec := "resultantDiscriminant", unfollowed := true, recurses := true, named := ["math/bits.overflowError"], plainKeys := false, apart := false, narrowed := true }
def ResultantDiscriminantUptoSaid : Prop := resultantDiscriminantUptoRow.holds Tryz.pinned (OpenSpec.upto resultantDiscriminantSpec)

/-- 'cylinderlaw26.ResultantDeterminant', WHERE WHAT IT READS IS OF BULK AT MOST 1048576: true; the input reads as it did. -/
def resultantDeterminantUptoRow : OpenClaim := { program := "ytlmipmebdelgbaagreat", sum := "ce73c4dc8436188a4f2173c258f08aa1e9b68192bcba35c0c3a89af9d22a3dda", func := "cylinder/cylinderlaw26.ResultantDeterminant", spec := "resultantDeterminant", unfollowed := true, recurses := true, named := ["math/bits.overflowError"], plainKeys := false, apart := false, narrowed := true }
def ResultantDeterminantUptoSaid : Prop := resultantDeterminantUptoRow.holds Tryz.pinned (OpenSpec.upto resultantDeterminantSpec)

/-- 'cylinderlaw26.ResultantProduct', WHERE WHAT IT READS IS OF BULK AT MOST 1048576: true; the input reads as it did. -/
def resultantProductUptoRow : OpenClaim := { program := "ytlmipmebdelgbaagreat", sum := "ce73c4dc8436188a4f2173c258f08aa1e9b68192bcba35c0c3a89af9d22a3dda", func := "cylinder/cylinderlaw26.ResultantProduct", spec := "resultantProduct", unfollowed := true, recurses := true, named := ["math/bits.overflowError"], plainKeys := false, apart := false, narrowed := true }
def ResultantProductUptoSaid : Prop := resultantProductUptoRow.holds Tryz.pinned (OpenSpec.upto resultantProductSpec)

/-- 'cylinderlaw26.ResultantCommon', WHERE WHAT IT READS IS OF BULK AT MOST 1048576: true; the input reads as it did. -/
def resultantCommonUptoRow : OpenClaim := { program := "ytlmipmebdelgbaagreat", sum := "ce73c4dc8436188a4f2173c258f08aa1e9b68192bcba35c0c3a89af9d22a3dda", func := "cylinder/cylinderlaw26.ResultantCommon", spec := "resultantCommon", unfollowed := true, recurses := true, named := ["math/bits.overflowError"], plainKeys := false, apart := false, narrowed := true }
def ResultantCommonUptoSaid : Prop := resultantCommonUptoRow.holds Tryz.pinned (OpenSpec.upto resultantCommonSpec)

/-- 'cylinderlaw26.ResultantDegree', WHERE WHAT IT READS IS OF BULK AT MOST 1048576: true; the input reads as it did. -/
def resultantDegreeUptoRow : OpenClaim := { program := "ytlmipmebdelgbaagreat", sum := "ce73c4dc8436188a4f2173c258f08aa1e9b68192bcba35c0c3a89af9d22a3dda", func := "cylinder/cylinderlaw26.ResultantDegree", spec := "resultantDegree", unfollowed := true, recurses := true, named := ["math/bits.overflowError"], plainKeys := false, apart := false, narrowed := true }
def ResultantDegreeUptoSaid : Prop := resultantDegreeUptoRow.holds Tryz.pinned (OpenSpec.upto resultantDegreeSpec)

end Rows
end Go.Proofs.YtlmipmebdelgbaaGreat
