/-
  No cell of these rows narrows 'for every input' (looked for: loops, veiled, ifaces, maps, wideKeys, modest, calm, conditions, laid).
  DERIVED. THE GIVEN ROWS OF THIS SEAT. 6 by the template 'for every input the law returns true; each argument reads behind the call as it read before'; 0 by the template 'total and deterministic' (their statements: YthhffpimcgmciaaTotals.lean).
  GIVEN WITH THE SEED: the statements are not yours to turn. If you find one false, say at which input.
  Laid BY PROGRAM, IN A SANDBOX (cutbox-rows.mjs): the forced cells as the released guide's own fill.sh prints them over the translation 749dab5244137702… (all of the seat's roots in one cut). By AI agents, Wed Nov 11 2026. No macro, syntax, notation, axiom, sorry.
-/
import Derived.Test.YthhffpimcgmciaaChecked
import GoSem.Claim
import GoSem.ClaimJoined
import GoSem.ClaimMapViews
import Derived.JoinedTies
import Derived.KernelRfl
namespace Go.Proofs.Ythhffpimcgmciaa
/- THE CELL 'sum', in the pinned program and in every row, IS THE sha256 OF THE DUMP (.gsa) THAT YthhffpimcgmciaaProg.lean LOADS. Nothing in Lean hashes anything: it is a label: what it is worth is what the hold of that sum in a sandbox is worth. -/
noncomputable def Try.pinned : Pinned := { name := "ythhffpimcgmciaa", sum := "749dab5244137702264e4689c29490fb18893b1538d51f64182ba2f0e70baaf9", checked := Try.checked }
namespace Rows
def none {H : Type} : Left H := { results := [], args := [] }

/-- 'cylinderlaw22.RecpolyNormal': WHATEVER THE INPUT: true; the input reads as it did. -/
def recpolyNormalSpec : ChangeSpec := { name := "recpolyNormal", fn := fun _ => fun
  | [d1, d2] => { results := [.lit (.bool true)], args := [d1, d2] }
  | _ => none }
def recpolyNormalRow : OpenClaim := { program := "ythhffpimcgmciaa", sum := "749dab5244137702264e4689c29490fb18893b1538d51f64182ba2f0e70baaf9", func := "cylinder/cylinderlaw22.RecpolyNormal", spec := "recpolyNormal", unfollowed := true, recurses := true, plainKeys := false, apart := false }
def RecpolyNormalSaid : Prop := recpolyNormalRow.holds Try.pinned (OpenSpec.ofChange recpolyNormalSpec)

/-- ITS FALSE NEIGHBOUR: 'it returns false'. Refute it at one input. -/
def recpolyNormalWrong : ChangeSpec := { name := "recpolyNormal", fn := fun _ => fun
  | [d1, d2] => { results := [.lit (.bool false)], args := [d1, d2] }
  | _ => none }
def RecpolyNormalWrongFalsely : Prop := recpolyNormalRow.holds Try.pinned (OpenSpec.ofChange recpolyNormalWrong)

/-- 'cylinderlaw22.RecpolyOf': WHATEVER THE INPUT: true; the input reads as it did. -/
def recpolyOfSpec : ChangeSpec := { name := "recpolyOf", fn := fun _ => fun
  | [d] => { results := [.lit (.bool true)], args := [d] }
  | _ => none }
def recpolyOfRow : OpenClaim := { program := "ythhffpimcgmciaa", sum := "749dab5244137702264e4689c29490fb18893b1538d51f64182ba2f0e70baaf9", func := "cylinder/cylinderlaw22.RecpolyOf", spec := "recpolyOf", unfollowed := true, recurses := true, plainKeys := false, apart := false }
def RecpolyOfSaid : Prop := recpolyOfRow.holds Try.pinned (OpenSpec.ofChange recpolyOfSpec)

/-- ITS FALSE NEIGHBOUR: 'it returns false'. Refute it at one input. -/
def recpolyOfWrong : ChangeSpec := { name := "recpolyOf", fn := fun _ => fun
  | [d] => { results := [.lit (.bool false)], args := [d] }
  | _ => none }
def RecpolyOfWrongFalsely : Prop := recpolyOfRow.holds Try.pinned (OpenSpec.ofChange recpolyOfWrong)

/-- 'cylinderlaw22.RecpolyTo': WHATEVER THE INPUT: true; the input reads as it did. -/
def recpolyToSpec : ChangeSpec := { name := "recpolyTo", fn := fun _ => fun
  | [d] => { results := [.lit (.bool true)], args := [d] }
  | _ => none }
def recpolyToRow : OpenClaim := { program := "ythhffpimcgmciaa", sum := "749dab5244137702264e4689c29490fb18893b1538d51f64182ba2f0e70baaf9", func := "cylinder/cylinderlaw22.RecpolyTo", spec := "recpolyTo", unfollowed := true, recurses := true, plainKeys := false, apart := false }
def RecpolyToSaid : Prop := recpolyToRow.holds Try.pinned (OpenSpec.ofChange recpolyToSpec)

/-- ITS FALSE NEIGHBOUR: 'it returns false'. Refute it at one input. -/
def recpolyToWrong : ChangeSpec := { name := "recpolyTo", fn := fun _ => fun
  | [d] => { results := [.lit (.bool false)], args := [d] }
  | _ => none }
def RecpolyToWrongFalsely : Prop := recpolyToRow.holds Try.pinned (OpenSpec.ofChange recpolyToWrong)

/-- 'cylinderlaw22.RecpolyArithmetic': WHATEVER THE INPUT: true; the input reads as it did. -/
def recpolyArithmeticSpec : ChangeSpec := { name := "recpolyArithmetic", fn := fun _ => fun
  | [d1, d2] => { results := [.lit (.bool true)], args := [d1, d2] }
  | _ => none }
def recpolyArithmeticRow : OpenClaim := { program := "ythhffpimcgmciaa", sum := "749dab5244137702264e4689c29490fb18893b1538d51f64182ba2f0e70baaf9", func := "cylinder/cylinderlaw22.RecpolyArithmetic", spec := "recpolyArithmetic", unfollowed := true, recurses := true, plainKeys := false, apart := false }
def RecpolyArithmeticSaid : Prop := recpolyArithmeticRow.holds Try.pinned (OpenSpec.ofChange recpolyArithmeticSpec)

/-- ITS FALSE NEIGHBOUR: 'it returns false'. Refute it at one input. -/
def recpolyArithmeticWrong : ChangeSpec := { name := "recpolyArithmetic", fn := fun _ => fun
  | [d1, d2] => { results := [.lit (.bool false)], args := [d1, d2] }
  | _ => none }
def RecpolyArithmeticWrongFalsely : Prop := recpolyArithmeticRow.holds Try.pinned (OpenSpec.ofChange recpolyArithmeticWrong)

/-- 'cylinderlaw22.RecpolyPower': WHATEVER THE INPUT: true; the input reads as it did. -/
def recpolyPowerSpec : ChangeSpec := { name := "recpolyPower", fn := fun _ => fun
  | [d1, d2, d3] => { results := [.lit (.bool true)], args := [d1, d2, d3] }
  | _ => none }
def recpolyPowerRow : OpenClaim := { program := "ythhffpimcgmciaa", sum := "749dab5244137702264e4689c29490fb18893b1538d51f64182ba2f0e70baaf9", func := "cylinder/cylinderlaw22.RecpolyPower", spec := "recpolyPower", unfollowed := true, recurses := true, plainKeys := false, apart := false }
def RecpolyPowerSaid : Prop := recpolyPowerRow.holds Try.pinned (OpenSpec.ofChange recpolyPowerSpec)

/-- ITS FALSE NEIGHBOUR: 'it returns false'. Refute it at one input. -/
def recpolyPowerWrong : ChangeSpec := { name := "recpolyPower", fn := fun _ => fun
  | [d1, d2, d3] => { results := [.lit (.bool false)], args := [d1, d2, d3] }
  | _ => none }
def RecpolyPowerWrongFalsely : Prop := recpolyPowerRow.holds Try.pinned (OpenSpec.ofChange recpolyPowerWrong)

/-- 'cylinderlaw22.RecpolyUni': WHATEVER THE INPUT: true; the input reads as it did. -/
def recpolyUniSpec : ChangeSpec := { name := "recpolyUni", fn := fun _ => fun
  | [d1, d2, d3] => { results := [.lit (.bool true)], args := [d1, d2, d3] }
  | _ => none }
def recpolyUniRow : OpenClaim := { program := "ythhffpimcgmciaa", sum := "749dab5244137702264e4689c29490fb18893b1538d51f64182ba2f0e70baaf9", func := "cylinder/cylinderlaw22.RecpolyUni", spec := "recpolyUni", unfollowed := true, recurses := true, plainKeys := false, apart := false }
def RecpolyUniSaid : Prop := recpolyUniRow.holds Try.pinned (OpenSpec.ofChange recpolyUniSpec)

/-- ITS FALSE NEIGHBOUR: 'it returns false'. Refute it at one input. -/
def recpolyUniWrong : ChangeSpec := { name := "recpolyUni", fn := fun _ => fun
  | [d1, d2, d3] => { results := [.lit (.bool false)], args := [d1, d2, d3] }
  | _ => none }
def RecpolyUniWrongFalsely : Prop := recpolyUniRow.holds Try.pinned (OpenSpec.ofChange recpolyUniWrong)

/- THE SECOND FORM. 'bulk': how many values and letters a reading holds, each counted each time it is reached (what is shared counts as often as it is met; a slice's spare places count too). A statement '..UptoSaid' is the law's where the arguments, and the package variables that the reading takes, are together of bulk at most 1048576: NARROWER than '..Said'. Prove '..Said' where nothing that the law and all that it calls make is longer than what came in: it says more and counts as full. Else prove '..UptoSaid'. A law counts once. -/
mutual
def uptoBulk {H : Type} : DataW H → Nat
  | .lit (.string bytes) => bytes.length + 1
  | .lit _ => 1
  | .nil => 1
  | .ptr d => uptoBulk d + 1
  | .slice elems spare => uptoBulkAll elems + uptoBulkAll spare + 1
  | .agg parts => uptoBulkAll parts + 1
  | .iface _ d => uptoBulk d + 1
  | .map entries => uptoBulkEntries entries + 1
  | .held _ => 1
def uptoBulkAll {H : Type} : List (DataW H) → Nat
  | [] => 0
  | d :: r => uptoBulk d + uptoBulkAll r
def uptoBulkEntries {H : Type} : List (Lit × DataW H) → Nat
  | [] => 0
  | x :: r => uptoBulkEntry x + uptoBulkEntries r
def uptoBulkEntry {H : Type} : Lit × DataW H → Nat
  | (.string bytes, d) => bytes.length + uptoBulk d + 1
  | (_, d) => uptoBulk d + 1
 end
def uptoSmall : (H : Type) → List (DataW H) → Bool := fun _ ds => decide (uptoBulkAll ds ≤ 1048576)
def OpenSpec.upto (s : _root_.Go.ChangeSpec) : _root_.Go.OpenSpec := { _root_.Go.OpenSpec.ofChange s with cond := some uptoSmall }

/-- 'cylinderlaw22.RecpolyNormal', WHERE WHAT IT READS IS OF BULK AT MOST 1048576: true; the input reads as it did. -/
def recpolyNormalUptoRow : OpenClaim := { program := "ythhffpimcgmciaa", sum := "749dab5244137702264e4689c29490fb18893b1538d51f64182ba2f0e70baaf9", func := "cylinder/cylinderlaw22.RecpolyNormal", spec := "recpolyNormal", unfollowed := true, recurses := true, plainKeys := false, apart := false, narrowed := true }
def RecpolyNormalUptoSaid : Prop := recpolyNormalUptoRow.holds Try.pinned (OpenSpec.upto recpolyNormalSpec)

/-- 'cylinderlaw22.RecpolyOf', WHERE WHAT IT READS IS OF BULK AT MOST 1048576: true; the input reads as it did. -/
def recpolyOfUptoRow : OpenClaim := { program := "ythhffpimcgmciaa", sum := "749dab5244137702264e4689c29490fb18893b1538d51f64182ba2f0e70baaf9", func := "cylinder/cylinderlaw22.RecpolyOf", spec := "recpolyOf", unfollowed := true, recurses := true, plainKeys := false, apart := false, narrowed := true }
def RecpolyOfUptoSaid : Prop := recpolyOfUptoRow.holds Try.pinned (OpenSpec.upto recpolyOfSpec)

/-- 'cylinderlaw22.RecpolyTo', WHERE WHAT IT READS IS OF BULK AT MOST 1048576: true; the input reads as it did. -/
def recpolyToUptoRow : OpenClaim := { program := "ythhffpimcgmciaa", sum := "749dab5244137702264e4689c29490fb18893b1538d51f64182ba2f0e70baaf9", func := "cylinder/cylinderlaw22.RecpolyTo", spec := "recpolyTo", unfollowed := true, recurses := true, plainKeys := false, apart := false, narrowed := true }
def RecpolyToUptoSaid : Prop := recpolyToUptoRow.holds Try.pinned (OpenSpec.upto recpolyToSpec)

/-- 'cylinderlaw22.RecpolyArithmetic', WHERE WHAT IT READS IS OF BULK AT MOST 1048576: true; the input reads as it did. -/
def recpolyArithmeticUptoRow : OpenClaim := { program := "ythhffpimcgmciaa", sum := "749dab5244137702264e4689c29490fb18893b1538d51f64182ba2f0e70baaf9", func := "cylinder/cylinderlaw22.RecpolyArithmetic", spec := "recpolyArithmetic", unfollowed := true, recurses := true, plainKeys := false, apart := false, narrowed := true }
def RecpolyArithmeticUptoSaid : Prop := recpolyArithmeticUptoRow.holds Try.pinned (OpenSpec.upto recpolyArithmeticSpec)

/-- 'cylinderlaw22.RecpolyPower', WHERE WHAT IT READS IS OF BULK AT MOST 1048576: true; the input reads as it did. -/
def recpolyPowerUptoRow : OpenClaim := { program := "ythhffpimcgmciaa", sum := "749dab5244137702264e4689c29490fb18893b1538d51f64182ba2f0e70baaf9", func := "cylinder/cylinderlaw22.RecpolyPower", spec := "recpolyPower", unfollowed := true, recurses := true, plainKeys := false, apart := false, narrowed := true }
def RecpolyPowerUptoSaid : Prop := recpolyPowerUptoRow.holds Try.pinned (OpenSpec.upto recpolyPowerSpec)

/-- 'cylinderlaw22.RecpolyUni', WHERE WHAT IT READS IS OF BULK AT MOST 1048576: true; the input reads as it did. -/
def recpolyUniUptoRow : OpenClaim := { program := "ythhffpimcgmciaa", sum := "749dab5244137702264e4689c29490fb18893b1538d51f64182ba2f0e70baaf9", func := "cylinder/cylinderlaw22.RecpolyUni", spec := "recpolyUni", unfollowed := true, recurses := true, plainKeys := false, apart := false, narrowed := true }
def RecpolyUniUptoSaid : Prop := recpolyUniUptoRow.holds Try.pinned (OpenSpec.upto recpolyUniSpec)

end Rows
end Go.Proofs.Ythhffpimcgmciaa
