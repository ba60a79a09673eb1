/- Rows of sparse polynomials; the sort of at most two equal ones. Plain facts: the order of sparse polynomials; families. mainvar.Family. -/
import Derived.Test.YtjcceddloogiiaaGreatDc
import Derived.Test.YtjcceddloogiiaaGreatNe
import Derived.Test.YtjcceddloogiiaaGreatMi
import Derived.Test.YtjcceddloogiiaaGreatMp
import Derived.Scope
set_option linter.unusedVariables false
set_option linter.unusedSimpArgs false

namespace Go.Proofs.YtjcceddloogiiaaGreat
open Go.RowKit

structure SE where
 a : Option Addr
 n : Nat
 p : Nat
 l : List Tm
instance : Inhabited SE := ⟨⟨none, 0, 0, []⟩⟩
end Go.Proofs.YtjcceddloogiiaaGreat

namespace Go.Proofs.YtjcceddloogiiaaGreat
open Go.RowKit

end Go.Proofs.YtjcceddloogiiaaGreat

namespace Go.Proofs.YtjcceddloogiiaaGreat
open Go.RowKit

theorem Tryz.info37 : (Tryz.prog.info? 37).map (fun i => (i.zero, i.size, i.bytes)) = some (some (.slice none 0 0), 1, 24) := by kernel_rfl
end Go.Proofs.YtjcceddloogiiaaGreat
