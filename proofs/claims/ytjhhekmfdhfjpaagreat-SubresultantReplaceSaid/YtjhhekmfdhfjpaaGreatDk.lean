/- Arguments of the type int, opened. -/
import Derived.Test.YtjhhekmfdhfjpaaGreatMq
set_option linter.unusedVariables false
set_option linter.unusedSimpArgs false

namespace Go.Proofs.YtjhhekmfdhfjpaaGreat
open Go.ChangeShapes Go.WideShapes Go.ChangeAt Go.RowKit Go.Deep

section
variable {H : Type} {enc : TypeId × Value -> H} {W : World}
end
end Go.Proofs.YtjhhekmfdhfjpaaGreat
