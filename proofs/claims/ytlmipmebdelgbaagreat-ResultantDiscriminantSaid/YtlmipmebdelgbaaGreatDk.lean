/- Arguments of the type int, opened. -/
import Derived.Test.YtlmipmebdelgbaaGreatMq
set_option linter.unusedVariables false
set_option linter.unusedSimpArgs false

namespace Go.Proofs.YtlmipmebdelgbaaGreat
open Go.ChangeShapes Go.WideShapes Go.ChangeAt Go.RowKit Go.Deep

section
variable {H:Type} {enc:TypeId × Value->H} {W:World}
set_option linter.constructorNameAsVariable false in
set_option maxRecDepth 10000 in
theorem qnk {base:Nat} {v:Value} {d:DataW H} {ps:List MemPlace} (hv:Value.okWide Tryz.prog W .any base 3 v) (h:DataW.Trod enc Tryz.prog W 0 (fun _=>true) true 3 v d ps) : ∃ z:Int,v = .int .i64 z/\(-9223372036854775808<=z/\z<=9223372036854775807):=by
 obtain ⟨fuel,h⟩:=h
 obtain ⟨y,rfl⟩:=okWide_int Tryz.underlying3 hv
 obtain ⟨z,hz,_,hw⟩:=DataW.trod_int Tryz.underlying3 h
 have hz' : [Value.int .i64 y] = [.int .i64 z]:=hz
 simp [Lit.wf,IntKind.min,IntKind.max,IntKind.signed,IntKind.bits] at hw
 exact ⟨z,by simpa using hz',by omega,by omega⟩
end
end Go.Proofs.YtlmipmebdelgbaaGreat
