/- Plain facts on division, second part: sign normal forms of multiples, inexact divisions, degrees of products, the lemma of Gauss. The lemma of Gauss: a primitive polynomial that divides a multiple by a number divides the polynomial. -/
import Derived.Test.YtlmipmebdelgbaaGreatBj
set_option linter.unusedVariables false
set_option linter.unusedSimpArgs false

namespace Go.Proofs.YtlmipmebdelgbaaGreat

theorem qcz {l:List Tm} (h:NN l):Sim (smul (qd2 (norm l)) (snorm l)) l:=by
 rw [qgn];exact qar h
theorem qjG (l:List Tm):NN (snorm l):=qaV fun t ht=>((qfp l).2 t ht).2
theorem qqj {c:Int} {l:List Tm} (h:NN l):NN (smul c l):=fun m hm=>by rw [qal,h m hm,Int.mul_zero]
theorem qdC (c:Int) (l r:List Tm):Sim (pmul (smul c l) r) (smul c (pmul l r)):=fun m=>by
 rw [qal]
 induction l with
 | nil=>exact (Int.mul_zero c).symm
 | cons s l ih=>
  show qab (pmul ((c*s.1,s.2) :: smul c l) r) m=_;rw [qak,qak,ih,Int.mul_add,Int.mul_assoc]
theorem qfx (c:Int) (l r:List Tm):Sim (pmul l (smul c r)) (smul c (pmul l r)):=
 (Sim.pmul_comm _ _).trans ((qdC c r l).trans ((Sim.pmul_comm r l).smul c))
theorem DgR.smul {k n:Nat} {c:Int} {l:List Tm} (hc:c≠0) (h:DgR k (smul c l) n):DgR k l n:=by
 refine ⟨fun m hm=>h.1 m (by rw [qal];exact Int.mul_ne_zero hc hm),h.2.imp id fun ⟨m,hm,e⟩=>⟨m,fun h0=>hm (by rw [qal,h0,Int.mul_zero]),e⟩⟩
theorem DgR.snorm {k n:Nat} {l:List Tm} (hl:NN l) (h:DgR k l n):DgR k (Go.Proofs.YtlmipmebdelgbaaGreat.snorm l) n:=
 DgR.smul (qiO (qaw l)) (h.sim (qcz hl).symm)


end Go.Proofs.YtlmipmebdelgbaaGreat
