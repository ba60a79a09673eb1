/- Rows of sparse polynomials; the sort of at most two equal ones. Plain facts: the order of sparse polynomials; families. mainvar.Family. cylinderlaw23.fit: the fixed example. -/
import Derived.Test.YtlmipmebdelgbaaGreatDa
import Derived.Test.YtlmipmebdelgbaaGreatNe
import Derived.Test.YtlmipmebdelgbaaGreatMi
import Derived.Test.YtlmipmebdelgbaaGreatMp
import Derived.Scope
set_option linter.unusedVariables false
set_option linter.unusedSimpArgs false

namespace Go.Proofs.YtlmipmebdelgbaaGreat
open Go.RowKit

structure SE where
 a:Option Addr
 n:Nat
 p:Nat
 l:List Tm
instance:Inhabited SE:=⟨⟨none,0,0,[]⟩⟩




theorem Tryz.info23:(Tryz.prog.info? 23).map (fun i=>(i.zero,i.size,i.bytes))=some (some (.slice none 0 0),1,24):=by kernel_rfl
theorem qi7 {M:Nat->Prop} {w wr:World} {base:Nat} {E:TypeId} {k n:Nat} {v:Value} {f:Nat->Value} (hM:Mb M w) (he:Ext w wr) (hO:Own wr base E k v n f):Mb (MR M v) wr:=fun g hg=>hg.elim (fun h=>hM.ext he g h) (fun h=>(hO.lt g h).2)
theorem qfa {M:Nat->Prop} {wa wb:World} {v:Value} {gg:Nat} {x:PE} {l:List Tm} {n cap:Nat} (hP:CRx (MR M v) wa 4 x l) (hg:wa.grownBy wb v.ownBlock) (hat:v.ownBlock=some gg∨wa.heap.size<=gg):CRx (MR M (.slice (some ⟨gg,0,none⟩) n cap)) wb 4 x l:=by
 have h1:=hP.more (M':=fun b=>MR M v b∨b=gg) (fun b hb=>hb.elim .inl fun e=>by
  rcases hat with h | h
  ·exact .inl (.inr (by rw [h,e]))
  ·exact .inr (by omega))
 have h2:=h1.kp (Kp.grown hg fun k hk=>.inl (.inr hk))
 exact h2.more fun b hb=>.inl (hb.elim (fun h=>.inl (.inl h)) fun h=>.inr (by simp only [Value.ownBlock,Option.some.injEq] at h;exact h.symm))


def f23:List Tm:=[(1,⟨1,1,0,0⟩),(3,⟨0,0,0,0⟩)]
theorem qaB.cel {M:Nat->Prop} {w:World} {D g N:Nat} {P:Nat->List Tm} (h:qaB M w D g N P) (i:Nat) (hi:i<N) : ∃ y:PE,qa6 w g (i*4) y/\CRx M w D y (P i):=by
 obtain ⟨f,hB,hc⟩:=h
 obtain ⟨x,e0,e1,e2,e3,hx,_⟩:=(hc i hi).pe
 refine ⟨x,⟨?_,?_,?_,?_⟩,hx⟩
 ·rw [hB.cell (by omega),e0]
 ·rw [hB.cell (by omega),e1]
 ·rw [hB.cell (by omega),e2]
 ·rw [hB.cell (by omega),e3]
theorem qaB.lt {M:Nat->Prop} {w:World} {D g N:Nat} {P:Nat->List Tm} (h:qaB M w D g N P):g<w.heap.size:=by
 obtain ⟨f,hB,_⟩:=h;exact hB.lt
def S23 (g b:Nat) (z p:PE) (w:World):Prop:=qa6 w g 4 z/\P4 w b p
theorem S23.ext {g b:Nat} {z p:PE} {w w':World} (h:S23 g b z p w) (he:Ext w w'):S23 g b z p w':=⟨h.1.ext (World.block_lt_of_cell? _ _ h.1.1) he,h.2.ext he⟩
end Go.Proofs.YtlmipmebdelgbaaGreat
