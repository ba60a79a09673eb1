/- The level of a canonical polynomial is that of its monomials. The law RecpolyOf returns true at every input, without a panic, and leaves its arguments as they were; no conditions. sparse: IsZero, Const; recpoly.Constant; cylinderref20: Valid, CompareMono. cylinderref20: CompareMono, Canonical. cylinderref20.Canonical at canonical polynomials. recpoly.Constant. The law RecpolyTo returns true at every input, without a panic, and leaves its arguments as they were; no conditions. -/
import Derived.Test.YtjhhekmfdhfjpaaGreatMp
import Derived.Test.YtjhhekmfdhfjpaaGreatMr
import Derived.Test.YtjhhekmfdhfjpaaGreatMi
import Derived.Test.YtjhhekmfdhfjpaaGreatMn
set_option linter.unusedVariables false
set_option linter.unusedSimpArgs false

namespace Go.Proofs.YtjhhekmfdhfjpaaGreat
open Go.RowKit

theorem qdY : ∀ {l : List Tm},qa6 l -> ∀ {s : Tm},s ∈ l -> qab l s.2 = s.1
 | t :: l,h,s,hs=>by
  rcases List.mem_cons.1 hs with rfl | hs
  ·exact h.coef_head
  ·have h1:=qdY h.tail hs
   have h2:=Mo.lt_ne (h.head s hs)
   simp only [qab]
   rw [if_neg (fun e=>h2 e.symm),h1];omega
end Go.Proofs.YtjhhekmfdhfjpaaGreat

namespace Go.Proofs.YtjhhekmfdhfjpaaGreat
open Go.ChangeShapes Go.WideShapes Go.ChangeAt Go.RowKit Go.Deep

theorem qfK {l : List Tm} {B : Nat} (h : ∀ s ∈ l,∀ k,s.2.get k <= (B : Int)) : Deg B (norm l):=by
 intro m hm k
 refine Classical.byContradiction fun hc=>hm (qaw fun s hs e=>?_)
 obtain ⟨t,ht,e2⟩:=qiT hs
 have:=h t ht k
 rw [e2,e] at this
 omega
namespace recpolyOf
end recpolyOf
end Go.Proofs.YtjhhekmfdhfjpaaGreat

namespace Go.Proofs.YtjhhekmfdhfjpaaGreat
open Go.RowKit







end Go.Proofs.YtjhhekmfdhfjpaaGreat

namespace Go.Proofs.YtjhhekmfdhfjpaaGreat
open Go.ChangeShapes Go.WideShapes Go.ChangeAt Go.RowKit Go.Deep

namespace recpolyTo
end recpolyTo
end Go.Proofs.YtjhhekmfdhfjpaaGreat
