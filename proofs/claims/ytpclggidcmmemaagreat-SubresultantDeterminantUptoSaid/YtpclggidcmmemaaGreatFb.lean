/- PseudoForms: plain facts. PseudoForms: the walk. -/
import Derived.Test.YtpclggidcmmemaaGreatFa
import Derived.Test.YtpclggidcmmemaaGreatEc
import Derived.Test.YtpclggidcmmemaaGreatBh
set_option linter.unusedVariables false
set_option linter.unusedSimpArgs false

namespace Go.Proofs.YtpclggidcmmemaaGreat
open Go.RowKit

theorem BT2.ext {n : Nat} {M : Nat → Prop} {w w' : World} {x : PE} {l : List Tm} (h : BT2 n M w x l) (he : Ext w w') : BT2 n M w' x l := ⟨h.1.ext he, h.2⟩
def DvSm (W : World) (q r s t : PE) (er xr : Int) : Prop := er = xr ∧ ∃ ql rl, CRx M0 W 4 q ql ∧ CRx M0 W 4 r rl ∧ CRx M0 W 4 s ql ∧ CRx M0 W 4 t rl
theorem DvSm.ext {W W' : World} {q r s t : PE} {er xr : Int} (h : DvSm W q r s t er xr) (he : Ext W W') : DvSm W' q r s t er xr := by
 obtain ⟨h1, ql, rl, h2, h3, h4, h5⟩ := h
 exact ⟨h1, ql, rl, h2.ext he, h3.ext he, h4.ext he, h5.ext he⟩
def ExS (W : World) (u v : PE) (er xr : Int) : Prop := er = xr ∧ ∃ ul vl, CRx M0 W 4 u ul ∧ CRx M0 W 4 v vl ∧ Sim ul vl
theorem ExS.ext {W W' : World} {u v : PE} {er xr : Int} (h : ExS W u v er xr) (he : Ext W W') : ExS W' u v er xr := by
 obtain ⟨h1, ul, vl, h2, h3, h4⟩ := h
 exact ⟨h1, ul, vl, h2.ext he, h3.ext he, h4⟩
end Go.Proofs.YtpclggidcmmemaaGreat

namespace Go.Proofs.YtpclggidcmmemaaGreat
open Go.RowKit

def SG5 (a b c d e : Nat) (x y q r v : PE) (w : World) : Prop := P4 w a x ∧ P4 w b y ∧ P4 w c q ∧ P4 w d r ∧ P4 w e v
theorem SG5.ext {a b c d e : Nat} {x y q r v : PE} {w w' : World} (h : SG5 a b c d e x y q r v w) (he : Ext w w') : SG5 a b c d e x y q r v w' := ⟨h.1.ext he, h.2.1.ext he, h.2.2.1.ext he, h.2.2.2.1.ext he, h.2.2.2.2.ext he⟩
def SG4 (a b c d : Nat) (x y q r : PE) (w : World) : Prop := P4 w a x ∧ P4 w b y ∧ P4 w c q ∧ P4 w d r
theorem SG4.ext {a b c d : Nat} {x y q r : PE} {w w' : World} (h : SG4 a b c d x y q r w) (he : Ext w w') : SG4 a b c d x y q r w' := ⟨h.1.ext he, h.2.1.ext he, h.2.2.1.ext he, h.2.2.2.ext he⟩
def SF10 (b1 b2 b3 b4 b5 b6 b7 b8 b9 b10 : Nat) (x1 x2 x3 x4 x5 x6 x7 x8 x9 x10 : PE) (w : World) : Prop := SG5 b1 b2 b3 b4 b5 x1 x2 x3 x4 x5 w ∧ SG5 b6 b7 b8 b9 b10 x6 x7 x8 x9 x10 w
theorem SF10.ext {b1 b2 b3 b4 b5 b6 b7 b8 b9 b10 : Nat} {x1 x2 x3 x4 x5 x6 x7 x8 x9 x10 : PE} {w w' : World} (h : SF10 b1 b2 b3 b4 b5 b6 b7 b8 b9 b10 x1 x2 x3 x4 x5 x6 x7 x8 x9 x10 w) (he : Ext w w') : SF10 b1 b2 b3 b4 b5 b6 b7 b8 b9 b10 x1 x2 x3 x4 x5 x6 x7 x8 x9 x10 w' := ⟨h.1.ext he, h.2.ext he⟩
end Go.Proofs.YtpclggidcmmemaaGreat
