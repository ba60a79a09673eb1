/- SimplifyFolds: the walk. -/
import Derived.Test.YtodiphjjdheoaaaGreatIc
import Derived.Test.YtodiphjjdheoaaaGreatId
import Derived.Test.YtodiphjjdheoaaaGreatNj
set_option linter.unusedVariables false
set_option linter.unusedSimpArgs false

namespace Go.Proofs.YtodiphjjdheoaaaGreat
open Go.RowKit

theorem CRx.rawP {M : Nat → Prop} {w : World} {x : PE} {l : List Tm} (h : CRx M w 4 x l) (hl : SmF l) : RawP M w x l := by
 obtain ⟨t, h1, h2, h3, h4⟩ := h.tb1 (B := 66) (by omega) (Nat.le_trans hl.2.2 (by decide)) hl.2.1 (by decide)
 exact ⟨5, t, h1, h2, Nat.le_trans (dlen_mono h4) hl.2.2, hl.2.1.sim h3.symm, h3⟩
abbrev row2 (y z : MX) : Array Value := #[.int .i64 y.kd, .int .i64 y.rl, .int .i64 y.x.lv, .bool y.x.b, .slice y.x.a y.x.n y.x.p, .slice y.x.ka y.x.kn y.x.kp, .slice y.a y.n y.p, .int .i64 z.kd, .int .i64 z.rl, .int .i64 z.x.lv, .bool z.x.b, .slice z.x.a z.x.n z.x.p, .slice z.x.ka z.x.kn z.x.kp, .slice z.a z.n z.p]
abbrev row3 (y z u : MX) : Array Value := #[.int .i64 y.kd, .int .i64 y.rl, .int .i64 y.x.lv, .bool y.x.b, .slice y.x.a y.x.n y.x.p, .slice y.x.ka y.x.kn y.x.kp, .slice y.a y.n y.p, .int .i64 z.kd, .int .i64 z.rl, .int .i64 z.x.lv, .bool z.x.b, .slice z.x.a z.x.n z.x.p, .slice z.x.ka z.x.kn z.x.kp, .slice z.a z.n z.p,
 .int .i64 u.kd, .int .i64 u.rl, .int .i64 u.x.lv, .bool u.x.b, .slice u.x.a u.x.n u.x.p, .slice u.x.ka u.x.kn u.x.kp, .slice u.a u.n u.p]
def FoldCut (wd : World) (r : Int) (l : List Tm) (s10 : Value) (wx : World) : Prop := ∃ (gb : Nat) (v : PE), s10 = .pointer (some ⟨gb, 0, none⟩) ∧ MxC wx gb 0 ⟨2, r, v, none, 0, 0⟩ ∧ CRx M0 wx 4 v l ∧ Ext wd wx
def SMP (g g' : Nat) (y : MX) (x : PE) (w : World) : Prop := MxC w g 0 y ∧ P4 w g' x
theorem SMP.ext {g g' : Nat} {y : MX} {x : PE} {w w' : World} (h : SMP g g' y x w) (he : Ext w w') : SMP g g' y x w' := ⟨h.1.ext he, h.2.ext he⟩
def FB5 (g gn ga gb : Nat) (y yn yt ya yb : MX) (w : World) : Prop := MxC w g 0 y ∧ MxC w gn 0 yn ∧ MxC w (gn + 1) 0 yt ∧ MxC w ga 0 ya ∧ MxC w gb 0 yb
theorem FB5.ext {g gn ga gb : Nat} {y yn yt ya yb : MX} {w w' : World} (h : FB5 g gn ga gb y yn yt ya yb w) (he : Ext w w') : FB5 g gn ga gb y yn yt ya yb w' := ⟨h.1.ext he, h.2.1.ext he, h.2.2.1.ext he, h.2.2.2.1.ext he, h.2.2.2.2.ext he⟩
def FT5 (y yn yt ya yb : MX) (t tn tt ta tb : TM) (w : World) : Prop := TMc false 12 M0 w y t ∧ TMc false 12 M0 w yn tn ∧ TMc false 12 M0 w yt tt ∧ TMc false 12 M0 w ya ta ∧ TMc false 12 M0 w yb tb
theorem FT5.ext {y yn yt ya yb : MX} {t tn tt ta tb : TM} {w w' : World} (h : FT5 y yn yt ya yb t tn tt ta tb w) (he : Ext w w') : FT5 y yn yt ya yb t tn tt ta tb w' := ⟨h.1.ext he, h.2.1.ext he, h.2.2.1.ext he, h.2.2.2.1.ext he, h.2.2.2.2.ext he⟩
end Go.Proofs.YtodiphjjdheoaaaGreat
