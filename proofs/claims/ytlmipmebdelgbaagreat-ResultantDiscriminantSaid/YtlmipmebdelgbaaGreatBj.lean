/- the fixed example of cylinderlaw24: plain facts. cylinderlaw24.fit: the walk. the small functions of cylinderlaw24; plain facts of PseudoExact. PseudoExact: the walk. -/
import Derived.Test.YtlmipmebdelgbaaGreatBh
import Derived.Test.YtlmipmebdelgbaaGreatMu
import Derived.Test.YtlmipmebdelgbaaGreatMt
import Derived.Test.YtlmipmebdelgbaaGreatMr
set_option linter.unusedVariables false
set_option linter.unusedSimpArgs false

namespace Go.Proofs.YtlmipmebdelgbaaGreat
open Go.RowKit

theorem qeT {l r:List Tm} (hl:NN l) (hr:NN r) (h:norm l=norm r):Sim l r:=by
 have h1:=qan hl
 have h2:=qan hr
 rw [<- h] at h2
 exact h1.symm.trans h2
theorem qeF {l:List Tm} {B:Nat} (hl:NN l) (h : ∀ s ∈ l,s.2.a<=B/\s.2.b<=B/\s.2.c<=B/\s.2.d<=B):Deg B l:=by
 refine (qfQ (B:=B) fun s hs k=>?_).sim (qan hl)
 obtain ⟨h1,h2,h3,h4⟩:=h s hs
 unfold Mo.get
 repeat' split
 all_goals omega




theorem qhg (a:Option Addr) (n cap:Nat) (X:Nat->TE) (T E:Nat) (w:World) (h:qqH w a n cap X) (hX : ∀ i,i<n->(X i).n<=9223372036854775807):Calls Tryz.prog 9 #[.slice a n cap,.int .i64 (T:Int),.int .i64 (E:Int)] w (qsJ (qr5 n X T 4 E) w):=by
 have ctr:=qpk a n cap X T 4 E w h hX
 rw [show ((4:Nat):Int)=4 from rfl] at ctr
 have CTR:=Lib.hid ctr
 clear ctr h hX
 go_enter Tryz.func9,Tryz.ntmps9
 go_wp2_with (fail)
 refine CTR.out.mono ?_
 rintro e w1 ⟨b,rfl,hb,rfl⟩
 have HB:=Lib.hid hb
 clear hb
 go_wp2
 go_ret
 exact ⟨b,rfl,HB.out,rfl⟩


end Go.Proofs.YtlmipmebdelgbaaGreat
