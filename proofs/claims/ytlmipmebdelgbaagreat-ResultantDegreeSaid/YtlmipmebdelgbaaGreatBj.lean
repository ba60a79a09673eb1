/- the fixed example of cylinderlaw24: plain facts. cylinderlaw24.fit: the walk. the small functions of cylinderlaw24; plain facts of PseudoExact. PseudoExact: the walk. -/
import Derived.Test.YtlmipmebdelgbaaGreatBh
import Derived.Test.YtlmipmebdelgbaaGreatMu
import Derived.Test.YtlmipmebdelgbaaGreatMt
import Derived.Test.YtlmipmebdelgbaaGreatMr
set_option linter.unusedVariables false
set_option linter.unusedSimpArgs false

namespace Go.Proofs.YtlmipmebdelgbaaGreat
open Go.RowKit

theorem qfq {l r:List Tm} (hl:NN l) (hr:NN r) (h:norm l=norm r):Sim l r:=by
 have h1:=qar hl;have h2:=qar hr;rw [<- h] at h2;exact h1.symm.trans h2
theorem qfd {l:List Tm} {B:Nat} (hl:NN l) (h : ∀ s ∈ l,s.2.a<=B/\s.2.b<=B/\s.2.c<=B/\s.2.d<=B):Deg B l:=by
 refine (qgG (B:=B) fun s hs k=>?_).sim (qar hl);obtain ⟨h1,h2,h3,h4⟩:=h s hs;unfold Mo.get
 repeat' split
 all_goals omega


theorem CRx.tbN {M:Nat->Prop} {w:World} {L:Nat} {x:PE} {l:List Tm} {B:Nat} (h:CRx M w L x l) (hL4:L<=4) (hL:dlen (nrm l)<=1099511627776) (hB:Deg B l) (hB4:(B+1) ^ 4<=1099511627776) : ∃ t:RT (L+1),RR M w (L+1) t (.int .i64 x.lv) (.bool x.b) (.slice x.a x.n x.p) (.slice x.ka x.kn x.kp)/\TB (L+1) t/\Sim (qaj (L+1) t) l/\nrm (qaj (L+1) t)<=nrm l:=by
 obtain ⟨t,h1,h2,h3,h4⟩:=h;have hlv:=qcD h2;have hlen:=qfT B (L+1) t h2 h1.ok (qdd h4 hB);have hpow:(B+1) ^ (Go.Proofs.YtlmipmebdelgbaaGreat.lev (L+1) t).toNat<=(B+1) ^ 4:=Nat.pow_le_pow_right (by omega) (by show t.1.toNat<=4;omega)
 have hB1:B+1<=(B+1) ^ 4:=by
  have h5:=Nat.pow_le_pow_right (show 0<B+1 by omega) (show 1<=4 by omega)
  rwa [Nat.pow_one] at h5
 have hBs:B<=1073741824:=by
  refine Classical.byContradiction fun hc=>?_;have h6:(1073741825:Nat) ^ 2<=(B+1) ^ 4:=Nat.le_trans (Nat.pow_le_pow_left (show 1073741825<=B+1 by omega) 2) (Nat.pow_le_pow_right (by omega) (by omega));omega
 refine ⟨t,h1,⟨by omega,by omega,Nat.le_trans (qai (qdO h2 h4)) hL,fun s hs k=>?_⟩,h4,qdO h2 h4⟩;have:=qfU B (L+1) t h2 h1.ok (qdd h4 hB) s hs k;omega


theorem qid (a:Option Addr) (n cap:Nat) (X:Nat->TE) (T E:Nat) (w:World) (h:qrQ w a n cap X) (hX : ∀ i,i<n->(X i).n<=9223372036854775807):Calls Tryz.prog 9 #[.slice a n cap,.int .i64 (T:Int),.int .i64 (E:Int)] w (qtP (qrL n X T 4 E) w):=by
 have ctr:=qqy a n cap X T 4 E w h hX;rw [show ((4:Nat):Int)=4 from rfl] at ctr;have CTR:=Lib.hid ctr;clear ctr h hX
 go_enter Tryz.func9,Tryz.ntmps9
 go_wp2_with (fail);refine CTR.out.mono ?_;rintro e w1 ⟨b,rfl,hb,rfl⟩;have HB:=Lib.hid hb;clear hb;go_wp2;go_ret;exact ⟨b,rfl,HB.out,rfl⟩


end Go.Proofs.YtlmipmebdelgbaaGreat
