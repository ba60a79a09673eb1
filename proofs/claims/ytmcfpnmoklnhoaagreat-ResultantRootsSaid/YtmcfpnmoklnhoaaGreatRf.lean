/- subresultant.Determinant: what its loops keep. -/
import Derived.Test.YtmcfpnmoklnhoaaGreatRc
set_option linter.unusedVariables false
set_option linter.unusedSimpArgs false

namespace Go.Proofs.YtmcfpnmoklnhoaaGreat
open Go.RowKit

structure qs2 (M':Nat->Prop) (wd W:World) (a:Nat) (x:PE) (l:List Tm):Prop where
 f:wd.heap.size<=a
 e:Ext wd W
 p:P4 W a x
 x:CRx M' W 4 x l
theorem S9.put1 {M' : Nat -> Prop} {wd wk : World} {a : Nat} {x : PE} {l : List Tm} (h : S9 M' wd wk (some a) none) (hx : CRx (M9 M' (some a) none) wk 4 x l) :
  ∃ W1,W1=set4 wk a 0 (.int .i64 x.lv) (.bool x.b) (.slice x.a x.n x.p) (.slice x.ka x.kn x.kp)/\Z4 wk a/\Fz4 wk a/\qs2 M' wd W1 a x l:=by
 obtain ⟨hB,hw⟩:=h.a a rfl;refine ⟨_,rfl,hB.z4,hB.fz4,hw,h.e.set4 hw _ _ _ _ _,(qdB hB x).p4,(hx.kp (Kp.set4 (.inr (.inl rfl)) _ _ _ _ _)).more fun g hg=>.inl (.inl hg)⟩
theorem qa8.sim {M:Nat->Prop} {w w':World} {L:Nat} {l r:List Tm} {e:Ending} (h:qa8 M w L l e w') (hs:Sim l r):qa8 M w L r e w':=by
 obtain ⟨y',e,h1,h2⟩:=h;exact ⟨y',e,h1.sim hs,h2⟩
def qtX (M6:Nat->Prop) (l:List Tm) (wd:World) (s13:Value) (wx:World):Prop:=∃ (a:Nat) (v:PE),s13 = .pointer (some ⟨a,0,none⟩)/\qs2 M6 wd wx a v l
end Go.Proofs.YtmcfpnmoklnhoaaGreat
