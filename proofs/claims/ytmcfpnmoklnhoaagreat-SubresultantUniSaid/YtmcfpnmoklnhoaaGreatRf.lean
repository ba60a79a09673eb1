/- Rf -/
import Derived.Test.YtmcfpnmoklnhoaaGreatRc
set_option linter.unusedVariables false
set_option linter.unusedSimpArgs false
namespace Go.Proofs.YtmcfpnmoklnhoaaGreat
open Go.RowKit
structure qgq(M':Nat->Prop)(wd W:World)(a:Nat)(x:PE)(l:List Tm):Prop where
 f:wd.heap.size<=a
 e:Ext wd W
 p:P4 W a x
 x:aI M' W 4 x l
theorem S9.VV{M':Nat->Prop}{wd wk:World}{a:Nat}{x:PE}{l:List Tm}(h:S9 M' wd wk (some a) none)(hx:aI (M9 M' (some a) none) wk 4 x l):
 ∃W1,W1=aH wk a 0 (.int .i64 x.lv) (.bool x.b) (.slice x.a x.n x.p) (.slice x.ka x.kn x.kp)/\Z4 wk a/\Ry wk a/\qgq M' wd W1 a x l:=by
 obtain⟨hB,hw⟩:=h.a a rfl;refine⟨_,rfl,hB.z4,hB.fz4,hw,h.e.aH hw _ _ _ _ _,(TJ hB x).p4,(hx.kp (Kp.aH (.inr (.inl rfl)) _ _ _ _ _)).more λg hg=>.inl (.inl hg)⟩
structure DW(M6:Nat->Prop)(w:World)(g0 g6:Nat)(s:PE)(b:List Tm)(wr:World):Prop where
 b6:ak wr g6 33 4 (arr (ah s))
 s:aI M6 wr 4 s b
 b0:ak wr g0 33 4 (arr zA)
 m:Mb M6 wr
 e:Ext w wr
theorem DW.ext{M6:Nat->Prop}{w:World}{g0 g6:Nat}{s:PE}{b:List Tm}{wr w':World}(h:DW M6 w g0 g6 s b wr)(he:Ext wr w'):DW M6 w g0 g6 s b w':=⟨h.b6.ext he,h.s.ext he,h.b0.ext he,h.m.ext he,h.e.trans he⟩
theorem dH.bZ{M:Nat->Prop}{w w':World}{L:Nat}{l r:List Tm}{e:Ending}(h:dH M w L l e w')(hs:ae l r):dH M w L r e w':=by
 obtain⟨y',e,h1,h2⟩:=h;exact⟨y',e,h1.bZ hs,h2⟩
def Zj(g i k j gi gk S:Nat)(y1 y2 y3 y4:PE)(w:World):Prop:=(w.cell? ⟨g,i,none⟩=some (.slice (some ⟨gi,0,none⟩) S S)/\w.cell? ⟨g,k,none⟩=some (.slice (some ⟨gk,0,none⟩) S S))/\eX w gi (j*4) y1/\eX w gk (k*4) y2/\eX w gi (k*4) y3/\eX w gk (j*4) y4
theorem Vt{w w':World}{b o:Nat}{x:PE}(h:eX w b o x)(he:Ext w w'):eX w' b o x:=h.ext (World.block_lt_of_cell? _ _ h.1) he
theorem Zj.ext{g i k j gi gk S:Nat}{y1 y2 y3 y4:PE}{w w':World}(h:Zj g i k j gi gk S y1 y2 y3 y4 w)(he:Ext w w'):Zj g i k j gi gk S y1 y2 y3 y4 w':=by
 have hl:=World.block_lt_of_cell? _ _ h.1.1;exact⟨⟨by rw[he.cell hl];exact h.1.1,by rw[he.cell hl];exact h.1.2⟩,Vt h.2.1 he,Vt h.2.2.1 he,Vt h.2.2.2.1 he,Vt h.2.2.2.2 he⟩
def qo4(M6:Nat->Prop)(l:List Tm)(wd:World)(Rb:Value)(wx:World):Prop:=∃(a:Nat)(v:PE),Rb=.pointer (some ⟨a,0,none⟩)/\qgq M6 wd wx a v l
def Zk(g i gi S g13 g6:Nat)(v s:PE)(w:World):Prop:=w.cell? ⟨g,i,none⟩=some (.slice (some ⟨gi,0,none⟩) S S)/\P4 w g13 v/\P4 w g6 s
theorem Zk.ext{g i gi S g13 g6:Nat}{v s:PE}{w w':World}(h:Zk g i gi S g13 g6 v s w)(he:Ext w w'):Zk g i gi S g13 g6 v s w':=⟨by rw[he.cell (World.block_lt_of_cell? _ _ h.1)];exact h.1,h.2.1.ext he,h.2.2.ext he⟩
end Go.Proofs.YtmcfpnmoklnhoaaGreat
