/- Mw -/
import Derived.Test.YtmcfpnmoklnhoaaGreatMv
set_option linter.unusedVariables false
set_option maxRecDepth 100000
set_option maxHeartbeats 400000000
set_option linter.unusedSimpArgs false
namespace Go.Proofs.YtmcfpnmoklnhoaaGreat
open Go.RowKit
def qgv(p:Prop)(w:World)(e:Ending)(w':World):Prop:=∃b:Bool,e=.returned (.bool b)/\(b=true↔p)/\Ext w w'
theorem qgv.f{p:Prop}{w w':World}(h:¬p)(he:Ext w w'):qgv p w (.returned (.bool false)) w':=⟨false,rfl,⟨λe=>(by cases e),λe=>absurd e h⟩,he⟩
end Go.Proofs.YtmcfpnmoklnhoaaGreat
namespace Go.Proofs.YtmcfpnmoklnhoaaGreat
open Go.ChangeShapes Go.WideShapes Go.ChangeAt Go.RowKit Go.Deep
def IJ(W:World)(a:Option Addr)(n cap:Nat)(X:Nat->IE):Prop:=
 n<=cap/\cap<=maxLen/\(a=none->cap=0)/\∀i,i<n->∃b off,a=some ⟨b,off,none⟩/\b<W.heap.size/\W.cell? ⟨b,off+i*2,none⟩=some (.bool (X i).b)/\W.cell? ⟨b,off+i*2+1,none⟩=some (.slice (X i).a (X i).n (X i).p)/\qgj W (X i).a (X i).n (X i).p
section
variable{H:Type}{enc:TypeId × Value->H}{W:World}
set_option linter.constructorNameAsVariable false in
theorem qxr{base:Nat}{v:Value}{d:DataW H}{ps:List MemPlace}(hv:Value.okWide Tryz.prog W .any base 3 v)(h:DataW.Trod enc Tryz.prog W 0 (λ_=>true) true 3 v d ps):∃z:Int,v=.int .i64 z/\(-9223372036854775808<=z/\z<=9223372036854775807):=by
 obtain⟨fuel,h⟩:=h;obtain⟨y,rfl⟩:=okWide_int Tryz.underlying3 hv;obtain⟨z,hz,_,hw⟩:=DataW.trod_int Tryz.underlying3 h;have Ms:[Value.int .i64 y]=[.int .i64 z]:=hz;simp[Lit.wf,IntKind.min,IntKind.max,IntKind.signed,IntKind.bits]at hw;exact⟨z,by simpa using Ms,by omega,by omega⟩
end
theorem IJ.row{W:World}{a:Option Addr}{n cap:Nat}{X:Nat->IE}(h:IJ W a n cap X)(hn:n<=10)(hX:∀i,i<n->(X i).n<=6):∃z,bg M0 W a n cap X z/\∀i,i<n->(z i).natAbs<=4294967296^6:=by
 obtain⟨h1,h2,h3,h4⟩:=h
 have oG:∀i,i<n->∃z:Int,dB M0 W (.bool (X i).b) (.slice (X i).a (X i).n (X i).p) z/\z.natAbs<=4294967296^6:=λi hi=>by
  obtain⟨b,off,_,_,_,_,h5⟩:=h4 i hi;obtain⟨d,hd⟩:=h5.2 (by have:=hX i hi;omega);refine⟨bP (X i).b (nv d (X i).n),⟨(X i).b,nv d (X i).n,rfl,⟨_,d,hd,rfl⟩,rfl⟩,?_⟩;rw[tu];exact Nat.le_trans (Nat.le_of_lt (pO d _ hd.2.1)) (Nat.pow_le_pow_right (by omega) (hX i hi))
 obtain⟨z,hz⟩:=pick 0 oG;refine⟨z,⟨by omega,h1,h2,h3,λi hi=>?_⟩,λi hi=>(hz i hi).2⟩;obtain⟨b,off,e,hb,c0,c1,_⟩:=h4 i hi;exact⟨b,off,e,hb,λh=>h,c0,c1,(hz i hi).1⟩
theorem qzZ{L n B:Nat}{z:Nat->Int}(h1:1<=L)(h4:L<=4)(hn:n<=B+1):bn B (aP L n z):=by
 intro m hm k;obtain⟨t,ht,rfl⟩:=qg8 hm;obtain⟨i,hi,s,hs,rfl⟩:=EN ht;simp only[List.mem_singleton]at hs;subst hs;rw[gL,ve,dX L k _ h1 h4]
 split<;>omega
end Go.Proofs.YtmcfpnmoklnhoaaGreat
