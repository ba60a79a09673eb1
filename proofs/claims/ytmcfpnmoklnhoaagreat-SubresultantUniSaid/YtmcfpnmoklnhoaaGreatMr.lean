/- Mr -/
import Derived.Test.YtmcfpnmoklnhoaaGreatMm
import Derived.Test.YtmcfpnmoklnhoaaGreatMq
import Derived.Test.YtmcfpnmoklnhoaaGreatMp
import Derived.Test.YtmcfpnmoklnhoaaGreatMi
set_option linter.unusedVariables false
set_option linter.unusedSimpArgs false
namespace Go.Proofs.YtmcfpnmoklnhoaaGreat
open Go.RowKit
def ZI(w:World)(a:Option Addr)(n cap:Nat)(X:Nat->TE):Prop:=
 n<=cap/\cap<=maxLen/\(n=0\/∃b off,a=some ⟨b,off,none⟩/\b<w.heap.size/\∀i,i<n->w.cell? ⟨b,off+i*6,none⟩=some (.bool (X i).b)/\w.cell? ⟨b,off+i*6+1,none⟩=some (.slice (X i).a (X i).n (X i).p)/\
  w.cell? ⟨b,off+i*6+2,none⟩=some (.int .i64 (X i).m.a)/\w.cell? ⟨b,off+i*6+3,none⟩=some (.int .i64 (X i).m.b)/\w.cell? ⟨b,off+i*6+4,none⟩=some (.int .i64 (X i).m.c)/\w.cell? ⟨b,off+i*6+5,none⟩=some (.int .i64 (X i).m.d))
theorem ZI.ext{w w':World}{a:Option Addr}{n cap:Nat}{X:Nat->TE}(h:ZI w a n cap X)(he:Ext w w'):ZI w' a n cap X:=by
 obtain⟨h1,h2,h3⟩:=h;refine⟨h1,h2,?_⟩;rcases h3 with h3|⟨b,off,ha,hb,hc⟩
 ·exact .inl h3
 ·refine .inr ⟨b,off,ha,Nat.lt_of_lt_of_le hb he.size,λi hi=>?_⟩;rw[he.cell hb,he.cell hb,he.cell hb,he.cell hb,he.cell hb,he.cell hb];exact hc i hi
end Go.Proofs.YtmcfpnmoklnhoaaGreat
namespace Go.Proofs.YtmcfpnmoklnhoaaGreat
open Go.ChangeShapes Go.WideShapes Go.ChangeAt Go.RowKit Go.Deep
theorem qqR(a:Addr):a.add 0=a:=by unfold Addr.add;simp
section
variable{H:Type}{enc:TypeId × Value->H}{W:World}
end
end Go.Proofs.YtmcfpnmoklnhoaaGreat
namespace Go.Proofs.YtmcfpnmoklnhoaaGreat
open Go.RowKit
end Go.Proofs.YtmcfpnmoklnhoaaGreat
namespace Go.Proofs.YtmcfpnmoklnhoaaGreat
open Go.ChangeShapes Go.WideShapes Go.ChangeAt Go.RowKit Go.Deep
theorem qrT{l:List Tm}{B:Nat}(h:∀s∈l,∀k,s.2.get k<=(B:Int)):bn B (norm l):=by
 intro m hm k;refine Classical.byContradiction λhc=>hm (qh λs hs e=>?_);obtain⟨t,ht,e2⟩:=qmM hs;have:=h t ht k;rw[e2,e]at this;omega
namespace recpolyOf
end recpolyOf
end Go.Proofs.YtmcfpnmoklnhoaaGreat
namespace Go.Proofs.YtmcfpnmoklnhoaaGreat
open Go.RowKit
def qrD(c:Int):List Tm:=if c=0 then[]else[(c,Mo.zero)]
def Tx(b o1 o2:Nat)(m m':Mo)(w:World):Prop:=(w.cell? ⟨b,o1,none⟩=some (.int .i64 m.a)/\w.cell? ⟨b,o1+1,none⟩=some (.int .i64 m.b)/\w.cell? ⟨b,o1+2,none⟩=some (.int .i64 m.c)/\w.cell? ⟨b,o1+3,none⟩=some (.int .i64 m.d))/\
 (w.cell? ⟨b,o2,none⟩=some (.int .i64 m'.a)/\w.cell? ⟨b,o2+1,none⟩=some (.int .i64 m'.b)/\w.cell? ⟨b,o2+2,none⟩=some (.int .i64 m'.c)/\w.cell? ⟨b,o2+3,none⟩=some (.int .i64 m'.d))
theorem Tx.ext{b o1 o2:Nat}{m m':Mo}{w w':World}(h:Tx b o1 o2 m m' w)(he:Ext w w'):Tx b o1 o2 m m' w':=by
 have h1:=World.block_lt_of_cell? _ _ h.1.1;unfold Tx;rw[he.cell h1,he.cell h1,he.cell h1,he.cell h1,he.cell h1,he.cell h1,he.cell h1,he.cell h1];exact h
end Go.Proofs.YtmcfpnmoklnhoaaGreat
namespace Go.Proofs.YtmcfpnmoklnhoaaGreat
open Go.ChangeShapes Go.WideShapes Go.ChangeAt Go.RowKit Go.Deep
theorem uV.ext{M:Nat->Prop}{B:Nat}{w w':World}{v:Value}{l:List Tm}(h:uV M B w v l)(he:Ext w w'):uV M B w' v l:=by
 obtain⟨n,z,x,h1,h2,h3⟩:=h;exact⟨n,z,x,h1.ext he,λi hi=>(h2 i hi).ext he,h3⟩
namespace recpolyTo
end recpolyTo
end Go.Proofs.YtmcfpnmoklnhoaaGreat
