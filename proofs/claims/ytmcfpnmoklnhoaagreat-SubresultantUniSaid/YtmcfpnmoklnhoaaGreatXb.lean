/- Xb -/
import Derived.Test.YtmcfpnmoklnhoaaGreatXa
import Derived.Test.YtmcfpnmoklnhoaaGreatVe
import Derived.Test.YtmcfpnmoklnhoaaGreatTa
import Derived.Test.YtmcfpnmoklnhoaaGreatWa
import Derived.Test.YtmcfpnmoklnhoaaGreatVa
import Derived.Test.YtmcfpnmoklnhoaaGreatMq
import Derived.Test.YtmcfpnmoklnhoaaGreatMr
set_option linter.unusedVariables false
set_option linter.unusedSimpArgs false
namespace Go.Proofs.YtmcfpnmoklnhoaaGreat
open Go.RowKit
def Y5(w:World)(a:Option Addr)(n cap:Nat)(r:Nat->Int):Prop:=
 n<=cap/\cap<=maxLen/\∀i,i<n->(-32768<=r i/\r i<=32767)/\∃b off,a=some ⟨b,off,none⟩/\b<w.heap.size/\w.cell? ⟨b,off+i,none⟩=some (.int .i16 (r i))
theorem Y5.ext{w w':World}{a:Option Addr}{n cap:Nat}{r:Nat->Int}(h:Y5 w a n cap r)(he:Ext w w'):Y5 w' a n cap r:=
 ⟨h.1,h.2.1,λi hi=>by
  obtain⟨q,b,off,h1,h2,h3⟩:=h.2.2 i hi
  exact⟨q,b,off,h1,Nat.lt_of_lt_of_le h2 he.size,by rw[he.cell h2];exact h3⟩⟩
def lf(c:Int)(r:Nat->Int):Nat->Nat->Int
 |0,i=>if i=0 then c else 0
 |k+1,i=>(if i=0 then 0 else lf c r k (i-1))-r k*lf c r k i
theorem qAA(w:World)(z:Nat->Int)(a:Int)(ha:z 0=a)(h: -1000000<=a/\a<=1000000):Ox (w.alloc (.cells #[.int .i64 a] 2)) (some ⟨w.heap.size,0,none⟩) 1 1 z:=by
 have hB:=ak.bf w #[.int .i64 a] 2 1 rfl;refine⟨by decide,by decide,by decide,λi hi=>?_⟩
 obtain rfl:i=0:=by omega
 exact⟨by rw[ha];exact h,_,_,rfl,hB.lt,by rw[ha];exact hB.cell (i:=0) (by omega)⟩
def pr(f:Nat->Int):Nat->Int
 |0=>1
 |k+1=>pr f k*f k
theorem ofI{M:Nat->Prop}(z:Int)(w:World)(hM:Mb M w)(h: -1000000<=z/\z<=1000000):Calls Tryz.prog 22 #[.int .i64 z] w (kI M w z):=(Jz z w hM (by omega) (by omega)).mono λ_ _ h=>.of h
def Zf(g:Nat)(x:IE)(w:World):Prop:=JC w g 0 x/\g<w.heap.size
theorem Zf.ext{g:Nat}{x:IE}{w w':World}(h:Zf g x w)(he:Ext w w'):Zf g x w':=⟨h.1.ext h.2 he,Nat.lt_of_lt_of_le h.2 he.size⟩
def Zg(g:Nat)(x:IE)(b o:Nat)(v:Value)(w:World):Prop:=JC w g 0 x/\w.cell? ⟨b,o,none⟩=some v/\g<w.heap.size/\b<w.heap.size
theorem Zg.ext{g:Nat}{x:IE}{b o:Nat}{v:Value}{w w':World}(h:Zg g x b o v w)(he:Ext w w'):Zg g x b o v w':=⟨h.1.ext h.2.2.1 he,by rw[he.cell h.2.2.2];exact h.2.1,Nat.lt_of_lt_of_le h.2.2.1 he.size,Nat.lt_of_lt_of_le h.2.2.2 he.size⟩
def wh(b o1 o2:Nat)(x y:Value)(w:World):Prop:=w.cell? ⟨b,o1,none⟩=some x/\w.cell? ⟨b,o2,none⟩=some y/\b<w.heap.size
theorem wh.ext{b o1 o2:Nat}{x y:Value}{w w':World}(h:wh b o1 o2 x y w)(he:Ext w w'):wh b o1 o2 x y w':=⟨by rw[he.cell h.2.2];exact h.1,by rw[he.cell h.2.2];exact h.2.1,Nat.lt_of_lt_of_le h.2.2 he.size⟩
def dq(r:Nat->Int)(i k:Nat):Int:=(r i-r k)*(r i-r k)
end Go.Proofs.YtmcfpnmoklnhoaaGreat
namespace Go.Proofs.YtmcfpnmoklnhoaaGreat
def jo(ξ:Int)(c:Nat->Int)(T:Nat):Nat->Int
 |0=>c T
 |r+1=>ξ*jo ξ c T r+c (T-(r+1))
end Go.Proofs.YtmcfpnmoklnhoaaGreat
namespace Go.Proofs.YtmcfpnmoklnhoaaGreat
open Go.RowKit
theorem qoF{L n A:Nat}{z:Nat->Int}(h1:1<=L)(h4:L<=4)(hn:n<=7)(hA:∀i,i<n->az (z i).natAbs<=A):Sz 6 (A+2) (aP L n z):=
 ⟨pM _ _ _,qzZ h1 h4 (by omega),VP (by omega) λi hi=>by
  have:aC [(z i,Mo.zero)]=(z i).natAbs:=by simp[aC]
  rw[this]
  exact hA i hi⟩
structure LfU(c:Int)(r:Nat->Int)(k nf:Nat)(zf:Nat->Int):Prop where
 c0:c≠0
 k5:k<=5
 n:nf<=k+1
 z:∀i,aM nf zf i=lf c r k i
 d:∀i,i<nf->az (zf i).natAbs<=11
section
variable{c:Int}{r:Nat->Int}{k nf:Nat}{zf:Nat->Int}(H:LfU c r k nf zf)
include H
end
section
variable{c:Int}{r:Nat->Int}{k nf:Nat}{zf:Nat->Int}(H:LfU c r k nf zf)(hc: -128<=c/\c<=127)(hr:∀i,i<k-> -32768<=r i/\r i<=32767)
include H hc hr
end
end Go.Proofs.YtmcfpnmoklnhoaaGreat
namespace Go.Proofs.YtmcfpnmoklnhoaaGreat
open Go.ChangeShapes Go.WideShapes Go.ChangeAt Go.RowKit Go.Deep
section
variable{H:Type}{enc:TypeId × Value->H}{W:World}
end
namespace resultantRoots
end resultantRoots
end Go.Proofs.YtmcfpnmoklnhoaaGreat
