/- Qc -/
import Derived.Test.YtmcfpnmoklnhoaaGreatQb
import Derived.Laws.AppendOwnNone
import Derived.Deep.Upon
import Derived.Deep.AppendLies
set_option linter.unusedVariables false
set_option maxRecDepth 100000
set_option maxHeartbeats 400000000
set_option linter.unusedSimpArgs false
namespace Go.Proofs.YtmcfpnmoklnhoaaGreat
open Go.RowKit
def Om(M:Nat->Prop)(w:World)(g N c:Nat)(P:Nat->List Tm):Prop:=(N<=c/\c<=maxLen)/\∃f,ak w g 33 (c*4) f/\∀i,i<N->CR M w 4 (f (i*4)) (f (i*4+1)) (f (i*4+2)) (f (i*4+3)) (P i)
theorem Om.ext{M:Nat->Prop}{w w':World}{g N c:Nat}{P:Nat->List Tm}(h:Om M w g N c P)(he:Ext w w'):Om M w' g N c P:=by
 obtain⟨h0,f,h1,h2⟩:=h;exact⟨h0,f,h1.ext he,λi hi=>(h2 i hi).ext he⟩
def rwf(gs cs:Nat->Nat)(N:Nat):Nat->Value:=λk=>.slice (some ⟨gs k,0,none⟩) N (cs k)
def Y9(M:Nat->Prop)(w:World)(base:Nat)(v:Value)(S N:Nat)(P:Nat->Nat->List Tm):Prop:=∃gs cs:Nat->Nat,Own w base 31 1 v S (rwf gs cs N)/\(S=0->v=.slice none 0 0)/\∀k,k<S->base<=gs k/\v.ownBlock≠some (gs k)/\Om (MR M v) w (gs k) N (cs k) (P k)
theorem Y9.ext{M:Nat->Prop}{w w':World}{base:Nat}{v:Value}{S N:Nat}{P:Nat->Nat->List Tm}(h:Y9 M w base v S N P)(he:Ext w w'):Y9 M w' base v S N P:=by
 obtain⟨gs,cs,h1,h0,h2⟩:=h;exact⟨gs,cs,h1.ext he,h0,λk hk=>⟨(h2 k hk).1,(h2 k hk).2.1,(h2 k hk).2.2.ext he⟩⟩
def Num(w:World)(a:Option Addr)(n cap:Nat)(f:Nat->Int):Prop:=∀j,j<n->∃g,a=some ⟨g,0,none⟩/\w.cell? ⟨g,j,none⟩=some (.int .i64 (f j))/\g<w.heap.size/\n<=cap/\cap<=maxLen
theorem Num.ext{w w':World}{a:Option Addr}{n cap:Nat}{f:Nat->Int}(h:Num w a n cap f)(he:Ext w w'):Num w' a n cap f:=λj hj=>by
 obtain⟨g,h1,h2,h3,h4⟩:=h j hj;exact⟨g,h1,by rw[he.cell h3];exact h2,Nat.lt_of_lt_of_le h3 he.size,h4⟩
def ZB(g:Nat)(x:PE)(gp t:Nat)(q:Int)(w:World):Prop:=P4 w g x/\w.cell? ⟨gp,t,none⟩=some (.int .i64 q)/\gp<w.heap.size
theorem ZB.ext{g:Nat}{x:PE}{gp t:Nat}{q:Int}{w w':World}(h:ZB g x gp t q w)(he:Ext w w'):ZB g x gp t q w':=⟨h.1.ext he,by rw[he.cell h.2.2];exact h.2.1,Nat.lt_of_lt_of_le h.2.2 he.size⟩
theorem qmf(L:Int)(b:Bool)(hb:b=true↔1<=L/\L<=4)(w:World):Calls Tryz.prog 31 #[.int .i64 L] w λe w'=>e=.returned (.bool b)/\w'=w:=by
 go_enter Tryz.func31,Tryz.ntmps31
 by_cases h1:1<=L
 ·by_cases h4:L<=4
  ·obtain rfl:b=true:=hb.2 ⟨h1,h4⟩;clear hb;go_wp2;go_ret;exact⟨rfl,rfl⟩
  ·obtain rfl:b=false:=by
    cases b with
    |false=>rfl
    |true=>exact absurd (hb.1 rfl).2 h4
   clear hb;go_wp2;go_ret;exact⟨rfl,rfl⟩
 ·obtain rfl:b=false:=by
   cases b with
   |false=>rfl
   |true=>exact absurd (hb.1 rfl).1 h1
  clear hb;go_wp2;go_ret;exact⟨rfl,rfl⟩
def Za(M:Nat->Prop)(w:World)(v:Value)(S N:Nat)(P:Nat->Nat->List Tm):Prop:=∃(gs cs:Nat->Nat)(a:Option Addr)(cap:Nat),v=.slice a S cap/\S<=cap/\∀k,k<S->∃g,a=some ⟨g,0,none⟩/\g<w.heap.size/\w.cell? ⟨g,k,none⟩=some (.slice (some ⟨gs k,0,none⟩) N (cs k))/\Om M w (gs k) N (cs k) (P k)
theorem Za.ext{M:Nat->Prop}{w w':World}{v:Value}{S N:Nat}{P:Nat->Nat->List Tm}(h:Za M w v S N P)(he:Ext w w'):Za M w' v S N P:=by
 obtain⟨gs,cs,a,cap,rfl,hc,h⟩:=h;refine⟨gs,cs,a,cap,rfl,hc,λk hk=>?_⟩;obtain⟨g,h1,h2,h3,h4⟩:=h k hk;exact⟨g,h1,Nat.lt_of_lt_of_le h2 he.size,by rw[he.cell h2];exact h3,h4.ext he⟩
def Ty(ga gb k:Nat)(u v:Value)(w:World):Prop:=(w.cell? ⟨ga,k,none⟩=some u/\ga<w.heap.size)/\w.cell? ⟨gb,k,none⟩=some v/\gb<w.heap.size
theorem Ty.ext{ga gb k:Nat}{u v:Value}{w w':World}(h:Ty ga gb k u v w)(he:Ext w w'):Ty ga gb k u v w':=⟨⟨by rw[he.cell h.1.2];exact h.1.1,Nat.lt_of_lt_of_le h.1.2 he.size⟩,by rw[he.cell h.2.2];exact h.2.1,Nat.lt_of_lt_of_le h.2.2 he.size⟩
def Zl(ga gb k:Nat)(u v:Value)(g1 g2 o:Nat)(x y:PE)(w:World):Prop:=Ty ga gb k u v w/\(eX w g1 o x/\g1<w.heap.size)/\eX w g2 o y/\g2<w.heap.size
theorem Zl.ext{ga gb k:Nat}{u v:Value}{g1 g2 o:Nat}{x y:PE}{w w':World}(h:Zl ga gb k u v g1 g2 o x y w)(he:Ext w w'):Zl ga gb k u v g1 g2 o x y w':=⟨h.1.ext he,⟨h.2.1.1.ext h.2.1.2 he,Nat.lt_of_lt_of_le h.2.1.2 he.size⟩,h.2.2.1.ext h.2.2.2 he,Nat.lt_of_lt_of_le h.2.2.2 he.size⟩
end Go.Proofs.YtmcfpnmoklnhoaaGreat
