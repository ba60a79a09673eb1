/- cylinderref25.Rows. cylinderref25.Sylvester. cylinderref25.Minor. cylinderlaw25: inner, degrees, equal. -/
import Derived.Test.YtmcfpnmoklnhoaaGreatQd
import Derived.Deep.Upon
import Derived.Deep.AppendLies
set_option linter.unusedVariables false
set_option linter.unusedSimpArgs false

namespace Go.Proofs.YtmcfpnmoklnhoaaGreat
open Go.RowKit

def qmW (M:Nat->Prop) (base:Nat) (w:World) (v:Value) (n:Nat) (P:Nat->List Tm):Prop:=∃ xx,Own w base 33 4 v n (px xx) /\ ∀ j,j<n->CRx (MR M v) w 4 (xx j) (P j)
theorem qmW.nil (M:Nat->Prop) (base:Nat) (w:World) (P:Nat->List Tm):qmW M base w (.slice none 0 0) 0 P:=⟨fun _=>PE.z,Own.nil _ _ _ _ _,fun j hj=>absurd hj (Nat.not_lt_zero _)⟩
theorem qmW.push {M : Nat -> Prop} {base : Nat} {w w' : World} {va : Option Addr} {vc n : Nat} {P : Nat -> List Tm} {xx : Nat -> PE} {y : PE} {g cap : Nat} (hx : ∀ j, j < n -> CRx (MR M (.slice va n vc)) w 4 (xx j) (P j)) (hy : CRx (MR M (.slice va n vc)) w 4 y (P n))
  (hO:Own w' base 33 4 (.slice (some ⟨g,0,none⟩) (n+1) cap) (n+1) (app (px xx) (n*4) (arr (peA y)))) (hg:w.grownBy w' (Value.slice va n vc).ownBlock) (hat:(Value.slice va n vc).ownBlock=some g∨w.heap.size<=g) :
  qmW M base w' (.slice (some ⟨g,0,none⟩) (n+1) cap) (n+1) P:=by
 refine ⟨qcp xx n y,hO.congr fun j hj=>qfD xx n y j hj,fun j hj=>?_⟩
 by_cases hjn:j=n
 ·subst hjn;rw [qaL];exact qcf hy hg hat
 ·rw [qaQ _ _ _ _ (by omega)];exact qcf (hx j (by omega)) hg hat
theorem Mat.low {M:Nat->Prop} {w:World} {base base':Nat} {v:Value} {S N:Nat} {P:Nat->Nat->List Tm} (h:Mat M w base v S N P) (hb:base'<=base):Mat M w base' v S N P:=by
 obtain ⟨gs,cs,hO,h0,h2⟩:=h;refine ⟨gs,cs,?_,h0,fun k hk=>⟨Nat.le_trans hb (h2 k hk).1,(h2 k hk).2⟩⟩;rcases hO with h | ⟨g,cap,F,h3,h4,h5⟩
 ·exact .inl h
 ·exact .inr ⟨g,cap,F,h3,Nat.le_trans hb h4,h5⟩
def qw6 (g:Nat) (x:PE) (gp t:Nat) (q:Int) (w:World):Prop:=P4 w g x/\w.cell? ⟨gp,t,none⟩=some (.int .i64 q)/\gp<w.heap.size
theorem qw6.ext {g:Nat} {x:PE} {gp t:Nat} {q:Int} {w w':World} (h:qw6 g x gp t q w) (he:Ext w w'):qw6 g x gp t q w':=⟨h.1.ext he,by rw [he.cell h.2.2];exact h.2.1,Nat.lt_of_lt_of_le h.2.2 he.size⟩


def qyn (M:Nat->Prop) (w:World) (S N:Nat) (P:Nat->Nat->List Tm) (e:Ending) (w':World):Prop:=∃ a cap base,e = .returned (.slice a S cap)/\w.heap.size<=base/\Mat M w' base (.slice a S cap) S N P/\Ext w w'




def qxh (M:Nat->Prop) (w:World) (v:Value) (S N:Nat) (P:Nat->Nat->List Tm):Prop:=∃ (gs cs:Nat->Nat) (a:Option Addr) (cap:Nat),v = .slice a S cap/\S<=cap /\ ∀ k,k<S -> ∃ g,a=some ⟨g,0,none⟩/\g<w.heap.size/\w.cell? ⟨g,k,none⟩=some (.slice (some ⟨gs k,0,none⟩) N (cs k))/\qft M w (gs k) N (cs k) (P k)
theorem qxh.ext {M:Nat->Prop} {w w':World} {v:Value} {S N:Nat} {P:Nat->Nat->List Tm} (h:qxh M w v S N P) (he:Ext w w'):qxh M w' v S N P:=by
 obtain ⟨gs,cs,a,cap,rfl,hc,h⟩:=h;refine ⟨gs,cs,a,cap,rfl,hc,fun k hk=>?_⟩;obtain ⟨g,h1,h2,h3,h4⟩:=h k hk;exact ⟨g,h1,Nat.lt_of_lt_of_le h2 he.size,by rw [he.cell h2];exact h3,h4.ext he⟩
theorem qft.cel {M:Nat->Prop} {w:World} {g N c:Nat} {P:Nat->List Tm} (h:qft M w g N c P) (i:Nat) (hi:i<N) : ∃ y:PE,qaI w g (i*4) y/\CRx M w 4 y (P i):=by
 obtain ⟨⟨h0,_⟩,f,h1,h2⟩:=h;obtain ⟨y,q0,q1,q2,q3,hy,_⟩:=(h2 i hi).pe;exact ⟨y,⟨by rw [h1.cell (by omega),q0],by rw [h1.cell (by omega),q1],by rw [h1.cell (by omega),q2],by rw [h1.cell (by omega),q3]⟩,hy⟩
def SE2 (ga gb k:Nat) (u v:Value) (w:World):Prop:=(w.cell? ⟨ga,k,none⟩=some u/\ga<w.heap.size)/\w.cell? ⟨gb,k,none⟩=some v/\gb<w.heap.size
theorem SE2.ext {ga gb k:Nat} {u v:Value} {w w':World} (h:SE2 ga gb k u v w) (he:Ext w w'):SE2 ga gb k u v w':=⟨⟨by rw [he.cell h.1.2];exact h.1.1,Nat.lt_of_lt_of_le h.1.2 he.size⟩,by rw [he.cell h.2.2];exact h.2.1,Nat.lt_of_lt_of_le h.2.2 he.size⟩
def SE4 (ga gb k:Nat) (u v:Value) (g1 g2 o:Nat) (x y:PE) (w:World):Prop:=SE2 ga gb k u v w/\(qaI w g1 o x/\g1<w.heap.size)/\qaI w g2 o y/\g2<w.heap.size
theorem SE4.ext {ga gb k:Nat} {u v:Value} {g1 g2 o:Nat} {x y:PE} {w w':World} (h:SE4 ga gb k u v g1 g2 o x y w) (he:Ext w w'):SE4 ga gb k u v g1 g2 o x y w':=⟨h.1.ext he,⟨h.2.1.1.ext h.2.1.2 he,Nat.lt_of_lt_of_le h.2.1.2 he.size⟩,h.2.2.1.ext h.2.2.2 he,Nat.lt_of_lt_of_le h.2.2.2 he.size⟩
end Go.Proofs.YtmcfpnmoklnhoaaGreat
