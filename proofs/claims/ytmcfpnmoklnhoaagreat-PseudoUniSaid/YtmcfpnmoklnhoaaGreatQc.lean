/- subresultant.down. subresultant.rows. append of a whole matrix. -/
import Derived.Test.YtmcfpnmoklnhoaaGreatQb
import Derived.Laws.AppendOwnNone
set_option linter.unusedVariables false
set_option linter.unusedSimpArgs false

namespace Go.Proofs.YtmcfpnmoklnhoaaGreat
open Go.RowKit

def dnf (z:Int):Nat->Value:=fun j=>.int .i64 (z - (j:Int))
def qyu (w:World) (z:Int) (n:Nat) (e:Ending) (w':World):Prop:=∃ a cap,e = .returned (.slice a n cap)/\Own w' w.heap.size 3 1 (.slice a n cap) n (dnf z)/\Ext w w'


def qft (M:Nat->Prop) (w:World) (g N c:Nat) (P:Nat->List Tm):Prop:=(N<=c/\c<=maxLen) /\ ∃ f,Blk w g 33 (c*4) f /\ ∀ i,i<N->CR M w 4 (f (i*4)) (f (i*4+1)) (f (i*4+2)) (f (i*4+3)) (P i)
theorem qft.of {M:Nat->Prop} {w:World} {g N:Nat} {P:Nat->List Tm} (h:qaz M w 4 g N P) (hN:N<=1000):qft M w g N N P:=⟨⟨Nat.le_refl _,by unfold maxLen;omega⟩,h⟩
theorem qft.kp {M:Nat->Prop} {w w':World} {g N c:Nat} {P:Nat->List Tm} (h:qft M w g N c P) (hg:w'.heap[g]? = w.heap[g]?) (hk:Kp M w w'):qft M w' g N c P:=by
 obtain ⟨h0,f,h1,h2⟩:=h;exact ⟨h0,f,h1.of_heap hg,fun i hi=>(h2 i hi).kp hk⟩
theorem qft.ext {M:Nat->Prop} {w w':World} {g N c:Nat} {P:Nat->List Tm} (h:qft M w g N c P) (he:Ext w w'):qft M w' g N c P:=by
 obtain ⟨h0,f,h1,h2⟩:=h;exact ⟨h0,f,h1.ext he,fun i hi=>(h2 i hi).ext he⟩
theorem qft.more {M M':Nat->Prop} {w:World} {g N c:Nat} {P:Nat->List Tm} (h:qft M w g N c P) (hm : ∀ g,M' g->M g∨w.heap.size<=g):qft M' w g N c P:=by
 obtain ⟨h0,f,h1,h2⟩:=h;exact ⟨h0,f,h1,fun i hi=>(h2 i hi).more hm⟩
theorem qft.congr {M:Nat->Prop} {w:World} {g N c:Nat} {P Q:Nat->List Tm} (h:qft M w g N c P) (hs : ∀ i,i<N->Sim (P i) (Q i)):qft M w g N c Q:=by
 obtain ⟨h0,f,h1,h2⟩:=h;exact ⟨h0,f,h1,fun i hi=>(h2 i hi).sim (hs i hi)⟩
theorem qft.lt {M:Nat->Prop} {w:World} {g N c:Nat} {P:Nat->List Tm} (h:qft M w g N c P):g<w.heap.size:=by
 obtain ⟨_,f,h1,_⟩:=h;exact h1.lt
def rwf (gs cs:Nat->Nat) (N:Nat):Nat->Value:=fun k=>.slice (some ⟨gs k,0,none⟩) N (cs k)
theorem qsJ (gs cs:Nat->Nat) (N c g d j:Nat) (hj:j<(c+1)*1):app (rwf gs cs N) c (arr #[.slice (some ⟨g,0,none⟩) N d]) j=rwf (qcp gs c g) (qcp cs c d) N j:=by
 unfold app
 by_cases h:j<c
 ·rw [if_pos h];unfold rwf;rw [qaQ _ _ _ _ h,qaQ _ _ _ _ h]
 ·rw [if_neg h]
  obtain rfl:j=c:=by omega
  rw [Nat.sub_self];unfold rwf;rw [qaL,qaL];rfl
def Mat (M:Nat->Prop) (w:World) (base:Nat) (v:Value) (S N:Nat) (P:Nat->Nat->List Tm):Prop:=∃ gs cs:Nat->Nat,Own w base 31 1 v S (rwf gs cs N)/\(S=0->v = .slice none 0 0) /\ ∀ k,k<S->base<=gs k/\v.ownBlock≠some (gs k)/\qft (MR M v) w (gs k) N (cs k) (P k)
theorem Mat.nil (M:Nat->Prop) (w:World) (base N:Nat) (P:Nat->Nat->List Tm):Mat M w base (.slice none 0 0) 0 N P:=⟨fun _=>0,fun _=>0,Own.nil _ _ _ _ _,fun _=>rfl,fun k hk=>absurd hk (Nat.not_lt_zero _)⟩
theorem Mat.ext {M:Nat->Prop} {w w':World} {base:Nat} {v:Value} {S N:Nat} {P:Nat->Nat->List Tm} (h:Mat M w base v S N P) (he:Ext w w'):Mat M w' base v S N P:=by
 obtain ⟨gs,cs,h1,h0,h2⟩:=h;exact ⟨gs,cs,h1.ext he,h0,fun k hk=>⟨(h2 k hk).1,(h2 k hk).2.1,(h2 k hk).2.2.ext he⟩⟩
theorem qft.grown {M:Nat->Prop} {wa wb:World} {v:Value} {gg g n cap N c:Nat} {P:Nat->List Tm} (hP:qft (MR M v) wa g N c P) (hv:v.ownBlock≠some g) (hg:wa.grownBy wb v.ownBlock) (hat:v.ownBlock=some gg∨wa.heap.size<=gg):qft (MR M (.slice (some ⟨gg,0,none⟩) n cap)) wb g N c P:=by
 have h1:=hP.more (M':=fun b=>MR M v b∨b=gg) (fun b hb=>hb.elim .inl fun e=>by
  rcases hat with h | h
  ·exact .inl (.inr (by rw [h,e]))
  ·exact .inr (by omega))
 have hkp:Kp (fun b=>MR M v b∨b=gg) wa wb:=Kp.grown hg fun k hk=>.inl (.inr hk);have hheap:wb.heap[g]? = wa.heap[g]?:=(Kp.grown (M:=fun b=>v.ownBlock=some b) hg fun k hk=>hk).2 g hP.lt (fun h=>hv h);have h2:=h1.kp hheap hkp;exact h2.more fun b hb=>.inl (hb.elim (fun h=>.inl (.inl h)) fun h=>.inr (by simp only [Value.ownBlock,Option.some.injEq] at h;exact h.symm))
def qyG (M:Nat->Prop) (w:World) (base:Nat) (v:Value) (S N:Nat) (P:Nat->Nat->List Tm) (gs cs:Nat->Nat):Prop:=∀ k,k<S->base<=gs k/\v.ownBlock≠some (gs k)/\qft (MR M v) w (gs k) N (cs k) (P k)
theorem Mat.push {M:Nat->Prop} {wa wb:World} {base:Nat} {v:Value} {S N gg g d cap:Nat} {P:Nat->Nat->List Tm} {gs cs:Nat->Nat} (h:qyG M wa base v S N P gs cs) (hO:Own wb base 31 1 (.slice (some ⟨gg,0,none⟩) (S+1) cap) (S+1) (app (rwf gs cs N) S (arr #[.slice (some ⟨g,0,none⟩) N d]))) (hK:qft (MR M v) wa g N d (P S)) (hv:v.ownBlock≠some g) (hb:base<=g) (hg:wa.grownBy wb v.ownBlock) (hat:v.ownBlock=some gg∨wa.heap.size<=gg):Mat M wb base (.slice (some ⟨gg,0,none⟩) (S+1) cap) (S+1) N P:=by
 refine ⟨qcp gs S g,qcp cs S d,hO.congr fun j hj=>qsJ _ _ _ _ _ _ _ hj,fun h=>absurd h (Nat.succ_ne_zero _),fun k hk=>?_⟩
 have hne : ∀ q,q<wa.heap.size->v.ownBlock≠some q->(Value.slice (some ⟨gg,0,none⟩) (S+1) cap).ownBlock≠some q:=fun q hq h1 h2=>by
  simp only [Value.ownBlock,Option.some.injEq] at h2;rcases hat with h3 | h3
  ·exact h1 (by rw [h3,h2])
  ·omega
 by_cases hkS:k=S
 ·subst hkS;rw [qaL,qaL];exact ⟨hb,hne _ hK.lt hv,hK.grown hv hg hat⟩
 ·rw [qaQ _ _ _ _ (by omega),qaQ _ _ _ _ (by omega)];have h3:=h k (by omega);exact ⟨h3.1,hne _ h3.2.2.lt h3.2.1,h3.2.2.grown h3.2.1 hg hat⟩
def qyh (M:Nat->Prop) (w:World) (S N:Nat) (P:Nat->Nat->List Tm) (e:Ending) (w':World):Prop:=∃ a cap,e = .returned (.slice a S cap)/\Mat M w' w.heap.size (.slice a S cap) S N P/\Ext w w'
def Num (w:World) (a:Option Addr) (n cap:Nat) (f:Nat->Int):Prop:=∀ j,j<n -> ∃ g,a=some ⟨g,0,none⟩/\w.cell? ⟨g,j,none⟩=some (.int .i64 (f j))/\g<w.heap.size/\n<=cap/\cap<=maxLen
theorem Num.ext {w w':World} {a:Option Addr} {n cap:Nat} {f:Nat->Int} (h:Num w a n cap f) (he:Ext w w'):Num w' a n cap f:=fun j hj=>by
 obtain ⟨g,h1,h2,h3,h4⟩:=h j hj;exact ⟨g,h1,by rw [he.cell h3];exact h2,Nat.lt_of_lt_of_le h3 he.size,h4⟩
theorem Own.num {w:World} {base:Nat} {a:Option Addr} {n cap:Nat} {f:Nat->Int} (h:Own w base 3 1 (.slice a n cap) n (fun j=>.int .i64 (f j))):Num w a n cap f:=fun j hj=>by
 obtain ⟨g,c,F,h1,_,h2,h3,h4,h5⟩:=h.some (by omega);cases h1;refine ⟨g,rfl,?_,h2.lt,h3,h4⟩;rw [h2.cell (by omega),h5 j (by omega)]


end Go.Proofs.YtmcfpnmoklnhoaaGreat
