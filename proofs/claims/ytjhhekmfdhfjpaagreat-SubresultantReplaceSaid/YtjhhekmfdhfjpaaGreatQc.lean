/- subresultant.down. subresultant.rows. append of a whole matrix. -/
import Derived.Test.YtjhhekmfdhfjpaaGreatQb
import Derived.Laws.AppendOwnNone
set_option linter.unusedVariables false
set_option linter.unusedSimpArgs false

namespace Go.Proofs.YtjhhekmfdhfjpaaGreat
open Go.RowKit



def qjB (M : Nat -> Prop) (w : World) (g N c : Nat) (P : Nat -> List Tm) : Prop:=(N <= c /\ c <= maxLen) /\ ∃ f,Blk w g 32 (c * 4) f /\ ∀ i,i < N -> CR M w 4 (f (i * 4)) (f (i * 4 + 1)) (f (i * 4 + 2)) (f (i * 4 + 3)) (P i)
theorem qjB.kp {M : Nat -> Prop} {w w' : World} {g N c : Nat} {P : Nat -> List Tm} (h : qjB M w g N c P) (hg : w'.heap[g]? = w.heap[g]?) (hk : Kp M w w') : qjB M w' g N c P:=by
 obtain ⟨h0,f,h1,h2⟩:=h
 exact ⟨h0,f,h1.of_heap hg,fun i hi=>(h2 i hi).kp hk⟩
theorem qjB.ext {M : Nat -> Prop} {w w' : World} {g N c : Nat} {P : Nat -> List Tm} (h : qjB M w g N c P) (he : Ext w w') : qjB M w' g N c P:=by
 obtain ⟨h0,f,h1,h2⟩:=h
 exact ⟨h0,f,h1.ext he,fun i hi=>(h2 i hi).ext he⟩
theorem qjB.more {M M' : Nat -> Prop} {w : World} {g N c : Nat} {P : Nat -> List Tm} (h : qjB M w g N c P) (hm : ∀ g,M' g -> M g ∨ w.heap.size <= g) : qjB M' w g N c P:=by
 obtain ⟨h0,f,h1,h2⟩:=h
 exact ⟨h0,f,h1,fun i hi=>(h2 i hi).more hm⟩
theorem qjB.lt {M : Nat -> Prop} {w : World} {g N c : Nat} {P : Nat -> List Tm} (h : qjB M w g N c P) : g < w.heap.size:=by
 obtain ⟨_,f,h1,_⟩:=h
 exact h1.lt
def rwf (gs cs : Nat -> Nat) (N : Nat) : Nat -> Value:=fun k=>.slice (some ⟨gs k,0,none⟩) N (cs k)
def Mat (M : Nat -> Prop) (w : World) (base : Nat) (v : Value) (S N : Nat) (P : Nat -> Nat -> List Tm) : Prop:=∃ gs cs : Nat -> Nat,Own w base 30 1 v S (rwf gs cs N) /\ (S = 0 -> v = .slice none 0 0) /\ ∀ k,k < S -> base <= gs k /\ v.ownBlock ≠ some (gs k) /\ qjB (MR M v) w (gs k) N (cs k) (P k)
theorem Mat.nil (M : Nat -> Prop) (w : World) (base N : Nat) (P : Nat -> Nat -> List Tm) : Mat M w base (.slice none 0 0) 0 N P:=⟨fun _=>0,fun _=>0,Own.nil _ _ _ _ _,fun _=>rfl,fun k hk=>absurd hk (Nat.not_lt_zero _)⟩
theorem Mat.ext {M : Nat -> Prop} {w w' : World} {base : Nat} {v : Value} {S N : Nat} {P : Nat -> Nat -> List Tm} (h : Mat M w base v S N P) (he : Ext w w') : Mat M w' base v S N P:=by
 obtain ⟨gs,cs,h1,h0,h2⟩:=h
 exact ⟨gs,cs,h1.ext he,h0,fun k hk=>⟨(h2 k hk).1,(h2 k hk).2.1,(h2 k hk).2.2.ext he⟩⟩
def Num (w : World) (a : Option Addr) (n cap : Nat) (f : Nat -> Int) : Prop:=∀ j,j < n -> ∃ g,a = some ⟨g,0,none⟩ /\ w.cell? ⟨g,j,none⟩ = some (.int .i64 (f j)) /\ g < w.heap.size /\ n <= cap /\ cap <= maxLen
theorem Num.ext {w w' : World} {a : Option Addr} {n cap : Nat} {f : Nat -> Int} (h : Num w a n cap f) (he : Ext w w') : Num w' a n cap f:=fun j hj=>by
 obtain ⟨g,h1,h2,h3,h4⟩:=h j hj
 exact ⟨g,h1,by rw [he.cell h3];exact h2,Nat.lt_of_lt_of_le h3 he.size,h4⟩
theorem Own.num {w : World} {base : Nat} {a : Option Addr} {n cap : Nat} {f : Nat -> Int} (h : Own w base 3 1 (.slice a n cap) n (fun j=>.int .i64 (f j))) : Num w a n cap f:=fun j hj=>by
 obtain ⟨g,c,F,h1,_,h2,h3,h4,h5⟩:=h.some (by omega)
 cases h1
 refine ⟨g,rfl,?_,h2.lt,h3,h4⟩
 rw [h2.cell (by omega),h5 j (by omega)]


end Go.Proofs.YtjhhekmfdhfjpaaGreat
