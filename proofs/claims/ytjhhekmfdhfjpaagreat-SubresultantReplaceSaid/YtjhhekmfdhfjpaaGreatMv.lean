/- unipoly: rows of integers as polynomials; trim, Degree. Plain facts: polynomials in one variable among the polynomials in four. unipoly: transform (with integer.Normal), Normal, Compare, Same. recpoly: FromUni. -/
import Derived.Test.YtjhhekmfdhfjpaaGreatMu
set_option linter.unusedVariables false
set_option linter.unusedSimpArgs false

namespace Go.Proofs.YtjhhekmfdhfjpaaGreat
open Go.RowKit

structure IE where
 b : Bool
 a : Option Addr
 n : Nat
 p : Nat
instance : Inhabited IE:=⟨⟨false,none,0,0⟩⟩
def qhC (M : Nat -> Prop) (w : World) (a : Option Addr) (n cap : Nat) (X : Nat -> IE) (z : Nat -> Int) : Prop:=
 n <= 1099511627776 /\ n <= cap /\ cap <= maxLen /\ (a = none -> cap = 0) /\ ∀ i,i < n -> ∃ b off,a = some ⟨b,off,none⟩ /\ b < w.heap.size /\ ¬ M b /\ w.cell? ⟨b,off + i * 2,none⟩ = some (.bool (X i).b) /\ w.cell? ⟨b,off + i * 2 + 1,none⟩ = some (.slice (X i).a (X i).n (X i).p) /\ qbl M w (.bool (X i).b) (.slice (X i).a (X i).n (X i).p) (z i)
section
variable {M M' : Nat -> Prop} {w w' : World} {a : Option Addr} {n cap : Nat} {X : Nat -> IE} {z : Nat -> Int}
theorem qhC.kp (h : qhC M w a n cap X z) (he : Kp M w w') : qhC M w' a n cap X z:=by
 obtain ⟨h1,h2,h3,h4,h5⟩:=h
 refine ⟨h1,h2,h3,h4,fun i hi=>?_⟩
 obtain ⟨b,off,e,hb,hm,c0,c1,hv⟩:=h5 i hi
 exact ⟨b,off,e,Nat.lt_of_lt_of_le hb he.1,hm,by rw [he.cell hb hm];exact c0,by rw [he.cell hb hm];exact c1,hv.kp he⟩
theorem qhC.ext (h : qhC M w a n cap X z) (he : Ext w w') : qhC M w' a n cap X z:=h.kp (Kp.of_ext he)
theorem qhC.more (h : qhC M w a n cap X z) (hm : ∀ g,M' g -> M g ∨ w.heap.size <= g) : qhC M' w a n cap X z:=by
 obtain ⟨h1,h2,h3,h4,h5⟩:=h
 refine ⟨h1,h2,h3,h4,fun i hi=>?_⟩
 obtain ⟨b,off,e,hb,hn,c0,c1,hv⟩:=h5 i hi
 exact ⟨b,off,e,hb,fun hg=>(hm b hg).elim hn (fun h=>by omega),c0,c1,hv.more hm⟩
end


def dgM (L : Nat) (l : List Mo) : Int:=l.foldl (fun h m=>max h (m.get L)) 0
theorem qlE {α : Type} (f : α -> Int) : ∀ (l : List α) (k : Int),k <= l.foldl (fun h m=>max h (f m)) k /\ (∀ m ∈ l,f m <= l.foldl (fun h m=>max h (f m)) k) /\ (l.foldl (fun h m=>max h (f m)) k = k ∨ ∃ m ∈ l,l.foldl (fun h m=>max h (f m)) k = f m)
 | [],k=>⟨Int.le_refl _,fun m hm=>absurd hm (List.not_mem_nil),.inl rfl⟩
 | x :: l,k=>by
  obtain ⟨h1,h2,h3⟩:=qlE f l (max k (f x))
  have e : (x :: l).foldl (fun h m=>max h (f m)) k = l.foldl (fun h m=>max h (f m)) (max k (f x)):=rfl
  rw [e]
  refine ⟨by omega,fun m hm=>?_,?_⟩
  ·rcases List.mem_cons.1 hm with rfl | hm
   ·omega
   ·exact h2 m hm
  ·rcases h3 with h3 | ⟨m,hm,h3⟩
   ·rw [h3]
    by_cases hk : f x <= k
    ·exact .inl (by omega)
    ·exact .inr ⟨x,List.mem_cons_self ..,by omega⟩
   ·exact .inr ⟨m,List.mem_cons_of_mem _ hm,h3⟩
def dgP (lv : Int) (l : List Tm) : Int:=if l = [] then -1 else if qaE lv then dgM lv.toNat (l.map (·.2)) else 0
theorem qdu {l : List Tm} (h : qa6 l) {t : Tm} (ht : t ∈ l) : qab l t.2 ≠ 0:=by rw [qdY h ht];exact (h.2 t ht).1


def set2 (w : World) (g o : Nat) (e0 e1 : Value) : World:=(w.setCell ⟨g,o,none⟩ e0).setCell ⟨g,o + 1,none⟩ e1
def UK (M : Nat -> Prop) (w : World) (g N k : Nat) (z : Nat -> Int) : Prop:=
 ∃ X : Nat -> IE,∃ f,Blk w g 29 (N * 2) f /\ ∀ i,i < k -> f (i * 2) = .bool (X i).b /\ f (i * 2 + 1) = .slice (X i).a (X i).n (X i).p /\ qbl M w (.bool (X i).b) (.slice (X i).a (X i).n (X i).p) (z i)
section
variable {M M' : Nat -> Prop} {w w' : World} {g N k : Nat} {z : Nat -> Int}
theorem UK.ext (h : UK M w g N k z) (he : Ext w w') : UK M w' g N k z:=by
 obtain ⟨X,f,hB,hf⟩:=h
 exact ⟨X,f,hB.ext he,fun i hi=>⟨(hf i hi).1,(hf i hi).2.1,(hf i hi).2.2.ext he⟩⟩
theorem UK.at (h : UK M w g N k z) {j : Nat} (hj : j < N) : (∃ e,w.cell? ⟨g,j * 2,none⟩ = some e) /\ (∃ e,w.cell? ⟨g,j * 2 + 1,none⟩ = some e) /\ (∀ o,w.frozen? ⟨g,o,none⟩ = false) /\ g < w.heap.size:=by
 obtain ⟨X,f,hB,hf⟩:=h
 exact ⟨⟨_,hB.cell (by omega)⟩,⟨_,hB.cell (by omega)⟩,hB.frozen,hB.lt⟩
theorem UK.set (h : UK M w g N k z) (hg : M g) {b : Bool} {a : Option Addr} {n p : Nat} (hc : qbl M w (.bool b) (.slice a n p) (z k)) : UK M (set2 w g (k * 2) (.bool b) (.slice a n p)) g N (k + 1) z:=by
 obtain ⟨X,f,hB,hf⟩:=h
 have hk : Kp M w (set2 w g (k * 2) (.bool b) (.slice a n p)):=(Kp.set M w (p:=⟨g,k * 2,none⟩) hg _).trans (Kp.set M _ (p:=⟨g,k * 2 + 1,none⟩) hg _)
 refine ⟨fun i=>if i = k then ⟨b,a,n,p⟩ else X i,_,(hB.set (k * 2) (.bool b)).set (k * 2 + 1) (.slice a n p),fun i hi=>?_⟩
 unfold upd
 by_cases hik : i = k
 ·subst hik;simp only [if_true]
  exact ⟨by rw [if_neg (by omega)],trivial,hc.kp hk⟩
 ·simp only [if_neg hik]
  rw [if_neg (by omega),if_neg (by omega),if_neg (by omega),if_neg (by omega)]
  obtain ⟨h1,h2,h3⟩:=hf i (by omega)
  exact ⟨h1,h2,h3.kp hk⟩
theorem UK.row (h : UK M w g N N z) (hm : ∀ g,M' g -> M g ∨ w.heap.size <= g) (hg : ¬ M' g) (hN : N <= 1099511627776) : ∃ X,qhC M' w (some ⟨g,0,none⟩) N N X z:=by
 obtain ⟨X,f,hB,hf⟩:=h
 refine ⟨X,hN,Nat.le_refl _,by unfold maxLen;omega,fun e=>(by cases e),fun i hi=>?_⟩
 obtain ⟨h1,h2,h3⟩:=hf i hi
 exact ⟨g,0,rfl,hB.lt,hg,by rw [Nat.zero_add,hB.cell (by omega),h1],by rw [Nat.zero_add,hB.cell (by omega),h2],h3.more hm⟩
theorem UK.fresh {f : Nat -> Value} (hB : Blk w g 29 (N * 2) f) : UK M w g N 0 z:=⟨fun _=>⟨false,none,0,0⟩,f,hB,fun i hi=>absurd hi (Nat.not_lt_zero _)⟩
end
theorem Ext.set2 {a w : World} (h : Ext a w) {g : Nat} (hg : a.heap.size <= g) (o : Nat) (e0 e1 : Value) : Ext a (Go.Proofs.YtjhhekmfdhfjpaaGreat.set2 w g o e0 e1):=(h.set (p:=⟨g,o,none⟩) hg e0).set (p:=⟨g,o + 1,none⟩) hg e1


end Go.Proofs.YtjhhekmfdhfjpaaGreat
