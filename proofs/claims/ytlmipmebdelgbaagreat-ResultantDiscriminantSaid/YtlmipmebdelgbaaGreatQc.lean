/- subresultant.down. subresultant.rows. append of a whole matrix. -/
import Derived.Test.YtlmipmebdelgbaaGreatQb
import Derived.Laws.AppendOwnNone
set_option linter.unusedVariables false
set_option linter.unusedSimpArgs false

namespace Go.Proofs.YtlmipmebdelgbaaGreat
open Go.RowKit



def Num (w:World) (a:Option Addr) (n cap:Nat) (f:Nat->Int):Prop:=∀ j,j<n -> ∃ g,a=some ⟨g,0,none⟩/\w.cell? ⟨g,j,none⟩=some (.int .i64 (f j))/\g<w.heap.size/\n<=cap/\cap<=maxLen
theorem Num.ext {w w':World} {a:Option Addr} {n cap:Nat} {f:Nat->Int} (h:Num w a n cap f) (he:Ext w w'):Num w' a n cap f:=fun j hj=>by
 obtain ⟨g,h1,h2,h3,h4⟩:=h j hj
 exact ⟨g,h1,by rw [he.cell h3];exact h2,Nat.lt_of_lt_of_le h3 he.size,h4⟩
theorem Own.num {w:World} {base:Nat} {a:Option Addr} {n cap:Nat} {f:Nat->Int} (h:Own w base 3 1 (.slice a n cap) n (fun j=>.int .i64 (f j))):Num w a n cap f:=fun j hj=>by
 obtain ⟨g,c,F,h1,_,h2,h3,h4,h5⟩:=h.some (by omega)
 cases h1
 refine ⟨g,rfl,?_,h2.lt,h3,h4⟩
 rw [h2.cell (by omega),h5 j (by omega)]


end Go.Proofs.YtlmipmebdelgbaaGreat
