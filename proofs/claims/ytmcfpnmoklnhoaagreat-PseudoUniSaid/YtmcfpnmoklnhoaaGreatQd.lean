/- subresultant.Sylvester. subresultant.Sylvester and Minor where check answers an error. subresultant.Minor. subresultant.Minor where the indices are refused; mainvar.Coef at any exponent. -/
import Derived.Test.YtmcfpnmoklnhoaaGreatQc
set_option linter.unusedVariables false
set_option linter.unusedSimpArgs false

namespace Go.Proofs.YtmcfpnmoklnhoaaGreat
open Go.RowKit

def qyv (M:Nat->Prop) (w:World) (J n:Nat) (l:List Tm) (e:Ending) (w':World):Prop:=∃ g:Nat,e = .returned (.slice (some ⟨g,0,none⟩) (n+1) (n+1))/\w.heap.size<=g/\qaz M w' 4 g (n+1) (fun i=>ck J (i:Int) l)/\Ext w w'
def syM (J m n:Nat) (f g:List Tm):Nat->Nat->List Tm:=fun k=>if k<n then fun i=>ck J (((m:Int)+n - 1) - (i:Int) - ((n:Int) - 1 - (k:Int))) f else fun i=>ck J (((m:Int)+n - 1) - (i:Int) - ((m:Int) - 1 - ((k - n:Nat):Int))) g
def qye (M:Nat->Prop) (w:World) (J m n:Nat) (f g:List Tm) (e:Ending) (w':World):Prop:=∃ a cap,e = .returned (.tuple #[.slice a (n+m) cap,.int .i64 0])/\(∃ base,w.heap.size<=base/\Mat M w' base (.slice a (n+m) cap) (n+m) (m+n) (syM J m n f g))/\Ext w w'


def qym (w:World) (er:Int) (e:Ending) (w':World):Prop:=e = .returned (.tuple #[.slice none 0 0,.int .i64 er])/\Ext w w'


def pwM (t:Int) (c:Nat) (i:Int):Nat->Int:=fun q=>if q<c then t - (q:Int) else i
def mnM (J m n j c:Nat) (i:Int) (f g:List Tm):Nat->Nat->List Tm:=fun k=>if k<n - j then fun q=>ck J (pwM ((m:Int)+n - j - 1) c i q - ((n:Int) - j - 1 - (k:Int))) f else fun q=>ck J (pwM ((m:Int)+n - j - 1) c i q - ((m:Int) - j - 1 - ((k - (n - j):Nat):Int))) g
def qyp (M:Nat->Prop) (w:World) (J m n j c:Nat) (i:Int) (f g:List Tm) (e:Ending) (w':World):Prop:=∃ a cap,e = .returned (.tuple #[.slice a (n - j+(m - j)) cap,.int .i64 0])/\(∃ base,w.heap.size<=base/\Mat M w' base (.slice a (n - j+(m - j)) cap) (n - j+(m - j)) (c+1) (mnM J m n j c i f g))/\Ext w w'


end Go.Proofs.YtmcfpnmoklnhoaaGreat
