/- Resultants of polynomials of small degrees, plain: the expansion of the determinant, level by level. Resultants of products of small degrees. The resultant of a product is the product of the resultants, plain. Resultants with constants, exchanged, and as the determinant of the Sylvester matrix, plain. Discriminants of products, plain. -/
import Derived.Test.YtmcfpnmoklnhoaaGreatTa
import Derived.Test.YtmcfpnmoklnhoaaGreatTf
import Derived.Test.YtmcfpnmoklnhoaaGreatQc
set_option linter.unusedVariables false
set_option linter.unusedSimpArgs false

namespace Go.Proofs.YtmcfpnmoklnhoaaGreat
open Go.RowKit

def hrn (ξ:Int):List Int->Int
 | []=>0
 | a :: l=>a+ξ*hrn ξ l
def pL (ξ:Int) (l:List Int):Pv:=⟨fun k=>l.getD k 0,hrn ξ l⟩
theorem qtf (ξ:Int) (l:List Int) (i r T:Nat):((pL ξ l).sh ξ i).vec T 0 r=if r<T then (if T - r<i then 0 else l.getD (T - r - i) 0) else ξ ^ i*hrn ξ l:=rfl
end Go.Proofs.YtmcfpnmoklnhoaaGreat

namespace Go.Proofs.YtmcfpnmoklnhoaaGreat

set_option maxRecDepth 10000
def li (m:Nat) (F:Nat->Int):List Int:=(List.range (m+1)).map F
end Go.Proofs.YtmcfpnmoklnhoaaGreat

namespace Go.Proofs.YtmcfpnmoklnhoaaGreat
open Go.RowKit

theorem qmA (ξ a:Int) : ∀ l:List Int,hrn ξ (l ++ [a])=hrn ξ l+ξ ^ l.length*a
 | []=>by simp [hrn]
 | b :: l=>by
  rw [List.cons_append,hrn,hrn,qmA ξ a l,List.length_cons,Int.pow_succ,Int.mul_add,<- Int.add_assoc,Int.mul_comm (ξ ^ l.length) ξ,Int.mul_assoc]
theorem qpC (ξ:Int) (F:Nat->Int) : ∀ n,hrn ξ ((List.range n).map F)=sm (fun i=>F i*ξ ^ i) n
 | 0=>rfl
 | n+1=>by
  rw [List.range_succ,List.map_append,List.map_singleton,qmA,qpC ξ F n,List.length_map,List.length_range,sm,Int.mul_comm (ξ ^ n),Int.add_comm]
theorem qst (m k:Nat) (F:Nat->Int):(li m F).getD k 0=if k<=m then F k else 0:=by
 unfold li
 by_cases h:k<=m
 ·rw [if_pos h,List.getD_eq_getElem?_getD,List.getElem?_map,List.getElem?_range (by omega)];rfl
 ·rw [if_neg h,List.getD_eq_getElem?_getD,List.getElem?_eq_none (by simp;omega)];rfl
section
variable {J:Nat} (h1:1<=J) (h4:J<=4)
include h1 h4
theorem qnL {m:Nat} {f:List Tm} (nf:NN f) (df:DgR J f m):Sim (poly J (m+1) fun i=>ck J (i:Int) f) f:=qf3 h1 h4 nf fun k hk=>by have:=df.1 k hk;omega
theorem qsd (x:Nat->Int) {m:Nat} {f:List Tm} (nf:NN f) (df:DgR J f m):pv J x f=pL (x (J - 1)) (li m fun k=>ev x (ck J (k:Int) f)):=by
 have hc : ∀ k:Nat,ev x (ck J (k:Int) f)=(li m fun k=>ev x (ck J (k:Int) f)).getD k 0:=fun k=>by
  rw [qst]
  split
  ·rfl
  ·exact qbd x (df.ckz h1 h4 (by omega))
 have hv:ev x f=hrn (x (J - 1)) (li m fun k=>ev x (ck J (k:Int) f)):=by
  have h:=qeb h1 h4 x (qdn 1) (m+1) (Q:=fun i=>ck J (i:Int) f) fun i _=>qb2 h1 h4 nf;rw [qbd x (((qnL h1 h4 nf df).pmul_left _).trans (qdL f))] at h;rw [h,li,qpC];refine qc8 _ fun i _=>?_;show _*(_*ev x [(1,Mo.zero)])=_;rw [qdp,Int.mul_one]
 unfold pv pL;rw [hv]
 congr 1
 exact funext hc
end


section
variable {J:Nat} (h1:1<=J) (h4:J<=4)
include h1 h4
theorem qiu {f g:List Tm} (nf:NN f) (ng:NN g) (df:DgR J f 0) (n:Nat):Sim (SJ J 0 0 n f g) (qbm f n):=by
 refine qe8 (qcJ h1 h4 nf ng _ _ _) (qcI nf n) fun x=>?_;rw [qhW h1 h4 x nf ng,qhT x nf n];unfold dS
 cases n with
 | zero=>rw [Int.pow_zero];rfl
 | succ q=>
  have h:=qsf (ξ:=x (J - 1)) (j:=0) (d:=0) (p:=1) (T:=0) (P:=pv J x f) (R:=[]) rfl (Nat.le_refl _) (fun k hk=>qbd x (df.ckz h1 h4 hk)) (fun w hw=>absurd hw List.not_mem_nil) q;rw [show 0+(q+1) - 0 - 1=0+q by omega];show DD (0+q) 0 (bl _ (pv J x f) (q+1) ++ [])=_;rw [h]
  have e:DD 0 0 (bl (x (J - 1)) (pv J x f) 1 ++ [])=ev x f:=by
   show dt [((pv J x f).sh (x (J - 1)) 0).vec 0 0]=_;rw [qpG];show x (J - 1) ^ 0*ev x f=_;rw [Int.pow_zero,Int.one_mul]
  rw [e,show (pv J x f).c 0=ev x f from qbd x (qfy h1 h4 (qoI nf df)),Int.pow_succ]
theorem qjk {f g:List Tm} (nf:NN f) (ng:NN g) (dg:DgR J g 0) (m:Nat):Sim (SJ J 0 m 0 f g) (qbm g m):=
 ((qgi h1 h4 nf ng 0 m 0).1 (by simp)).symm.trans (qiu h1 h4 ng nf dg m)
end


def dvI (F:Nat->Int) (k:Nat):Int:=((k+1:Nat):Int)*F (k+1)
end Go.Proofs.YtmcfpnmoklnhoaaGreat
