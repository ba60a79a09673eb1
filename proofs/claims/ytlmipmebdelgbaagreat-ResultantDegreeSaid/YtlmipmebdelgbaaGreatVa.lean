/- Resultants of polynomials of small degrees, plain: the expansion of the determinant, level by level. Resultants of products of small degrees. The resultant of a product is the product of the resultants, plain. Resultants with constants, exchanged, and as the determinant of the Sylvester matrix, plain. Discriminants of products, plain. -/
import Derived.Test.YtlmipmebdelgbaaGreatTa
import Derived.Test.YtlmipmebdelgbaaGreatTf
import Derived.Test.YtlmipmebdelgbaaGreatQe
set_option linter.unusedVariables false
set_option maxRecDepth 100000
set_option maxHeartbeats 400000000
set_option linter.unusedSimpArgs false

namespace Go.Proofs.YtlmipmebdelgbaaGreat
open Go.RowKit

def drC:Nat->List (Nat->Int)->List (Nat->Int)
 | _,[]=>[]
 | 0,_ :: L=>L
 | n+1,l :: L=>l :: drC n L
theorem qkj : ∀ (L:List (Nat->Int)) (c k:Nat),(drC c L).getD k (fun _=>0)=L.getD (if k<c then k else k+1) (fun _=>0)
 | [],c,k=>by simp [drC]
 | l :: L,0,k=>by simp [drC]
 | l :: L,c+1,0=>by simp [drC]
 | l :: L,c+1,k+1=>by
  have:=qkj L c k;simp only [drC,List.getD_cons_succ,this]
  by_cases h:k<c <;> simp [h]
def dtN (n:Nat) (L:List (Nat->Int)):Int:=qe0 n (qlr L)
def hdC (L:List (Nat->Int)) (c:Nat):Int:=qlr L 0 c
def sD (n:Nat) (L:List (Nat->Int)):Nat->Int
 | 0=>0
 | c+1=>sD n L c+sg1 c*(hdC L c*dtN n ((drC c L).map tlI))
theorem qss (L:List (Nat->Int)) (c:Nat):mnI (qlr L) c=qlr ((drC c L).map tlI):=by
 funext r k
 show L.getD (if k<c then k else k+1) (fun _=>0) (r+1)=((drC c L).map tlI).getD k (fun _=>0) r;rw [qi9,qkj]
theorem qjk (n:Nat) (L:List (Nat->Int)):dtN (n+1) L=sD n L (n+1):=by
 have : ∀ c,qbY (qe0 n) (qlr L) c=sD n L c:=fun c=>by
  induction c with
  | zero=>rfl
  | succ c ih=>rw [qbY,sD,ih,qss];rfl
 exact this _
theorem qnm (L:List (Nat->Int)):dtN 0 L=1:=rfl
theorem qnl (L:List (Nat->Int)):dtN 1 L=sD 0 L 1:=qjk 0 L
theorem qnk (L:List (Nat->Int)):dtN 2 L=sD 1 L 2:=qjk 1 L
theorem qnj (L:List (Nat->Int)):dtN 3 L=sD 2 L 3:=qjk 2 L
theorem qoT (L:List (Nat->Int)):dtN 4 L=sD 3 L 4:=qjk 3 L
theorem qsR (L:List (Nat->Int)):dtN 5 L=sD 4 L 5:=qjk 4 L
theorem qsQ (L:List (Nat->Int)):dtN 6 L=sD 5 L 6:=qjk 5 L
theorem qsP (L:List (Nat->Int)):dtN 7 L=sD 6 L 7:=qjk 6 L
theorem qck (u:Nat->Int) (L:List (Nat->Int)):hdC (u :: L) 0=u 0:=rfl
theorem qcj (u:Nat->Int) (L:List (Nat->Int)) (c:Nat):hdC (u :: L) (c+1)=hdC L c:=rfl
def hrn (ξ:Int):List Int->Int
 | []=>0
 | a :: l=>a+ξ*hrn ξ l
def pL (ξ:Int) (l:List Int):Pv:=⟨fun k=>l.getD k 0,hrn ξ l⟩
theorem qf1 (p:Pv):tlI (p.vec 1 0)=p.vec 0 0:=qeH (T:=0) (j:=0) (by decide) p
theorem qf0 (p:Pv):tlI (p.vec 2 0)=p.vec 1 0:=qeH (T:=1) (j:=0) (by decide) p
theorem qfZ (p:Pv):tlI (p.vec 3 0)=p.vec 2 0:=qeH (T:=2) (j:=0) (by decide) p
theorem qfY (p:Pv):tlI (p.vec 4 0)=p.vec 3 0:=qeH (T:=3) (j:=0) (by decide) p
theorem qf5 (p:Pv):tlI (p.vec 5 0)=p.vec 4 0:=qeH (T:=4) (j:=0) (by decide) p
theorem qf4 (p:Pv):tlI (p.vec 6 0)=p.vec 5 0:=qeH (T:=5) (j:=0) (by decide) p
theorem qf3 (p:Pv):tlI (p.vec 7 0)=p.vec 6 0:=qeH (T:=6) (j:=0) (by decide) p
theorem qca (ξ:Int) (l:List Int) (i r T:Nat):((pL ξ l).sh ξ i).vec T 0 r=if r<T then (if T - r<i then 0 else l.getD (T - r - i) 0) else ξ ^ i*hrn ξ l:=rfl
end Go.Proofs.YtlmipmebdelgbaaGreat

namespace Go.Proofs.YtlmipmebdelgbaaGreat

theorem qgc:sg1 0=1:=rfl
theorem qgb:sg1 1 = -1:=rfl
theorem qga:sg1 2=1:=rfl
theorem qf9:sg1 3 = -1:=rfl
theorem qf8:sg1 4=1:=rfl
theorem qf7:sg1 5 = -1:=rfl
theorem qf6:sg1 6=1:=rfl
set_option maxRecDepth 10000
theorem qsO (L:List (Nat->Int)):dt L=dtN L.length L:=rfl
def li (m:Nat) (F:Nat->Int):List Int:=(List.range (m+1)).map F
def cv (m p:Nat) (F H:Nat->Int) (k:Nat):Int:=sm (fun i=>F i*(if k<i then 0 else if p<k - i then 0 else H (k - i))) (m+1)
end Go.Proofs.YtlmipmebdelgbaaGreat

namespace Go.Proofs.YtlmipmebdelgbaaGreat
open Go.RowKit

theorem qmZ (ξ a:Int) : ∀ l:List Int,hrn ξ (l ++ [a])=hrn ξ l+ξ ^ l.length*a
 | []=>by simp [hrn]
 | b :: l=>by
  rw [List.cons_append,hrn,hrn,qmZ ξ a l,List.length_cons,Int.pow_succ,Int.mul_add,<- Int.add_assoc,Int.mul_comm (ξ ^ l.length) ξ,Int.mul_assoc]
theorem qpI (ξ:Int) (F:Nat->Int) : ∀ n,hrn ξ ((List.range n).map F)=sm (fun i=>F i*ξ ^ i) n
 | 0=>rfl
 | n+1=>by
  rw [List.range_succ,List.map_append,List.map_singleton,qmZ,qpI ξ F n,List.length_map,List.length_range,sm,Int.mul_comm (ξ ^ n),Int.add_comm]
theorem qsu (m k:Nat) (F:Nat->Int):(li m F).getD k 0=if k<=m then F k else 0:=by
 unfold li
 by_cases h:k<=m
 ·rw [if_pos h,List.getD_eq_getElem?_getD,List.getElem?_map,List.getElem?_range (by omega)];rfl
 ·rw [if_neg h,List.getD_eq_getElem?_getD,List.getElem?_eq_none (by simp;omega)];rfl
section
variable {J:Nat} (h1:1<=J) (h4:J<=4)
include h1 h4
theorem qjC {m:Nat} {f:List Tm} (nf:NN f) (df:DgR J f m):Sim (poly J (m+1) fun i=>ck J (i:Int) f) f:=qgH h1 h4 nf fun k hk=>by have:=df.1 k hk;omega
theorem qk4 (x:Nat->Int) {m:Nat} {f:List Tm} (nf:NN f) (df:DgR J f m):pv J x f=pL (x (J - 1)) (li m fun k=>ev x (ck J (k:Int) f)):=by
 have hc : ∀ k:Nat,ev x (ck J (k:Int) f)=(li m fun k=>ev x (ck J (k:Int) f)).getD k 0:=fun k=>by
  rw [qsu]
  split
  ·rfl
  ·exact qaK x (df.ckz h1 h4 (by omega))
 have hv:ev x f=hrn (x (J - 1)) (li m fun k=>ev x (ck J (k:Int) f)):=by
  have h:=qet h1 h4 x (qbI 1) (m+1) (Q:=fun i=>ck J (i:Int) f) fun i _=>qa1 h1 h4 nf;rw [qaK x (((qjC h1 h4 nf df).pmul_left _).trans (qd6 f))] at h;rw [h,li,qpI];refine qcR _ fun i _=>?_;show _*(_*ev x [(1,Mo.zero)])=_;rw [qfM,Int.mul_one]
 unfold pv pL;rw [hv]
 congr 1
 exact funext hc
theorem qml (x:Nat->Int) {m p:Nat} {f h:List Tm} (nf:NN f) (nh:NN h) (df:DgR J f m) (dh:DgR J h p) (k:Nat):ev x (ck J (k:Int) (pmul f h))=cv m p (fun k=>ev x (ck J (k:Int) f)) (fun k=>ev x (ck J (k:Int) h)) k:=by
 rw [qaK x (qaO (((qjC h1 h4 nf df).symm).pmul_left h)),qfL h1 h4 x nh k (m+1) fun i _=>⟨qa1 h1 h4 nf,qcf h1 h4 _ _⟩];refine qcR _ fun i _=>?_;show _*(if k<i then 0 else ev x (ck J ((k - i:Nat):Int) h))=_
 split
 ·rfl
 ·split
  ·rw [qaK x (dh.ckz h1 h4 (by assumption))];rfl
  ·rfl
end


section
variable {J:Nat} (h1:1<=J) (h4:J<=4)
include h1 h4
theorem qiU {f g:List Tm} (nf:NN f) (ng:NN g) (df:DgR J f 0) (n:Nat):Sim (SJ J 0 0 n f g) (qaQ f n):=by
 refine qc5 (qaX h1 h4 nf ng _ _ _) (qaq nf n) fun x=>?_;rw [qeZ h1 h4 x nf ng,qbM x nf n];unfold dS
 cases n with
 | zero=>rw [Int.pow_zero];rfl
 | succ q=>
  have h:=qrP (ξ:=x (J - 1)) (j:=0) (d:=0) (p:=1) (T:=0) (P:=pv J x f) (R:=[]) rfl (Nat.le_refl _) (fun k hk=>qaK x (df.ckz h1 h4 hk)) (fun w hw=>absurd hw List.not_mem_nil) q;rw [show 0+(q+1) - 0 - 1=0+q by omega];show DD (0+q) 0 (bl _ (pv J x f) (q+1) ++ [])=_;rw [h]
  have e:DD 0 0 (bl (x (J - 1)) (pv J x f) 1 ++ [])=ev x f:=by
   show dt [((pv J x f).sh (x (J - 1)) 0).vec 0 0]=_;rw [qpL];show x (J - 1) ^ 0*ev x f=_;rw [Int.pow_zero,Int.one_mul]
  rw [e,show (pv J x f).c 0=ev x f from qaK x (qfQ h1 h4 (qhr nf df)),Int.pow_succ]
theorem qgY {f g:List Tm} (nf:NN f) (ng:NN g) (dg:DgR J g 0) (m:Nat):Sim (SJ J 0 m 0 f g) (qaQ g m):=
 ((qdH h1 h4 nf ng 0 m 0).1 (by simp)).symm.trans (qiU h1 h4 ng nf dg m)
end


def dvI (F:Nat->Int) (k:Nat):Int:=((k+1:Nat):Int)*F (k+1)
def qtf (a b c d e:Int):Int:=256*a^3*e^3 - 192*a^2*b*d*e^2 - 128*a^2*c^2*e^2+144*a^2*c*d^2*e - 27*a^2*d^4+144*a*b^2*c*e^2 - 6*a*b^2*d^2*e - 80*a*b*c^2*d*e+18*a*b*c*d^3+16*a*c^4*e - 4*a*c^3*d^2 - 27*b^4*e^2+18*b^3*c*d*e - 4*b^3*d^3 - 4*b^2*c^3*e+b^2*c^2*d^2
theorem qsT (ξ a b c:Int):dS ξ 0 2 1 (pL ξ [c,b,a]) (pL ξ [b,2*a]) = - (a*(b*b - 4*(a*c))):=by
 simp only [dS,DD,bl,dn,List.map,Nat.reduceSub,Nat.reduceAdd,Nat.reduceMul,Nat.reduceLT,List.cons_append,List.nil_append,qsO,List.length,if_true,if_false,Int.zero_mul,Int.mul_zero,Int.add_zero,Int.zero_add];simp only [qnj,sD,qck,qcj,qca,List.getD_cons_zero,List.getD_cons_succ,List.getD_nil,Nat.reduceSub,Nat.reduceLT,if_true,if_false,Int.zero_mul,Int.mul_zero,Int.add_zero,Int.zero_add,qgc,qgb,qga,qf9,qf8,qf7,qf6,Int.one_mul,Int.mul_one]
 try simp only [drC,List.map,qf1,qf0,qfZ,qfY,qf5,qf4,qf3]
 simp only [qnk,sD,qck,qcj,qca,List.getD_cons_zero,List.getD_cons_succ,List.getD_nil,Nat.reduceSub,Nat.reduceLT,if_true,if_false,Int.zero_mul,Int.mul_zero,Int.add_zero,Int.zero_add,qgc,qgb,qga,qf9,qf8,qf7,qf6,Int.one_mul,Int.mul_one]
 try simp only [drC,List.map,qf1,qf0,qfZ,qfY,qf5,qf4,qf3]
 simp only [qnl,sD,qck,qcj,qca,List.getD_cons_zero,List.getD_cons_succ,List.getD_nil,Nat.reduceSub,Nat.reduceLT,if_true,if_false,Int.zero_mul,Int.mul_zero,Int.add_zero,Int.zero_add,qgc,qgb,qga,qf9,qf8,qf7,qf6,Int.one_mul,Int.mul_one]
 try simp only [drC,List.map,qf1,qf0,qfZ,qfY,qf5,qf4,qf3]
 simp only [qnm,hrn]
 grind
theorem qtp (ξ a0 a1 a2 b0 b1 b2:Int):dS ξ 0 2 2 (pL ξ [a0,a1,a2]) (pL ξ [b0,b1,b2])=(a2*b0 - a0*b2)*(a2*b0 - a0*b2) - (a2*b1 - a1*b2)*(a1*b0 - a0*b1):=by
 simp only [dS,DD,bl,dn,List.map,Nat.reduceSub,Nat.reduceAdd,Nat.reduceMul,Nat.reduceLT,List.cons_append,List.nil_append,qsO,List.length,if_true,if_false,Int.zero_mul,Int.mul_zero,Int.add_zero,Int.zero_add];simp only [qoT,sD,qck,qcj,qca,List.getD_cons_zero,List.getD_cons_succ,List.getD_nil,Nat.reduceSub,Nat.reduceLT,if_true,if_false,Int.zero_mul,Int.mul_zero,Int.add_zero,Int.zero_add,qgc,qgb,qga,qf9,qf8,qf7,qf6,Int.one_mul,Int.mul_one]
 try simp only [drC,List.map,qf1,qf0,qfZ,qfY,qf5,qf4,qf3]
 simp only [qnj,sD,qck,qcj,qca,List.getD_cons_zero,List.getD_cons_succ,List.getD_nil,Nat.reduceSub,Nat.reduceLT,if_true,if_false,Int.zero_mul,Int.mul_zero,Int.add_zero,Int.zero_add,qgc,qgb,qga,qf9,qf8,qf7,qf6,Int.one_mul,Int.mul_one]
 try simp only [drC,List.map,qf1,qf0,qfZ,qfY,qf5,qf4,qf3]
 simp only [qnk,sD,qck,qcj,qca,List.getD_cons_zero,List.getD_cons_succ,List.getD_nil,Nat.reduceSub,Nat.reduceLT,if_true,if_false,Int.zero_mul,Int.mul_zero,Int.add_zero,Int.zero_add,qgc,qgb,qga,qf9,qf8,qf7,qf6,Int.one_mul,Int.mul_one]
 try simp only [drC,List.map,qf1,qf0,qfZ,qfY,qf5,qf4,qf3]
 simp only [qnl,sD,qck,qcj,qca,List.getD_cons_zero,List.getD_cons_succ,List.getD_nil,Nat.reduceSub,Nat.reduceLT,if_true,if_false,Int.zero_mul,Int.mul_zero,Int.add_zero,Int.zero_add,qgc,qgb,qga,qf9,qf8,qf7,qf6,Int.one_mul,Int.mul_one]
 try simp only [drC,List.map,qf1,qf0,qfZ,qfY,qf5,qf4,qf3]
 simp only [qnm,hrn]
 grind
theorem qoU (a0 a1 a2 b0 b1 b2:Int):qtf (a2*b2) (a2*b1+a1*b2) (a2*b0+(a1*b1+a0*b2)) (a1*b0+a0*b1) (a0*b0)=(a1*a1 - 4*(a2*a0))*(b1*b1 - 4*(b2*b0))*(((a2*b0 - a0*b2)*(a2*b0 - a0*b2) - (a2*b1 - a1*b2)*(a1*b0 - a0*b1))*((a2*b0 - a0*b2)*(a2*b0 - a0*b2) - (a2*b1 - a1*b2)*(a1*b0 - a0*b1))):=by
 unfold qtf
 grind
theorem qt1:((1:Nat):Int)=1:=rfl
theorem qt0:((2:Nat):Int)=2:=rfl
theorem qtZ:((3:Nat):Int)=3:=rfl
theorem qtY:((4:Nat):Int)=4:=rfl
theorem qtC (ξ a b c d e:Int):dS ξ 0 4 3 (pL ξ [e,d,c,b,a]) (pL ξ [d,2*c,3*b,4*a])=a*qtf a b c d e:=by
 simp only [dS,DD,bl,dn,List.map,Nat.reduceSub,Nat.reduceAdd,Nat.reduceMul,Nat.reduceLT,List.cons_append,List.nil_append,qsO,List.length,if_true,if_false,Int.zero_mul,Int.mul_zero,Int.add_zero,Int.zero_add];simp only [qsP,sD,qck,qcj,qca,List.getD_cons_zero,List.getD_cons_succ,List.getD_nil,Nat.reduceSub,Nat.reduceLT,if_true,if_false,Int.zero_mul,Int.mul_zero,Int.add_zero,Int.zero_add,qgc,qgb,qga,qf9,qf8,qf7,qf6,Int.one_mul,Int.mul_one]
 try simp only [drC,List.map,qf1,qf0,qfZ,qfY,qf5,qf4,qf3]
 simp only [qsQ,sD,qck,qcj,qca,List.getD_cons_zero,List.getD_cons_succ,List.getD_nil,Nat.reduceSub,Nat.reduceLT,if_true,if_false,Int.zero_mul,Int.mul_zero,Int.add_zero,Int.zero_add,qgc,qgb,qga,qf9,qf8,qf7,qf6,Int.one_mul,Int.mul_one]
 try simp only [drC,List.map,qf1,qf0,qfZ,qfY,qf5,qf4,qf3]
 simp only [qsR,sD,qck,qcj,qca,List.getD_cons_zero,List.getD_cons_succ,List.getD_nil,Nat.reduceSub,Nat.reduceLT,if_true,if_false,Int.zero_mul,Int.mul_zero,Int.add_zero,Int.zero_add,qgc,qgb,qga,qf9,qf8,qf7,qf6,Int.one_mul,Int.mul_one]
 try simp only [drC,List.map,qf1,qf0,qfZ,qfY,qf5,qf4,qf3]
 simp only [qoT,sD,qck,qcj,qca,List.getD_cons_zero,List.getD_cons_succ,List.getD_nil,Nat.reduceSub,Nat.reduceLT,if_true,if_false,Int.zero_mul,Int.mul_zero,Int.add_zero,Int.zero_add,qgc,qgb,qga,qf9,qf8,qf7,qf6,Int.one_mul,Int.mul_one]
 try simp only [drC,List.map,qf1,qf0,qfZ,qfY,qf5,qf4,qf3]
 simp only [qnj,sD,qck,qcj,qca,List.getD_cons_zero,List.getD_cons_succ,List.getD_nil,Nat.reduceSub,Nat.reduceLT,if_true,if_false,Int.zero_mul,Int.mul_zero,Int.add_zero,Int.zero_add,qgc,qgb,qga,qf9,qf8,qf7,qf6,Int.one_mul,Int.mul_one]
 try simp only [drC,List.map,qf1,qf0,qfZ,qfY,qf5,qf4,qf3]
 simp only [qnk,sD,qck,qcj,qca,List.getD_cons_zero,List.getD_cons_succ,List.getD_nil,Nat.reduceSub,Nat.reduceLT,if_true,if_false,Int.zero_mul,Int.mul_zero,Int.add_zero,Int.zero_add,qgc,qgb,qga,qf9,qf8,qf7,qf6,Int.one_mul,Int.mul_one]
 try simp only [drC,List.map,qf1,qf0,qfZ,qfY,qf5,qf4,qf3]
 simp only [qnl,sD,qck,qcj,qca,List.getD_cons_zero,List.getD_cons_succ,List.getD_nil,Nat.reduceSub,Nat.reduceLT,if_true,if_false,Int.zero_mul,Int.mul_zero,Int.add_zero,Int.zero_add,qgc,qgb,qga,qf9,qf8,qf7,qf6,Int.one_mul,Int.mul_one]
 try simp only [drC,List.map,qf1,qf0,qfZ,qfY,qf5,qf4,qf3]
 simp only [qnm,hrn,Int.pow_zero,Int.one_mul,Int.mul_one,Int.mul_zero,Int.add_zero,Int.zero_add];unfold qtf
 grind
theorem qtB (ξ : Int) (F G : Nat -> Int) (m n : Nat) (hm : m = 1 ∨ m = 2) (hn : n = 1 ∨ n = 2) :
  dS ξ 0 (m+n) (m+n - 1) (pL ξ (li (m+n) (cv m n F G))) (pL ξ (li (m+n - 1) (dvI (cv m n F G)))) =
  sgk (m*n)*(dS ξ 0 m (m - 1) (pL ξ (li m F)) (pL ξ (li (m - 1) (dvI F)))*dS ξ 0 n (n - 1) (pL ξ (li n G)) (pL ξ (li (n - 1) (dvI G)))*(dS ξ 0 m n (pL ξ (li m F)) (pL ξ (li n G))*dS ξ 0 m n (pL ξ (li m F)) (pL ξ (li n G)))):=by
 by_cases h22:m=2/\n=2
 ·obtain ⟨rfl,rfl⟩:=h22
  have e1:li (2+2) (cv 2 2 F G) = [F 0*G 0,F 1*G 0+F 0*G 1,F 2*G 0+(F 1*G 1+F 0*G 2),F 2*G 1+F 1*G 2,F 2*G 2]:=by simp [li,cv,sm,List.range,List.range.loop]
  have e2:li (2+2 - 1) (dvI (cv 2 2 F G)) = [F 1*G 0+F 0*G 1,2*(F 2*G 0+(F 1*G 1+F 0*G 2)),3*(F 2*G 1+F 1*G 2),4*(F 2*G 2)]:=by simp [li,cv,dvI,sm,List.range,List.range.loop]
  have e3 : ∀ F:Nat->Int,li 2 F = [F 0,F 1,F 2]:=fun F=>rfl
  have e4 : ∀ F:Nat->Int,li (2 - 1) (dvI F) = [F 1,2*F 2]:=fun F=>by simp [li,dvI,List.range,List.range.loop]
  rw [e1,e2,e4,e4,e3,e3,show sgk (2*2)=1 from rfl,qsT,qsT,qtp];show dS ξ 0 4 3 _ _=_;have h:=qtC ξ (F 2*G 2) (F 2*G 1+F 1*G 2) (F 2*G 0+(F 1*G 1+F 0*G 2)) (F 1*G 0+F 0*G 1) (F 0*G 0);rw [h,qoU];generalize F 1*F 1 - 4*(F 2*F 0)=A;generalize G 1*G 1 - 4*(G 2*G 0)=B;generalize (F 2*G 0 - F 0*G 2)*(F 2*G 0 - F 0*G 2) - (F 2*G 1 - F 1*G 2)*(F 1*G 0 - F 0*G 1)=C
  grind
 have hmn:(m=1/\n=1)∨(m=1/\n=2)∨(m=2/\n=1):=by omega
 clear hm hn h22;rcases hmn with ⟨rfl,rfl⟩ | ⟨rfl,rfl⟩ | ⟨rfl,rfl⟩
 all_goals simp only [li,cv,dvI,sm,List.range,List.range.loop,dS,DD,bl,dn,List.map,Nat.reduceSub,Nat.reduceAdd,Nat.reduceMul,Nat.reduceLT,List.cons_append,List.nil_append,qsO,List.length,if_true,if_false,Int.zero_mul,Int.mul_zero,Int.add_zero,Int.zero_add]
 all_goals try simp only [qsP,sD,qck,qcj,qca,List.getD_cons_zero,List.getD_cons_succ,List.getD_nil,Nat.reduceSub,Nat.reduceLT,if_true,if_false,Int.zero_mul,Int.mul_zero,Int.add_zero,Int.zero_add,qgc,qgb,qga,qf9,qf8,qf7,qf6,Int.one_mul,Int.mul_one]
 all_goals try simp only [drC,List.map,qf1,qf0,qfZ,qfY,qf5,qf4,qf3]
 all_goals try simp only [qsQ,sD,qck,qcj,qca,List.getD_cons_zero,List.getD_cons_succ,List.getD_nil,Nat.reduceSub,Nat.reduceLT,if_true,if_false,Int.zero_mul,Int.mul_zero,Int.add_zero,Int.zero_add,qgc,qgb,qga,qf9,qf8,qf7,qf6,Int.one_mul,Int.mul_one]
 all_goals try simp only [drC,List.map,qf1,qf0,qfZ,qfY,qf5,qf4,qf3]
 all_goals try simp only [qsR,sD,qck,qcj,qca,List.getD_cons_zero,List.getD_cons_succ,List.getD_nil,Nat.reduceSub,Nat.reduceLT,if_true,if_false,Int.zero_mul,Int.mul_zero,Int.add_zero,Int.zero_add,qgc,qgb,qga,qf9,qf8,qf7,qf6,Int.one_mul,Int.mul_one]
 all_goals try simp only [drC,List.map,qf1,qf0,qfZ,qfY,qf5,qf4,qf3]
 all_goals try simp only [qoT,sD,qck,qcj,qca,List.getD_cons_zero,List.getD_cons_succ,List.getD_nil,Nat.reduceSub,Nat.reduceLT,if_true,if_false,Int.zero_mul,Int.mul_zero,Int.add_zero,Int.zero_add,qgc,qgb,qga,qf9,qf8,qf7,qf6,Int.one_mul,Int.mul_one]
 all_goals try simp only [drC,List.map,qf1,qf0,qfZ,qfY,qf5,qf4,qf3]
 all_goals try simp only [qnj,sD,qck,qcj,qca,List.getD_cons_zero,List.getD_cons_succ,List.getD_nil,Nat.reduceSub,Nat.reduceLT,if_true,if_false,Int.zero_mul,Int.mul_zero,Int.add_zero,Int.zero_add,qgc,qgb,qga,qf9,qf8,qf7,qf6,Int.one_mul,Int.mul_one]
 all_goals try simp only [drC,List.map,qf1,qf0,qfZ,qfY,qf5,qf4,qf3]
 all_goals try simp only [qnk,sD,qck,qcj,qca,List.getD_cons_zero,List.getD_cons_succ,List.getD_nil,Nat.reduceSub,Nat.reduceLT,if_true,if_false,Int.zero_mul,Int.mul_zero,Int.add_zero,Int.zero_add,qgc,qgb,qga,qf9,qf8,qf7,qf6,Int.one_mul,Int.mul_one]
 all_goals try simp only [drC,List.map,qf1,qf0,qfZ,qfY,qf5,qf4,qf3]
 all_goals try simp only [qnl,sD,qck,qcj,qca,List.getD_cons_zero,List.getD_cons_succ,List.getD_nil,Nat.reduceSub,Nat.reduceLT,if_true,if_false,Int.zero_mul,Int.mul_zero,Int.add_zero,Int.zero_add,qgc,qgb,qga,qf9,qf8,qf7,qf6,Int.one_mul,Int.mul_one]
 all_goals try simp only [drC,List.map,qf1,qf0,qfZ,qfY,qf5,qf4,qf3]
 all_goals simp only [qnm,hrn,sgk,Nat.reduceMul,Nat.reduceMod,Nat.reduceEqDiff,Nat.zero_ne_one,reduceIte,Nat.one_ne_zero,qt1,qt0,qtZ,qtY,Int.one_mul,Int.mul_one]
 ·grind
 ·grind
 ·grind
end Go.Proofs.YtlmipmebdelgbaaGreat
