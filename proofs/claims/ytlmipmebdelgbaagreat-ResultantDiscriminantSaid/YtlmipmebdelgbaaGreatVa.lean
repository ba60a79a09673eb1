/- Resultants of polynomials of small degrees, plain: the expansion of the determinant, level by level. Resultants of products of small degrees. The resultant of a product is the product of the resultants, plain. Resultants with constants, exchanged, and as the determinant of the Sylvester matrix, plain. Discriminants of products, plain. -/
import Derived.Test.YtlmipmebdelgbaaGreatTa
import Derived.Test.YtlmipmebdelgbaaGreatTf
import Derived.Test.YtlmipmebdelgbaaGreatQe
set_option linter.unusedVariables false
set_option linter.unusedSimpArgs false

namespace Go.Proofs.YtlmipmebdelgbaaGreat
open Go.RowKit

def drC:Nat->List (Nat->Int)->List (Nat->Int)
 | _,[]=>[]
 | 0,_ :: L=>L
 | n+1,l :: L=>l :: drC n L
theorem qjj : ∀ (L:List (Nat->Int)) (c k:Nat),(drC c L).getD k (fun _=>0)=L.getD (if k<c then k else k+1) (fun _=>0)
 | [],c,k=>by simp [drC]
 | l :: L,0,k=>by simp [drC]
 | l :: L,c+1,0=>by simp [drC]
 | l :: L,c+1,k+1=>by
  have:=qjj L c k
  simp only [drC,List.getD_cons_succ,this]
  by_cases h:k<c <;> simp [h]
def dtN (n:Nat) (L:List (Nat->Int)):Int:=qek n (qkn L)
def hdC (L:List (Nat->Int)) (c:Nat):Int:=qkn L 0 c
def sD (n:Nat) (L:List (Nat->Int)):Nat->Int
 | 0=>0
 | c+1=>sD n L c+sg1 c*(hdC L c*dtN n ((drC c L).map tlI))
theorem qrl (L:List (Nat->Int)) (c:Nat):mnI (qkn L) c=qkn ((drC c L).map tlI):=by
 funext r k
 show L.getD (if k<c then k else k+1) (fun _=>0) (r+1)=((drC c L).map tlI).getD k (fun _=>0) r
 rw [qib,qjj]
theorem qnP (n:Nat) (L:List (Nat->Int)):dtN (n+1) L=sD n L (n+1):=by
 have : ∀ c,qbN (qek n) (qkn L) c=sD n L c:=fun c=>by
  induction c with
  | zero=>rfl
  | succ c ih=>rw [qbN,sD,ih,qrl];rfl
 exact this _
theorem qsw (L:List (Nat->Int)):dtN 0 L=1:=rfl
theorem qsv (L:List (Nat->Int)):dtN 1 L=sD 0 L 1:=qnP 0 L
theorem qsu (L:List (Nat->Int)):dtN 2 L=sD 1 L 2:=qnP 1 L
theorem qst (L:List (Nat->Int)):dtN 3 L=sD 2 L 3:=qnP 2 L
theorem qss (L:List (Nat->Int)):dtN 4 L=sD 3 L 4:=qnP 3 L
theorem dtN_5 (L:List (Nat->Int)):dtN 5 L=sD 4 L 5:=qnP 4 L
theorem dtN_6 (L:List (Nat->Int)):dtN 6 L=sD 5 L 6:=qnP 5 L
theorem qsl (u:Nat->Int) (L:List (Nat->Int)):hdC (u :: L) 0=u 0:=rfl
theorem qsk (u:Nat->Int) (L:List (Nat->Int)) (c:Nat):hdC (u :: L) (c+1)=hdC L c:=rfl
def hrn (ξ:Int):List Int->Int
 | []=>0
 | a :: l=>a+ξ*hrn ξ l
def pL (ξ:Int) (l:List Int):Pv:=⟨fun k=>l.getD k 0,hrn ξ l⟩
theorem qsR (p:Pv):tlI (p.vec 1 0)=p.vec 0 0:=qgT (T:=0) (j:=0) (by decide) p
theorem qsQ (p:Pv):tlI (p.vec 2 0)=p.vec 1 0:=qgT (T:=1) (j:=0) (by decide) p
theorem qsP (p:Pv):tlI (p.vec 3 0)=p.vec 2 0:=qgT (T:=2) (j:=0) (by decide) p
theorem qsO (p:Pv):tlI (p.vec 4 0)=p.vec 3 0:=qgT (T:=3) (j:=0) (by decide) p
theorem tv_5 (p:Pv):tlI (p.vec 5 0)=p.vec 4 0:=qgT (T:=4) (j:=0) (by decide) p
theorem tv_6 (p:Pv):tlI (p.vec 6 0)=p.vec 5 0:=qgT (T:=5) (j:=0) (by decide) p
theorem tv_7 (p:Pv):tlI (p.vec 7 0)=p.vec 6 0:=qgT (T:=6) (j:=0) (by decide) p
theorem qqM (ξ:Int) (l:List Int) (i r T:Nat):((pL ξ l).sh ξ i).vec T 0 r=if r<T then (if T - r<i then 0 else l.getD (T - r - i) 0) else ξ ^ i*hrn ξ l:=rfl
end Go.Proofs.YtlmipmebdelgbaaGreat

namespace Go.Proofs.YtlmipmebdelgbaaGreat

theorem sg_0:sg1 0=1:=rfl
theorem sg_1:sg1 1 = -1:=rfl
theorem sg_2:sg1 2=1:=rfl
theorem sg_3:sg1 3 = -1:=rfl
theorem sg_4:sg1 4=1:=rfl
theorem sg_5:sg1 5 = -1:=rfl
theorem sg_6:sg1 6=1:=rfl
set_option maxRecDepth 10000
theorem qsU (L:List (Nat->Int)):dt L=dtN L.length L:=rfl
def li (m:Nat) (F:Nat->Int):List Int:=(List.range (m+1)).map F
def cv (m p:Nat) (F H:Nat->Int) (k:Nat):Int:=sm (fun i=>F i*(if k<i then 0 else if p<k - i then 0 else H (k - i))) (m+1)
theorem prodI (ξ:Int) (F H G:Nat->Int) (m p n:Nat) (hm:m<=2) (hp:p<=2) (hn:n<=2):dS ξ 0 (m+p) n (pL ξ (li (m+p) (cv m p F H))) (pL ξ (li n G))=dS ξ 0 m n (pL ξ (li m F)) (pL ξ (li n G))*dS ξ 0 p n (pL ξ (li p H)) (pL ξ (li n G)):=by
 rcases (show m=0∨m=1∨m=2 by omega) with rfl | rfl | rfl <;> rcases (show p=0∨p=1∨p=2 by omega) with rfl | rfl | rfl <;> rcases (show n=0∨n=1∨n=2 by omega) with rfl | rfl | rfl
 all_goals simp only [li,cv,sm,List.range,List.range.loop,dS,DD,bl,dn,List.map,Nat.reduceSub,Nat.reduceAdd,Nat.reduceLT,List.cons_append,List.nil_append,qsU,List.length,if_true,if_false,Int.zero_mul,Int.mul_zero,Int.add_zero,Int.zero_add]
 all_goals try simp only [dtN_6,sD,qsl,qsk,qqM,List.getD_cons_zero,List.getD_cons_succ,List.getD_nil,Nat.reduceSub,Nat.reduceLT,if_true,if_false,Int.zero_mul,Int.mul_zero,Int.add_zero,Int.zero_add,sg_0,sg_1,sg_2,sg_3,sg_4,sg_5,sg_6,Int.one_mul,Int.mul_one]
 all_goals try simp only [drC,List.map,qsR,qsQ,qsP,qsO,tv_5,tv_6,tv_7]
 all_goals try simp only [dtN_5,sD,qsl,qsk,qqM,List.getD_cons_zero,List.getD_cons_succ,List.getD_nil,Nat.reduceSub,Nat.reduceLT,if_true,if_false,Int.zero_mul,Int.mul_zero,Int.add_zero,Int.zero_add,sg_0,sg_1,sg_2,sg_3,sg_4,sg_5,sg_6,Int.one_mul,Int.mul_one]
 all_goals try simp only [drC,List.map,qsR,qsQ,qsP,qsO,tv_5,tv_6,tv_7]
 all_goals try simp only [qss,sD,qsl,qsk,qqM,List.getD_cons_zero,List.getD_cons_succ,List.getD_nil,Nat.reduceSub,Nat.reduceLT,if_true,if_false,Int.zero_mul,Int.mul_zero,Int.add_zero,Int.zero_add,sg_0,sg_1,sg_2,sg_3,sg_4,sg_5,sg_6,Int.one_mul,Int.mul_one]
 all_goals try simp only [drC,List.map,qsR,qsQ,qsP,qsO,tv_5,tv_6,tv_7]
 all_goals try simp only [qst,sD,qsl,qsk,qqM,List.getD_cons_zero,List.getD_cons_succ,List.getD_nil,Nat.reduceSub,Nat.reduceLT,if_true,if_false,Int.zero_mul,Int.mul_zero,Int.add_zero,Int.zero_add,sg_0,sg_1,sg_2,sg_3,sg_4,sg_5,sg_6,Int.one_mul,Int.mul_one]
 all_goals try simp only [drC,List.map,qsR,qsQ,qsP,qsO,tv_5,tv_6,tv_7]
 all_goals try simp only [qsu,sD,qsl,qsk,qqM,List.getD_cons_zero,List.getD_cons_succ,List.getD_nil,Nat.reduceSub,Nat.reduceLT,if_true,if_false,Int.zero_mul,Int.mul_zero,Int.add_zero,Int.zero_add,sg_0,sg_1,sg_2,sg_3,sg_4,sg_5,sg_6,Int.one_mul,Int.mul_one]
 all_goals try simp only [drC,List.map,qsR,qsQ,qsP,qsO,tv_5,tv_6,tv_7]
 all_goals try simp only [qsv,sD,qsl,qsk,qqM,List.getD_cons_zero,List.getD_cons_succ,List.getD_nil,Nat.reduceSub,Nat.reduceLT,if_true,if_false,Int.zero_mul,Int.mul_zero,Int.add_zero,Int.zero_add,sg_0,sg_1,sg_2,sg_3,sg_4,sg_5,sg_6,Int.one_mul,Int.mul_one]
 all_goals try simp only [drC,List.map,qsR,qsQ,qsP,qsO,tv_5,tv_6,tv_7]
 all_goals simp only [qsw,hrn]
 all_goals grind
end Go.Proofs.YtlmipmebdelgbaaGreat

namespace Go.Proofs.YtlmipmebdelgbaaGreat
open Go.RowKit

theorem qlS (ξ a:Int) : ∀ l:List Int,hrn ξ (l ++ [a])=hrn ξ l+ξ ^ l.length*a
 | []=>by simp [hrn]
 | b :: l=>by
  rw [List.cons_append,hrn,hrn,qlS ξ a l,List.length_cons,Int.pow_succ,Int.mul_add,<- Int.add_assoc,Int.mul_comm (ξ ^ l.length) ξ,Int.mul_assoc]
theorem qoB (ξ:Int) (F:Nat->Int) : ∀ n,hrn ξ ((List.range n).map F)=sm (fun i=>F i*ξ ^ i) n
 | 0=>rfl
 | n+1=>by
  rw [List.range_succ,List.map_append,List.map_singleton,qlS,qoB ξ F n,List.length_map,List.length_range,sm,Int.mul_comm (ξ ^ n),Int.add_comm]
theorem qrn (m k:Nat) (F:Nat->Int):(li m F).getD k 0=if k<=m then F k else 0:=by
 unfold li
 by_cases h:k<=m
 ·rw [if_pos h,List.getD_eq_getElem?_getD,List.getElem?_map,List.getElem?_range (by omega)];rfl
 ·rw [if_neg h,List.getD_eq_getElem?_getD,List.getElem?_eq_none (by simp;omega)];rfl
section
variable {J:Nat} (h1:1<=J) (h4:J<=4)
include h1 h4
theorem qmW {m:Nat} {f:List Tm} (nf:NN f) (df:DgR J f m):Sim (poly J (m+1) fun i=>ck J (i:Int) f) f:=qfS h1 h4 nf fun k hk=>by have:=df.1 k hk;omega
theorem qnf (x:Nat->Int) {m:Nat} {f:List Tm} (nf:NN f) (df:DgR J f m):pv J x f=pL (x (J - 1)) (li m fun k=>ev x (ck J (k:Int) f)):=by
 have hc : ∀ k:Nat,ev x (ck J (k:Int) f)=(li m fun k=>ev x (ck J (k:Int) f)).getD k 0:=fun k=>by
  rw [qrn]
  split
  ·rfl
  ·exact qaO x (df.ckz h1 h4 (by omega))
 have hv:ev x f=hrn (x (J - 1)) (li m fun k=>ev x (ck J (k:Int) f)):=by
  have h:=qd4 h1 h4 x (qdk 1) (m+1) (Q:=fun i=>ck J (i:Int) f) fun i _=>qaY h1 h4 nf
  rw [qaO x (((qmW h1 h4 nf df).pmul_left _).trans (qex f))] at h
  rw [h,li,qoB]
  refine qc3 _ fun i _=>?_
  show _*(_*ev x [(1,Mo.zero)])=_
  rw [qfe,Int.mul_one]
 unfold pv pL
 rw [hv]
 congr 1
 exact funext hc
theorem pv_prod (x:Nat->Int) {m p:Nat} {f h:List Tm} (nf:NN f) (nh:NN h) (df:DgR J f m) (dh:DgR J h p) (k:Nat):ev x (ck J (k:Int) (pmul f h))=cv m p (fun k=>ev x (ck J (k:Int) f)) (fun k=>ev x (ck J (k:Int) h)) k:=by
 rw [qaO x (qaS (((qmW h1 h4 nf df).symm).pmul_left h)),qho h1 h4 x nh k (m+1) fun i _=>⟨qaY h1 h4 nf,qcy h1 h4 _ _⟩]
 refine qc3 _ fun i _=>?_
 show _*(if k<i then 0 else ev x (ck J ((k - i:Nat):Int) h))=_
 split
 ·rfl
 ·split
  ·rw [qaO x (dh.ckz h1 h4 (by assumption))];rfl
  ·rfl
theorem res_mul {m p n:Nat} {f h g:List Tm} (nf:NN f) (nh:NN h) (ng:NN g) (df:DgR J f m) (dh:DgR J h p) (dg:DgR J g n) (df2:DgR J (pmul f h) (m+p)) (hm:m<=2) (hp:p<=2) (hn:n<=2):Sim (SJ J 0 (m+p) n (pmul f h) g) (pmul (SJ J 0 m n f g) (SJ J 0 p n h g)):=by
 refine qeU (qbb h1 h4 (qaT nf nh) ng _ _ _) (qaT (qbb h1 h4 nf ng _ _ _) (qbb h1 h4 nh ng _ _ _)) fun x=>?_
 rw [qaC x (qbb h1 h4 nf ng _ _ _) (qbb h1 h4 nh ng _ _ _),qfs h1 h4 x (qaT nf nh) ng,qfs h1 h4 x nf ng,qfs h1 h4 x nh ng,qnf h1 h4 x nf df,qnf h1 h4 x nh dh,qnf h1 h4 x ng dg,qnf h1 h4 x (qaT nf nh) df2,show (fun k:Nat=>ev x (ck J (k:Int) (pmul f h)))=cv m p (fun k=>ev x (ck J (k:Int) f)) (fun k=>ev x (ck J (k:Int) h)) from funext fun k=>pv_prod h1 h4 x nf nh df dh k]
 exact prodI _ _ _ _ m p n hm hp hn
end


section
variable {J:Nat} (h1:1<=J) (h4:J<=4)
include h1 h4
theorem qhX {f g:List Tm} (nf:NN f) (ng:NN g) (df:DgR J f 0) (n:Nat):Sim (SJ J 0 0 n f g) (qaM f n):=by
 refine qeU (qbb h1 h4 nf ng _ _ _) (qar nf n) fun x=>?_
 rw [qfs h1 h4 x nf ng,qbG x nf n]
 unfold dS
 cases n with
 | zero=>rw [Int.pow_zero];rfl
 | succ q=>
  have h:=qqG (ξ:=x (J - 1)) (j:=0) (d:=0) (p:=1) (T:=0) (P:=pv J x f) (R:=[]) rfl (Nat.le_refl _) (fun k hk=>qaO x (df.ckz h1 h4 hk)) (fun w hw=>absurd hw List.not_mem_nil) q
  rw [show 0+(q+1) - 0 - 1=0+q by omega]
  show DD (0+q) 0 (bl _ (pv J x f) (q+1) ++ [])=_
  rw [h]
  have e:DD 0 0 (bl (x (J - 1)) (pv J x f) 1 ++ [])=ev x f:=by
   show dt [((pv J x f).sh (x (J - 1)) 0).vec 0 0]=_
   rw [qoD]
   show x (J - 1) ^ 0*ev x f=_
   rw [Int.pow_zero,Int.one_mul]
  rw [e,show (pv J x f).c 0=ev x f from qaO x (qfk h1 h4 (qnW nf df)),Int.pow_succ]
theorem qiM {f g:List Tm} (nf:NN f) (ng:NN g) (dg:DgR J g 0) (m:Nat):Sim (SJ J 0 m 0 f g) (qaM g m):=
 ((qf2 h1 h4 nf ng 0 m 0).1 (by simp)).symm.trans (qhX h1 h4 ng nf dg m)
end


def dvI (F:Nat->Int) (k:Nat):Int:=((k+1:Nat):Int)*F (k+1)
theorem disc2 (ξ a b c:Int):dS ξ 0 2 1 (pL ξ [c,b,a]) (pL ξ [b,2*a]) = - (a*(b*b - 4*(a*c))):=by
 simp only [dS,DD,bl,dn,List.map,Nat.reduceSub,Nat.reduceAdd,Nat.reduceMul,Nat.reduceLT,List.cons_append,List.nil_append,qsU,List.length,if_true,if_false,Int.zero_mul,Int.mul_zero,Int.add_zero,Int.zero_add]
 simp only [qst,sD,qsl,qsk,qqM,List.getD_cons_zero,List.getD_cons_succ,List.getD_nil,Nat.reduceSub,Nat.reduceLT,if_true,if_false,Int.zero_mul,Int.mul_zero,Int.add_zero,Int.zero_add,sg_0,sg_1,sg_2,sg_3,sg_4,sg_5,sg_6,Int.one_mul,Int.mul_one]
 try simp only [drC,List.map,qsR,qsQ,qsP,qsO,tv_5,tv_6,tv_7]
 simp only [qsu,sD,qsl,qsk,qqM,List.getD_cons_zero,List.getD_cons_succ,List.getD_nil,Nat.reduceSub,Nat.reduceLT,if_true,if_false,Int.zero_mul,Int.mul_zero,Int.add_zero,Int.zero_add,sg_0,sg_1,sg_2,sg_3,sg_4,sg_5,sg_6,Int.one_mul,Int.mul_one]
 try simp only [drC,List.map,qsR,qsQ,qsP,qsO,tv_5,tv_6,tv_7]
 simp only [qsv,sD,qsl,qsk,qqM,List.getD_cons_zero,List.getD_cons_succ,List.getD_nil,Nat.reduceSub,Nat.reduceLT,if_true,if_false,Int.zero_mul,Int.mul_zero,Int.add_zero,Int.zero_add,sg_0,sg_1,sg_2,sg_3,sg_4,sg_5,sg_6,Int.one_mul,Int.mul_one]
 try simp only [drC,List.map,qsR,qsQ,qsP,qsO,tv_5,tv_6,tv_7]
 simp only [qsw,hrn]
 grind
theorem disc3 (ξ a b c d:Int):dS ξ 0 3 2 (pL ξ [d,c,b,a]) (pL ξ [c,2*b,3*a]) = - (a*(b*b*c*c - 4*a*c*c*c - 4*b*b*b*d - 27*a*a*d*d+18*a*b*c*d)):=by
 simp only [dS,DD,bl,dn,List.map,Nat.reduceSub,Nat.reduceAdd,Nat.reduceMul,Nat.reduceLT,List.cons_append,List.nil_append,qsU,List.length,if_true,if_false,Int.zero_mul,Int.mul_zero,Int.add_zero,Int.zero_add]
 simp only [dtN_5,sD,qsl,qsk,qqM,List.getD_cons_zero,List.getD_cons_succ,List.getD_nil,Nat.reduceSub,Nat.reduceLT,if_true,if_false,Int.zero_mul,Int.mul_zero,Int.add_zero,Int.zero_add,sg_0,sg_1,sg_2,sg_3,sg_4,sg_5,sg_6,Int.one_mul,Int.mul_one]
 try simp only [drC,List.map,qsR,qsQ,qsP,qsO,tv_5,tv_6,tv_7]
 simp only [qss,sD,qsl,qsk,qqM,List.getD_cons_zero,List.getD_cons_succ,List.getD_nil,Nat.reduceSub,Nat.reduceLT,if_true,if_false,Int.zero_mul,Int.mul_zero,Int.add_zero,Int.zero_add,sg_0,sg_1,sg_2,sg_3,sg_4,sg_5,sg_6,Int.one_mul,Int.mul_one]
 try simp only [drC,List.map,qsR,qsQ,qsP,qsO,tv_5,tv_6,tv_7]
 simp only [qst,sD,qsl,qsk,qqM,List.getD_cons_zero,List.getD_cons_succ,List.getD_nil,Nat.reduceSub,Nat.reduceLT,if_true,if_false,Int.zero_mul,Int.mul_zero,Int.add_zero,Int.zero_add,sg_0,sg_1,sg_2,sg_3,sg_4,sg_5,sg_6,Int.one_mul,Int.mul_one]
 try simp only [drC,List.map,qsR,qsQ,qsP,qsO,tv_5,tv_6,tv_7]
 simp only [qsu,sD,qsl,qsk,qqM,List.getD_cons_zero,List.getD_cons_succ,List.getD_nil,Nat.reduceSub,Nat.reduceLT,if_true,if_false,Int.zero_mul,Int.mul_zero,Int.add_zero,Int.zero_add,sg_0,sg_1,sg_2,sg_3,sg_4,sg_5,sg_6,Int.one_mul,Int.mul_one]
 try simp only [drC,List.map,qsR,qsQ,qsP,qsO,tv_5,tv_6,tv_7]
 simp only [qsv,sD,qsl,qsk,qqM,List.getD_cons_zero,List.getD_cons_succ,List.getD_nil,Nat.reduceSub,Nat.reduceLT,if_true,if_false,Int.zero_mul,Int.mul_zero,Int.add_zero,Int.zero_add,sg_0,sg_1,sg_2,sg_3,sg_4,sg_5,sg_6,Int.one_mul,Int.mul_one]
 try simp only [drC,List.map,qsR,qsQ,qsP,qsO,tv_5,tv_6,tv_7]
 simp only [qsw,hrn]
 grind
end Go.Proofs.YtlmipmebdelgbaaGreat
