/- recpoly.Var; the law's own canonical. cylinderlaw22.fit: the fixed example. cylinderlaw22.fit: the walk. cylinderref22.build. cylinderref22.Build; the polynomials of the law RecpolyNormal. RecpolyNormal: the region with two calls and two new variables. RecpolyNormal: the callees' contracts at the law's polynomials. -/
import Derived.Test.YtmcfpnmoklnhoaaGreatMh
set_option linter.unusedVariables false
set_option maxRecDepth 100000
set_option maxHeartbeats 400000000
set_option linter.unusedSimpArgs false

namespace Go.Proofs.YtmcfpnmoklnhoaaGreat
open Go.RowKit

def qdi (lv:Int):List Tm:=if 1<=lv/\lv<=4 then [(1,xp lv.toNat 1)] else []
theorem qlI (M:Nat->Prop) (lv:Int) (w:World) (hM:Mb M w):Calls Tryz.prog 52 #[.int .i64 lv] w (qa8 M w 4 (qdi lv)):=by
 have hE:Ext w (w.alloc (.cells zA 33)):=(Ext.refl w).alloc _;have hB:=Blk.of_arr w zA 33 4 rfl;have hM2:Mb (Mx M w.heap.size (w.heap.size+1)) (w.alloc (.cells zA 33)):=Mx.mb hM (by simp) (by simp);have ctr:=fun W=>qd6 lv W
 by_cases hl:1<=lv/\lv<=4
 ·have hlb:qay lv=true:=by unfold qay;simp [hl]
  rw [hlb] at ctr;have CTR:=Lib.hid ctr
  have hV:qdi lv = [(1,xp lv.toNat 1)]:=by unfold qdi;rw [if_pos hl]
  obtain ⟨D,rfl⟩ : ∃ D:Nat,lv=(D:Int)+1:=⟨(lv - 1).toNat,by omega⟩
  have hD4:D+1<=4:=by omega
  rw [show ((D:Int)+1).toNat=D+1 by omega] at hV;have HV:=Lib.hid hV;clear ctr hlb hl hV
  go_enter Tryz.func52,Tryz.ntmps52
  go_wp2_with (fail);refine (CTR.out _).mono ?_;rintro e w1 ⟨rfl,rfl⟩;go_wp2_with (fail);refine (qer (M:=Mx M w.heap.size (w.heap.size+1)) 1 _ hM2 (by omega) (by omega)).mono ?_;rintro e w2 ⟨d0,d1,rfl,hc,he2⟩;obtain ⟨b2,a2,n2,p2,rfl,rfl⟩:=hc.form;have hkr:=qqE (x:=PE.z) (y:=⟨0,b2,a2,n2,p2,none,0,0⟩) (L:=D) (hM2.ext he2) (CR.zero _ _ D) (CR.const hc D);have he3:Ext w2 (w2.alloc (.cells #[.int .i64 0,.bool false,.slice none 0 0,.slice none 0 0,.int .i64 0,.bool b2,.slice a2 n2 p2,.slice none 0 0] 33)):=(Ext.refl w2).alloc _
  have hcr:CR (Mx M w.heap.size (w.heap.size+1)) (w2.alloc (.cells #[.int .i64 0,.bool false,.slice none 0 0,.slice none 0 0,.int .i64 0,.bool b2,.slice a2 n2 p2,.slice none 0 0] 33)) 4 (.int .i64 ((D:Int)+1)) (.bool false) (.slice none 0 0) (.slice (some ⟨w2.heap.size,0,none⟩) 2 2) (qdi ((D:Int)+1)):=by
   refine (CR.sim (CR.node (D:=D) (P:=fun i=>if i=0 then [] else [(1,Mo.zero)]) hD4 (by omega) (by omega) (Nat.le_refl _) (by unfold maxLen;omega) (by simp) ((hM2.ext he2).new (Nat.le_refl _)) (fun i hi=>?_) ?_) ?_).up hD4
   ·obtain ⟨b,off,e,_,_,_,_,hk⟩:=qbA.at hkr i hi;simp only [Option.some.injEq,Addr.mk.injEq,and_true] at e;obtain ⟨rfl,rfl⟩:=e;exact hk
   ·intro hs;have:=hs Mo.zero;simp [qab] at this
   ·rw [HV.out];intro m;rw [qaf,qaf,qbD];simp [shift,qab,Mo.zero_add']
  obtain ⟨⟨q0,q1,q2,q3⟩,⟨f0,f1,f2,f3⟩,⟨r0,r1,r2,r3⟩,HF⟩:=qbR (M:=M) (w:=w) (y:=⟨(D:Int)+1,false,none,0,0,some ⟨w2.heap.size,0,none⟩,2,2⟩) ((hB.ext he2).ext he3) (Mx.at (by omega)) (by omega) ((hE.trans he2).trans he3) hcr Mx.sub;clear hE hB hM2 he2 he3 hkr hcr hc;go_wp2;exact bodyPost_ret (v:=.agg #[.int .i64 ((D:Int)+1),.bool false,.slice none 0 0,.slice (some ⟨w2.heap.size,0,none⟩) 2 2]) (by simp [results,Tryz.results52,go_sem,r0,r1,r2,r3]) rfl HF.out
 ·have hlb:qay lv=false:=by unfold qay;simp only [decide_eq_false_iff_not];exact hl
  rw [hlb] at ctr;have CTR:=Lib.hid ctr
  have HV:Hid (qdi lv = []):=by show _=_;unfold qdi;rw [if_neg hl]
  clear ctr hlb hl
  go_enter Tryz.func52,Tryz.ntmps52
  go_wp2_with (fail);refine (CTR.out _).mono ?_;rintro e w1 ⟨rfl,rfl⟩;go_wp2;exact bodyPost_ret (v:=.agg zA) (by simp [results,Tryz.results52,go_sem]) rfl ⟨PE.z,rfl,by rw [HV.out];exact CR.zero _ _ _,hE⟩
theorem qn7 (L n:Nat) (P:Nat->List Tm) (c:Nat) (h : ∀ i,i<n->(P i).length<=c):(poly L n P).length<=n*c:=by
 induction n with
 | zero=>simp [qbD]
 | succ n ih=>
  rw [qaf,List.length_append,Nat.add_mul,Nat.one_mul];have h1:=ih fun i hi=>h i (by omega);have h2:=h n (by omega);simp only [shift,List.length_map];omega
theorem qg8 (B:Nat) : ∀ (d:Nat) (t:RT d),qaM d t=true->okT d t->Deg B (qaj d t)->(qaj d t).length<=(B+1) ^ (lev d t).toNat
 | 0,_,_,_,_=>Nat.zero_le _
 | d+1,t,h,ho,hB=>by
  show _<=(B+1) ^ t.1.toNat
  by_cases hl:t.1=0
  ·rw [qaE (by omega),hl];exact Nat.le_refl _
  ·obtain ⟨g1,g2,g3,g4,g5,g6⟩:=qbe h hl;rw [qaO g1.1 g1.2] at hB ⊢;obtain ⟨D,hD⟩ : ∃ D:Nat,t.1.toNat=D+1:=⟨t.1.toNat - 1,by omega⟩;rw [hD] at hB ⊢
   have hlow : ∀ i,i<t.2.2.1->Low D (qaj d (t.2.2.2 i)):=fun i hi=>by
    have:=qbE h hl i hi
    rwa [hD,Nat.add_sub_cancel] at this
   cases d with
   | zero=>
    have:=(g5 0 (by omega)).2;simp [qaM] at this
   | succ d=>
    have hnz : ¬ Sim (qaj (d+1) (t.2.2.2 (t.2.2.1 - 1))) []:=fun hs=>by
     obtain ⟨m,hm⟩:=can_zero _ _ (g5 (t.2.2.1 - 1) (by omega)).2 (ho.2 _ (by omega)) g6;exact hm (hs m)
    obtain ⟨h1,h2⟩:=qbp (by omega) (by omega) hlow hnz hB;refine Nat.le_trans (qn7 (D+1) t.2.2.1 _ ((B+1) ^ D) fun i hi=>?_) ?_
    ·have h3:=qg8 B (d+1) (t.2.2.2 i) (g5 i hi).2 (ho.2 i hi) (h2 i hi);refine Nat.le_trans h3 (Nat.pow_le_pow_right (by omega) ?_);have:=(g5 i hi).1;omega
    ·rw [Nat.pow_succ,Nat.mul_comm];exact Nat.mul_le_mul_left _ h1
theorem qg9 (B:Nat) : ∀ (d:Nat) (t:RT d),qaM d t=true->okT d t->Deg B (qaj d t) -> ∀ s ∈ qaj d t,∀ k,s.2.get k<=B
 | 0,_,_,_,_,s,hs,_=>by cases hs
 | d+1,t,h,ho,hB,s,hs,k=>by
  by_cases hl:t.1=0
  ·rw [qaE (by omega)] at hs;simp only [List.mem_singleton] at hs;subst hs;show Mo.zero.get k<=B;rw [qbc];omega
  ·obtain ⟨g1,g2,g3,g4,g5,g6⟩:=qbe h hl;rw [qaO g1.1 g1.2] at hB hs;obtain ⟨D,hD⟩ : ∃ D:Nat,t.1.toNat=D+1:=⟨t.1.toNat - 1,by omega⟩;rw [hD] at hB hs
   have hlow : ∀ i,i<t.2.2.1->Low D (qaj d (t.2.2.2 i)):=fun i hi=>by
    have:=qbE h hl i hi
    rwa [hD,Nat.add_sub_cancel] at this
   cases d with
   | zero=>
    have:=(g5 0 (by omega)).2;simp [qaM] at this
   | succ d=>
    have hnz : ¬ Sim (qaj (d+1) (t.2.2.2 (t.2.2.1 - 1))) []:=fun hs=>by
     obtain ⟨m,hm⟩:=can_zero _ _ (g5 (t.2.2.1 - 1) (by omega)).2 (ho.2 _ (by omega)) g6;exact hm (hs m)
    obtain ⟨h1,h2⟩:=qbp (by omega) (by omega) hlow hnz hB;obtain ⟨i,hi,u,hu,rfl⟩:=qck hs;have h3:=qg9 B (d+1) (t.2.2.2 i) (g5 i hi).2 (ho.2 i hi) (h2 i hi) u hu k;show (Mo.add u.2 (xp (D+1) (i:Int))).get k<=B;rw [qas,qat _ _ _ (by omega) (by omega)]
    by_cases hk:k=D+1
    ·rw [if_pos hk,hk];have:=hlow i hi u hu (D+1) (by omega) (by omega);omega
    ·rw [if_neg hk];omega
theorem qd4 {B:Nat} {l r:List Tm} (hs:Sim l r) (h:Deg B r):Deg B l:=h.sim hs.symm


theorem qfv (lv:Int):Deg 1 (qdi lv):=by
 unfold qdi
 split
 ·rename_i h;intro m hm k
  have:m=xp lv.toNat 1:=by
   refine Classical.byContradiction fun hc=>hm ?_;simp only [qab];rw [if_neg (fun e=>hc e.symm)];rfl
  rw [this,qat _ _ _ (by omega) (by omega)]
  split <;> omega
 ·intro m hm;exact absurd rfl hm


abbrev M0:Nat->Prop:=fun _=>False
theorem mb0 (w:World):Mb M0 w:=fun _ h=>h.elim


theorem qiA (L n:Nat) (P:Nat->List Tm) (c:Nat) (h : ∀ i,i<n->nrm (P i)<=c):nrm (poly L n P)<=n*c:=by
 induction n with
 | zero=>exact Nat.zero_le _
 | succ n ih=>
  rw [qaf,qai,qaS,Nat.add_mul,Nat.one_mul];have h1:=ih fun i hi=>h i (by omega);have h2:=h n (by omega);omega


section
variable {M M':Nat->Prop} {w w':World} {x:PE} {l:List Tm}
end


section
variable {P:Program} {ops:Array Oper} {Q:Exit->Act->World->Prop} {md:Region.Mode} {S:World->Prop} {last:Nat}
end
section
variable {l m:List Tm} {W0 w w':World} {o7 o8:Option Nat} {ra rb:Option PE} {x y:PE}
end


theorem qr1 (x y:PE) (l r:List Tm) (w:World) (b:Bool) (h:PI M0 w x l) (k:PI M0 w y r) (hb:b=true↔Sim l r):Calls Tryz.prog 16 #[.agg (peA x),.agg (peA y)] w fun e w'=>e = .returned (.bool b)/\Ext w w':=by
 refine (qqc M0 x y l r w (mb0 w) h k).mono ?_;rintro e w' ⟨c,rfl,hc,he⟩
 have:c=b:=by
  cases c <;> cases b <;> simp_all
 exact ⟨by rw [this],he⟩
end Go.Proofs.YtmcfpnmoklnhoaaGreat
