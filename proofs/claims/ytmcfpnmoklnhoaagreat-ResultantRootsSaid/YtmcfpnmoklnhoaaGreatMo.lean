/- integer: values in memory, and the functions. integer: Cmp, Same, Add, Mul, Sum, Of. integer: Mul, Of, Sum. -/
import Derived.Test.YtmcfpnmoklnhoaaGreatMa
import Derived.Deep.RegionHeld3
set_option linter.unusedVariables false
set_option maxRecDepth 100000
set_option maxHeartbeats 400000000
set_option linter.unusedSimpArgs false

namespace Go.Proofs.YtmcfpnmoklnhoaaGreat
open Go.RowKit

def sgn (neg:Bool) (x:Nat):Int:=if neg then -(x:Int) else x
def qbq (M:Nat->Prop) (w:World) (c0 c1:Value) (z:Int):Prop:=∃ (neg:Bool) (x:Nat),c0 = .bool neg/\qcc M w c1 x/\z=sgn neg x
def qbw (M:Nat->Prop) (w:World) (c0 c1:Value) (z:Int):Prop:=qcY M w c1 z.natAbs/\c0 = .bool (decide (z<0))
theorem qa4 (neg:Bool) (x:Nat):(sgn neg x).natAbs=x:=by unfold sgn;split <;> omega
theorem qlC (neg:Bool) (x:Nat):decide (sgn neg x<0)=(neg && decide (0<x)):=by
 unfold sgn;cases neg <;> simp <;> omega
theorem qcc.form {M:Nat->Prop} {w:World} {v:Value} {x:Nat} (h:qcc M w v x) : ∃ a n cap,v = .slice a n cap:=by
 obtain ⟨n,d,hr,_⟩:=h;obtain ⟨a,cap,rfl⟩:=qap hr;exact ⟨_,_,_,rfl⟩
section
variable {M M':Nat->Prop} {w w':World} {c0 c1:Value} {z:Int}
theorem qbq.kp (h:qbq M w c0 c1 z) (he:Kp M w w'):qbq M w' c0 c1 z:=by
 obtain ⟨neg,x,h0,h1,h2⟩:=h;exact ⟨neg,x,h0,h1.kp he,h2⟩
theorem qbw.kp (h:qbw M w c0 c1 z) (he:Kp M w w'):qbw M w' c0 c1 z:=⟨h.1.kp he,h.2⟩
theorem qbq.ext (h:qbq M w c0 c1 z) (he:Ext w w'):qbq M w' c0 c1 z:=h.kp (Kp.of_ext he)
theorem qbw.ext (h:qbw M w c0 c1 z) (he:Ext w w'):qbw M w' c0 c1 z:=h.kp (Kp.of_ext he)
theorem qbq.more (h:qbq M w c0 c1 z) (hm : ∀ g,M' g->M g∨w.heap.size<=g):qbq M' w c0 c1 z:=by
 obtain ⟨neg,x,h0,h1,h2⟩:=h;exact ⟨neg,x,h0,h1.more hm,h2⟩
theorem qbw.more (h:qbw M w c0 c1 z) (hm : ∀ g,M' g->M g∨w.heap.size<=g):qbw M' w c0 c1 z:=⟨h.1.more hm,h.2⟩
theorem qbw.toV (h:qbw M w c0 c1 z):qbq M w c0 c1 z:=by
 refine ⟨_,_,h.2,h.1.toV,?_⟩;unfold sgn
 by_cases hz:z<0
 ·simp [hz];omega
 ·simp [hz];omega
theorem qbq.form (h:qbq M w c0 c1 z) : ∃ b a n cap,c0 = .bool b/\c1 = .slice a n cap:=by
 obtain ⟨neg,x,h0,h1,h2⟩:=h;obtain ⟨a,n,cap,rfl⟩:=h1.form;exact ⟨_,_,_,_,h0,rfl⟩
theorem qbw.form (h:qbw M w c0 c1 z) : ∃ b a n cap,c0 = .bool b/\c1 = .slice a n cap:=h.toV.form
end
theorem qbw.zero (M:Nat->Prop) (w:World):qbw M w (.bool false) (.slice none 0 0) 0:=⟨qcY.nil M w,rfl⟩

theorem qcB {M : Nat -> Prop} (neg : Bool) (v : Value) (x : Nat) (w : World) (h : qcY M w v x) :
  Calls Tryz.prog 122 #[.bool neg,v] w fun e w'=>∃ c0,e = .returned (.agg #[c0,v])/\qbw M w' c0 v (sgn neg x)/\Ext w w':=by
 obtain ⟨n,d,hr,hx,hc⟩:=h
 have HN:Hid (qbw M w (.bool (neg && decide (0<n))) v (sgn neg x)):=by
  refine ⟨by rw [qa4];exact ⟨n,d,hr,hx,hc⟩,?_⟩;rw [qlC]
  have h0:(0<n)↔(0<x):=by
   have h1:=qgT d n hr.2.1 hc;rw [hx] at h1;have h2:=@qh1 x;omega
  simp [h0]
 obtain ⟨a,cap,rfl⟩:=qap hr;clear hr hx hc
 by_cases h0:0<n
 ·have hb:(neg && decide (0<n))=neg:=by simp [h0]
  rw [hb] at HN;clear hb;cases neg
  ·go_enter Tryz.func122,Tryz.ntmps122
   go_wp2;exact bodyPost_ret (v:=.agg #[.bool false,.slice a n cap]) (by simp [results,Tryz.results122,go_sem]) rfl ⟨_,rfl,HN.out.ext ((Ext.refl _).alloc _),(Ext.refl _).alloc _⟩
  ·go_enter Tryz.func122,Tryz.ntmps122
   go_wp2;exact bodyPost_ret (v:=.agg #[.bool true,.slice a n cap]) (by simp [results,Tryz.results122,go_sem]) rfl ⟨_,rfl,HN.out.ext ((Ext.refl _).alloc _),(Ext.refl _).alloc _⟩
 ·have h0':n=0:=by omega
  subst h0'
  have hb:(neg && decide (0<0))=false:=by simp
  rw [hb] at HN;clear hb h0;cases neg
  ·go_enter Tryz.func122,Tryz.ntmps122
   go_wp2;exact bodyPost_ret (v:=.agg #[.bool false,.slice a 0 cap]) (by simp [results,Tryz.results122,go_sem]) rfl ⟨_,rfl,HN.out.ext ((Ext.refl _).alloc _),(Ext.refl _).alloc _⟩
  ·go_enter Tryz.func122,Tryz.ntmps122
   go_wp2;exact bodyPost_ret (v:=.agg #[.bool false,.slice a 0 cap]) (by simp [results,Tryz.results122,go_sem]) rfl ⟨_,rfl,HN.out.ext ((Ext.refl _).alloc _),(Ext.refl _).alloc _⟩
theorem qgL {M' : Nat -> Prop} {w W : World} {g : Nat} {t : TypeId} {f : Nat -> Value} (A B : Value) (hB : Blk W g t 2 f) (hg : M' g) (hw : w.heap.size <= g) (he : Ext w W) :
  (W.cell? ⟨g,0,none⟩=some (f 0)/\W.cell? ⟨g,1,none⟩=some (f 1)/\W.frozen? ⟨g,0,none⟩=false/\W.frozen? ⟨g,1,none⟩=false) /\
  (((W.setCell ⟨g,0,none⟩ A).setCell ⟨g,1,none⟩ B).cell? ⟨g,0,none⟩=some A/\((W.setCell ⟨g,0,none⟩ A).setCell ⟨g,1,none⟩ B).cell? ⟨g,1,none⟩=some B) /\
  Kp M' W ((W.setCell ⟨g,0,none⟩ A).setCell ⟨g,1,none⟩ B)/\Ext w ((W.setCell ⟨g,0,none⟩ A).setCell ⟨g,1,none⟩ B):=by
 have hB3:=(hB.set 0 A).set 1 B;refine ⟨⟨hB.cell (by omega),hB.cell (by omega),hB.frozen 0,hB.frozen 1⟩,⟨?_,?_⟩,(Kp.set _ _ hg _).trans (Kp.set _ _ hg _),(he.set hw _).set hw _⟩
 ·rw [hB3.cell (i:=0) (by omega)];simp [upd]
 ·rw [hB3.cell (i:=1) (by omega)];simp [upd]
theorem qgK {M : Nat -> Prop} (neg : Bool) (v : Value) (x : Nat) (w : World) (hM : Mb M w) (h : qcc M w v x) :
  Calls Tryz.prog 149 #[.bool neg,v] w fun e w'=>∃ c0 c1,e = .returned (.agg #[c0,c1])/\qbw M w' c0 c1 (sgn neg x)/\Ext w w':=by
 have hM1:Mb (Mx M w.heap.size (w.heap.size+1)) (w.alloc (.cells #[.bool false,.slice none 0 0] 30)):=Mx.mb hM (by simp) (by simp);have h1:=(h.more (M':=Mx M w.heap.size (w.heap.size+1)) (Mx.more (Nat.le_refl _))).ext ((Ext.refl w).alloc (.cells #[.bool false,.slice none 0 0] 30));have hB:=Blk.of_arr w #[.bool false,.slice none 0 0] 30 2 rfl
 go_enter Tryz.func149,Tryz.ntmps149
 go_wp2_with (fail);refine (qbu v x _ hM1 h1).mono ?_;rintro e w1 ⟨u,rfl,hu,he1⟩;go_wp2_with (fail);refine (qcB neg u x _ hu).mono ?_;rintro e w2 ⟨c0,rfl,hc,he2⟩;obtain ⟨b,a,n,cap,rfl,rfl⟩:=hc.form;have he:=he1.trans he2;obtain ⟨⟨q0,q1,f0,f1⟩,⟨r0,r1⟩,hk,hf⟩:=qgL (M':=Mx M w.heap.size (w.heap.size+1)) (w:=w) (.bool b) (.slice a n cap) (hB.ext he) (Mx.at (by simp)) (Nat.le_refl _) (((Ext.refl w).alloc _).trans he);have hfin:=(hc.kp hk).more (M':=M) Mx.less;clear hB he1 he2 he hk;go_wp2;exact bodyPost_ret (v:=.agg #[.bool b,.slice a n cap]) (by simp [results,Tryz.results149,go_sem,r0,r1]) rfl ⟨_,_,rfl,hfin,hf⟩
theorem qde {M : Nat -> Prop} (c0 c1 : Value) (z : Int) (w : World) (hM : Mb M w) (h : qbq M w c0 c1 z) :
  Calls Tryz.prog 101 #[.agg #[c0,c1]] w fun e w'=>∃ d0 d1,e = .returned (.agg #[d0,d1])/\qbw M w' d0 d1 z/\Ext w w':=by
 obtain ⟨neg,x,rfl,hx,rfl⟩:=h;have hM1:Mb (Mx M w.heap.size (w.heap.size+2)) ((w.alloc (.cells #[.bool neg,c1] 30)).alloc (.cells #[.bool false,.slice none 0 0] 30)):=Mx.mb hM (by simp;omega) (by simp);have hx1:=(hx.more (M':=Mx M w.heap.size (w.heap.size+2)) (Mx.more (Nat.le_refl _))).ext (((Ext.refl w).alloc (.cells #[.bool neg,c1] 30)).alloc (.cells #[.bool false,.slice none 0 0] 30));have hB:=Blk.of_arr (w.alloc (.cells #[.bool neg,c1] 30)) #[.bool false,.slice none 0 0] 30 2 rfl;obtain ⟨a1,n1,cap1,rfl⟩:=hx.form
 go_enter Tryz.func101,Tryz.ntmps101
 go_wp2_with (fail);refine (qgK neg _ x _ hM1 hx1).mono ?_;rintro e w1 ⟨d0,d1,rfl,hc,he⟩;obtain ⟨b,a,n,cap,rfl,rfl⟩:=hc.form;simp only [World.size_alloc] at hB;obtain ⟨⟨q0,q1,f0,f1⟩,⟨r0,r1⟩,hk,hf⟩:=qgL (M':=Mx M w.heap.size (w.heap.size+2)) (w:=w) (.bool b) (.slice a n cap) (hB.ext he) (Mx.at (by omega)) (by omega) ((((Ext.refl w).alloc _).alloc _).trans he);have hfin:=(hc.kp hk).more (M':=M) Mx.less;clear hB he hk;go_wp2;exact bodyPost_ret (v:=.agg #[.bool b,.slice a n cap]) (by simp [results,Tryz.results101,go_sem,r0,r1]) rfl ⟨_,_,rfl,hfin,hf⟩
theorem qdd {M : Nat -> Prop} (c0 c1 : Value) (z : Int) (w : World) (h : qbq M w c0 c1 z) :
  Calls Tryz.prog 28 #[.agg #[c0,c1]] w fun e w'=>e = .returned (.int .i64 z.sign)/\Ext w w':=by
 obtain ⟨neg,x,rfl,hx,rfl⟩:=h;have hx1:=hx.ext ((Ext.refl w).alloc (.cells #[.bool neg,c1] 30));obtain ⟨a1,n1,cap1,rfl⟩:=hx.form
 by_cases h0:x=0
 ·have hs:(sgn neg x).sign=0:=by subst h0;cases neg <;> rfl
  have HS:=Lib.hid hs
  have hd:decide (x=0)=true:=by simp [h0]
  clear hs h0
  go_enter Tryz.func28,Tryz.ntmps28
  go_wp2_with (fail);refine (qbN _ x _ hx1).mono ?_;rintro e w1 ⟨rfl,rfl⟩;go_wp2;go_ret;exact ⟨by rw [HS.out];rfl,(Ext.refl w).alloc _⟩
 ·have hd:decide (x=0)=false:=by simp [h0]
  cases neg
  ·have hs:(sgn false x).sign=1:=by unfold sgn;simp;omega
   have HS:=Lib.hid hs;clear hs h0
   go_enter Tryz.func28,Tryz.ntmps28
   go_wp2_with (fail);refine (qbN _ x _ hx1).mono ?_;rintro e w1 ⟨rfl,rfl⟩;go_wp2;go_ret;exact ⟨by rw [HS.out];rfl,(Ext.refl w).alloc _⟩
  ·have hs:(sgn true x).sign = -1:=by unfold sgn;simp;omega
   have HS:=Lib.hid hs;clear hs h0
   go_enter Tryz.func28,Tryz.ntmps28
   go_wp2_with (fail);refine (qbN _ x _ hx1).mono ?_;rintro e w1 ⟨rfl,rfl⟩;go_wp2;go_ret;exact ⟨by rw [HS.out];rfl,(Ext.refl w).alloc _⟩


def qcX (a b:Int):Int:=if a<b then -1 else if b<a then 1 else 0
theorem qiU (x y:Nat):qev y x=qcX (sgn true x) (sgn true y):=by
 unfold qev qcX sgn;simp only [if_true,Int.neg_lt_neg_iff,Int.ofNat_lt]
theorem qiV (x y:Nat):qev x y=qcX (sgn false x) (sgn false y):=by
 unfold qev qcX sgn;simp only [Bool.false_eq_true,if_false,Int.ofNat_lt]
theorem qlB {a b:Int} (h:a.sign<b.sign):a<b:=by
 rcases Int.lt_trichotomy a 0 with ha | ha | ha <;> rcases Int.lt_trichotomy b 0 with hb | hb | hb <;> simp [Int.sign_eq_neg_one_of_neg,Int.sign_eq_one_of_pos,ha,hb] at h <;> omega
theorem qee {a b:Int} (h:a<b):qcX a b = -1:=by unfold qcX;rw [if_pos h]
theorem qef {a b:Int} (h:b<a):qcX a b=1:=by unfold qcX;rw [if_neg (by omega),if_pos h]
theorem qek {b:Bool} {x:Nat} (h:(sgn b x).sign<0):b=true:=by
 cases b
 ·exfalso
  have h2:0<=sgn false x:=by unfold sgn;simp
  have:=Int.sign_nonneg_iff.2 h2;omega
 ·rfl
theorem qej {b:Bool} {x:Nat} (h:0<=(sgn b x).sign):sgn b x=sgn false x:=by
 cases b
 ·rfl
 ·have:=Int.sign_nonneg_iff.1 h;unfold sgn at *;simp at *;omega
theorem kc {a b:World} (h:Ext a b) {g o:Nat} {v:Value} (hc:a.cell? ⟨g,o,none⟩=some v):b.cell? ⟨g,o,none⟩=some v:=by
 rw [h.cell (World.block_lt_of_cell? a ⟨g,o,none⟩ hc)];exact hc
theorem ks {w:World} {g k b o:Nat} {u v:Value} (hne:b≠g) (hc:w.cell? ⟨b,o,none⟩=some v):(w.setCell ⟨g,k,none⟩ u).cell? ⟨b,o,none⟩=some v:=by
 rw [World.cell?_of_block (w:=w) (Below.heap_setCell w ⟨g,k,none⟩ u b hne)];exact hc
theorem qeM {W a b:World} (h0:Ext W a) (h:Ext a b) {g o:Nat} {v:Value} (hg:g<W.heap.size) (hc:a.cell? ⟨g,o,none⟩=some v):b.cell? ⟨g,o,none⟩=some v:=by
 rw [h.cell (Nat.lt_of_lt_of_le hg h0.size)];exact hc

theorem qqI {M : Nat -> Prop} (c0 c1 d0 d1 : Value) (y z : Int) (w : World) (h : qbq M w c0 c1 y) (h' : qbq M w d0 d1 z) :
  Calls Tryz.prog 80 #[.agg #[c0,c1],.agg #[d0,d1]] w fun e w'=>e = .returned (.int .i64 (qcX y z))/\Ext w w':=by
 obtain ⟨b1,a1,n1,p1,rfl,rfl⟩:=h.form;obtain ⟨b2,a2,n2,p2,rfl,rfl⟩:=h'.form;have E0:Hid (Ext w ((w.alloc (.cells #[.bool b1,.slice a1 n1 p1] 30)).alloc (.cells #[.bool b2,.slice a2 n2 p2] 30))):=((Ext.refl w).alloc _).alloc _
 go_enter Tryz.func80,Tryz.ntmps80
 go_upto_region 1 with (fail)
 go_cut [5,6] (fun s5 s6 wx=>s5 = .int .i64 y.sign/\s6 = .int .i64 z.sign/\Hid (Ext ((w.alloc (.cells #[.bool b1,.slice a1 n1 p1] 30)).alloc (.cells #[.bool b2,.slice a2 n2 p2] 30)) wx))
 case first=>
  go_region_held3 (fun w'=>Ext ((w.alloc (.cells #[.bool b1,.slice a1 n1 p1] 30)).alloc (.cells #[.bool b2,.slice a2 n2 p2] 30)) w'/\w'.cell? ⟨w.heap.size,0,none⟩=some (.bool b1)/\w'.cell? ⟨w.heap.size,1,none⟩=some (.slice a1 n1 p1)/\w'.cell? ⟨w.heap.size+1,0,none⟩=some (.bool b2)/\w'.cell? ⟨w.heap.size+1,1,none⟩=some (.slice a2 n2 p2))
   (first | (go_split_ands;exact ⟨Ext.trans (by assumption) he1,qeM (by assumption) he1 (by simp;try omega) (by assumption),qeM (by assumption) he1 (by simp;try omega) (by assumption),qeM (by assumption) he1 (by simp;try omega) (by assumption),qeM (by assumption) he1 (by simp;try omega) (by assumption)⟩) | (exact ⟨(Ext.refl _).drew,by simp [go_sem],by simp [go_sem],by simp [go_sem],by simp [go_sem]⟩) | go_keep)
   (first | (go_at_call_of 28 (Value.agg #[.bool b1,.slice a1 n1 p1]);refine (qdd _ _ y _ (h.ext ?_)).mono ?_;(go_split_ands;exact E0.out.trans (by assumption));rintro e w1 ⟨rfl,he1⟩) | (go_at_call_of 28 (Value.agg #[.bool b2,.slice a2 n2 p2]);refine (qdd _ _ z _ (h'.ext ?_)).mono ?_;(go_split_ands;exact E0.out.trans (by assumption));rintro e w1 ⟨rfl,he1⟩))
  all_goals (go_wp2_with fail;go_meet;go_split_ands;exact ⟨rfl,rfl,by show Ext _ _;assumption⟩)
 case rest=>
  obtain ⟨rfl,rfl,hx⟩:=hcut;have he:=hx.out;have e1:=h.ext (E0.out.trans he);have e2:=h'.ext (E0.out.trans he);obtain ⟨hcc,hff⟩:=qhc he;have hfin:=E0.out.trans he;obtain ⟨neg1,x1,hn1,hx1,rfl⟩:=e1;obtain ⟨neg2,x2,hn2,hx2,rfl⟩:=e2;simp only [Value.bool.injEq] at hn1 hn2;subst hn1 hn2;clear hx h h' E0;have S1:=qa4 b1 x1;have S2:=qa4 b2 x2;rcases Int.lt_trichotomy (sgn b1 x1).sign (sgn b2 x2).sign with hl | he' | hg
  ·have HC:Hid (qcX (sgn b1 x1) (sgn b2 x2) = -1):=qee (qlB hl);clear S1 S2;go_wp2;go_ret;exact ⟨by rw [HC.out];rfl,hfin⟩
  ·have l1:(sgn b1 x1).sign<=(sgn b2 x2).sign:=by omega
   have l2:(sgn b2 x2).sign<=(sgn b1 x1).sign:=by omega
   clear he'
   by_cases hneg:(sgn b1 x1).sign<0
   ·have HC : Hid (qev x2 x1 = qcX (sgn b1 x1) (sgn b2 x2)) := by
     show _=_;rw [qek hneg,qek (x:=x2) (b:=b2) (by omega)];exact qiU x1 x2
    clear S1 S2;go_wp2_with (fail);refine (qcK _ _ x2 x1 _ hx2 hx1).mono ?_;rintro e w1 ⟨rfl,he1⟩;go_wp2;go_ret;exact ⟨by rw [<- HC.out];rfl,hfin.trans he1⟩
   ·have HC : Hid (qev x1 x2 = qcX (sgn b1 x1) (sgn b2 x2)) := by
     show _=_;rw [qej (b:=b1) (x:=x1) (by omega),qej (b:=b2) (x:=x2) (by omega)];exact qiV x1 x2
    clear S1 S2;go_wp2_with (fail);refine (qcK _ _ x1 x2 _ hx1 hx2).mono ?_;rintro e w1 ⟨rfl,he1⟩;go_wp2;go_ret;exact ⟨by rw [<- HC.out];rfl,hfin.trans he1⟩
  ·have HC:Hid (qcX (sgn b1 x1) (sgn b2 x2)=1):=qef (qlB hg)
   have hg' : ¬ (sgn b1 x1).sign<(sgn b2 x2).sign:=by omega
   clear S1 S2;go_wp2;go_ret;exact ⟨by rw [HC.out];rfl,hfin⟩
theorem qgI {M : Nat -> Prop} (c0 c1 d0 d1 : Value) (y z : Int) (w : World) (h : qbq M w c0 c1 y) (h' : qbq M w d0 d1 z) :
  Calls Tryz.prog 25 #[.agg #[c0,c1],.agg #[d0,d1]] w fun e w'=>e = .returned (.bool (decide (y=z)))/\Ext w w':=by
 obtain ⟨b1,a1,n1,p1,rfl,rfl⟩:=h.form;obtain ⟨b2,a2,n2,p2,rfl,rfl⟩:=h'.form;have hE:Ext w ((w.alloc (.cells #[.bool b1,.slice a1 n1 p1] 30)).alloc (.cells #[.bool b2,.slice a2 n2 p2] 30)):=((Ext.refl w).alloc _).alloc _;have e1:=h.ext hE;have e2:=h'.ext hE
 have HC:Hid ((qcX y z == 0)=decide (y=z)):=by
  show _=_;unfold qcX
  by_cases h1:y<z
  ·simp [h1];omega
  ·by_cases h2:z<y
   ·simp [h1,h2];omega
   ·simp [h1,h2];omega
 go_enter Tryz.func25,Tryz.ntmps25
 go_wp2_with (fail);refine (qqI _ _ _ _ y z _ e1 e2).mono ?_;rintro e w1 ⟨rfl,he1⟩;go_wp2;go_ret;exact ⟨by rw [<- HC.out];rfl,hE.trans he1⟩

theorem qiH {M : Nat -> Prop} (c0 c1 d0 d1 : Value) (y z : Int) (w : World) (hM : Mb M w) (h : qbq M w c0 c1 y) (h' : qbq M w d0 d1 z) (hL : dlen (y.natAbs + z.natAbs) <= 1099511627776) :
  Calls Tryz.prog 124 #[.agg #[c0,c1],.agg #[d0,d1]] w fun e w'=>∃ e0 e1,e = .returned (.agg #[e0,e1])/\qbw M w' e0 e1 (y+z)/\Ext w w':=by
 obtain ⟨b1,x1,rfl,hx1,rfl⟩:=h;obtain ⟨b2,x2,rfl,hx2,rfl⟩:=h';obtain ⟨a1,n1,p1,rfl⟩:=hx1.form;obtain ⟨a2,n2,p2,rfl⟩:=hx2.form;rw [qa4,qa4] at hL;have hE:Ext w (((w.alloc (.cells #[.bool b1,.slice a1 n1 p1] 30)).alloc (.cells #[.bool b2,.slice a2 n2 p2] 30)).alloc (.cells #[.bool false,.slice none 0 0] 30)):=(((Ext.refl w).alloc _).alloc _).alloc _;have hM1:Mb (Mx M w.heap.size (w.heap.size+3)) (((w.alloc (.cells #[.bool b1,.slice a1 n1 p1] 30)).alloc (.cells #[.bool b2,.slice a2 n2 p2] 30)).alloc (.cells #[.bool false,.slice none 0 0] 30)):=Mx.mb hM (by simp;omega) (by simp);have e1:=(hx1.more (M':=Mx M w.heap.size (w.heap.size+3)) (Mx.more (Nat.le_refl _))).ext hE;have e2:=(hx2.more (M':=Mx M w.heap.size (w.heap.size+3)) (Mx.more (Nat.le_refl _))).ext hE;have hB:=Blk.of_arr ((w.alloc (.cells #[.bool b1,.slice a1 n1 p1] 30)).alloc (.cells #[.bool b2,.slice a2 n2 p2] 30)) #[.bool false,.slice none 0 0] 30 2 rfl;simp only [World.size_alloc] at hB
 by_cases hbb:b1=b2
 ·subst hbb
  have HS:Hid (sgn b1 (x1+x2)=sgn b1 x1+sgn b1 x2):=by show _=_;unfold sgn;cases b1 <;> simp <;> omega
  go_enter Tryz.func124,Tryz.ntmps124
  go_upto_region 2 with (fail)
  go_region_held3 (fun w'=>w'.cell? ⟨w.heap.size,0,none⟩=some (.bool b1)/\w'.cell? ⟨w.heap.size,1,none⟩=some (.slice a1 n1 p1)/\w'.cell? ⟨w.heap.size+1,1,none⟩=some (.slice a2 n2 p2))
   (first | (((go_split_ands;(repeat' apply And.intro)) <;> (first | exact kc he1 (by assumption) | ((repeat (refine ks (by omega) ?_));assumption)));done) | go_keep)
   (first | (go_at_call 160;refine (qeJ _ _ x1 x2 _ (hM1.ext (Ext.refl _).drew) (e1.ext (Ext.refl _).drew) (e2.ext (Ext.refl _).drew) hL).mono ?_;rintro e w1 ⟨u,rfl,hu,he1⟩;have heA:=he1) | (go_at_call 122;refine (qcB b1 _ _ _ hu).mono ?_;rintro e w2 ⟨d0,rfl,hc,he1⟩;obtain ⟨b,a,n,cap,rfl,rfl⟩:=hc.form;obtain ⟨⟨q0,q1,f0,f1⟩,⟨r0,r1⟩,hk,hf⟩:=qgL (M':=Mx M w.heap.size (w.heap.size+3)) (w:=w) (.bool b) (.slice a n cap) (hB.ext ((((Ext.refl _).drew).trans heA).trans he1)) (Mx.at (by omega)) (by omega) (hE.trans ((((Ext.refl _).drew).trans heA).trans he1))))
  have hfin:=(hc.kp hk).more (M':=M) Mx.less;rw [HS.out] at hfin;clear hB hk;go_wp2;exact bodyPost_ret (v:=.agg #[.bool b,.slice a n cap]) (by simp [results,Tryz.results124,go_sem,r0,r1]) rfl ⟨_,_,rfl,hfin,hf⟩
 ·have hbb':(b1 == b2)=false:=by cases b1 <;> cases b2 <;> simp_all
  rcases Nat.lt_or_ge x1 x2 with hlt | hge
  ·have HS:Hid (sgn b2 (x2 - x1)=sgn b1 x1+sgn b2 x2):=by show _=_;unfold sgn;cases b1 <;> cases b2 <;> simp_all <;> omega
   have hcn : ¬ (0<=qev x1 x2):=by rw [qg4 hlt];omega
   clear hbb
   go_enter Tryz.func124,Tryz.ntmps124
   go_wp2_with (fail);refine (qcK _ _ x1 x2 _ e1 e2).mono ?_;rintro e w1 ⟨rfl,he1⟩;obtain ⟨k1,k2⟩:=qhc he1;go_wp2_with (fail);refine (qgE _ _ x2 x1 _ (hM1.ext he1) (e2.ext he1) (e1.ext he1) (by omega)).mono ?_;rintro e w2 ⟨u,rfl,hu,he2⟩;have he12:=he1.trans he2;clear k1 k2;obtain ⟨k1,k2⟩:=qhc he12;go_wp2_with (fail);refine (qcB b2 _ _ _ hu).mono ?_;rintro e w3 ⟨d0,rfl,hc,he3⟩;obtain ⟨b,a,n,cap,rfl,rfl⟩:=hc.form;have he123:=he12.trans he3;clear k1 k2;obtain ⟨⟨q0,q1,f0,f1⟩,⟨r0,r1⟩,hk,hf⟩:=qgL (M':=Mx M w.heap.size (w.heap.size+3)) (w:=w) (.bool b) (.slice a n cap) (hB.ext he123) (Mx.at (by omega)) (by omega) (hE.trans he123);have hfin:=(hc.kp hk).more (M':=M) Mx.less;rw [HS.out] at hfin;clear hB hk;go_wp2;exact bodyPost_ret (v:=.agg #[.bool b,.slice a n cap]) (by simp [results,Tryz.results124,go_sem,r0,r1]) rfl ⟨_,_,rfl,hfin,hf⟩
  ·have HS:Hid (sgn b1 (x1 - x2)=sgn b1 x1+sgn b2 x2):=by show _=_;unfold sgn;cases b1 <;> cases b2 <;> simp_all <;> omega
   have hcn:0<=qev x1 x2:=by unfold qev;rw [if_neg (by omega)];split <;> omega
   clear hbb
   go_enter Tryz.func124,Tryz.ntmps124
   go_wp2_with (fail);refine (qcK _ _ x1 x2 _ e1 e2).mono ?_;rintro e w1 ⟨rfl,he1⟩;obtain ⟨k1,k2⟩:=qhc he1;go_wp2_with (fail);refine (qgE _ _ x1 x2 _ (hM1.ext he1) (e1.ext he1) (e2.ext he1) (by omega)).mono ?_;rintro e w2 ⟨u,rfl,hu,he2⟩;have he12:=he1.trans he2;clear k1 k2;obtain ⟨k1,k2⟩:=qhc he12;go_wp2_with (fail);refine (qcB b1 _ _ _ hu).mono ?_;rintro e w3 ⟨d0,rfl,hc,he3⟩;obtain ⟨b,a,n,cap,rfl,rfl⟩:=hc.form;have he123:=he12.trans he3;clear k1 k2;obtain ⟨⟨q0,q1,f0,f1⟩,⟨r0,r1⟩,hk,hf⟩:=qgL (M':=Mx M w.heap.size (w.heap.size+3)) (w:=w) (.bool b) (.slice a n cap) (hB.ext he123) (Mx.at (by omega)) (by omega) (hE.trans he123);have hfin:=(hc.kp hk).more (M':=M) Mx.less;rw [HS.out] at hfin;clear hB hk;go_wp2;exact bodyPost_ret (v:=.agg #[.bool b,.slice a n cap]) (by simp [results,Tryz.results124,go_sem,r0,r1]) rfl ⟨_,_,rfl,hfin,hf⟩


theorem qp6 (b1 b2:Bool) (x1 x2:Nat):sgn (b1 != b2) (x1*x2)=sgn b1 x1*sgn b2 x2:=by
 unfold sgn;cases b1 <;> cases b2 <;> simp [Int.natCast_mul,Int.neg_mul,Int.mul_neg]
theorem qmr {M : Nat -> Prop} (c0 c1 d0 d1 : Value) (y z : Int) (w : World) (hM : Mb M w) (h : qbq M w c0 c1 y) (h' : qbq M w d0 d1 z) (hL : dlen y.natAbs + dlen z.natAbs <= 1099511627776) :
  Calls Tryz.prog 65 #[.agg #[c0,c1],.agg #[d0,d1]] w fun e w'=>∃ e0 e1,e = .returned (.agg #[e0,e1])/\qbw M w' e0 e1 (y*z)/\Ext w w':=by
 obtain ⟨b1,x1,rfl,hx1,rfl⟩:=h;obtain ⟨b2,x2,rfl,hx2,rfl⟩:=h';obtain ⟨a1,n1,p1,rfl⟩:=hx1.form;obtain ⟨a2,n2,p2,rfl⟩:=hx2.form;rw [qa4,qa4] at hL;have hE:Ext w (((w.alloc (.cells #[.bool b1,.slice a1 n1 p1] 30)).alloc (.cells #[.bool b2,.slice a2 n2 p2] 30)).alloc (.cells #[.bool false,.slice none 0 0] 30)):=(((Ext.refl w).alloc _).alloc _).alloc _;have hM1:Mb (Mx M w.heap.size (w.heap.size+3)) (((w.alloc (.cells #[.bool b1,.slice a1 n1 p1] 30)).alloc (.cells #[.bool b2,.slice a2 n2 p2] 30)).alloc (.cells #[.bool false,.slice none 0 0] 30)):=Mx.mb hM (by simp;omega) (by simp);have e1:=(hx1.more (M':=Mx M w.heap.size (w.heap.size+3)) (Mx.more (Nat.le_refl _))).ext hE;have e2:=(hx2.more (M':=Mx M w.heap.size (w.heap.size+3)) (Mx.more (Nat.le_refl _))).ext hE;have hB:=Blk.of_arr ((w.alloc (.cells #[.bool b1,.slice a1 n1 p1] 30)).alloc (.cells #[.bool b2,.slice a2 n2 p2] 30)) #[.bool false,.slice none 0 0] 30 2 rfl;simp only [World.size_alloc] at hB;have HS:Hid (sgn (b1 != b2) (x1*x2)=sgn b1 x1*sgn b2 x2):=qp6 b1 b2 x1 x2
 go_enter Tryz.func65,Tryz.ntmps65
 go_upto_region 1 with (fail)
 go_region_held3 (fun w'=>w'.cell? ⟨w.heap.size,0,none⟩=some (.bool b1)/\w'.cell? ⟨w.heap.size,1,none⟩=some (.slice a1 n1 p1)/\w'.cell? ⟨w.heap.size+1,0,none⟩=some (.bool b2)/\w'.cell? ⟨w.heap.size+1,1,none⟩=some (.slice a2 n2 p2))
  (first | (((go_split_ands;(repeat' apply And.intro)) <;> (first | exact kc he1 (by assumption) | ((repeat (refine ks (by omega) ?_));assumption)));done) | go_keep)
  (first | (go_at_call 123;refine (qoj _ _ x1 x2 _ (hM1.ext (Ext.refl _).drew) (e1.ext (Ext.refl _).drew) (e2.ext (Ext.refl _).drew) hL).mono ?_;rintro e w1 ⟨u,rfl,hu,he1⟩;have heA:=he1) | (go_at_call 122;refine (qcB (b1 != b2) _ _ _ hu).mono ?_;rintro e w2 ⟨d0,rfl,hc,he1⟩;obtain ⟨b,a,n,cap,rfl,rfl⟩:=hc.form;obtain ⟨⟨q0,q1,f0,f1⟩,⟨r0,r1⟩,hk,hf⟩:=qgL (M':=Mx M w.heap.size (w.heap.size+3)) (w:=w) (.bool b) (.slice a n cap) (hB.ext ((((Ext.refl _).drew).trans heA).trans he1)) (Mx.at (by omega)) (by omega) (hE.trans ((((Ext.refl _).drew).trans heA).trans he1))))
 have hfin:=(hc.kp hk).more (M':=M) Mx.less;rw [HS.out] at hfin;clear hB hk;go_wp2;exact bodyPost_ret (v:=.agg #[.bool b,.slice a n cap]) (by simp [results,Tryz.results65,go_sem,r0,r1]) rfl ⟨_,_,rfl,hfin,hf⟩
theorem qer {M : Nat -> Prop} (z : Int) (w : World) (hM : Mb M w) (h1 : -9223372036854775808 <= z) (h2 : z <= 9223372036854775807) :
  Calls Tryz.prog 22 #[.int .i64 z] w fun e w'=>∃ e0 e1,e = .returned (.agg #[e0,e1])/\qbw M w' e0 e1 z/\Ext w w':=by
 have hM1:Mb (Mx M w.heap.size (w.heap.size+1)) (w.alloc (.cells #[.bool false,.slice none 0 0] 30)):=Mx.mb hM (by simp) (by simp);have hB:=Blk.of_arr w #[.bool false,.slice none 0 0] 30 2 rfl;have hE:Ext w (w.alloc (.cells #[.bool false,.slice none 0 0] 30)):=(Ext.refl w).alloc _
 by_cases hz:z<0
 ·go_enter Tryz.func22,Tryz.ntmps22
  go_wp2_with (fail);rw [show IntKind.u64.wrap (-IntKind.u64.wrap z)=((z.natAbs:Nat):Int) from by rw [IntKind.wrap_u64,IntKind.wrap_u64];omega];refine (qme z.natAbs _ hM1 (by omega)).mono ?_;rintro e w1 ⟨u,rfl,hu,he1⟩;obtain ⟨a,n,cap,rfl⟩:=hu.toV.form;obtain ⟨⟨q0,q1,f0,f1⟩,⟨r0,r1⟩,hk,hf⟩:=qgL (M':=Mx M w.heap.size (w.heap.size+1)) (w:=w) (.bool true) (.slice a n cap) (hB.ext he1) (Mx.at (by omega)) (by omega) (hE.trans he1);have hc:qbw _ w1 (.bool true) (.slice a n cap) z:=⟨hu,by simp [hz]⟩;have hfin:=(hc.kp hk).more (M':=M) Mx.less;clear hB hk hc;go_wp2;exact bodyPost_ret (v:=.agg #[.bool true,.slice a n cap]) (by simp [results,Tryz.results22,go_sem,r0,r1]) rfl ⟨_,_,rfl,hfin,hf⟩
 ·obtain ⟨x,rfl⟩ : ∃ x:Nat,z=x:=⟨z.toNat,by omega⟩
  have hd:decide ((x:Int)<0)=false:=by simp
  go_enter Tryz.func22,Tryz.ntmps22
  go_wp2_with (fail);refine (qme x _ hM1 (by omega)).mono ?_;rintro e w1 ⟨u,rfl,hu,he1⟩;obtain ⟨a,n,cap,rfl⟩:=hu.toV.form;obtain ⟨⟨q0,q1,f0,f1⟩,⟨r0,r1⟩,hk,hf⟩:=qgL (M':=Mx M w.heap.size (w.heap.size+1)) (w:=w) (.bool false) (.slice a n cap) (hB.ext he1) (Mx.at (by omega)) (by omega) (hE.trans he1);have hc:qbw _ w1 (.bool false) (.slice a n cap) (x:Int):=⟨hu,by rw [hd]⟩;have hfin:=(hc.kp hk).more (M':=M) Mx.less;clear hB hk hc;go_wp2;exact bodyPost_ret (v:=.agg #[.bool false,.slice a n cap]) (by simp [results,Tryz.results22,go_sem,r0,r1]) rfl ⟨_,_,rfl,hfin,hf⟩

def qpM (M:Nat->Prop) (w:World) (v:Value) (n:Nat) (z:Nat->Int):Prop:=
 n<=1099511627776/\((v = .slice none 0 0/\n=0) ∨ ∃ (b off cap:Nat) (c0 c1:Nat->Value),v = .slice (some ⟨b,off,none⟩) n cap/\n<=cap/\cap<=maxLen/\b<w.heap.size /\
  ∀ i,i<n->w.cell? ⟨b,off+i*2,none⟩=some (c0 i)/\w.cell? ⟨b,off+i*2+1,none⟩=some (c1 i)/\qbq M w (c0 i) (c1 i) (z i))
def qld (z:Nat->Int):Nat->Int
 | 0=>0
 | n+1=>qld z n+z n
def qk6 (z:Nat->Int):Nat->Nat
 | 0=>0
 | n+1=>qk6 z n+(z n).natAbs
theorem qpP (z:Nat->Int) (n:Nat):(qld z n).natAbs<=qk6 z n:=by
 induction n with
 | zero=>simp [qld,qk6]
 | succ n ih=>simp only [qld,qk6];omega
theorem qlf (z:Nat->Int) {m n:Nat} (h:m<=n):qk6 z m<=qk6 z n:=by
 induction n with
 | zero => have : m = 0 := by omega
           subst this;exact Nat.le_refl _
 | succ n ih=>
  by_cases hm:m=n+1
  ·subst hm;exact Nat.le_refl _
  ·have:=ih (by omega);simp only [qk6];omega
theorem qqH {M : Nat -> Prop} (v : Value) (n : Nat) (z : Nat -> Int) (w : World) (hM : Mb M w) (h : qpM M w v n z) (hL : dlen (qk6 z n) <= 1099511627776) :
  Calls Tryz.prog 145 #[v] w fun e w'=>∃ e0 e1,e = .returned (.agg #[e0,e1])/\qbw M w' e0 e1 (qld z n)/\Ext w w':=by
 have hE:Ext w ((w.alloc (.cells #[.bool false,.slice none 0 0] 30)).alloc (.cells #[.bool false,.slice none 0 0] 30)):=((Ext.refl w).alloc _).alloc _;obtain ⟨hnL,h⟩:=h;have HL:=Lib.hid hL;clear hL;rcases h with ⟨rfl,rfl⟩ | ⟨b,off,cap,c0,c1,rfl,hcap,hm,hb,hcells⟩
 ·go_enter Tryz.func145,Tryz.ntmps145
  go_wp2;refine wp_loop_rounds 1 ?_;rw [rounds_succ];go_wp2;exact bodyPost_ret (v:=.agg #[.bool false,.slice none 0 0]) (by simp [results,Tryz.results145,go_sem]) rfl ⟨_,_,rfl,qbw.zero _ _,by first | exact hE | exact (hE.set (by simp) _).set (by simp) _⟩
 ·have HC:=Lib.hid hcells;clear hcells;unfold maxLen at hm;have hB0:=(Blk.of_arr w #[.bool false,.slice none 0 0] 30 2 rfl).alloc (.cells #[.bool false,.slice none 0 0] 30);have hB1:=Blk.of_arr (w.alloc (.cells #[.bool false,.slice none 0 0] 30)) #[.bool false,.slice none 0 0] 30 2 rfl;simp only [World.size_alloc] at hB1
  go_enter Tryz.func145,Tryz.ntmps145
  go_wp2
  go_loopw [9] (fun i wr=>∃ (k:Nat) (b:Bool) (a:Option Addr) (q p:Nat),k<=n/\i = .int .i64 k/\Blk wr w.heap.size 30 2 (arr #[.bool false,.slice none 0 0])/\Blk wr (w.heap.size+1) 30 2 (arr #[.bool b,.slice a q p])/\qbw (Mx M w.heap.size (w.heap.size+2)) wr (.bool b) (.slice a q p) (qld z k)/\Ext w wr) (fun i _=>n - (intOf i).toNat)
  case atStart=>exact ⟨0,_,_,_,_,Nat.zero_le _,rfl,hB0,hB1,qbw.zero _ _,hE⟩
  case round=>
   clear hB0 hB1;obtain ⟨k,b2,a2,q2,p2,hk,rfl,hB0,hB1,hI,her⟩:=hrel;have t0:=hB1.cell (i:=0) (by omega);have t1:=hB1.cell (i:=1) (by omega);simp only [arr] at t0 t1;have t2:=hB1.frozen 0;have t3:=hB1.frozen 1;have l1:=hB1.lt
   by_cases hlt:k<n
   ·obtain ⟨g0,g1,g2⟩:=HC.out k hlt;obtain ⟨b3,a3,q3,p3,h30,h31⟩:=g2.form;rw [h30] at g0 g2;rw [h31] at g1 g2
    have e0:wr.cell? ⟨b,off+k*2,none⟩=some (.bool b3):=by rw [her.cell hb];exact g0
    have e1:wr.cell? ⟨b,off+k*2+1,none⟩=some (.slice a3 q3 p3):=by rw [her.cell hb];exact g1
    clear g0 g1 h30 h31;go_wp2_with (fail);have hEr:Ext wr (wr.alloc (.cells #[.bool b3,.slice a3 q3 p3] 30)):=(Ext.refl wr).alloc _;have hMr:Mb (Mx M w.heap.size (w.heap.size+2)) (wr.alloc (.cells #[.bool b3,.slice a3 q3 p3] 30)):=Mx.mb hM (Nat.le_trans her.size hEr.size) (by simp;omega);have hI2:=(g2.more (M':=Mx M w.heap.size (w.heap.size+2)) (Mx.more (Nat.le_refl _))).ext (her.trans hEr)
    have hbd:dlen ((qld z k).natAbs+(z k).natAbs)<=1099511627776:=by
     refine Nat.le_trans (qal ?_) HL.out;have h1:=qpP z k;have h2:=qlf z (show k+1<=n by omega);simp only [qk6] at h2;omega
    have HI:=Lib.hid (hI.ext hEr).toV;refine (qiH _ _ _ _ (qld z k) (z k) _ hMr HI.out hI2 hbd).mono ?_;rintro e w2 ⟨d0,d1,rfl,hc,he1⟩;obtain ⟨b4,a4,n4,cap4,rfl,rfl⟩:=hc.form;have hEw:=(her.trans hEr).trans he1;have hB0':=(hB0.ext hEr).ext he1;have hB1':=(hB1.ext hEr).ext he1;obtain ⟨⟨q0,q1,f0,f1⟩,⟨r0,r1⟩,hkp,hf⟩:=qgL (M':=Mx M w.heap.size (w.heap.size+2)) (w:=w) (.bool b4) (.slice a4 n4 cap4) hB1' (Mx.at (by omega)) (by omega) hEw;have hfin:=hc.kp hkp
    have hB1'':=((hB1'.set 0 (.bool b4)).set 1 (.slice a4 n4 cap4)).congr (f':=arr #[.bool b4,.slice a4 n4 cap4]) (by
     intro i hi
     have:i=0∨i=1:=by omega
     rcases this with rfl | rfl <;> simp [upd,arr])
    have hB0'':=(hB0'.set_other (p:=⟨w.heap.size+1,0,none⟩) (by simp) (.bool b4)).set_other (p:=⟨w.heap.size+1,1,none⟩) (by simp) (.slice a4 n4 cap4);clear hB0' hB1' hkp hc HI hI2 hbd hMr hEr hI hB0 hB1 r0 r1;go_wp2
    go_roundw
    case rel=>exact ⟨k+1,b4,a4,n4,cap4,by omega,by go_num,hB0'',hB1'',hfin,hf⟩
    case measure=>simp [intOf];omega
   ·have:k=n:=by omega
    subst this;obtain ⟨⟨q0,q1,f0,f1⟩,⟨r0,r1⟩,hkp,hf⟩:=qgL (M':=Mx M w.heap.size (w.heap.size+2)) (w:=w) (.bool b2) (.slice a2 q2 p2) hB0 (Mx.at (by omega)) (by omega) her;have hfin:=(hI.kp hkp).more (M':=M) Mx.less;clear hB0 hB1 hkp hI;go_wp2;exact bodyPost_ret (v:=.agg #[.bool b2,.slice a2 q2 p2]) (by simp [results,Tryz.results145,go_sem,r0,r1]) rfl ⟨_,_,rfl,hfin,hf⟩
end Go.Proofs.YtmcfpnmoklnhoaaGreat
