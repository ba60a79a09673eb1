/- recpoly.Var; the law's own canonical. cylinderlaw22.fit: the fixed example. cylinderlaw22.fit: the walk. cylinderref22.build. cylinderref22.Build; the polynomials of the law RecpolyNormal. RecpolyNormal: the region with two calls and two new variables. RecpolyNormal: the callees' contracts at the law's polynomials. -/
import Derived.Test.YtmcfpnmoklnhoaaGreatMh
set_option linter.unusedVariables false
set_option maxRecDepth 100000
set_option maxHeartbeats 400000000
set_option linter.unusedSimpArgs false

namespace Go.Proofs.YtmcfpnmoklnhoaaGreat
open Go.RowKit

def qbV (lv:Int):List Tm:=if 1<=lv/\lv<=4 then [(1,xp lv.toNat 1)] else []
theorem qrt (M:Nat->Prop) (lv:Int) (w:World) (hM:Mb M w):Calls Tryz.prog 52 #[.int .i64 lv] w (qa4 M w 4 (qbV lv)):=by
 have hE:Ext w (w.alloc (.cells zA 33)):=(Ext.refl w).alloc _;have hB:=Blk.of_arr w zA 33 4 rfl;have hM2:Mb (Mx M w.heap.size (w.heap.size+1)) (w.alloc (.cells zA 33)):=Mx.mb hM (by simp) (by simp);have ctr:=fun W=>qfd lv W
 by_cases hl:1<=lv/\lv<=4
 ·have hlb:qav lv=true:=by unfold qav;simp [hl]
  rw [hlb] at ctr;have CTR:=Lib.hid ctr
  have hV:qbV lv = [(1,xp lv.toNat 1)]:=by unfold qbV;rw [if_pos hl]
  obtain ⟨D,rfl⟩ : ∃ D:Nat,lv=(D:Int)+1:=⟨(lv - 1).toNat,by omega⟩
  have hD4:D+1<=4:=by omega
  rw [show ((D:Int)+1).toNat=D+1 by omega] at hV;have HV:=Lib.hid hV;clear ctr hlb hl hV
  go_enter Tryz.func52,Tryz.ntmps52
  go_wp2_with (fail);refine (CTR.out _).mono ?_;rintro e w1 ⟨rfl,rfl⟩;go_wp2_with (fail);refine (qhu (M:=Mx M w.heap.size (w.heap.size+1)) 1 _ hM2 (by omega) (by omega)).mono ?_;rintro e w2 ⟨d0,d1,rfl,hc,he2⟩;obtain ⟨b2,a2,n2,p2,rfl,rfl⟩:=hc.form;have hkr:=qtk (x:=PE.z) (y:=⟨0,b2,a2,n2,p2,none,0,0⟩) (L:=D) (hM2.ext he2) (CR.zero _ _ D) (CR.const hc D);have he3:Ext w2 (w2.alloc (.cells #[.int .i64 0,.bool false,.slice none 0 0,.slice none 0 0,.int .i64 0,.bool b2,.slice a2 n2 p2,.slice none 0 0] 33)):=(Ext.refl w2).alloc _
  have hcr:CR (Mx M w.heap.size (w.heap.size+1)) (w2.alloc (.cells #[.int .i64 0,.bool false,.slice none 0 0,.slice none 0 0,.int .i64 0,.bool b2,.slice a2 n2 p2,.slice none 0 0] 33)) 4 (.int .i64 ((D:Int)+1)) (.bool false) (.slice none 0 0) (.slice (some ⟨w2.heap.size,0,none⟩) 2 2) (qbV ((D:Int)+1)):=by
   refine (CR.sim (CR.node (D:=D) (P:=fun i=>if i=0 then [] else [(1,Mo.zero)]) hD4 (by omega) (by omega) (Nat.le_refl _) (by unfold maxLen;omega) (by simp) ((hM2.ext he2).new (Nat.le_refl _)) (fun i hi=>?_) ?_) ?_).up hD4
   ·obtain ⟨b,off,e,_,_,_,_,hk⟩:=qa7.at hkr i hi;simp only [Option.some.injEq,Addr.mk.injEq,and_true] at e;obtain ⟨rfl,rfl⟩:=e;exact hk
   ·intro hs;have:=hs Mo.zero;simp [qab] at this
   ·rw [HV.out];intro m;rw [qal,qal,qb0];simp [shift,qab,Mo.zero_add']
  obtain ⟨⟨q0,q1,q2,q3⟩,⟨f0,f1,f2,f3⟩,⟨r0,r1,r2,r3⟩,HF⟩:=qcu (M:=M) (w:=w) (y:=⟨(D:Int)+1,false,none,0,0,some ⟨w2.heap.size,0,none⟩,2,2⟩) ((hB.ext he2).ext he3) (Mx.at (by omega)) (by omega) ((hE.trans he2).trans he3) hcr Mx.sub;clear hE hB hM2 he2 he3 hkr hcr hc;go_wp2;exact bodyPost_ret (v:=.agg #[.int .i64 ((D:Int)+1),.bool false,.slice none 0 0,.slice (some ⟨w2.heap.size,0,none⟩) 2 2]) (by simp [results,Tryz.results52,go_sem,r0,r1,r2,r3]) rfl HF.out
 ·have hlb:qav lv=false:=by unfold qav;simp only [decide_eq_false_iff_not];exact hl
  rw [hlb] at ctr;have CTR:=Lib.hid ctr
  have HV:Hid (qbV lv = []):=by show _=_;unfold qbV;rw [if_neg hl]
  clear ctr hlb hl
  go_enter Tryz.func52,Tryz.ntmps52
  go_wp2_with (fail);refine (CTR.out _).mono ?_;rintro e w1 ⟨rfl,rfl⟩;go_wp2;exact bodyPost_ret (v:=.agg zA) (by simp [results,Tryz.results52,go_sem]) rfl ⟨PE.z,rfl,by rw [HV.out];exact CR.zero _ _ _,hE⟩
theorem qqj (L n:Nat) (P:Nat->List Tm) (c:Nat) (h : ∀ i,i<n->(P i).length<=c):(poly L n P).length<=n*c:=by
 induction n with
 | zero=>simp [qb0]
 | succ n ih=>
  rw [qal,List.length_append,Nat.add_mul,Nat.one_mul];have h1:=ih fun i hi=>h i (by omega);have h2:=h n (by omega);simp only [shift,List.length_map];omega
theorem qeI (B:Nat) : ∀ (d:Nat) (t:RT d),qa2 d t=true->okT d t->Deg B (qak d t)->(qak d t).length<=(B+1) ^ (lev d t).toNat
 | 0,_,_,_,_=>Nat.zero_le _
 | d+1,t,h,ho,hB=>by
  show _<=(B+1) ^ t.1.toNat
  by_cases hl:t.1=0
  ·rw [qaK (by omega),hl];exact Nat.le_refl _
  ·obtain ⟨g1,g2,g3,g4,g5,g6⟩:=qbm h hl;rw [qa3 g1.1 g1.2] at hB ⊢;obtain ⟨D,hD⟩ : ∃ D:Nat,t.1.toNat=D+1:=⟨t.1.toNat - 1,by omega⟩;rw [hD] at hB ⊢
   have hlow : ∀ i,i<t.2.2.1->Low D (qak d (t.2.2.2 i)):=fun i hi=>by
    have:=qbL h hl i hi
    rwa [hD,Nat.add_sub_cancel] at this
   cases d with
   | zero=>
    have:=(g5 0 (by omega)).2;simp [qa2] at this
   | succ d=>
    have hnz : ¬ Sim (qak (d+1) (t.2.2.2 (t.2.2.1 - 1))) []:=fun hs=>by
     obtain ⟨m,hm⟩:=can_zero _ _ (g5 (t.2.2.1 - 1) (by omega)).2 (ho.2 _ (by omega)) g6;exact hm (hs m)
    obtain ⟨h1,h2⟩:=qbx (by omega) (by omega) hlow hnz hB;refine Nat.le_trans (qqj (D+1) t.2.2.1 _ ((B+1) ^ D) fun i hi=>?_) ?_
    ·have h3:=qeI B (d+1) (t.2.2.2 i) (g5 i hi).2 (ho.2 i hi) (h2 i hi);refine Nat.le_trans h3 (Nat.pow_le_pow_right (by omega) ?_);have:=(g5 i hi).1;omega
    ·rw [Nat.pow_succ,Nat.mul_comm];exact Nat.mul_le_mul_left _ h1
theorem qeJ (B:Nat) : ∀ (d:Nat) (t:RT d),qa2 d t=true->okT d t->Deg B (qak d t) -> ∀ s ∈ qak d t,∀ k,s.2.get k<=B
 | 0,_,_,_,_,s,hs,_=>by cases hs
 | d+1,t,h,ho,hB,s,hs,k=>by
  by_cases hl:t.1=0
  ·rw [qaK (by omega)] at hs;simp only [List.mem_singleton] at hs;subst hs;show Mo.zero.get k<=B;rw [qbl];omega
  ·obtain ⟨g1,g2,g3,g4,g5,g6⟩:=qbm h hl;rw [qa3 g1.1 g1.2] at hB hs;obtain ⟨D,hD⟩ : ∃ D:Nat,t.1.toNat=D+1:=⟨t.1.toNat - 1,by omega⟩;rw [hD] at hB hs
   have hlow : ∀ i,i<t.2.2.1->Low D (qak d (t.2.2.2 i)):=fun i hi=>by
    have:=qbL h hl i hi
    rwa [hD,Nat.add_sub_cancel] at this
   cases d with
   | zero=>
    have:=(g5 0 (by omega)).2;simp [qa2] at this
   | succ d=>
    have hnz : ¬ Sim (qak (d+1) (t.2.2.2 (t.2.2.1 - 1))) []:=fun hs=>by
     obtain ⟨m,hm⟩:=can_zero _ _ (g5 (t.2.2.1 - 1) (by omega)).2 (ho.2 _ (by omega)) g6;exact hm (hs m)
    obtain ⟨h1,h2⟩:=qbx (by omega) (by omega) hlow hnz hB;obtain ⟨i,hi,u,hu,rfl⟩:=qck hs;have h3:=qeJ B (d+1) (t.2.2.2 i) (g5 i hi).2 (ho.2 i hi) (h2 i hi) u hu k;show (Mo.add u.2 (xp (D+1) (i:Int))).get k<=B;rw [qax,qaB _ _ _ (by omega) (by omega)]
    by_cases hk:k=D+1
    ·rw [if_pos hk,hk];have:=hlow i hi u hu (D+1) (by omega) (by omega);omega
    ·rw [if_neg hk];omega
theorem qb9 {B:Nat} {l r:List Tm} (hs:Sim l r) (h:Deg B r):Deg B l:=h.sim hs.symm
theorem CRx.tb {M:Nat->Prop} {w:World} {L:Nat} {x:PE} {l:List Tm} {B:Nat} (h:CRx M w L x l) (hL4:L<=4) (hL:dlen (nrm l)<=1099511627776) (hB:Deg B l) (hB4:(B+1) ^ 4<=1099511627776) : ∃ t:RT (L+1),RR M w (L+1) t (.int .i64 x.lv) (.bool x.b) (.slice x.a x.n x.p) (.slice x.ka x.kn x.kp)/\TB (L+1) t/\Sim (qak (L+1) t) l:=by
 obtain ⟨t,h1,h2,h3,h4⟩:=h;have hlv:=qch h2;have hlen:=qeI B (L+1) t h2 h1.ok (qb9 h4 hB);have hpow:(B+1) ^ (Go.Proofs.YtmcfpnmoklnhoaaGreat.lev (L+1) t).toNat<=(B+1) ^ 4:=Nat.pow_le_pow_right (by omega) (by show t.1.toNat<=4;omega)
 have hB1:B+1<=(B+1) ^ 4:=by
  have h5:=Nat.pow_le_pow_right (show 0<B+1 by omega) (show 1<=4 by omega)
  rwa [Nat.pow_one] at h5
 have hBs:B<=1073741824:=by
  refine Classical.byContradiction fun hc=>?_;have h6:(1073741825:Nat) ^ 2<=(B+1) ^ 4:=Nat.le_trans (Nat.pow_le_pow_left (show 1073741825<=B+1 by omega) 2) (Nat.pow_le_pow_right (by omega) (by omega));omega
 refine ⟨t,h1,⟨by omega,by omega,Nat.le_trans (qah (qcL h2 h4)) hL,fun s hs k=>?_⟩,h4⟩;have:=qeJ B (L+1) t h2 h1.ok (qb9 h4 hB) s hs k;omega


theorem CRx.top {M:Nat->Prop} {w:World} {L:Nat} {x:PE} {l:List Tm} (h:CRx M w L x l) (hl:x.lv≠0) : ∃ m,qab l m≠0/\m.get x.lv.toNat=((x.kn - 1:Nat):Int):=by
 obtain ⟨D,b,off,P,hDe,hD4,hDL,_,_,_,hn2,_,_,_,_,_,hlow,hnz,hsim,_,_⟩:=h.node hl;obtain ⟨m,hm⟩:=qbB hnz;have h0:m.get (D+1)=0:=Classical.byContradiction fun hc=>hm ((hlow _ (by omega)).coef (by omega) hD4 hc);refine ⟨Mo.add m (xp (D+1) ((x.kn - 1:Nat):Int)),?_,?_⟩
 ·rw [<- hsim,qej (by omega) hD4 (fun i hi=>hlow i hi) _ (by omega) m h0];exact hm
 ·rw [hDe,show ((D:Int)+1).toNat=D+1 by omega,qax,h0,qaB _ _ _ (by omega) hD4,if_pos rfl];omega
def qyU:List Tm:=[(1,⟨1,1,0,0⟩),(3,⟨0,0,0,0⟩)]
theorem qdx (lv:Int):Deg 1 (qbV lv):=by
 unfold qbV
 split
 ·rename_i h;intro m hm k
  have:m=xp lv.toNat 1:=by
   refine Classical.byContradiction fun hc=>hm ?_;simp only [qab];rw [if_neg (fun e=>hc e.symm)];rfl
  rw [this,qaB _ _ _ (by omega) (by omega)]
  split <;> omega
 ·intro m hm;exact absurd rfl hm


abbrev M0:Nat->Prop:=fun _=>False
theorem mb0 (w:World):Mb M0 w:=fun _ h=>h.elim
def qw8 (g:Nat) (y:PE) (b off:Nat) (c1 c2:Value) (w:World):Prop:=P4 w g y/\w.cell? ⟨b,off+1,none⟩=some c1/\w.cell? ⟨b,off+1+1,none⟩=some c2/\w.cell? ⟨b,off+4,none⟩=some (.int .i64 1)
theorem qw8.ext {g:Nat} {y:PE} {b off:Nat} {c1 c2:Value} {w w':World} (h:qw8 g y b off c1 c2 w) (he:Ext w w'):qw8 g y b off c1 c2 w':=by
 have hb:=World.block_lt_of_cell? _ _ h.2.1;exact ⟨h.1.ext he,by rw [he.cell hb];exact h.2.1,by rw [he.cell hb];exact h.2.2.1,by rw [he.cell hb];exact h.2.2.2⟩


def qdq (M:Nat->Prop) (w:World) (v:Value) (n:Nat) (L C K:Nat->Int):Prop:=
 n<=1099511627776/\((n=0 /\ ∃ a c,v = .slice a 0 c) ∨ ∃ b off cap,v = .slice (some ⟨b,off,none⟩) n cap/\n<=cap/\cap<=maxLen/\(b<w.heap.size /\ ¬ M b) /\ ∀ i,i<n->w.cell? ⟨b,off+i*3,none⟩=some (.int .i8 (L i))/\w.cell? ⟨b,off+i*3+1,none⟩=some (.int .i16 (C i))/\w.cell? ⟨b,off+i*3+2,none⟩=some (.int .u8 (K i)) /\
  (-128<=L i/\L i<=127)/\(-32768<=C i/\C i<=32767)/\(0<=K i/\K i<=255))
theorem qdq.kp {M:Nat->Prop} {w w':World} {v:Value} {n:Nat} {L C K:Nat->Int} (h:qdq M w v n L C K) (he:Kp M w w'):qdq M w' v n L C K:=by
 obtain ⟨h0,h | ⟨b,off,cap,h1,h2,h3,h4,h5⟩⟩:=h
 ·exact ⟨h0,.inl h⟩
 ·exact ⟨h0,.inr ⟨b,off,cap,h1,h2,h3,⟨Nat.lt_of_lt_of_le h4.1 he.1,h4.2⟩,fun i hi=>by rw [he.cell h4.1 h4.2,he.cell h4.1 h4.2,he.cell h4.1 h4.2];exact h5 i hi⟩⟩
theorem qdq.ext {M:Nat->Prop} {w w':World} {v:Value} {n:Nat} {L C K:Nat->Int} (h:qdq M w v n L C K) (he:Ext w w'):qdq M w' v n L C K:=h.kp (Kp.of_ext he)
theorem qdq.more {M M':Nat->Prop} {w:World} {v:Value} {n:Nat} {L C K:Nat->Int} (h:qdq M w v n L C K) (hm : ∀ g,M' g->M g∨w.heap.size<=g):qdq M' w v n L C K:=by
 obtain ⟨h0,h | ⟨b,off,cap,h1,h2,h3,h4,h5⟩⟩:=h
 ·exact ⟨h0,.inl h⟩
 ·exact ⟨h0,.inr ⟨b,off,cap,h1,h2,h3,⟨h4.1,fun k=>(hm b k).elim h4.2 (by omega)⟩,h5⟩⟩
theorem qdq.form {M:Nat->Prop} {w:World} {v:Value} {n:Nat} {L C K:Nat->Int} (h:qdq M w v n L C K) : ∃ a cap,v = .slice a n cap:=by
 obtain ⟨h0,⟨rfl,a,c,rfl⟩ | ⟨b,off,cap,rfl,_⟩⟩:=h
 ·exact ⟨_,_,rfl⟩
 ·exact ⟨_,_,rfl⟩
def qg2 (f:Nat->Nat):Nat->Nat
 | 0=>0
 | n+1=>qg2 f n+f n
def szE (A:Nat):(d:Nat)->RT d->Nat
 | 0,_=>1
 | d+1,t=>if t.1<=0 then dlen t.2.1.val.natAbs+1 else if 4<t.1 then 1 else 1+qg2 (fun i=>szE A d (t.2.2.2 i)+A+1) t.2.2.1
def qx8 (d:Nat) (t:RT d):Prop:=(qak d t).length<=4 ^ d/\nrm (qak d t)<=4 ^ d*32768 /\ ∀ s ∈ qak d t,∀ k,s.2.get k<=3*(d:Int)
def Sml (d:Nat) (t:RT d):Prop:=qx8 d t /\ ∀ A,szE A d t<=9 ^ d*(A+3)
theorem Sml.tb {d:Nat} {t:RT d} (h:Sml d t) (hd:d<=7):TB d t:=by
 obtain ⟨⟨h1,h2,h3⟩,_⟩:=h;have hp:4 ^ d<=4 ^ 7:=Nat.pow_le_pow_right (by omega) hd
 have hp7:4 ^ 7=16384:=by decide
 refine ⟨by omega,by omega,?_,fun s hs k=>by have:=h3 s hs k;omega⟩
 have h4:nrm (qak d t)<=536870912:=by
  refine Nat.le_trans h2 ?_;have:=Nat.mul_le_mul_right 32768 hp;omega
 have h5:dlen 536870912=1:=by
  have h6:dlen 536870912<=1:=(qao _ _).2 (by decide);have h7:0<dlen 536870912:=qeg (by decide);omega
 have:=qah h4;omega
def qxO (M:Nat->Prop) (w:World) (D:Nat) (e:Ending) (w':World):Prop:=∃ (x:PE) (u:Value) (n':Nat) (L' C' K':Nat->Int) (t:RT (D+1)),e = .returned (.tuple #[.agg (peA x),u])/\RR M w' (D+1) t (.int .i64 x.lv) (.bool x.b) (.slice x.a x.n x.p) (.slice x.ka x.kn x.kp)/\Sml (D+1) t/\qdq M w' u n' L' C' K'/\Ext w w'
def qt9 (g:Nat) (L C:Int) (w:World):Prop:=w.cell? ⟨g,0,none⟩=some (.int .i8 L)/\w.cell? ⟨g,1,none⟩=some (.int .i16 C)
theorem qt9.ext {g:Nat} {L C:Int} {w w':World} (h:qt9 g L C w) (he:Ext w w'):qt9 g L C w':=by
 have hb:=World.block_lt_of_cell? _ _ h.1;exact ⟨by rw [he.cell hb];exact h.1,by rw [he.cell hb];exact h.2⟩
def BnS (M:Nat->Prop) (W:World) (lv C0:Int) (s8:Value) (wx:World):Prop:=∃ g8 b2 a2 n2 p2,s8 = .pointer (some ⟨g8,0,none⟩)/\W.heap.size<=g8/\Blk wx g8 33 4 (arr #[.int .i64 lv,.bool b2,.slice a2 n2 p2,.slice none 0 0])/\qbs (fun q=>M q∨q=g8) wx (.bool b2) (.slice a2 n2 p2) C0/\Ext W wx
def MQ (M:Nat->Prop) (w:World) (g8:Nat) (cv:Value):Nat->Prop:=fun q=>Mx M w.heap.size (w.heap.size+2) q∨q=g8∨cv.ownBlock=some q


def BT (M:Nat->Prop) (w:World) (x:PE) (l:List Tm):Prop:=∃ t:RT 7,RR M w 7 t (.int .i64 x.lv) (.bool x.b) (.slice x.a x.n x.p) (.slice x.ka x.kn x.kp)/\Sml 7 t/\qak 7 t=l
section
variable {M M':Nat->Prop} {w w':World} {x:PE} {l:List Tm}
theorem BT.ext (h:BT M w x l) (he:Ext w w'):BT M w' x l:=by
 obtain ⟨t,h1,h2⟩:=h;exact ⟨t,RR.ext h1 he,h2⟩
theorem BT.kp (h:BT M w x l) (he:Kp M w w'):BT M w' x l:=by
 obtain ⟨t,h1,h2⟩:=h;exact ⟨t,RR.kp he h1,h2⟩
theorem BT.more (h:BT M w x l) (hm : ∀ g,M' g->M g∨w.heap.size<=g):BT M' w x l:=by
 obtain ⟨t,h1,h2⟩:=h;exact ⟨t,RR.more hm h1,h2⟩
theorem BT.pi (h:BT M w x l):PI M w x l:=by
 obtain ⟨t,h1,h2,h3⟩:=h;exact ⟨7,t,h1,.inr (h2.tb (Nat.le_refl _)),by rw [h3];exact Sim.refl _⟩
theorem BT.len (h:BT M w x l):l.length<=16384:=by
 obtain ⟨t,_,h2,h3⟩:=h;have h4:=h2.1.1;rw [h3] at h4
 have:4 ^ 7=16384:=by decide
 omega
theorem BT.deg (h:BT M w x l):Deg 21 l:=by
 obtain ⟨t,_,h2,h3⟩:=h;intro m hm k;refine Classical.byContradiction fun hc=>hm (qay fun s hs e=>?_);have:=h2.1.2.2 s (by rw [h3];exact hs) k;rw [e] at this;omega
theorem BT.nn (h:BT M w x l) : ∀ m:Mo,m.nn=false->qab l m=0:=by
 obtain ⟨t,_,h2,h3⟩:=h;intro m hm;refine qay fun s hs e=>?_;have:=qfT 7 t s (by rw [h3];exact hs);rw [e,hm] at this;cases this
end


section
variable {P:Program} {ops:Array Oper} {Q:Exit->Act->World->Prop} {md:Region.Mode} {S:World->Prop} {last:Nat}
end
def N2 (o7 o8:Option Nat):Nat->Prop:=fun q=>o7=some q∨o8=some q
structure R6 (l m:List Tm) (W0:World) (o7 o8:Option Nat) (ra rb:Option PE) (w:World):Prop where
 ext:Ext W0 w
 b7 : ∀ g,o7=some g->W0.heap.size<=g/\Blk w g 33 4 (arr zA)
 b8 : ∀ g,o8=some g->W0.heap.size<=g/\Blk w g 33 4 (arr zA)
 ne : ∀ g h,o7=some g->o8=some h->g≠h
 ca : ∀ a,ra=some a->CRx (N2 o7 o8) w 4 a l
 cb : ∀ b,rb=some b->CRx (N2 o7 o8) w 4 b m
section
variable {l m:List Tm} {W0 w w':World} {o7 o8:Option Nat} {ra rb:Option PE} {x y:PE}
theorem R6.grow (h:R6 l m W0 o7 o8 ra rb w) (he:Ext w w'):R6 l m W0 o7 o8 ra rb w':=
 ⟨h.ext.trans he,fun g hg=>⟨(h.b7 g hg).1,(h.b7 g hg).2.ext he⟩,fun g hg=>⟨(h.b8 g hg).1,(h.b8 g hg).2.ext he⟩,h.ne,fun a ha=>(h.ca a ha).ext he,fun b hb=>(h.cb b hb).ext he⟩
theorem R6.mb (h:R6 l m W0 o7 o8 ra rb w):Mb (N2 o7 o8) w:=by
 rintro q (hq | hq)
 ·exact (h.b7 q hq).2.lt
 ·exact (h.b8 q hq).2.lt
theorem R6.pi (h:R6 l m W0 o7 o8 ra rb w) {r:List Tm} (hb:BT M0 W0 x r):PI (N2 o7 o8) w x r:=by
 refine (hb.pi.more (M':=N2 o7 o8) ?_).ext h.ext;rintro q (hq | hq)
 ·exact .inr (h.b7 q hq).1
 ·exact .inr (h.b8 q hq).1
theorem R6.fin {g7 g8 : Nat} {a b : PE} (h : R6 l m W0 (some g7) (some g8) (some a) (some b) w) :
  ∃ W',W'=set4 (set4 w g7 0 (.int .i64 a.lv) (.bool a.b) (.slice a.a a.n a.p) (.slice a.ka a.kn a.kp)) g8 0 (.int .i64 b.lv) (.bool b.b) (.slice b.a b.n b.p) (.slice b.ka b.kn b.kp) /\
  Ext W0 W'/\P4 W' g7 a/\P4 W' g8 b/\CRx M0 W' 4 a l/\CRx M0 W' 4 b m:=by
 obtain ⟨h7a,h7b⟩:=h.b7 g7 rfl;obtain ⟨h8a,h8b⟩:=h.b8 g8 rfl;have hne:=h.ne g7 g8 rfl rfl;have k1:Kp (N2 (some g7) (some g8)) w (set4 w g7 0 (.int .i64 a.lv) (.bool a.b) (.slice a.a a.n a.p) (.slice a.ka a.kn a.kp)):=Kp.set4 (.inl rfl) _ _ _ _ _;have k2:Kp (N2 (some g7) (some g8)) _ (set4 (set4 w g7 0 (.int .i64 a.lv) (.bool a.b) (.slice a.a a.n a.p) (.slice a.ka a.kn a.kp)) g8 0 (.int .i64 b.lv) (.bool b.b) (.slice b.a b.n b.p) (.slice b.ka b.kn b.kp)):=Kp.set4 (.inr rfl) _ _ _ _ _;have B7:=(h7b.set4 0 (.int .i64 a.lv) (.bool a.b) (.slice a.a a.n a.p) (.slice a.ka a.kn a.kp)).of_heap (qaf _ g8 0 (.int .i64 b.lv) (.bool b.b) (.slice b.a b.n b.p) (.slice b.ka b.kn b.kp) g7 hne);have B8:=(h8b.of_heap (qaf w g7 0 (.int .i64 a.lv) (.bool a.b) (.slice a.a a.n a.p) (.slice a.ka a.kn a.kp) g8 (Ne.symm hne))).set4 0 (.int .i64 b.lv) (.bool b.b) (.slice b.a b.n b.p) (.slice b.ka b.kn b.kp);refine ⟨_,rfl,(h.ext.set4 h7a _ _ _ _ _).set4 h8a _ _ _ _ _,⟨?_,?_,?_,?_⟩,⟨?_,?_,?_,?_⟩,(((h.ca a rfl).kp k1).kp k2).more (fun q hq=>hq.elim),(((h.cb b rfl).kp k1).kp k2).more (fun q hq=>hq.elim)⟩
 ·rw [B7.cell (i:=0) (by omega)];exact congrArg some (qcR _ 0 _ _ _ _)
 ·rw [B7.cell (i:=1) (by omega)];exact congrArg some (qcQ _ 0 _ _ _ _)
 ·rw [B7.cell (i:=2) (by omega)];exact congrArg some (qcP _ 0 _ _ _ _)
 ·rw [B7.cell (i:=3) (by omega)];exact congrArg some (qcO _ 0 _ _ _ _)
 ·rw [B8.cell (i:=0) (by omega)];exact congrArg some (qcR _ 0 _ _ _ _)
 ·rw [B8.cell (i:=1) (by omega)];exact congrArg some (qcQ _ 0 _ _ _ _)
 ·rw [B8.cell (i:=2) (by omega)];exact congrArg some (qcP _ 0 _ _ _ _)
 ·rw [B8.cell (i:=3) (by omega)];exact congrArg some (qcO _ 0 _ _ _ _)
end


def SP4 (c:Nat) (x y:PE) (g7 g8:Nat) (a b:PE) (w:World):Prop:=P4 w c x/\P4 w (c+1) y/\P4 w g7 a/\P4 w g8 b
theorem SP4.ext {c:Nat} {x y:PE} {g7 g8:Nat} {a b:PE} {w w':World} (h:SP4 c x y g7 g8 a b w) (he:Ext w w'):SP4 c x y g7 g8 a b w':=⟨h.1.ext he,h.2.1.ext he,h.2.2.1.ext he,h.2.2.2.ext he⟩
end Go.Proofs.YtmcfpnmoklnhoaaGreat
