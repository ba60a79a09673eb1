/- recpoly: add. recpoly: present. recpoly: plain facts for mul: products of sums, degrees, leading terms. recpoly: the rows of parts of mul, in memory. recpoly: mul. -/
import Derived.Test.YtmcfpnmoklnhoaaGreatMe
import Derived.Test.YtmcfpnmoklnhoaaGreatMa
import Derived.Deep.DeepCutAuto
set_option linter.unusedVariables false
set_option maxRecDepth 100000
set_option maxHeartbeats 400000000
set_option linter.unusedSimpArgs false

namespace Go.Proofs.YtmcfpnmoklnhoaaGreat
open Go.RowKit

theorem Tryz.info30:(Tryz.prog.info? 30).map (fun i=>(i.zero,i.size,i.bytes))=some (some (.agg #[.bool false,.slice none 0 0]),2,32):=by kernel_rfl
def qla (w:World) (g N k:Nat) (x:Nat->PE):Prop:=∃ f,Blk w g 30 (N*2) f /\ ∀ i,i<k->f (i*2) = .bool (x i).b/\f (i*2+1) = .slice (x i).a (x i).n (x i).p
theorem qla.set {w:World} {g N k:Nat} {x:Nat->PE} (h:qla w g N k x):qla ((w.setCell ⟨g,k*2,none⟩ (.bool (x k).b)).setCell ⟨g,k*2+1,none⟩ (.slice (x k).a (x k).n (x k).p)) g N (k+1) x:=by
 obtain ⟨f,hB,hf⟩:=h;refine ⟨_,(hB.set _ _).set _ _,fun i hi=>?_⟩;unfold upd
 by_cases hik:i=k
 ·subst hik;simp
 ·rw [if_neg (by omega),if_neg (by omega),if_neg (by omega),if_neg (by omega)];exact hf i (by omega)
theorem qla.ext {w w':World} {g N k:Nat} {x:Nat->PE} (h:qla w g N k x) (he:Ext w w'):qla w' g N k x:=by
 obtain ⟨f,hB,hf⟩:=h;exact ⟨f,hB.ext he,hf⟩
theorem qla.at {w:World} {g N k j:Nat} {x:Nat->PE} (h:qla w g N k x) (hj:j<N):(∃ e,w.cell? ⟨g,j*2,none⟩=some e)/\(∃ e,w.cell? ⟨g,j*2+1,none⟩=some e)/\(∀ o,w.frozen? ⟨g,o,none⟩=false)/\g<w.heap.size:=by
 obtain ⟨f,hB,hf⟩:=h;exact ⟨⟨_,hB.cell (by omega)⟩,⟨_,hB.cell (by omega)⟩,hB.frozen,hB.lt⟩
theorem qla.row {M:Nat->Prop} {w:World} {g N:Nat} {x:Nat->PE} {z:Nat->Int} (h:qla w g N N x) (hN:N<=1099511627776) (hz : ∀ i,i<N->qbq M w (.bool (x i).b) (.slice (x i).a (x i).n (x i).p) (z i)):qpM M w (.slice (some ⟨g,0,none⟩) N N) N z:=by
 obtain ⟨f,hB,hf⟩:=h;refine ⟨hN,.inr ⟨g,0,N,_,_,rfl,Nat.le_refl _,by unfold maxLen;omega,hB.lt,fun i hi=>⟨?_,?_,hz i hi⟩⟩⟩
 ·rw [Nat.zero_add,hB.cell (by omega),(hf i hi).1]
 ·rw [Nat.zero_add,hB.cell (by omega),(hf i hi).2]
theorem qsq (x:Nat->PE) (k:Nat) (h:0<mxl x k) : ∃ i,i<k/\(x i).lv=mxl x k:=by
 induction k with
 | zero=>exact absurd h (Int.lt_irrefl 0)
 | succ k ih=>
  unfold mxl at h ⊢
  split
  ·exact ⟨k,by omega,rfl⟩
  ·rename_i hc;rw [if_neg hc] at h;obtain ⟨i,hi,e⟩:=ih h;exact ⟨i,by omega,e⟩
def qb8 (x:Nat->PE) (P:Nat->List Tm) (Q:Nat->Nat->List Tm) (D e i:Nat):List Tm:=if (x i).lv=(D:Int)+1 then (if e<(x i).kn then Q i e else []) else (if e=0 then P i else [])
def qnC (L:Nat):Prop:=∀ (M:Nat->Prop) (v:Value) (N:Nat) (P:Nat->List Tm) (w:World),Mb M w->qbA M w L v N P->dlen (nrm (qaK N P))<=1099511627776->Calls Tryz.prog 97 #[v] w (qaU M w L (qaK N P))
theorem qoV (L:Nat) (ih : ∀ D,D<L->qnC D):qnC L:=by
 intro M v N P w hM h hL;obtain ⟨i0,hi,hz0,hz1,hz2⟩:=info_parts Tryz.info33;obtain ⟨j0,hj,hy0,hy1,hy2⟩:=info_parts Tryz.info30;obtain ⟨a,cap,rfl⟩:=h.form;obtain ⟨x,hx⟩:=h.x;have hNL:=h.1;have HX:=Lib.hid hx;have HH:=Lib.hid h;have HL:=Lib.hid hL;have HIH:=Lib.hid ih;have hE0:Ext w (w.alloc (.cells #[.int .i64 0,.bool false,.slice none 0 0,.slice none 0 0] 33)):=(Ext.refl w).alloc _;have HB0:=Lib.hid (Blk.of_arr w #[.int .i64 0,.bool false,.slice none 0 0,.slice none 0 0] 33 4 rfl);have HE0:=Lib.hid hE0;clear h hL hx hE0 ih
 go_enter Tryz.func97,Tryz.ntmps97
 go_wp2
 go_loopw [17,3,4] (fun i lv s wr=>∃ k:Nat,k<=N/\i = .int .i64 k/\lv = .int .i64 (mxl x k)/\s = .int .i64 (mxs x k)/\Hid (Ext (w.alloc (.cells #[.int .i64 0,.bool false,.slice none 0 0,.slice none 0 0] 33)) wr)) (fun i _ _ _=>N - (intOf i).toNat)
 case atStart=>exact ⟨0,Nat.zero_le _,rfl,rfl,rfl,Ext.refl _⟩
 case round=>
  obtain ⟨k,hk,rfl,rfl,rfl,HER⟩:=hrel;have hsz:=HER.out.size;simp only [World.size_alloc] at hsz
  by_cases hlt:k<N
  ·obtain ⟨⟨b,off,rfl,hnc,hcm,hb,hMb,hcell⟩,hCR,hl0,hlL,hl4⟩:=HX.out k hlt;obtain ⟨y0,y1,y2,y3⟩:=hcell.ext hb (HE0.out.trans HER.out)
   have hbw:b<wr.heap.size:=by omega
   have hkn:=hCR.kn_le;have HKN:Hid (mxs x k<=1099511627776):=qpt x k _ fun i hi=>(HX.out i (by omega)).2.1.kn_le;clear hCR hcell
   by_cases c1:mxl x k<(x k).lv
   ·have HL1:Hid ((x k).lv=mxl x (k+1)):=by show _=_;unfold mxl;rw [if_pos c1]
    have HS1:Hid ((x k).kn=mxs x (k+1)):=by show _=_;unfold mxs;rw [if_pos c1]
    have HEA:=Lib.hid (HER.out.alloc (.cells #[.int .i64 (x k).lv,.bool (x k).b,.slice (x k).a (x k).n (x k).p,.slice (x k).ka (x k).kn (x k).kp] 33));go_wp2
    go_roundw
    case rel=>exact ⟨k+1,by omega,by go_num,by rw [HL1.out],by rw [HS1.out],HEA⟩
    case measure=>simp [intOf];omega
   ·have c1':decide (mxl x k<(x k).lv)=false:=decide_eq_false c1;have HEA:=Lib.hid (HER.out.alloc (.cells #[.int .i64 (x k).lv,.bool (x k).b,.slice (x k).a (x k).n (x k).p,.slice (x k).ka (x k).kn (x k).kp] 33))
    have HL1:Hid (mxl x k=mxl x (k+1)):=by show _=mxl x (k+1);conv=>rhs;unfold mxl;rw [if_neg c1]
    by_cases c2:(x k).lv=mxl x k
    ·have c2':((x k).lv == mxl x k)=true:=by simpa using c2
     by_cases c3:mxs x k<(x k).kn
     ·have HS1:Hid ((x k).kn=mxs x (k+1)):=by show _=_;unfold mxs;rw [if_neg c1,if_pos c2,if_pos c3]
      have HMX:Hid (max (mxs x k:Int) ((x k).kn:Int)=(mxs x (k+1):Int)):=by show _=_;rw [<- HS1.out];omega
      clear c2;go_wp2
      go_roundw
      case rel=>exact ⟨k+1,by omega,by go_num,by rw [HL1.out],by rw [HMX.out],HEA⟩
      case measure=>simp [intOf];omega
     ·have HS1:Hid (mxs x k=mxs x (k+1)):=by show _=mxs x (k+1);conv=>rhs;unfold mxs;rw [if_neg c1,if_pos c2,if_neg c3]
      have HMX:Hid (max (mxs x k:Int) ((x k).kn:Int)=(mxs x (k+1):Int)):=by show _=_;rw [<- HS1.out];omega
      clear c2;go_wp2
      go_roundw
      case rel=>exact ⟨k+1,by omega,by go_num,by rw [HL1.out],by rw [HMX.out],HEA⟩
      case measure=>simp [intOf];omega
    ·have c2':((x k).lv == mxl x k)=false:=by simpa using c2
     have HS1:Hid (mxs x k=mxs x (k+1)):=by show _=mxs x (k+1);conv=>rhs;unfold mxs;rw [if_neg c1,if_neg c2]
     clear c2;go_wp2
     go_roundw
     case rel=>exact ⟨k+1,by omega,by go_num,by rw [HL1.out],by rw [HS1.out],HEA⟩
     case measure=>simp [intOf];omega
  ·have hkn:k=N:=by omega
   subst hkn;obtain ⟨wo,rfl⟩ : ∃ wo:World,wo=wr:=⟨_,rfl⟩;have HEW:=Lib.hid (HE0.out.trans HER.out);have HBR:=Lib.hid (HB0.out.ext HER.out)
   by_cases hz:mxl x k=0
   ·have hz':(mxl x k == 0)=true:=by simpa using hz
    obtain ⟨z,hzz⟩:=qig (0:Int) (n:=k) (Q:=fun i z=>qbw M w (.bool (x i).b) (.slice (x i).a (x i).n (x i).p) z/\Sim [(z,Mo.zero)] (P i)/\z.natAbs<=nrm (P i)) (fun i hi=>by
     obtain ⟨_,hCR,hl0,_⟩:=HX.out i hi;have h1:=qmg x k i hi
     have h2:(x i).lv=0:=by omega
     unfold CRx at hCR;rw [h2] at hCR;obtain ⟨z,hI,hS,hN,_⟩:=hCR.const_inv
     exact ⟨z,hI,hS,hN⟩)
    have HZZ:=Lib.hid hzz;clear hz hzz
    go_wp2_with (first | (refine wpList_make_full _ rfl _ _ _ rfl wo.heap.size 30 j0 (.agg #[.bool false,.slice none 0 0]) 2 Tryz.underlying22 hj hy0 hy1 .i64 .i64 _ _ k rfl rfl ?c4 ?c5 ?c2 ?c3 ?c6 ?_))
    case c2=>rw [hy2];omega
    case c3=>unfold maxLen;omega
    case c4=>simp
    case c5=>simp
    case c6=>omega
    intro w1 hown hgrow;have hBk:=(Blk.made hown rfl (by omega));have he1:=qaw hgrow;have HN1:Hid (qla w1 wo.heap.size k 0 x):=⟨_,hBk,fun i hi=>by omega⟩;clear hown hgrow hBk;go_wp2
    go_loopw [44] (fun i wr=>∃ q:Nat,q<=k/\i = .int .i64 q/\Hid (qla wr wo.heap.size k q x)/\Hid (Ext wo wr)) (fun i _=>k - (intOf i).toNat)
    case atStart=>exact ⟨0,Nat.zero_le _,rfl,HN1,he1⟩
    case round=>
     clear HN1 he1;obtain ⟨q,hq,rfl,HNB,HEO⟩:=hrel;have hsz2:=HEO.out.size
     by_cases hqk:q<k
     ·obtain ⟨⟨b,off,rfl,hnc,hcm,hb,hMb,hcell⟩,hCR,hl0,hlL,hl4⟩:=HX.out q hqk;obtain ⟨y0,y1,y2,y3⟩:=hcell.ext hb (HEW.out.trans HEO.out)
      have hbw:b<wr.heap.size:=by omega
      have HEA:Hid (Ext wr (wr.alloc (.cells #[.int .i64 (x q).lv,.bool (x q).b,.slice (x q).a (x q).n (x q).p,.slice (x q).ka (x q).kn (x q).kp] 33))):=(Ext.refl wr).alloc _;obtain ⟨⟨_,n0⟩,⟨_,n1⟩,hfr,hgl⟩:=(HNB.out.ext HEA.out).at hqk;have fr0:=hfr (q*2);have fr1:=hfr (q*2+1);have HN2:=Lib.hid (HNB.out.ext HEA.out).set;have HE2:Hid (Ext wo (((wr.alloc (.cells #[.int .i64 (x q).lv,.bool (x q).b,.slice (x q).a (x q).n (x q).p,.slice (x q).ka (x q).kn (x q).kp] 33)).setCell ⟨wo.heap.size,q*2,none⟩ (.bool (x q).b)).setCell ⟨wo.heap.size,q*2+1,none⟩ (.slice (x q).a (x q).n (x q).p))):=((HEO.out.trans HEA.out).set (by simp) _).set (by simp) _;clear hCR hcell hfr;go_wp2
      go_roundw
      case rel=>exact ⟨q+1,by omega,by go_num,HN2,HE2⟩
      case measure=>simp [intOf];omega
     ·have hqk':q=k:=by omega
      subst hqk';have HRO:=Lib.hid (HNB.out.row (M:=Mx M w.heap.size (w.heap.size+1)) (z:=z) hNL (fun i hi=>(((HZZ.out i hi).1.toV).more (Mx.more (Nat.le_refl _))).ext (HEW.out.trans HEO.out)));have HZA:Hid (dlen (qk6 z q)<=1099511627776):=Nat.le_trans (qal (qpQ z q P fun i hi=>(HZZ.out i hi).2.2)) HL.out;have HMM:Hid (Mb (Mx M w.heap.size (w.heap.size+1)) wr):=Mx.mb hM (HEW.out.trans HEO.out).size (by omega);go_wp2_with (fail);refine (qqH _ q z wr HMM.out HRO.out HZA.out).mono ?_;rintro e w2 ⟨e0,e1,rfl,hc,he2⟩;obtain ⟨b2,a2,n2,p2,rfl,rfl⟩:=hc.form;obtain ⟨⟨q0,q1,q2,q3⟩,⟨f0,f1,f2,f3⟩,⟨r0,r1,r2,r3⟩,HF⟩:=qit (M:=M) (w:=w) (L:=L) ((HBR.out.ext HEO.out).ext he2) (Mx.at (by omega)) (Nat.le_refl _) ((HEW.out.trans HEO.out).trans he2) ((CR.const hc L).sim ((qiv z q).trans (qcG fun i hi=>(HZZ.out i hi).2.1))) Mx.sub;simp only [arr] at q0 q1 q2 q3;clear hc he2;go_wp2;exact bodyPost_ret (v:=.agg #[.int .i64 0,.bool b2,.slice a2 n2 p2,.slice none 0 0]) (by simp [results,Tryz.results97,go_sem,r0,r1,r2,r3]) rfl HF.out
   ·obtain ⟨D,hD⟩ : ∃ D:Nat,mxl x k=(D:Int)+1:=⟨(mxl x k - 1).toNat,by have:=qkC x k;omega⟩
    have hD4:D+1<=4:=by have:=qpu x k 4 (by omega) fun i hi=>(HX.out i hi).2.2.2.2;omega
    have hDL:D+1<=L:=by have:=qpu x k L (by omega) fun i hi=>(HX.out i hi).2.2.2.1;omega
    have HLE:Hid (∀ i,i<k->(x i).lv<=(D:Int)+1):=fun i hi=>by have:=qmg x k i hi;omega
    have HSG:Hid (∀ i,i<k->(x i).lv=(D:Int)+1->(x i).kn<=mxs x k):=fun i hi he=>qsp x k i hi (by omega);have hsL:mxs x k<=1099511627776:=qpt x k _ fun i hi=>(HX.out i hi).2.1.kn_le;obtain ⟨i1,hi1,hi2⟩:=qsq x k (by omega);have hD0:(0:Int)<=(D:Int):=Int.natCast_nonneg _
    have hDz:((D:Int)+1 == 0)=false:=by simp;omega
    obtain ⟨Q,hQ⟩:=qig (fun _=>([]:List Tm)) (n:=k) (Q:=fun i Q=>(x i).lv=(D:Int)+1 -> ∃ b off,(x i).ka=some ⟨b,off,none⟩/\2<=(x i).kn/\(x i).kn<=(x i).kp/\(x i).kp<=maxLen/\b<w.heap.size /\ ¬ M b/\(∀ e,e<(x i).kn->Kid M w D b (off+e*4) (Q e))/\Sim (poly (D+1) (x i).kn Q) (P i) /\ ∀ e,e<(x i).kn->nrm (Q e)<=nrm (P i)) (fun i hi=>by
     by_cases hl:(x i).lv=(D:Int)+1
     ·obtain ⟨_,hCR,_⟩:=HX.out i hi;unfold CRx at hCR;rw [hl] at hCR;obtain ⟨D',hDD,_,_,a',p',b,off,n1,cap1,Q,hc1,hc2,hc3,hn2,hnL,hnc,hcm,hb,hMb,hkid,hlow,hnz,hsim,hnr⟩:=hCR.node_inv (by omega)
      have:D'=D:=by omega
      subst this;simp only [Value.slice.injEq] at hc3;refine ⟨Q,fun _=>⟨b,off,hc3.1,by omega,by omega,by omega,hb,hMb,fun e he=>hkid e (by omega),?_,fun e he=>?_⟩⟩
      ·rw [hc3.2.1];exact hsim
      ·exact Nat.le_trans (qaN (D'+1) n1 Q e (by omega)) hnr
     ·exact ⟨fun _=>[],fun h=>absurd h hl⟩)
    have hs2:2<=mxs x k:=by
     obtain ⟨_,_,_,h2,_⟩:=hQ i1 hi1 (by omega);have:=HSG.out i1 hi1 (by omega);omega
    have HQ:=Lib.hid hQ
    have HSIM:Hid (Sim (poly (D+1) (mxs x k) fun e=>qaK k (qb8 x P Q D e)) (qaK k P)):=by
     refine (qlX _ _ _ _).trans (qcG fun i hi=>?_)
     by_cases hl:(x i).lv=(D:Int)+1
     ·obtain ⟨_,_,_,_,_,_,_,_,_,hsim,_⟩:=hQ i hi hl;have hle:=HSG.out i hi hl;refine Sim.trans ((qda hle fun e h1 h2=>?_).symm.trans (qaC _ _ _ _ fun e he=>?_)) hsim
      ·unfold qb8;rw [if_pos hl,if_neg (by omega)];exact Sim.refl _
      ·unfold qb8;rw [if_pos hl,if_pos he];exact Sim.refl _
     ·refine Sim.trans (qda (show 1<=mxs x k by omega) fun e h1 h2=>?_).symm ((qjp _ _).trans ?_)
      ·unfold qb8;rw [if_neg hl,if_neg (by omega)];exact Sim.refl _
      ·unfold qb8;rw [if_neg hl,if_pos rfl];exact Sim.refl _
    have HNR:Hid (∀ e,dlen (nrm (qaK k (qb8 x P Q D e)))<=1099511627776):=fun e=>by
     refine Nat.le_trans (qal (qfd fun i hi=>?_)) HL.out;unfold qb8
     by_cases hl:(x i).lv=(D:Int)+1
     ·rw [if_pos hl]
      split
      ·obtain ⟨_,_,_,_,_,_,_,_,_,_,hnr⟩:=hQ i hi hl;exact hnr e (by assumption)
      ·exact Nat.zero_le _
     ·rw [if_neg hl]
      split
      ·exact Nat.le_refl _
      ·exact Nat.zero_le _
    have HCI:=Lib.hid (HIH.out D (by omega));rw [hD];generalize mxs x k=s at *;clear hQ hz hD hi1 hi2
    go_wp2_with (first | (refine wpList_make_full _ rfl _ _ _ rfl wo.heap.size 33 i0 (.agg #[.int .i64 0,.bool false,.slice none 0 0,.slice none 0 0]) 4 Tryz.underlying31 hi hz0 hz1 .i64 .i64 _ _ s rfl rfl ?d4 ?d5 ?d2 ?d3 ?d6 ?_))
    case d2=>rw [hz2];omega
    case d3=>unfold maxLen;omega
    case d4=>simp
    case d5=>simp
    case d6=>omega
    intro w1 hown hgrow;have hBk:=(Blk.made hown rfl (by omega)).congr (f':=zc4) (fun i _=>qbL i);have he1:=qaw hgrow;have HB1:=Lib.hid (HBR.out.ext he1);have HE1:=Lib.hid (HEW.out.trans he1)
    have hs1:wo.heap.size+1<=w1.heap.size:=by have:=hBk.lt;omega
    have HKF:Hid (qax (Mx M w.heap.size (wo.heap.size+1)) w1 D wo.heap.size s (fun _=>[])):=qax.fresh hBk;clear hown hgrow hBk he1;go_wp2
    go_loopw [62] (fun i wr=>∃ e:Nat,e<=s/\i = .int .i64 e/\wo.heap.size+1<=wr.heap.size/\Hid (qax (Mx M w.heap.size (wo.heap.size+1)) wr D wo.heap.size s (fun i=>if i<e then qaK k (qb8 x P Q D i) else []))/\Hid (Ext w wr)/\Hid (Blk wr w.heap.size 33 4 (arr #[.int .i64 0,.bool false,.slice none 0 0,.slice none 0 0]))) (fun i _=>s - (intOf i).toNat)
    case atStart=>exact ⟨0,Nat.zero_le _,rfl,hs1,HKF.out.congr fun i _=>by rw [if_neg (by omega)];exact Sim.refl _,HE1,HB1⟩
    case round=>
     clear HKF HE1 HB1 hs1;obtain ⟨e,he,rfl,hsz3,HK,HEW3,HBW3⟩:=hrel
     by_cases hes:e<s
     ·go_wp2;obtain ⟨wi,rfl⟩ : ∃ wi:World,wi=wr:=⟨_,rfl⟩
      go_loopw [67,12] (fun i v wr=>∃ (q c:Nat) (xx:Nat->PE) (S:Nat->List Tm),q<=k/\c<=q/\i = .int .i64 q/\Own wr wi.heap.size 33 4 v c (px xx)/\Hid (∀ i,i<c->CRx (Mx M w.heap.size (wo.heap.size+1)) wi D (xx i) (S i))/\Hid (qaK c S=qaK q (qb8 x P Q D e))/\Hid (Ext wi wr)) (fun i _ _=>k - (intOf i).toNat)
      case atStart=>exact ⟨0,0,fun _=>PE.z,fun _=>[],Nat.zero_le _,Nat.le_refl _,rfl,Own.nil _ _ _ _ _,fun i hi=>by omega,rfl,Ext.refl _⟩
      case round=>
       obtain ⟨q,c,xx,S,hq,hcq,rfl,hO,HS,HPS,HEI⟩:=hrel;obtain ⟨va,vc,rfl⟩:=hO.form;have hsz4:=HEI.out.size
       by_cases hqk:q<k
       ·obtain ⟨⟨b,off,rfl,hnc,hcm,hb,hMb,hcell⟩,hCR,hl0,hlL,hl4⟩:=HX.out q hqk;obtain ⟨y0,y1,y2,y3⟩:=hcell.ext hb (HEW3.out.trans HEI.out)
        have hbw:b<wr.heap.size:=by omega
        have HCR:Hid (CRx (Mx M w.heap.size (wo.heap.size+1)) wi L (x q) (P q)):=(hCR.more (Mx.more (Nat.le_refl _))).ext HEW3.out;have HEA:Hid (Ext wr (wr.alloc (.cells (peA (x q)) 33))):=(Ext.refl wr).alloc _;have hle:=HLE.out q hqk;have HKL:=hCR.kn_le;clear hCR hcell
        by_cases hl:(x q).lv=(D:Int)+1
        ·have hl':((x q).lv == (D:Int)+1)=true:=by simpa using hl
         have hl3:decide ((x q).lv<(D:Int)+1)=false:=decide_eq_false (by omega)
         by_cases hek:e<(x q).kn
         ·obtain ⟨b2,off2,hka,hk2,hkp1,hkp2,hb2,hMb2,hkid,_⟩:=HQ.out q hqk hl;obtain ⟨d0,d1,d2,d3,u0,u1,u2,u3,hCK⟩:=hkid e hek;obtain ⟨y,rfl,rfl,rfl,rfl,hyC,_⟩:=hCK.pe;rw [<- (HEW3.out.trans HEI.out).cell hb2] at u0 u1 u2 u3
          have hb2w:b2<wr.heap.size:=by omega
          have HYC:Hid (CRx (Mx M w.heap.size (wo.heap.size+1)) wi D y (Q q e)):=(hyC.more (Mx.more (Nat.le_refl _))).ext HEW3.out;rw [hka] at y3
          have HPE:Hid (qb8 x P Q D e q=Q q e):=by show _=_;unfold qb8;rw [if_pos hl,if_pos hek]
          clear hkid hCK hyC hl;have HEB:Hid (Ext wr ((wr.alloc (.cells #[.int .i64 (x q).lv,.bool (x q).b,.slice (x q).a (x q).n (x q).p,.slice (some ⟨b2,off2,none⟩) (x q).kn (x q).kp] 33)).alloc (.cells (peA y) 33))):=((Ext.refl wr).alloc _).alloc _;have hO5:=hO.ext HEB.out;have hB5:=Blk.of_arr (wr.alloc (.cells #[.int .i64 (x q).lv,.bool (x q).b,.slice (x q).a (x q).n (x q).p,.slice (some ⟨b2,off2,none⟩) (x q).kn (x q).kp] 33)) (peA y) 33 4 rfl;simp only [World.size_alloc] at hB5;clear hka;have HONE:Hid (∀ j,j<4->(arr (peA y) j).oneCell'=true):=qhD y
          go_wp2_with (at_builtin;refine qa3 _ rfl (.tmp 83) (.tmp 89) _ rfl wi.heap.size 33 i0 _ 4 64 Tryz.underlying31 hi hz0 hz1 hz2 rfl (by omega) (.slice va c vc) c (px xx) rfl hO5 (wr.heap.size+1) 33 1 (arr (peA y)) rfl hB5 HONE.out ?s1 ?s2 ?s3 ?_)
          case s1=>unfold maxLen;omega
          case s2=>omega
          case s3=>simp;omega
          intro gg cap2 w2 hO6 hg6 hat hlt6;have hEx:Ext wi w2:=(HEI.out.trans HEB.out).grown hg6 (fun g hg=>(hO.lt g hg).1)
          have HF:Hid (∃ (q' c':Nat) (xx:Nat->PE) (S:Nat->List Tm),q'<=k/\c'<=q'/\Value.int .i64 ((q:Int)+1) = .int .i64 q'/\Own w2 wi.heap.size 33 4 (.slice (some ⟨gg,0,none⟩) (c+1) cap2) c' (px xx)/\Hid (∀ i,i<c'->CRx (Mx M w.heap.size (wo.heap.size+1)) wi D (xx i) (S i))/\Hid (qaK c' S=qaK q' (qb8 x P Q D e))/\Hid (Ext wi w2)):=by
           refine ⟨q+1,c+1,qc0 xx c y,qc0 S c (Q q e),by omega,by omega,by simp,hO6.congr fun j hj=>qhy xx c y j hj,fun i hi=>?_,?_,hEx⟩
           ·by_cases hic:i=c
            ·subst hic;rw [qa6,qa6];exact HYC.out
            ·rw [qbB _ _ _ _ (by omega),qbB _ _ _ _ (by omega)];exact HS.out i (by omega)
           ·show _=_;rw [qfc,qar,HPS.out,HPE.out]
          clear hO6 hg6 hat hEx hO5 hB5 hO;go_wp2
          go_roundw
          case rel=>exact HF.out
          case measure=>simp [intOf];omega
         ·have hek':decide ((e:Int)<((x q).kn:Int))=false:=decide_eq_false (by omega);have hek2:decide (e<(x q).kn)=false:=decide_eq_false hek
          have HPE:Hid (qb8 x P Q D e q = []):=by show _=_;unfold qb8;rw [if_pos hl,if_neg hek]
          have HPS2:Hid (qaK c S=qaK (q+1) (qb8 x P Q D e)):=by show _=_;rw [qar,HPE.out,List.append_nil];exact HPS.out
          have hO2:=hO.ext HEA.out;have HE2:=Lib.hid (HEI.out.trans HEA.out);clear hl hO;go_wp2
          go_roundw
          case rel=>exact ⟨q+1,c,xx,S,by omega,by omega,by go_num,hO2,HS,HPS2,HE2⟩
          case measure=>simp [intOf];omega
        ·have hl':((x q).lv == (D:Int)+1)=false:=by simpa using hl
         have hl3:decide ((x q).lv<(D:Int)+1)=true:=decide_eq_true (by omega)
         by_cases he0:e=0
         ·have he0':((e:Int) == 0)=true:=by simp;omega
          have HPE:Hid (qb8 x P Q D e q=P q):=by show _=_;unfold qb8;rw [if_neg hl,if_pos he0]
          have HYC:Hid (CRx (Mx M w.heap.size (wo.heap.size+1)) wi D (x q) (P q)):=CR.relev HCR.out (by omega);have HEB:Hid (Ext wr ((wr.alloc (.cells (peA (x q)) 33)).alloc (.cells (peA (x q)) 33))):=((Ext.refl wr).alloc _).alloc _;have hO5:=hO.ext HEB.out;have hB5:=Blk.of_arr (wr.alloc (.cells (peA (x q)) 33)) (peA (x q)) 33 4 rfl;simp only [World.size_alloc] at hB5;have HONE:Hid (∀ j,j<4->(arr (peA (x q)) j).oneCell'=true):=qhD (x q);clear hl he0
          go_wp2_with (at_builtin;refine qa3 _ rfl (.tmp 100) (.tmp 102) _ rfl wi.heap.size 33 i0 _ 4 64 Tryz.underlying31 hi hz0 hz1 hz2 rfl (by omega) (.slice va c vc) c (px xx) rfl hO5 (wr.heap.size+1) 33 1 (arr (peA (x q))) rfl hB5 HONE.out ?t1 ?t2 ?t3 ?_)
          case t1=>unfold maxLen;omega
          case t2=>omega
          case t3=>simp;omega
          intro gg cap2 w2 hO6 hg6 hat hlt6;have hEx:Ext wi w2:=(HEI.out.trans HEB.out).grown hg6 (fun g hg=>(hO.lt g hg).1)
          have HF:Hid (∃ (q' c':Nat) (xx:Nat->PE) (S:Nat->List Tm),q'<=k/\c'<=q'/\Value.int .i64 ((q:Int)+1) = .int .i64 q'/\Own w2 wi.heap.size 33 4 (.slice (some ⟨gg,0,none⟩) (c+1) cap2) c' (px xx)/\Hid (∀ i,i<c'->CRx (Mx M w.heap.size (wo.heap.size+1)) wi D (xx i) (S i))/\Hid (qaK c' S=qaK q' (qb8 x P Q D e))/\Hid (Ext wi w2)):=by
           refine ⟨q+1,c+1,qc0 xx c (x q),qc0 S c (P q),by omega,by omega,by simp,hO6.congr fun j hj=>qhy xx c (x q) j hj,fun i hi=>?_,?_,hEx⟩
           ·by_cases hic:i=c
            ·subst hic;rw [qa6,qa6];exact HYC.out
            ·rw [qbB _ _ _ _ (by omega),qbB _ _ _ _ (by omega)];exact HS.out i (by omega)
           ·show _=_;rw [qfc,qar,HPS.out,HPE.out]
          clear hO6 hg6 hat hEx hO5 hB5 hO;go_wp2
          go_roundw
          case rel=>exact HF.out
          case measure=>simp [intOf];omega
         ·have he0':((e:Int) == 0)=false:=by simp;omega
          have HPE:Hid (qb8 x P Q D e q = []):=by show _=_;unfold qb8;rw [if_neg hl,if_neg he0]
          have HPS2:Hid (qaK c S=qaK (q+1) (qb8 x P Q D e)):=by show _=_;rw [qar,HPE.out,List.append_nil];exact HPS.out
          have hO2:=hO.ext HEA.out;have HE2:=Lib.hid (HEI.out.trans HEA.out);clear hl hO;go_wp2
          go_roundw
          case rel=>exact ⟨q+1,c,xx,S,by omega,by omega,by go_num,hO2,HS,HPS2,HE2⟩
          case measure=>simp [intOf];omega
       ·have hqk':q=k:=by omega
        subst hqk';have HMM:Hid (Mb (Mx M w.heap.size (wo.heap.size+1)) wi):=Mx.mb hM HEW3.out.size hsz3;have HKR:=Lib.hid (hO.toK (M:=Mx M w.heap.size (wo.heap.size+1)) (D:=D) (S:=S) (fun i hi=>(HS.out i hi).ext HEI.out) (fun g hg=>HMM.out.new hg) (by omega));have CTR:=Lib.hid (HCI.out _ _ _ _ _ (HMM.out.ext HEI.out) HKR.out (by rw [HPS.out];exact HNR.out e));go_wp2_with (fail);refine (CTR.out).mono ?_;rintro e2 w4 ⟨d0,d1,d2,d3,rfl,hCR,he4⟩;obtain ⟨lv2,b2,a2,n2,p2,ka2,kn2,kp2,rfl,rfl,rfl,rfl,_⟩:=hCR.form;have he5:=HEI.out.trans he4;have hK4:=HK.out.ext he5;obtain ⟨⟨_,k0⟩,⟨_,k1⟩,⟨_,k2⟩,⟨_,k3⟩,hfr,hg4⟩:=hK4.at e hes;have hf0:=hfr (e*4);have hf1:=hfr (e*4+1);have hf2:=hfr (e*4+2);have hf3:=hfr (e*4+3)
        have HK5:Hid (qax (Mx M w.heap.size (wo.heap.size+1)) (set4 w4 wo.heap.size (e*4) (.int .i64 lv2) (.bool b2) (.slice a2 n2 p2) (.slice ka2 kn2 kp2)) D wo.heap.size s (fun i=>if i<e+1 then qaK q (qb8 x P Q D i) else [])):=by
         refine (hK4.set (Mx.at (by omega)) e hes hCR).congr fun i _=>?_
         by_cases hik:i=e
         ·subst hik;rw [if_pos rfl,if_pos (by omega),HPS.out];exact Sim.refl _
         ·rw [if_neg hik]
          by_cases h3:i<e
          ·rw [if_pos h3,if_pos (by omega)];exact Sim.refl _
          ·rw [if_neg h3,if_neg (by omega)];exact Sim.refl _
        have HE5:Hid (Ext w (set4 w4 wo.heap.size (e*4) (.int .i64 lv2) (.bool b2) (.slice a2 n2 p2) (.slice ka2 kn2 kp2))):=(HEW3.out.trans he5).set4 (by omega) _ _ _ _ _;have HB5:Hid (Blk (set4 w4 wo.heap.size (e*4) (.int .i64 lv2) (.bool b2) (.slice a2 n2 p2) (.slice ka2 kn2 kp2)) w.heap.size _ _ _):=(HBW3.out.ext he5).of_heap (qag _ _ _ _ _ _ _ _ (by omega))
        have HSZ5:Hid (wo.heap.size+1<=(set4 w4 wo.heap.size (e*4) (.int .i64 lv2) (.bool b2) (.slice a2 n2 p2) (.slice ka2 kn2 kp2)).heap.size):=by show _<=_;rw [qaq];have:=he5.size;omega
        clear hK4 hfr hCR he4 he5 hO;go_wp2
        go_roundw
        case rel=>exact ⟨e+1,by omega,by go_num,HSZ5.out,HK5,HE5,HB5⟩
        case measure=>simp [intOf];omega
     ·have hes':e=s:=by omega
      subst hes'
      have HKR:Hid (qbA (Mx M w.heap.size (w.heap.size+1)) wr D (.slice (some ⟨wo.heap.size,0,none⟩) e e) e (fun i=>qaK k (qb8 x P Q D i))):=by
       refine qbA.congr (qbA.of_kids (HK.out.more fun g hg=>.inl (hg.imp id fun h=>by omega)) (fun hh=>hh.elim (hM.new (by omega)) (by omega)) hsL) fun i hi=>?_;rw [if_pos hi];exact Sim.refl _
      have CTR:=Lib.hid (qir (Mx M w.heap.size (w.heap.size+1)) D _ e _ wr (Mx.mb hM HEW3.out.size (by omega)) hD4 HKR.out);go_wp2_with (fail);refine (CTR.out).mono ?_;rintro e2 w4 ⟨d0,d1,d2,d3,rfl,hCR,he4⟩;obtain ⟨lv2,b2,a2,n2,p2,ka2,kn2,kp2,rfl,rfl,rfl,rfl,_⟩:=hCR.form;obtain ⟨⟨q0,q1,q2,q3⟩,⟨f0,f1,f2,f3⟩,⟨r0,r1,r2,r3⟩,HF⟩:=qit (M:=M) (w:=w) (L:=L) (HBW3.out.ext he4) (Mx.at (by omega)) (Nat.le_refl _) (HEW3.out.trans he4) ((hCR.up hDL).sim HSIM.out) Mx.sub;simp only [arr] at q0 q1 q2 q3;clear hCR he4;go_wp2;exact bodyPost_ret (v:=.agg #[.int .i64 lv2,.bool b2,.slice a2 n2 p2,.slice ka2 kn2 kp2]) (by simp [results,Tryz.results97,go_sem,r0,r1,r2,r3]) rfl HF.out
theorem qpa (L:Nat):qnC L:=by
 induction L using Nat.strongRecOn with
 | _ L ih=>exact qoV L fun D hD=>ih D hD


def qlb (M:Nat->Prop) (w:World) (u:Value) (c:Nat) (σ:Nat->Nat):Prop:=
 (u = .slice none 0 0/\c=0) ∨ ∃ g cap,u = .slice (some ⟨g,0,none⟩) c cap/\c<=cap/\cap<=maxLen/\(g<w.heap.size /\ ¬ M g) /\ ∀ i,i<c->w.cell? ⟨g,i,none⟩=some (.int .i64 (σ i:Nat))
theorem qlb.kp {M:Nat->Prop} {w w':World} {u:Value} {c:Nat} {σ:Nat->Nat} (h:qlb M w u c σ) (he:Kp M w w'):qlb M w' u c σ:=by
 rcases h with h | ⟨g,cap,h1,h2,h3,h4,h5⟩
 ·exact .inl h
 ·exact .inr ⟨g,cap,h1,h2,h3,⟨Nat.lt_of_lt_of_le h4.1 he.1,h4.2⟩,fun i hi=>by rw [he.cell h4.1 h4.2];exact h5 i hi⟩
theorem qlb.ext {M:Nat->Prop} {w w':World} {u:Value} {c:Nat} {σ:Nat->Nat} (h:qlb M w u c σ) (he:Ext w w'):qlb M w' u c σ:=h.kp (Kp.of_ext he)
theorem qlb.form {M:Nat->Prop} {w:World} {u:Value} {c:Nat} {σ:Nat->Nat} (h:qlb M w u c σ) : ∃ a cap,u = .slice a c cap:=by
 rcases h with ⟨rfl,rfl⟩ | ⟨g,cap,rfl,_⟩
 ·exact ⟨_,_,rfl⟩
 ·exact ⟨_,_,rfl⟩
theorem qlb.at {M:Nat->Prop} {w:World} {a:Option Addr} {c cap:Nat} {σ:Nat->Nat} (h:qlb M w (.slice a c cap) c σ) (i:Nat) (hi:i<c) : ∃ g,a=some ⟨g,0,none⟩/\c<=cap/\cap<=maxLen/\g<w.heap.size /\ ¬ M g/\w.cell? ⟨g,i,none⟩=some (.int .i64 (σ i:Nat)):=by
 rcases h with ⟨_,h⟩ | ⟨g,cap',h1,h2,h3,h4,h5⟩
 ·omega
 ·simp only [Value.slice.injEq,true_and] at h1;obtain ⟨rfl,rfl⟩:=h1;exact ⟨g,rfl,h2,h3,h4.1,h4.2,h5 i hi⟩
def Sel (nz:Nat->Bool) (k c:Nat) (σ:Nat->Nat):Prop:=(List.range c).map σ=(List.range k).filter nz
theorem Sel.len {nz:Nat->Bool} {k c:Nat} {σ:Nat->Nat} (h:Sel nz k c σ):c<=k:=by
 have h1:=congrArg List.length h;have h2:=List.length_filter_le nz (List.range k);simp only [List.length_map,List.length_range] at h1 h2;omega
theorem Sel.skip {nz:Nat->Bool} {k c:Nat} {σ:Nat->Nat} (h:Sel nz k c σ) (hz:nz k=false):Sel nz (k+1) c σ:=by
 unfold Sel at *;rw [h,List.range_succ,List.filter_append];simp [hz]
theorem Sel.take {nz:Nat->Bool} {k c:Nat} {σ:Nat->Nat} (h:Sel nz k c σ) (hz:nz k=true):Sel nz (k+1) (c+1) (qc0 σ c k):=by
 unfold Sel at *;rw [List.range_succ,List.map_append,List.range_succ,List.filter_append,<- h]
 congr 1
 ·apply List.map_congr_left;intro i hi;exact qbB _ _ _ _ (by simpa using hi)
 ·simp [hz,qa6]
theorem Sel.mem {nz:Nat->Bool} {k c:Nat} {σ:Nat->Nat} (h:Sel nz k c σ) (i:Nat) (hi:i<c):σ i<k/\nz (σ i)=true:=by
 have:σ i ∈ (List.range k).filter nz:=by rw [<- h];exact List.mem_map.2 ⟨i,by simpa using hi,rfl⟩
 simpa using this
theorem qql (z:Int) (j:Nat) (hj:j<1):(arr #[.int .i64 z] j).oneCell'=true:=by
 have:j=0:=by omega
 subst this;rfl
def idf (σ:Nat->Nat):Nat->Value:=fun j=>.int .i64 (σ j:Nat)
theorem qqM (σ:Nat->Nat) (c k:Nat) (j:Nat) (hj:j<(c+1)*1):app (idf σ) c (arr #[.int .i64 (k:Int)]) j=idf (qc0 σ c k) j:=by
 unfold app idf
 by_cases h:j<c
 ·rw [if_pos h,qbB _ _ _ _ (by omega)]
 ·rw [if_neg h]
  have:j=c:=by omega
  subst this;rw [qa6,Nat.sub_self];rfl
theorem qfN (M : Nat -> Prop) (D : Nat) (v : Value) (N : Nat) (P : Nat -> List Tm) (w : World) (hM : Mb M w) (h : qbA M w D v N P) :
  Calls Tryz.prog 158 #[v] w fun e w'=>∃ (u:Value) (c:Nat) (σ:Nat->Nat) (nz:Nat->Bool),e = .returned u/\qlb M w' u c σ/\Sel nz N c σ/\(∀ i,i<N->(nz i=true ↔ ¬ Sim (P i) []))/\Ext w w':=by
 obtain ⟨i0,hi,hz0,hz1,hz2⟩:=info_parts Tryz.info3;obtain ⟨a,cap,rfl⟩:=h.form;obtain ⟨x,hx⟩:=h.x;have hNL:=h.1;have HX:=Lib.hid hx
 have HNZ:Hid (∀ i,i<N->(((!qfp (x i).lv (x i).n)=true) ↔ ¬ Sim (P i) [])):=fun i hi=>by
  have:=CR.isz (hx i hi).2.1;rw [<- this];simp
 clear h hx
 go_enter Tryz.func158,Tryz.ntmps158
 go_wp2
 go_loopw [8,3] (fun i v wr=>∃ (k c:Nat) (σ:Nat->Nat),k<=N/\i = .int .i64 k/\Own wr w.heap.size 3 1 v c (idf σ)/\Hid (Sel (fun i=>!qfp (x i).lv (x i).n) k c σ)/\Hid (Ext w wr)) (fun i _ _=>N - (intOf i).toNat)
 case atStart=>exact ⟨0,0,fun _=>0,Nat.zero_le _,rfl,Own.nil _ _ _ _ _,rfl,Ext.refl _⟩
 case round=>
  obtain ⟨k,c,σ,hk,rfl,hO,HS,HER⟩:=hrel;obtain ⟨va,vc,rfl⟩:=hO.form;have hsz:=HER.out.size;have hck:=HS.out.len
  by_cases hlt:k<N
  ·obtain ⟨⟨b,off,rfl,hnc,hcm,hb,hMb,hcell⟩,hCR,hl0,hlL,hl4⟩:=HX.out k hlt;obtain ⟨y0,y1,y2,y3⟩:=hcell.ext hb HER.out
   have hbw:b<wr.heap.size:=by omega
   have HEA:Hid (Ext wr (wr.alloc (.cells (peA (x k)) 33))):=(Ext.refl wr).alloc _;have ctr:=qbU (x k).lv (x k).b (x k).a (x k).n (x k).p (x k).ka (x k).kn (x k).kp (wr.alloc (.cells (peA (x k)) 33));clear hCR hcell;cases hzb:qfp (x k).lv (x k).n
   ·rw [hzb] at ctr;have CTR:=Lib.hid ctr;have HS2:Hid (Sel (fun i=>!qfp (x i).lv (x i).n) (k+1) (c+1) (qc0 σ c k)):=HS.out.take (by simp [hzb]);clear ctr;go_wp2_with (fail);refine (CTR.out).mono ?_;rintro e w1 ⟨rfl,he1⟩;have hE1:Ext wr w1:=HEA.out.trans he1;have hs1:=hE1.size;have hO5:=(hO.ext hE1).ext ((Ext.refl _).alloc (.cells #[.int .i64 (k:Int)] 3));have hB5:=Blk.of_arr w1 #[.int .i64 (k:Int)] 3 1 rfl;have HONE:=Lib.hid (qql (k:Int));have HE1:=Lib.hid (hE1.trans ((Ext.refl _).alloc (.cells #[.int .i64 (k:Int)] 3)));clear he1 hE1
    go_wp2_with (at_builtin;refine qa3 _ rfl (.tmp 16) (.tmp 18) _ rfl w.heap.size 3 i0 _ 1 8 Tryz.underlying177 hi hz0 hz1 hz2 rfl (by omega) (.slice va c vc) c (idf σ) rfl hO5 w1.heap.size 3 1 (arr #[.int .i64 (k:Int)]) rfl hB5 HONE.out ?s1 ?s2 ?s3 ?_)
    case s1=>unfold maxLen;omega
    case s2=>omega
    case s3=>simp;omega
    intro gg cap2 w2 hO6 hg6 hat hlt6;have HF:Hid (Ext w w2):=(HER.out.trans HE1.out).grown hg6 (fun g hg=>(hO.lt g hg).1);have hO7:=hO6.congr fun j hj=>qqM σ c k j hj;clear hO6 hg6 hat hO5 hB5 hO;go_wp2
    go_roundw
    case rel=>exact ⟨k+1,c+1,qc0 σ c k,by omega,by go_num,hO7,HS2,HF⟩
    case measure=>simp [intOf];omega
   ·rw [hzb] at ctr;have CTR:=Lib.hid ctr;have HS2:Hid (Sel (fun i=>!qfp (x i).lv (x i).n) (k+1) c σ):=HS.out.skip (by simp [hzb]);clear ctr;go_wp2_with (fail);refine (CTR.out).mono ?_;rintro e w1 ⟨rfl,he1⟩;have hE1:Ext wr w1:=HEA.out.trans he1;have HF:=Lib.hid (HER.out.trans hE1);have hO7:=hO.ext hE1;clear he1 hE1 hO;go_wp2
    go_roundw
    case rel=>exact ⟨k+1,c,σ,by omega,by go_num,hO7,HS2,HF⟩
    case measure=>simp [intOf];omega
  ·have hkn:k=N:=by omega
   subst hkn
   have hI:qlb M wr (.slice va c vc) c σ:=by
    rcases hO with h | ⟨g,cap',F,h1,hg,hB,hcc,hcm,hF⟩
    ·exact .inl h
    ·refine .inr ⟨g,cap',h1,hcc,hcm,⟨hB.lt,hM.new hg⟩,fun i hi=>?_⟩;rw [hB.cell (by omega),hF i (by omega)];rfl
   have HI:=Lib.hid hI;clear hI;go_wp2;go_ret;exact ⟨_,c,σ,_,rfl,HI.out,HS.out,HNZ.out,HER.out⟩


theorem qcS (k:Mo) (l r:List Tm):Sim (pmul l (shift k r)) (shift k (pmul l r)):=
 (Sim.pmul_comm l (shift k r)).trans ((qaJ k r l).trans ((Sim.pmul_comm r l).shift k))
theorem qcp (n:Nat) (F:Nat->List Tm) (r:List Tm):Sim (pmul (qaK n F) r) (qaK n fun i=>pmul (F i) r):=by
 induction n with
 | zero=>exact Sim.refl _
 | succ n ih=>rw [qar,qar,qav];exact ih.append (Sim.refl _)
theorem qfg (n:Nat) (F:Nat->List Tm) (l:List Tm):Sim (pmul l (qaK n F)) (qaK n fun i=>pmul l (F i)):=
 (Sim.pmul_comm _ _).trans ((qcp n F l).trans (qcG fun i _=>Sim.pmul_comm _ _))
theorem qcl (L n:Nat) (P:Nat->List Tm):poly L n P=qaK n fun i=>shift (xp L (i:Int)) (P i):=rfl
theorem qrI (L:Nat) (i j:Int):Mo.add (xp L i) (xp L j)=xp L (i+j):=by
 unfold xp Mo.add;simp only [Mo.mk.injEq];refine ⟨?_,?_,?_,?_⟩ <;> (split <;> simp)
def zij (L:Nat) (P Q:Nat->List Tm) (i j:Nat):List Tm:=shift (xp L ((i+j:Nat):Int)) (pmul (P i) (Q j))
theorem qlZ (L n n':Nat) (P Q:Nat->List Tm):Sim (pmul (poly L n P) (poly L n' Q)) (qaK n fun i=>qaK n' fun j=>zij L P Q i j):=by
 rw [qcl,qcl];refine (qcp _ _ _).trans (qcG fun i _=>(qfg _ _ _).trans (qcG fun j _=>?_));unfold zij;refine (qaJ _ _ _).trans (((qcS _ _ _).shift _).trans ?_);rw [qdr,qrI,show (j:Int)+(i:Int)=((i+j:Nat):Int) by omega];exact Sim.refl _
theorem qaX (L n:Nat) (P:Nat->List Tm) (r:List Tm):Sim (poly L n fun i=>pmul (P i) r) (pmul (poly L n P) r):=by
 rw [qcl,qcl];refine Sim.symm ((qcp _ _ _).trans (qcG fun i _=>qaJ _ _ _))
theorem qdW (nz:Nat->Bool) (F:Nat->List Tm) (l:List Nat) (h : ∀ i ∈ l,nz i=false->Sim (F i) []):Sim ((l.filter nz).flatMap F) (l.flatMap F):=by
 induction l with
 | nil=>exact Sim.refl _
 | cons i l ih=>
  have h1:=ih fun j hj=>h j (List.mem_cons_of_mem _ hj);rw [List.filter_cons];cases hz:nz i
  ·rw [if_neg (by simp),List.flatMap_cons];have h2:=(h i List.mem_cons_self hz).symm.append h1;simpa using h2
  ·rw [if_pos rfl,List.flatMap_cons,List.flatMap_cons];exact (Sim.refl _).append h1
theorem qjl {nz:Nat->Bool} {n c:Nat} {σ:Nat->Nat} (h:Sel nz n c σ) (F:Nat->List Tm) (hz : ∀ i,i<n->nz i=false->Sim (F i) []):Sim (qaK c fun a=>F (σ a)) (qaK n F):=by
 unfold qaK
 have e:(List.range c).flatMap (fun a=>F (σ a))=((List.range c).map σ).flatMap F:=by rw [List.flatMap_map]
 rw [e,h];exact qdW nz F _ fun i hi=>hz i (by simpa using hi)
theorem qeo {nz:Nat->Bool} {n c:Nat} {σ:Nat->Nat} (h:Sel nz n c σ) (F:Nat->List Tm):nrm (qaK c fun a=>F (σ a))<=nrm (qaK n F):=by
 unfold qaK
 have e:(List.range c).flatMap (fun a=>F (σ a))=((List.range c).map σ).flatMap F:=by rw [List.flatMap_map]
 rw [e,h];generalize List.range n=l
 induction l with
 | nil=>exact Nat.le_refl _
 | cons i l ih=>
  rw [List.filter_cons,List.flatMap_cons,qai]
  split
  ·rw [List.flatMap_cons,qai];omega
  ·omega
theorem qep (n:Nat) (F:Nat->List Tm) (f:Nat->Nat) (h : ∀ i,i<n->nrm (F i)=f i) (g:Nat->List Tm) (c:Nat) (hg : ∀ i,i<n->f i=nrm (g i)*c):nrm (qaK n F)=nrm (qaK n g)*c:=by
 induction n with
 | zero=>simp [qaK,nrm]
 | succ n ih=>
  rw [qar,qar,qai,qai,ih (fun i hi=>h i (by omega)) fun i hi=>hg i (by omega),h n (by omega),hg n (by omega),Nat.add_mul]
theorem qqp (L n n':Nat) (P Q:Nat->List Tm):nrm (qaK n fun i=>qaK n' fun j=>zij L P Q i j)=nrm (poly L n P)*nrm (poly L n' Q):=by
 have hq : ∀ (n:Nat) (P:Nat->List Tm),nrm (poly L n P)=nrm (qaK n P):=by
  intro n P
  induction n with
  | zero=>rfl
  | succ n ih=>rw [qaf,qar,qai,qai,qaS,ih]
 rw [hq,hq];refine qep n _ (fun i=>nrm (P i)*nrm (qaK n' Q)) (fun i _=>?_) P (nrm (qaK n' Q)) (fun _ _=>rfl);rw [Nat.mul_comm];refine qep n' _ (fun j=>nrm (Q j)*nrm (P i)) (fun j _=>?_) Q (nrm (P i)) (fun _ _=>rfl);unfold zij;rw [qaS,qbb,Nat.mul_comm]
theorem qdK {L K k0 : Nat} (hk : k0 < K) {F F' : Nat -> List Tm} {l : List Tm} (h : ∀ k, k < K -> k ≠ k0 -> F' k = F k) (h0 : F' k0 = F k0 ++ l) :
  Sim (poly L K F') (poly L K F ++ shift (xp L (k0:Int)) l)/\nrm (poly L K F')=nrm (poly L K F)+nrm l:=by
 induction K with
 | zero=>omega
 | succ K ih=>
  rw [qaf,qaf]
  by_cases hK:k0=K
  ·subst hK;have e:poly L k0 F'=poly L k0 F:=qff _ _ _ _ fun i hi=>h i (by omega) (by omega);rw [e,h0,qch];refine ⟨fun m=>by simp only [qae];omega,?_⟩;simp only [qai,qaS];omega
  ·obtain ⟨i1,i2⟩:=ih (by omega) fun k hk=>h k (by omega);rw [h K (by omega) (by omega)];refine ⟨fun m=>?_,?_⟩
   ·have:=i1 m;simp only [qae] at this ⊢;omega
   ·simp only [qai,qaS] at i2 ⊢;omega
def Deg (B:Nat) (l:List Tm):Prop:=∀ m,qab l m≠0 -> ∀ k,m.get k<=B
theorem Deg.sim {B:Nat} {l r:List Tm} (h:Deg B l) (hs:Sim l r):Deg B r:=fun m hm k=>h m (by rw [hs m];exact hm) k
theorem Deg.mono {B C:Nat} {l:List Tm} (h:Deg B l) (hs:B<=C):Deg C l:=fun m hm k=>by have:=h m hm k;omega
theorem qbM {l:List Tm} (h : ¬ Sim l []) : ∃ m,qab l m≠0:=by
 refine Classical.byContradiction fun hn=>h fun m=>?_;refine Classical.byContradiction fun hm=>hn ⟨m,hm⟩
theorem Deg.append {B:Nat} {l r:List Tm} (h:Deg B l) (k:Deg B r):Deg B (l ++ r):=fun m hm j=>by
 rw [qae] at hm
 by_cases h1:qab l m=0
 ·exact k m (by omega) j
 ·exact h m h1 j
theorem qh8 {l r:List Tm} {m:Mo} (h:qab (pmul l r) m≠0) : ∃ s ∈ l,qab r (Mo.sub m s.2)≠0:=by
 induction l with
 | nil=>exact absurd rfl h
 | cons s l ih=>
  rw [qah] at h
  by_cases h1:qab r (Mo.sub m s.2)=0
  ·rw [h1,Int.mul_zero,Int.zero_add] at h;obtain ⟨t,ht,h2⟩:=ih h;exact ⟨t,List.mem_cons_of_mem _ ht,h2⟩
  ·exact ⟨s,List.mem_cons_self,h1⟩
theorem qb1 {l r:List Tm} {m:Mo} (hl:qnJ l) (h:qab (pmul l r) m≠0) : ∃ m1,qab l m1≠0/\qab r (Mo.sub m m1)≠0:=by
 induction l with
 | nil=>exact absurd rfl h
 | cons s l ih=>
  have hd:=List.pairwise_cons.1 hl;have hc0 : ∀ m1,qab (s :: l) m1=(if s.2=m1 then s.1 else 0)+qab l m1:=fun _=>rfl;have hz:qab l s.2=0:=qaB fun t ht e=>hd.1 t ht e.symm;rw [qah] at h
  by_cases h1:s.1*qab r (Mo.sub m s.2)=0
  ·rw [h1,Int.zero_add] at h;obtain ⟨m1,h2,h3⟩:=ih hd.2 h;refine ⟨m1,?_,h3⟩;rw [hc0,if_neg (fun e=>h2 (by rw [<- e];exact hz))];simpa using h2
  ·refine ⟨s.2,?_,fun e=>h1 (by rw [e,Int.mul_zero])⟩;rw [hc0,if_pos rfl,hz];intro e;exact h1 (by rw [show s.1=0 by omega,Int.zero_mul])
theorem qam {l:List Tm} (h : ∀ m:Mo,m.nn=false->qab l m=0):Sim (norm l) l:=by
 intro m;rw [qcv];unfold qcU;cases hm:m.nn
 ·rw [if_neg (by simp),h m hm]
 ·rw [if_pos rfl]
theorem qdg {l:List Tm} (h:qbk l):qnJ l:=by
 unfold qnJ;exact h.1.imp (fun {s t} (hlt:Mo.lt t.2 s.2) (e:s.2=t.2)=>Mo.lt_ne hlt e.symm)
theorem Deg.pmul {B C:Nat} {l r:List Tm} (hl:Deg B l) (hr:Deg C r) (nl : ∀ m:Mo,m.nn=false->qab l m=0):Deg (B+C) (pmul l r):=by
 intro m hm k;have hs:=qam nl;rw [<- (hs.pmul_left r) m] at hm;obtain ⟨m1,h1,h2⟩:=qb1 (qdg (qaH l)) hm;have a1:=hl m1 (by rw [<- hs m1];exact h1) k;have a2:=hr _ h2 k;rw [qbG] at a2;omega
theorem qiE {l r:List Tm} (nl : ∀ m:Mo,m.nn=false->qab l m=0) (nr : ∀ m:Mo,m.nn=false->qab r m=0) (m:Mo) (hm:m.nn=false):qab (pmul l r) m=0:=by
 refine Classical.byContradiction fun hc=>?_;have hs:=qam nl;rw [<- (hs.pmul_left r) m] at hc;obtain ⟨m1,h1,h2⟩:=qb1 (qdg (qaH l)) hc
 have g1:m1.nn=true:=by
  cases h:m1.nn
  ·exact absurd (by rw [hs m1];exact nl m1 h) h1
  ·rfl
 have g2:(Mo.sub m m1).nn=true:=by
  cases h:(Mo.sub m m1).nn
  ·exact absurd (nr _ h) h2
  ·rfl
 rw [Mo.nn_iff] at g1 g2;simp only [Mo.sub] at g2;have:m.nn=true:=(Mo.nn_iff m).2 ⟨by omega,by omega,by omega,by omega⟩;rw [hm] at this;cases this
theorem Mo.lt_sub {x a b:Mo} (h:Mo.lt x a):Mo.lt b (Mo.sub (Mo.add a b) x):=by
 unfold Mo.lt at *;simp only [Mo.add,Mo.sub];omega
theorem qfz {s t:Tm} {l r:List Tm} (hl:qbk (s :: l)) (hr:qbk (t :: r)):qab (pmul (s :: l) (t :: r)) (Mo.add s.2 t.2)=s.1*t.1:=by
 rw [qah]
 have e1:Mo.sub (Mo.add s.2 t.2) s.2=t.2:=by rw [Mo.add_comm'];exact ((Mo.add_eq _ _ _).1 rfl).symm
 rw [e1,hr.coef_head]
 have e2:qab (pmul l (t :: r)) (Mo.add s.2 t.2)=0:=by
  refine Classical.byContradiction fun hc=>?_;obtain ⟨u,hu,h2⟩:=qh8 hc;have h3:=Mo.lt_sub (b:=t.2) (hl.head u hu);refine h2 (qbk.coef_big fun q hq=>?_);rcases List.mem_cons.1 hq with rfl | hq
  ·exact h3
  ·exact Mo.lt_trans (hr.head q hq) h3
 rw [e2,Int.add_zero]
theorem qdt {l r:List Tm} (nl : ∀ m:Mo,m.nn=false->qab l m=0) (nr : ∀ m:Mo,m.nn=false->qab r m=0) (hl : ¬ Sim l []) (hr : ¬ Sim r []) : ¬ Sim (pmul l r) []:=by
 intro h;have s1:=qam nl;have s2:=qam nr;have c1:=qaH l;have c2:=qaH r;have h':Sim (Go.Proofs.YtmcfpnmoklnhoaaGreat.pmul (norm l) (norm r)) []:=(Sim.pmul s1 s2).trans h
 cases e1:norm l with
 | nil=>exact hl (by rw [e1] at s1;exact s1.symm)
 | cons s l'=>
  cases e2:norm r with
  | nil=>exact hr (by rw [e2] at s2;exact s2.symm)
  | cons t r'=>
   rw [e1] at c1 h';rw [e2] at c2 h';have:=h' (Mo.add s.2 t.2);rw [qfz c1 c2] at this;have h3:=(c1.2 s List.mem_cons_self).1;have h4:=(c2.2 t List.mem_cons_self).1;have:s.1*t.1=0:=this;rcases Int.mul_eq_zero.1 this with h5 | h5
   ·exact h3 h5
   ·exact h4 h5
theorem qbp {D n B:Nat} {P:Nat->List Tm} (hD:D+1<=4) (hn:1<=n) (hlow : ∀ i,i<n->Low D (P i)) (hnz : ¬ Sim (P (n - 1)) []) (h:Deg B (poly (D+1) n P)):n<=B+1 /\ ∀ i,i<n->Deg B (P i):=by
 have key : ∀ i,i<n -> ∀ m,qab (P i) m≠0->m.get (D+1)=0/\qab (poly (D+1) n P) (Mo.add m (xp (D+1) (i:Int)))≠0:=by
  intro i hi m hm;have h0:m.get (D+1)=0:=Classical.byContradiction fun hc=>hm ((hlow i hi).coef (by omega) hD hc);exact ⟨h0,by rw [qdX (by omega) hD (fun i hi=>hlow i hi) i hi m h0];exact hm⟩
 constructor
 ·obtain ⟨m,hm⟩:=qbM hnz;obtain ⟨h0,h1⟩:=key (n - 1) (by omega) m hm;have:=h _ h1 (D+1);rw [qas,h0,qat _ _ _ (by omega) hD,if_pos rfl] at this;omega
 ·intro i hi m hm k;obtain ⟨h0,h1⟩:=key i hi m hm;have:=h _ h1 k;rw [qas,qat _ _ _ (by omega) hD] at this
  split at this <;> omega


def qc3 {α:Type} (f:Nat->α) (k:Nat) (a:α):Nat->α:=fun i=>if i=k then a else f i
theorem qaF {α:Type} (f:Nat->α) (k:Nat) (a:α):qc3 f k a k=a:=by unfold qc3;rw [if_pos rfl]
theorem qaV {α:Type} (f:Nat->α) (k:Nat) (a:α) (i:Nat) (h:i≠k):qc3 f k a i=f i:=by unfold qc3;rw [if_neg h]
def MP (M:Nat->Prop) (v:Nat->Value) (K:Nat):Nat->Prop:=fun b=>M b ∨ ∃ k,k<K/\(v k).ownBlock=some b
structure qbY (M:Nat->Prop) (B0:Nat) (w:World) (D gp K:Nat) (v:Nat->Value) (c:Nat->Nat) (xx:Nat->Nat->PE) (S:Nat->Nat->List Tm):Prop where
 blk:Blk w gp 31 K v
 own : ∀ k,k<K->Own w B0 33 4 (v k) (c k) (px (xx k))
 sep : ∀ k k',k<K->k'<K->k≠k' -> ∀ b,(v k).ownBlock=some b->(v k').ownBlock≠some b
 cr : ∀ k,k<K -> ∀ i,i<c k->CRx (MP M v K) w D (xx k i) (S k i)
 gpM:M gp
 gpB:gp<B0
 MB:Mb M w
 BM : ∀ g,M g->g<B0
theorem qbY.ext {M:Nat->Prop} {B0:Nat} {w w':World} {D gp K:Nat} {v:Nat->Value} {c:Nat->Nat} {xx:Nat->Nat->PE} {S:Nat->Nat->List Tm} (h:qbY M B0 w D gp K v c xx S) (he:Ext w w'):qbY M B0 w' D gp K v c xx S:=
 ⟨h.blk.ext he,fun k hk=>(h.own k hk).ext he,h.sep,fun k hk i hi=>(h.cr k hk i hi).ext he,h.gpM,h.gpB,h.MB.ext he,h.BM⟩
theorem qbY.mb {M:Nat->Prop} {B0:Nat} {w:World} {D gp K:Nat} {v:Nat->Value} {c:Nat->Nat} {xx:Nat->Nat->PE} {S:Nat->Nat->List Tm} (h:qbY M B0 w D gp K v c xx S):Mb (MP M v K) w:=by
 intro g hg;rcases hg with hg | ⟨k,hk,e⟩
 ·exact h.MB g hg
 ·exact ((h.own k hk).lt g e).2
theorem qbY.step {M : Nat -> Prop} {B0 : Nat} {w wa wb wc : World} {D gp K : Nat} {v : Nat -> Value} {c : Nat -> Nat} {xx : Nat -> Nat -> PE} {S : Nat -> Nat -> List Tm} (h : qbY M B0 w D gp K v c xx S) {k0 : Nat} (hk : k0 < K) {gg cap2 : Nat} {y : PE} {l : List Tm}
  (he:Ext w wa) (hO:Own wb B0 33 4 (.slice (some ⟨gg,0,none⟩) (c k0+1) cap2) (c k0+1) (px (qc0 (xx k0) (c k0) y))) (hg:wa.grownBy wb (v k0).ownBlock) (hat:(v k0).ownBlock=some gg∨wa.heap.size<=gg)
  (he2:Ext wb wc) (hy:CRx (fun b=>MP M v K b∨b=gg) wc D y l) :
  qbY M B0 (wc.setCell ⟨gp,k0,none⟩ (.slice (some ⟨gg,0,none⟩) (c k0+1) cap2)) D gp K (qc3 v k0 (.slice (some ⟨gg,0,none⟩) (c k0+1) cap2)) (qc3 c k0 (c k0+1)) (qc3 xx k0 (qc0 (xx k0) (c k0) y)) (qc3 S k0 (qc0 (S k0) (c k0) l)):=by
 have hgg:=hO.lt gg rfl;have hob:(Value.slice (some ⟨gg,0,none⟩) (c k0+1) cap2).ownBlock=some gg:=rfl;have hga:gp<wa.heap.size:=(h.blk.ext he).lt
 have hne : ∀ k b,k<K->(v k).ownBlock=some b->b≠gp:=fun k b hk hb e=>by have:=(h.own k hk).lt b hb;have:=h.gpB;omega
 have hggp:gg≠gp:=by have:=h.gpB;omega
 -- the set of all blocks in play
 have hmu : ∀ b,(MP M v K b∨b=gg)->MP M v K b∨wa.heap.size<=b:=by
  rintro b (hb | rfl)
  ·exact .inl hb
  ·rcases hat with h1 | h1
   ·exact .inl (.inr ⟨k0,hk,h1⟩)
   ·exact .inr h1
 have hkpa:Kp (fun b=>MP M v K b∨b=gg) wa wb:=Kp.grown hg fun q hq=>.inl (.inr ⟨k0,hk,hq⟩);have hkps:Kp (fun b=>MP M v K b∨b=gg) wc (wc.setCell ⟨gp,k0,none⟩ (.slice (some ⟨gg,0,none⟩) (c k0+1) cap2)):=Kp.set _ _ (p:=⟨gp,k0,none⟩) (.inl (.inl h.gpM)) _
 have hless : ∀ b,MP M (qc3 v k0 (.slice (some ⟨gg,0,none⟩) (c k0+1) cap2)) K b->(MP M v K b∨b=gg):=by
  rintro b (hb | ⟨k,hkK,e⟩)
  ·exact .inl (.inl hb)
  ·by_cases hkk:k=k0
   ·subst hkk;rw [qaF,hob] at e;cases e;exact .inr rfl
   ·rw [qaV _ _ _ _ hkk] at e;exact .inl (.inr ⟨k,hkK,e⟩)
 have hsz:wa.heap.size<=wb.heap.size:=hg.size
 -- other rows are as they were
 have hother : ∀ k b,k<K->k≠k0->(v k).ownBlock=some b->(wc.setCell ⟨gp,k0,none⟩ (.slice (some ⟨gg,0,none⟩) (c k0+1) cap2)).heap[b]? = w.heap[b]?:=by
  intro k b hkK hkk hb;have hbw:=((h.own k hkK).lt b hb).2;have hba:b<wa.heap.size:=Nat.lt_of_lt_of_le hbw he.size;rw [Below.heap_setCell _ _ _ _ (hne k b hkK hb),he2.heap (by omega),hg.block b hba (fun e=>h.sep k k0 hkK hk hkk b hb e.symm),he.heap hbw]
 refine ⟨?_,fun k hkK=>?_,fun k k' hkK hkK' hkk b hb=>?_,fun k hkK i hi=>?_,h.gpM,h.gpB,?_,h.BM⟩
 ·have h1:Blk wb gp _ _ v:=(h.blk.ext he).grown hg (fun e=>hne k0 gp hk e.symm rfl);exact ((h1.ext he2).set k0 _).congr fun i _=>rfl
 ·by_cases hkk:k=k0
  ·subst hkk;rw [qaF,qaF,qaF]
   exact (hO.ext he2).of_heap fun b hb=>by cases hb;exact Below.heap_setCell _ _ _ _ hggp
  ·rw [qaV _ _ _ _ hkk,qaV _ _ _ _ hkk,qaV _ _ _ _ hkk];exact (h.own k hkK).of_heap fun b hb=>hother k b hkK hkk hb
 ·by_cases h1:k=k0
  ·subst h1;rw [qaF,hob] at hb;cases hb;rw [qaV _ _ _ _ (Ne.symm hkk)];rcases hat with h2 | h2
   ·exact h.sep k k' hkK hkK' hkk _ h2
   ·intro e;have:=((h.own k' hkK').lt _ e).2;have:=he.size;omega
  ·rw [qaV _ _ _ _ h1] at hb
   by_cases h2:k'=k0
   ·subst h2;rw [qaF,hob];intro e;cases e;rcases hat with h3 | h3
    ·exact h.sep k k' hkK hkK' hkk _ hb h3
    ·have:=((h.own k hkK).lt _ hb).2;have:=he.size;omega
   ·rw [qaV _ _ _ _ h2];exact h.sep k k' hkK hkK' hkk b hb
 ·have hold : ∀ k, k < K -> ∀ i, i < c k -> CRx (MP M (qc3 v k0 (.slice (some ⟨gg, 0, none⟩) (c k0 + 1) cap2)) K) (wc.setCell ⟨gp, k0, none⟩ (.slice (some ⟨gg, 0, none⟩) (c k0 + 1) cap2)) D (xx k i) (S k i) := fun k hkK i hi =>
   ((((((h.cr k hkK i hi).ext he).more hmu).kp hkpa).ext he2).kp hkps).more fun b hb=>.inl (hless b hb)
  by_cases hkk:k=k0
  ·subst hkk;rw [qaF] at hi;rw [qaF,qaF]
   by_cases hic:i=c k
   ·subst hic;rw [qa6,qa6];exact (hy.kp hkps).more fun b hb=>.inl (hless b hb)
   ·rw [qbB _ _ _ _ (by omega),qbB _ _ _ _ (by omega)];exact hold k hkK i (by omega)
  ·rw [qaV _ _ _ _ hkk] at hi;rw [qaV _ _ _ _ hkk,qaV _ _ _ _ hkk];exact hold k hkK i hi
 ·intro g hgM;have:=h.MB g hgM;have:=he.size;have:=he2.size;simp [World.setCell];omega
theorem qbY.replace {M : Nat -> Prop} {B0 : Nat} {w : World} {D gp K : Nat} {v : Nat -> Value} {c : Nat -> Nat} {xx : Nat -> Nat -> PE} {S : Nat -> Nat -> List Tm} (h : qbY M B0 w D gp K v c xx S) {k0 : Nat} (hk : k0 < K) {gg cap2 q : Nat} (hv : v k0 = .slice (some ⟨gg, 0, none⟩) (c k0) cap2) (hq : q < c k0) {y : PE} {l : List Tm} (hy : CRx (MP M v K) w D y l) :
  qbY M B0 (set4 w gg (q*4) (.int .i64 y.lv) (.bool y.b) (.slice y.a y.n y.p) (.slice y.ka y.kn y.kp)) D gp K v c (qc3 xx k0 (qc3 (xx k0) q y)) (qc3 S k0 (qc3 (S k0) q l)):=by
 have hob:(v k0).ownBlock=some gg:=by rw [hv];rfl
 have hgg:=(h.own k0 hk).lt gg hob;have hkp:Kp (MP M v K) w (set4 w gg (q*4) (.int .i64 y.lv) (.bool y.b) (.slice y.a y.n y.p) (.slice y.ka y.kn y.kp)):=Kp.set4 (.inr ⟨k0,hk,hob⟩) _ _ _ _ _;refine ⟨h.blk.of_heap (qag _ _ _ _ _ _ _ _ (by have:=h.gpB;omega)),fun k hkK=>?_,h.sep,fun k hkK i hi=>?_,h.gpM,h.gpB,h.MB.size (by rw [qaq];exact Nat.le_refl _),h.BM⟩
 ·by_cases hkk:k=k0
  ·subst hkk;rw [qaF];have h0:=h.own k hkK;rw [hv] at h0 ⊢;rcases h0 with ⟨h1,_⟩ | ⟨g,cap,F,h1,hg,hB,hc,hm,hF⟩
   ·cases h1
   ·simp only [Value.slice.injEq,Option.some.injEq,Addr.mk.injEq,and_true,true_and] at h1;obtain ⟨rfl,rfl⟩:=h1;refine .inr ⟨gg,cap2,_,rfl,hg,hB.set4 (q*4) _ _ _ _,hc,hm,fun j hj=>?_⟩
    by_cases hj1:j<q*4∨q*4+4<=j
    ·rw [qbg _ _ _ _ _ _ _ hj1,hF j hj];unfold px;rw [qaV _ _ _ _ (by omega)]
    ·have hjc:j=q*4∨j=q*4+1∨j=q*4+2∨j=q*4+3:=by omega
     rcases hjc with rfl | rfl | rfl | rfl
     ·rw [qdF,px0,qaF]
     ·rw [qdE,px1,qaF]
     ·rw [qdD,px2,qaF]
     ·rw [qdC,px3,qaF]
  ·rw [qaV _ _ _ _ hkk];exact (h.own k hkK).of_heap fun b hb=>qag _ _ _ _ _ _ _ _ (fun e=>h.sep k0 k hk hkK (Ne.symm hkk) gg hob (e ▸ hb))
 ·by_cases hkk:k=k0
  ·subst hkk;rw [qaF,qaF]
   by_cases hic:i=q
   ·subst hic;rw [qaF,qaF];exact hy.kp hkp
   ·rw [qaV _ _ _ _ hic,qaV _ _ _ _ hic];exact (h.cr k hkK i hi).kp hkp
  ·rw [qaV _ _ _ _ hkk,qaV _ _ _ _ hkk];exact (h.cr k hkK i hi).kp hkp


def qki (L:Nat):Prop:=∀ (M:Nat->Prop) (l r:List Tm) (B C:Nat) (c0 c1 c2 c3 d0 d1 d2 d3:Value) (w:World),Mb M w->CR M w L c0 c1 c2 c3 l->CR M w L d0 d1 d2 d3 r->dlen (nrm l)+dlen (nrm r)<=1099511627776->Deg B l->Deg C r->(B+1)*(C+1)<=1099511627776 ->
 Calls Tryz.prog 118 #[.agg #[c0,c1,c2,c3],.agg #[d0,d1,d2,d3]] w (qaU M w L (pmul l r))
def qs4 (L:Nat):Prop:=∀ (M:Nat->Prop) (l r:List Tm) (B C:Nat) (x y:PE) (w:World),Mb M w->CRx M w L x l->CRx M w L y r->dlen (nrm l)+dlen (nrm r)<=1099511627776->Deg B l->Deg C r->(B+1)*(C+1)<=1099511627776->x.lv=y.lv->x.lv≠0->qfp x.lv x.n=false->qfp y.lv y.n=false ->
 Calls Tryz.prog 118 #[.agg (peA x),.agg (peA y)] w (qaU M w L (pmul l r))
def qi1 (M:Nat->Prop) (w:World) (L:Nat) (l:List Tm) (x y:PE):Prop:=∃ lx ly B C,CRx M w L x lx/\CRx M w L y ly/\y.lv<=x.lv/\Sim (pmul lx ly) l/\dlen (nrm lx)+dlen (nrm ly)<=1099511627776/\Deg B lx/\Deg C ly/\(B+1)*(C+1)<=1099511627776 /\ ¬ (x.lv=y.lv/\x.lv≠0/\qfp x.lv x.n=false/\qfp y.lv y.n=false)
theorem qol (L:Nat) (ih : ∀ D,D<L->qki D) (heq:qs4 L):qki L:=by
 intro M l r B C c0 c1 c2 c3 d0 d1 d2 d3 w hM h k hL hB hC hBC;obtain ⟨x,rfl,rfl,rfl,rfl,hx,hx0,hxL,hx4⟩:=h.pe;obtain ⟨y,rfl,rfl,rfl,rfl,hy,hy0,hyL,hy4⟩:=k.pe
 by_cases hne:x.lv=y.lv/\x.lv≠0/\qfp x.lv x.n=false/\qfp y.lv y.n=false
 ·exact heq M l r B C x y w hM hx hy hL hB hC hBC hne.1 hne.2.1 hne.2.2.1 hne.2.2.2
 clear heq;have HIH:=Lib.hid ih
 have HA:Hid ((¬ x.lv<y.lv->qi1 M w L (pmul l r) x y)/\(x.lv<y.lv->qi1 M w L (pmul l r) y x)):=
  ⟨fun hlt=>⟨l,r,B,C,hx,hy,by omega,Sim.refl _,hL,hB,hC,hBC,hne⟩,fun hlt=>⟨r,l,C,B,hy,hx,by omega,Sim.pmul_comm _ _,by omega,hC,hB,by rw [Nat.mul_comm];exact hBC,fun hh=>by omega⟩⟩
 clear h k hx hy hL hB hC hBC ih hne;generalize pmul l r=R at *
 go_enter Tryz.func118,Tryz.ntmps118
 go_upto_if 21 with (fail)
 go_cut [2,3,4] (fun s2 s3 s4 wx=>s2 = .pointer (some ⟨w.heap.size,0,none⟩)/\s3 = .pointer (some ⟨w.heap.size+1,0,none⟩)/\s4 = .pointer (some ⟨w.heap.size+2,0,none⟩)/\Hid (∃ X Y,qi1 M w L R X Y/\wx=((w.alloc (.cells (peA X) 33)).alloc (.cells (peA Y) 33)).alloc (.cells #[.int .i64 0,.bool false,.slice none 0 0,.slice none 0 0] 33)))
 case first=>
  go_wp2
  ·go_meet
   exact ⟨rfl,rfl,rfl,y,x,HA.out.2 (by assumption),rfl⟩
  ·go_meet
   exact ⟨rfl,rfl,rfl,x,y,HA.out.1 (by assumption),rfl⟩
 case rest=>
  obtain ⟨rfl,rfl,rfl,hc⟩:=hcut;obtain ⟨X,Y,hA,rfl⟩:=hc.out;clear hc HA;obtain ⟨lx,ly,B1,C1,hX,hY,hYX,hSim,hdl,hDB,hDC,hBC1,hNE⟩:=hA;have hXl:=CR.pe hX
  have hXf:0<=X.lv/\X.lv<=L/\X.lv<=4:=by
   obtain ⟨x',e0,_,_,_,_,h1,h2,h3⟩:=hXl;simp only [Value.int.injEq,true_and] at e0;rw [e0];exact ⟨h1,h2,h3⟩
  have hYf:0<=Y.lv:=by
   obtain ⟨x',e0,_,_,_,_,h1,h2,h3⟩:=CR.pe hY;simp only [Value.int.injEq,true_and] at e0;rw [e0];exact h1
  clear hXl;have hE0:Ext w (((w.alloc (.cells (peA X) 33)).alloc (.cells (peA Y) 33)).alloc (.cells #[.int .i64 0,.bool false,.slice none 0 0,.slice none 0 0] 33)):=(((Ext.refl w).alloc _).alloc _).alloc _;have b0:=((Blk.of_arr w (peA X) 33 4 rfl).alloc (.cells (peA Y) 33)).alloc (.cells #[.int .i64 0,.bool false,.slice none 0 0,.slice none 0 0] 33);have b1:=(Blk.of_arr (w.alloc (.cells (peA X) 33)) (peA Y) 33 4 rfl).alloc (.cells #[.int .i64 0,.bool false,.slice none 0 0,.slice none 0 0] 33);have b2:=Blk.of_arr ((w.alloc (.cells (peA X) 33)).alloc (.cells (peA Y) 33)) #[.int .i64 0,.bool false,.slice none 0 0,.slice none 0 0] 33 4 rfl;simp only [World.size_alloc] at b1 b2
  have hw0:w.heap.size+3<=(((w.alloc (.cells (peA X) 33)).alloc (.cells (peA Y) 33)).alloc (.cells #[.int .i64 0,.bool false,.slice none 0 0,.slice none 0 0] 33)).heap.size:=by simp
  generalize hW0:((w.alloc (.cells (peA X) 33)).alloc (.cells (peA Y) 33)).alloc (.cells #[.int .i64 0,.bool false,.slice none 0 0,.slice none 0 0] 33)=W0 at hE0 b0 b1 b2 hw0 ⊢;clear hW0;have HX:=Lib.hid hX;have HY:=Lib.hid hY;have HSIM:=Lib.hid hSim;have HDL:=Lib.hid hdl;have HDB:=Lib.hid hDB;have HDC:=Lib.hid hDC;have HBC:=Lib.hid hBC1;have HNE:=Lib.hid hNE;have HE0:=Lib.hid hE0;have HB0:=Lib.hid b0;have HB1:=Lib.hid b1;have HB2:=Lib.hid b2;have zX:=CR.isz hX;have zY:=CR.isz hY;have HZX:=Lib.hid zX;have HZY:=Lib.hid zY;have x0:=b0.cell (i:=0) (by omega);have x1:=b0.cell (i:=1) (by omega);have x2:=b0.cell (i:=2) (by omega);have x3:=b0.cell (i:=3) (by omega);have y0:=b1.cell (i:=0) (by omega);have y1:=b1.cell (i:=1) (by omega);have y2:=b1.cell (i:=2) (by omega);have y3:=b1.cell (i:=3) (by omega);simp only [arr] at x0 x1 x2 x3 y0 y1 y2 y3
  have hw1:w.heap.size<W0.heap.size:=by omega
  have hw2:w.heap.size+1<W0.heap.size:=by omega
  have ctX:=qbU X.lv X.b X.a X.n X.p X.ka X.kn X.kp W0;clear hX hY hSim hdl hDB hDC hBC1 hE0 b0 b1 b2 zX zY hNE;cases hzx:qfp X.lv X.n
  ·rw [hzx] at ctX;go_wp2_with (fail);refine ctX.mono ?_;rintro e w1 ⟨rfl,he1⟩;have hs1:=he1.size;have ctY:=qbU Y.lv Y.b Y.a Y.n Y.p Y.ka Y.kn Y.kp w1;rw [<- he1.cell hw1] at x0 x1 x2 x3;rw [<- he1.cell hw2] at y0 y1 y2 y3
   have hv1:w.heap.size<w1.heap.size:=by omega
   have hv2:w.heap.size+1<w1.heap.size:=by omega
   have HE1:=Lib.hid (HE0.out.trans he1);have HC0:=Lib.hid (HB0.out.ext he1);have HC1:=Lib.hid (HB1.out.ext he1);have HC2:=Lib.hid (HB2.out.ext he1);clear he1 ctX HE0 HB0 HB1 HB2;cases hzy:qfp Y.lv Y.n
   ·rw [hzy] at ctY;go_wp2_with (fail);refine ctY.mono ?_;rintro e w2 ⟨rfl,he2⟩;have hs2:=he2.size;rw [<- he2.cell hv1] at x0 x1 x2 x3;rw [<- he2.cell hv2] at y0 y1 y2 y3
    have hu1:w.heap.size<w2.heap.size:=by omega
    have hu2:w.heap.size+1<w2.heap.size:=by omega
    have HE2:=Lib.hid (HE1.out.trans he2);have HD0:=Lib.hid (HC0.out.ext he2);have HD1:=Lib.hid (HC1.out.ext he2);have HD2:=Lib.hid (HC2.out.ext he2)
    have hw3:w.heap.size+3<=w2.heap.size:=by omega
    clear he2 ctY HE1 HC0 HC1 HC2 hw0 hw1 hw2 hv1 hv2
    have HNX:Hid (¬ Sim lx []):=fun hs=>by have:=HZX.out.2 hs;rw [hzx] at this;cases this
    have HNY:Hid (¬ Sim ly []):=fun hs=>by have:=HZY.out.2 hs;rw [hzy] at this;cases this
    clear hs1 hs2
    by_cases hl0:X.lv=0
    ·have hlb:(X.lv == 0)=true:=by simpa using hl0
     have hYl:Y.lv=0:=by omega
     have hX:=HX.out;have hY:=HY.out;unfold CRx at hX hY;rw [hl0] at hX;rw [hYl] at hY;obtain ⟨zx,hIx,hSx,hNx,_⟩:=hX.const_inv;obtain ⟨zy,hIy,hSy,hNy,_⟩:=hY.const_inv;have HIX:Hid (qbq (Mx M w.heap.size (w.heap.size+3)) w2 (.bool X.b) (.slice X.a X.n X.p) zx):=(hIx.toV.more (Mx.more (Nat.le_refl _))).ext HE2.out;have HIY:Hid (qbq (Mx M w.heap.size (w.heap.size+3)) w2 (.bool Y.b) (.slice Y.a Y.n Y.p) zy):=(hIy.toV.more (Mx.more (Nat.le_refl _))).ext HE2.out
     have HDD:Hid (dlen zx.natAbs+dlen zy.natAbs<=1099511627776):=by
      have h1:=qal hNx;have h2:=qal hNy;have h3:=HDL.out;show _<=_;omega
     have HR:Hid (Sim [(zx*zy,Mo.zero)] R):=by
      refine Sim.trans ?_ ((Sim.pmul hSx hSy).trans HSIM.out);intro m;simp [pmul,smul,shift,Mo.add_zero',qab]
     have HMM:Hid (Mb (Mx M w.heap.size (w.heap.size+3)) w2):=Mx.mb hM HE2.out.size hw3;clear hX hY hIx hIy hSx hSy hNx hNy hl0 hYl;go_wp2_with (fail);refine (qmr _ _ _ _ zx zy w2 HMM.out HIX.out HIY.out HDD.out).mono ?_;rintro e w4 ⟨e0,e1,rfl,hc,he4⟩;obtain ⟨b2,a2,n2,p2,rfl,rfl⟩:=hc.form;obtain ⟨⟨q0,q1,q2,q3⟩,⟨f0,f1,f2,f3⟩,⟨r0,r1,r2,r3⟩,HF⟩:=qit (M:=M) (w:=w) (HD2.out.ext he4) (Mx.at (by omega)) (by omega) (HE2.out.trans he4) ((CR.const hc L).sim HR.out) Mx.sub;simp only [arr] at q0 q1 q2 q3;clear he4 hc;go_wp2;exact bodyPost_ret (v:=.agg #[.int .i64 0,.bool b2,.slice a2 n2 p2,.slice none 0 0]) (by simp [results,Tryz.results118,go_sem,r0,r1,r2,r3]) rfl HF.out
    ·have hlb:(X.lv == 0)=false:=by simpa using hl0
     have hX:=HX.out;unfold CRx at hX;obtain ⟨D,hDe,hD4,hDL,_,_,b,off,n,cap,P,hc1,hc2,hc3,hn2,hnL,hnc,hcm,hb,hMb,hkid,hlow,hnz,hsim,hnr⟩:=hX.node_inv hl0;simp only [Value.slice.injEq] at hc3;obtain ⟨hka,hkn,hkp⟩:=hc3;obtain ⟨hdn,hdk⟩:=qbp hD4 (by omega) hlow hnz (HDB.out.sim hsim.symm);have HKD:=Lib.hid hkid;have HNZ:=Lib.hid hnz;have HSP:=Lib.hid hsim;have HNR:=Lib.hid hnr;have HDK:=Lib.hid hdk;have hD0:(0:Int)<=(D:Int):=Int.natCast_nonneg _;have HCI:=Lib.hid (HIH.out D (by omega));have HNP:Hid (∀ i,i<n->nrm (P i)<=nrm lx):=fun i hi=>Nat.le_trans (qaN (D+1) n P i hi) hnr;rw [hDe] at hlb hYX;have HDE:=Lib.hid hDe
     have HD0':Hid (Blk w2 w.heap.size 33 4 (arr #[.int .i64 ((D:Int)+1),.bool X.b,.slice X.a X.n X.p,.slice (some ⟨b,off,none⟩) n cap])):=by have:=HD0.out;rw [show peA X = #[.int .i64 ((D:Int)+1),.bool X.b,.slice X.a X.n X.p,.slice (some ⟨b,off,none⟩) n cap] from by unfold peA;rw [hka,hkn,hkp,hDe]] at this;exact this
     clear hX hkid hlow hnz hsim hnr hdk hka hkn hkp hDe hl0 hc1 hc2 HD0 HX hXf x0 x1 x2 x3;have x0:=HD0'.out.cell (i:=0) (by omega);have x3:=HD0'.out.cell (i:=3) (by omega);simp only [arr] at x0 x3
     by_cases hgt:Y.lv<(D:Int)+1
     ·obtain ⟨i0,hi,hz0,hz1,hz2⟩:=info_parts Tryz.info33;have hgt':decide (Y.lv<(D:Int)+1)=true:=decide_eq_true hgt;have HYD:Hid (CRx M w D Y ly):=CR.relev HY.out (by omega)
      go_wp2_with (first | (refine wpList_make_full _ rfl _ _ _ rfl w2.heap.size 33 i0 (.agg #[.int .i64 0,.bool false,.slice none 0 0,.slice none 0 0]) 4 Tryz.underlying31 hi hz0 hz1 .i64 .i64 _ _ n rfl rfl ?c4 ?c5 ?c2 ?c3 ?c6 ?_))
      case c2=>rw [hz2];omega
      case c3=>unfold maxLen;omega
      case c4=>simp
      case c5=>simp
      case c6=>omega
      intro w5 hown hgrow;have hBk:=(Blk.made hown rfl (by omega)).congr (f':=zc4) (fun i _=>qbL i);have he5:=qaw hgrow;have HKF:Hid (qax (Mx M w.heap.size (w2.heap.size+1)) w5 D w2.heap.size n (fun _=>[])):=qax.fresh hBk
      have hs5:w2.heap.size+1<=w5.heap.size:=by have:=hBk.lt;omega
      have HE5:=Lib.hid (HE2.out.trans he5);have HF0:=Lib.hid (HD0'.out.ext he5);have HF1:=Lib.hid (HD1.out.ext he5);have HF2:=Lib.hid (HD2.out.ext he5);rw [<- he5.cell hu1] at x0 x3
      have ht1:w.heap.size<w5.heap.size:=by omega
      clear hown hgrow hBk he5 HE2 HD0' HD1 HD2 y0 y1 y2 y3;go_wp2
      go_loopw [55] (fun i wr=>∃ k:Nat,k<=n/\i = .int .i64 k/\w2.heap.size+1<=wr.heap.size/\Hid (qax (Mx M w.heap.size (w2.heap.size+1)) wr D w2.heap.size n (fun i=>if i<k then pmul (P i) ly else []))/\Hid (Ext w wr)/\Hid (Blk wr w.heap.size 33 4 (arr #[.int .i64 ((D:Int)+1),.bool X.b,.slice X.a X.n X.p,.slice (some ⟨b,off,none⟩) n cap])) /\
       Hid (Blk wr (w.heap.size+1) 33 4 (arr (peA Y)))/\Hid (Blk wr (w.heap.size+2) 33 4 (arr #[.int .i64 0,.bool false,.slice none 0 0,.slice none 0 0]))) (fun i _=>n - (intOf i).toNat)
      case atStart=>exact ⟨0,Nat.zero_le _,rfl,hs5,HKF.out.congr fun i _=>by rw [if_neg (by omega)];exact Sim.refl _,HE5,HF0,HF1,HF2⟩
      case round=>
       clear HKF HE5 HF0 HF1 HF2 x0 x3 hs5 ht1;obtain ⟨k,hk,rfl,hsz,HK,HEW,HBW,HBY,HBR⟩:=hrel
       by_cases hlt:k<n
       ·obtain ⟨e0,e1,e2,e3,z0,z1,z2,z3,hCR⟩:=HKD.out k hlt;rw [<- HEW.out.cell hb] at z0 z1 z2 z3
        have hbw:b<wr.heap.size:=by omega
        obtain ⟨kk,rfl,rfl,rfl,rfl,hkk,_⟩:=hCR.pe;have hEa:Ext wr (wr.alloc (.cells (peA kk) 33)):=(Ext.refl wr).alloc _;have hCR2:CRx (Mx M w.heap.size (w2.heap.size+1)) (wr.alloc (.cells (peA kk) 33)) D kk (P k):=((hkk.more (Mx.more (Nat.le_refl _))).ext HEW.out).ext hEa;have hCY2:CRx (Mx M w.heap.size (w2.heap.size+1)) (wr.alloc (.cells (peA kk) 33)) D Y ly:=((HYD.out.more (Mx.more (Nat.le_refl _))).ext HEW.out).ext hEa;have hM3:Mb (Mx M w.heap.size (w2.heap.size+1)) (wr.alloc (.cells (peA kk) 33)):=Mx.mb hM (by simp;have:=HEW.out.size;omega) (by simp;omega);have CTR:=Lib.hid (HCI.out _ _ _ _ _ _ _ _ _ _ _ _ _ _ hM3 hCR2 hCY2 (by have:=HDL.out;have:=qal (HNP.out k hlt);omega) (HDK.out k hlt) HDC.out HBC.out);have HEA:=Lib.hid hEa;have hby:=HBY.out.ext hEa;have y0:=hby.cell (i:=0) (by omega);have y1:=hby.cell (i:=1) (by omega);have y2:=hby.cell (i:=2) (by omega);have y3:=hby.cell (i:=3) (by omega);simp only [arr] at y0 y1 y2 y3;have hyl:=hby.lt;clear hCR hkk hCR2 hCY2 hM3 hEa hby;go_wp2_with (fail);refine (CTR.out).mono ?_;rintro e w4 ⟨d0,d1,d2,d3,rfl,hCR,he4⟩;obtain ⟨lv2,b2,a2,n2,p2,ka2,kn2,kp2,rfl,rfl,rfl,rfl,_⟩:=hCR.form;have he6:=HEA.out.trans he4;have hK4:=HK.out.ext he6;obtain ⟨⟨_,k0⟩,⟨_,k1⟩,⟨_,k2⟩,⟨_,k3⟩,hfr,hg4⟩:=hK4.at k hlt;have hf0:=hfr (k*4);have hf1:=hfr (k*4+1);have hf2:=hfr (k*4+2);have hf3:=hfr (k*4+3)
        have HK5:Hid (qax (Mx M w.heap.size (w2.heap.size+1)) (set4 w4 w2.heap.size (k*4) (.int .i64 lv2) (.bool b2) (.slice a2 n2 p2) (.slice ka2 kn2 kp2)) D w2.heap.size n (fun i=>if i<k+1 then pmul (P i) ly else [])):=by
         refine (hK4.set (Mx.at (by omega)) k hlt hCR).congr fun i _=>?_
         by_cases hik:i=k
         ·subst hik;rw [if_pos rfl,if_pos (by omega)];exact Sim.refl _
         ·rw [if_neg hik]
          by_cases h3:i<k
          ·rw [if_pos h3,if_pos (by omega)];exact Sim.refl _
          ·rw [if_neg h3,if_neg (by omega)];exact Sim.refl _
        have HE5:Hid (Ext w (set4 w4 w2.heap.size (k*4) (.int .i64 lv2) (.bool b2) (.slice a2 n2 p2) (.slice ka2 kn2 kp2))):=(HEW.out.trans he6).set4 (by omega) _ _ _ _ _;have HB5:Hid (Blk (set4 w4 w2.heap.size (k*4) (.int .i64 lv2) (.bool b2) (.slice a2 n2 p2) (.slice ka2 kn2 kp2)) w.heap.size _ _ _):=(HBW.out.ext he6).of_heap (qag _ _ _ _ _ _ _ _ (by omega));have HB6:Hid (Blk (set4 w4 w2.heap.size (k*4) (.int .i64 lv2) (.bool b2) (.slice a2 n2 p2) (.slice ka2 kn2 kp2)) (w.heap.size+1) _ _ _):=(HBY.out.ext he6).of_heap (qag _ _ _ _ _ _ _ _ (by omega));have HB7:Hid (Blk (set4 w4 w2.heap.size (k*4) (.int .i64 lv2) (.bool b2) (.slice a2 n2 p2) (.slice ka2 kn2 kp2)) (w.heap.size+2) _ _ _):=(HBR.out.ext he6).of_heap (qag _ _ _ _ _ _ _ _ (by omega))
        have HSZ5:Hid (w2.heap.size+1<=(set4 w4 w2.heap.size (k*4) (.int .i64 lv2) (.bool b2) (.slice a2 n2 p2) (.slice ka2 kn2 kp2)).heap.size):=by show _<=_;rw [qaq];have:=he6.size;omega
        clear hK4 hfr hCR he4 he6;go_wp2
        go_roundw
        case rel=>exact ⟨k+1,by omega,by go_num,HSZ5.out,HK5,HE5,HB5,HB6,HB7⟩
        case measure=>simp [intOf];omega
       ·have hkn:k=n:=by omega
        subst hkn;have x0:=HBW.out.cell (i:=0) (by omega);simp only [arr] at x0
        have hws:w.heap.size<wr.heap.size:=by omega
        have HFN:Hid (CR (Mx M w.heap.size (w.heap.size+3)) wr L (.int .i64 ((D:Int)+1)) (.bool false) (.slice none 0 0) (.slice (some ⟨w2.heap.size,0,none⟩) k k) R):=by
         refine (CR.sim (CR.node (D:=D) hD4 hn2 hnL (Nat.le_refl _) (by unfold maxLen;omega) (by omega) (fun hh=>hh.elim (hM.new (by omega)) (by omega)) (fun i hi=>HK.out.kid (fun g hg=>.inl (hg.imp id fun h=>by omega)) i hi) ?_) ?_).up hDL
         ·rw [if_pos (by omega)];obtain ⟨_,_,_,_,_,_,_,_,hlast⟩:=HKD.out (k - 1) (by omega);exact qdt hlast.nn (CR.nn HY.out) HNZ.out HNY.out
         ·refine Sim.trans (qaC _ _ _ _ fun i hi=>by rw [if_pos hi];exact Sim.refl _) ((qaX (D+1) k P ly).trans ?_);exact (HSP.out.pmul_left ly).trans HSIM.out
        obtain ⟨⟨q0,q1,q2,q3⟩,⟨f0,f1,f2,f3⟩,⟨r0,r1,r2,r3⟩,HF⟩:=qit (M:=M) (w:=w) HBR.out (Mx.at (by omega)) (by omega) HEW.out HFN.out Mx.sub;simp only [arr] at q0 q1 q2 q3;go_wp2;exact bodyPost_ret (v:=.agg #[.int .i64 ((D:Int)+1),.bool false,.slice none 0 0,.slice (some ⟨w2.heap.size,0,none⟩) k k]) (by simp [results,Tryz.results118,go_sem,r0,r1,r2,r3]) rfl HF.out
     ·exact absurd ⟨by have:=HDE.out;omega,by have:=HDE.out;omega,hzx,hzy⟩ HNE.out
   ·rw [hzy] at ctY
    have HRZ:Hid (Sim [] R):=by
     refine Sim.trans ?_ HSIM.out;exact (((HZY.out.1 hzy).pmul_right lx).trans (by rw [qdM];exact Sim.refl _)).symm
    go_wp2_with (fail);refine ctY.mono ?_;rintro e w2 ⟨rfl,he2⟩;obtain ⟨⟨q0,q1,q2,q3⟩,⟨f0,f1,f2,f3⟩,⟨r0,r1,r2,r3⟩,HF⟩:=qit (M:=M) (w:=w) (HC2.out.ext he2) (Mx.at (M:=M) (k:=w.heap.size+3) ⟨by omega,by omega⟩) (by omega) (HE1.out.trans he2) ((CR.zero (Mx M w.heap.size (w.heap.size+3)) w2 L).sim HRZ.out) Mx.sub;simp only [arr] at q0 q1 q2 q3;clear he2 ctY;go_wp2;exact bodyPost_ret (v:=.agg #[.int .i64 0,.bool false,.slice none 0 0,.slice none 0 0]) (by simp [results,Tryz.results118,go_sem,r0,r1,r2,r3]) rfl HF.out
  ·rw [hzx] at ctX
   have HRZ:Hid (Sim [] R):=by
    refine Sim.trans ?_ HSIM.out;exact ((HZX.out.1 hzx).pmul_left ly).symm
   go_wp2_with (fail);refine ctX.mono ?_;rintro e w1 ⟨rfl,he1⟩;obtain ⟨⟨q0,q1,q2,q3⟩,⟨f0,f1,f2,f3⟩,⟨r0,r1,r2,r3⟩,HF⟩:=qit (M:=M) (w:=w) (HB2.out.ext he1) (Mx.at (M:=M) (k:=w.heap.size+3) ⟨by omega,by omega⟩) (by omega) (HE0.out.trans he1) ((CR.zero (Mx M w.heap.size (w.heap.size+3)) w1 L).sim HRZ.out) Mx.sub;simp only [arr] at q0 q1 q2 q3;clear he1 ctX;go_wp2;exact bodyPost_ret (v:=.agg #[.int .i64 0,.bool false,.slice none 0 0,.slice none 0 0]) (by simp [results,Tryz.results118,go_sem,r0,r1,r2,r3]) rfl HF.out
end Go.Proofs.YtmcfpnmoklnhoaaGreat
