/- PseudoUni: the walk. The law PseudoUni returns true at every input, without a panic, and leaves its arguments as they were; no conditions. -/
import Derived.Test.YtmcfpnmoklnhoaaGreatWa
import Derived.Test.YtmcfpnmoklnhoaaGreatMq
set_option linter.unusedVariables false
set_option maxRecDepth 100000
set_option maxHeartbeats 400000000
set_option linter.unusedSimpArgs false

namespace Go.Proofs.YtmcfpnmoklnhoaaGreat
open Go.RowKit

theorem qtC:DvN 7 7 7 7:=⟨by decide,by decide,by decide⟩
theorem qn1:OkB 7 4 7:=by unfold OkB OkB OkB OkB OkB inB;decide
theorem qrw:7+qX 7 4 7*(7+2)<=549755813888:=by decide
theorem qnQ {n:Nat} (h:n<=8):PsN n 7 7:=⟨by omega⟩
theorem qvB {z:Int} (h:z.natAbs<=4294967296 ^ 6):dlen z.natAbs<=7:=(qao _ _).2 (Nat.lt_of_le_of_lt h (by decide))
theorem quJ {M:Nat->Prop} {w:World} {x:PE} {l:List Tm} (hx:CRx M w 4 x l) (hB:Deg 7 l) (hL:dlen (nrm l)<=7) (M':Nat->Prop) (W':World) (h1:Mb M' W') (h2 : ∀ g,M' g->M g∨w.heap.size<=g) (h3:Ext w W'):Calls Tryz.prog 73 #[.agg (peA x)] W' (qa4 M' W' 4 (snorm l)):=by
 obtain ⟨t,hR,hT,hS,hN⟩:=hx.tbN (B:=7) (Nat.le_refl _) (by omega) hB (by decide);rw [<- hS.snorm];refine qlk M' (4+1) t x W' h1 (RR.ext (RR.more h2 hR) h3) hT ?_;have h5:=qah hN;omega
structure SmU (J n:Nat) (z:Nat->Int):Prop where
 n8:n<=8
 b : ∀ i,i<n->dlen (z i).natAbs<=7
 d:Deg 7 (upl J n z)
 l:dlen (nrm (upl J n z))<=7
theorem qrX.sm {W:World} {a:Option Addr} {n cap:Nat} {X:Nat->IE} (h:qrX W a n cap X) (hn:n<=8) (hX : ∀ i,i<n->(X i).n<=5) {J:Nat} (h1:1<=J) (h4:J<=4) : ∃ z,qco M0 W a n cap X z/\SmU J n z:=by
 obtain ⟨z,hu,hz⟩:=h.row (by omega) fun i hi=>Nat.le_trans (hX i hi) (by omega);exact ⟨z,hu,hn,fun i hi=>qvB (hz i hi),qsq h1 h4 (by omega),qsn (by omega) hz⟩
theorem qlZ.low {M:Nat->Prop} {w:World} {D:Nat} {l:List Tm} {E:Int} {e:Ending} {w':World} (h:qlZ M w (D+1) l E e w') (hD:D+1<=4):qlZ M w 4 l E e w':=by
 obtain ⟨y,rfl,hy,he⟩:=h;exact ⟨y,rfl,hy.up hD,he⟩
def BX (w:World) (g:Nat) (x:PE) (l:List Tm):Prop:=P4 w g x/\CRx M0 w 4 x l
theorem BX.ext {w w':World} {g:Nat} {x:PE} {l:List Tm} (h:BX w g x l) (he:Ext w w'):BX w' g x l:=⟨h.1.ext he,h.2.ext he⟩
theorem qjy {w:World} {x:PE} {l:List Tm} (h:CRx M0 w 4 x l):BX (w.alloc (.cells (peA x) 33)) w.heap.size x l:=⟨(Blk.of_arr w (peA x) 33 4 rfl).p4,h.ext ((Ext.refl w).alloc _)⟩
theorem qoi (a1 : Option Addr) (n1 c1 : Nat) (X1 : Nat -> IE) (a2 : Option Addr) (n2 c2 : Nat) (X2 : Nat -> IE) (L : Int) (w : World) (h1 : qrX w a1 n1 c1 X1) (h2 : qrX w a2 n2 c2 X2) (hL : -9223372036854775808 <= L /\ L <= 9223372036854775807) :
  Calls Tryz.prog 3 #[.slice a1 n1 c1,.slice a2 n2 c2,.int .i64 L] w fun e w'=>e = .returned (.bool true)/\Ext w w':=by
 have HR1:=Lib.hid h1;have HR2:=Lib.hid h2;clear h1 h2
 go_enter Tryz.func3,Tryz.ntmps3
 go_wp2_with (fail);refine (qoj _).mono ?_;rintro e w1 ⟨rfl,he1⟩;have HE1:=Lib.hid he1;clear he1
 by_cases hb1:8<n1
 ·have hb1I:(8:Int)<(n1:Int):=by omega
  go_wp2;go_ret;exact ⟨rfl,HE1.out⟩
 have hb1I : ¬ (8:Int)<(n1:Int):=by omega
 by_cases hb2:8<n2
 ·have hb2I:(8:Int)<(n2:Int):=by omega
  go_wp2;go_ret;exact ⟨rfl,HE1.out⟩
 have hb2I : ¬ (8:Int)<(n2:Int):=by omega
 go_wp2_with (fail);refine (qkb L _).mono ?_;rintro e w2 ⟨rfl,rfl⟩
 by_cases hlv:qav L=true
 case neg=>
  have hlf:qav L=false:=by simpa using hlv
  clear hlv;go_wp2;go_ret;exact ⟨rfl,HE1.out⟩
 have HLV:Hid (qav L=true):=hlv;rw [hlv];go_wp2_with (fail);refine (qfH a1 n1 c1 X1 w w1 HR1.out HE1.out (by omega)).mono ?_;rintro e w2 ⟨b,rfl,hd1,he2⟩;have HE2:=Lib.hid (HE1.out.trans he2);clear he2
 cases b with
 | false=>
  clear hd1;go_wp2;go_ret;exact ⟨rfl,HE2.out⟩
 | true=>
 have HD1:=Lib.hid (hd1.1 rfl);clear hd1;go_wp2_with (fail);refine (qfH a2 n2 c2 X2 w w2 HR2.out HE2.out (by omega)).mono ?_;rintro e w3 ⟨b,rfl,hd2,he3⟩;have HE3:=Lib.hid (HE2.out.trans he3);clear he3
 cases b with
 | false=>
  clear hd2;go_wp2;go_ret;exact ⟨rfl,HE3.out⟩
 | true=>
 obtain ⟨D,hDL,hD4⟩ : ∃ D:Nat,L=(D:Int)+1/\D+1<=4:=by
  have:=HLV.out;unfold qav at this;simp only [decide_eq_true_eq] at this;exact ⟨(L - 1).toNat,by omega,by omega⟩
 have h1J:1<=D+1:=by omega
 have hJL:L=((D+1:Nat):Int):=by omega
 obtain ⟨f,hu1,hs1⟩:=HR1.out.sm (by omega) HD1.out h1J hD4;obtain ⟨g,hu2,hs2⟩:=HR2.out.sm (by omega) (hd2.1 rfl) h1J hD4;have HU1:=Lib.hid hu1;have HU2:=Lib.hid hu2;have HS1:=Lib.hid hs1;have HS2:=Lib.hid hs2
 have CF:Hid (∀ (W:World) (a:Option Addr) (n c:Nat) (X:Nat->IE) (z:Nat->Int),qco M0 W a n c X z->Calls Tryz.prog 11 #[.slice a n c,.int .i64 L] W (qlZ M0 W 4 (upl (D+1) n z) 0)):=fun W a n c X z h=>by
  rw [hDL];exact (qmA M0 a n c X z D W (mb0 _) h hD4).mono fun e w' h=>h.low hD4
 have CP:Hid (∀ W,Ext w W->Calls Tryz.prog 13 #[.slice a1 n1 c1,.slice a2 n2 c2] W (qku M0 W n1 f n2 g)):=fun W he=>qnb M0 a1 n1 c1 X1 f a2 n2 c2 X2 g 7 7 W (mb0 _) (HU1.out.ext he) (HU2.out.ext he) (by have:=HS1.out.n8;omega) (by have:=HS2.out.n8;omega) HS1.out.b HS2.out.b (qnQ HS1.out.n8);have CX:Hid (∀ W,Ext w W->Calls Tryz.prog 15 #[.slice a1 n1 c1,.slice a2 n2 c2] W (qmR M0 W n1 f n2 g)):=fun W he=>qpP M0 a1 n1 c1 X1 f a2 n2 c2 X2 g 7 7 W (mb0 _) (HU1.out.ext he) (HU2.out.ext he) (by have:=HS1.out.n8;omega) (by have:=HS2.out.n8;omega) HS1.out.b HS2.out.b (qnQ HS1.out.n8);have CV:Hid (∀ W,Ext w W->Calls Tryz.prog 18 #[.slice a2 n2 c2,.slice a1 n1 c1] W (qdC (DvZ n1 f n2 g) W)):=fun W he=>ql7 M0 a2 n2 c2 X2 g a1 n1 c1 X1 f W (HU1.out.ext he) (HU2.out.ext he) fun W' he'=>CP.out W' (he.trans he')
 have CPD:Hid (∀ W (x y:PE),CRx M0 W 4 x (upl (D+1) n1 f)->CRx M0 W 4 y (upl (D+1) n2 g)->Calls Tryz.prog 12 #[.agg (peA x),.agg (peA y),.int .i64 L] W (qps M0 W (upl (D+1) n1 f) (upl (D+1) n2 g) ((D+1:Nat):Int))):=fun W x y hx hy=>by
  rw [hJL];exact qnS M0 x y _ _ _ 7 7 7 7 W (mb0 _) hx.pi hy.pi (qbS _ _ _) (qbS _ _ _) HS1.out.d HS2.out.d HS1.out.l HS2.out.l qtC
 have CPX:Hid (∀ W (x y:PE),CRx M0 W 4 x (upl (D+1) n1 f)->CRx M0 W 4 y (upl (D+1) n2 g)->Calls Tryz.prog 14 #[.agg (peA x),.agg (peA y)] W (qrb M0 W (upl (D+1) n1 f) (upl (D+1) n2 g) (7+qX 7 4 7*(7+2)))):=fun W x y hx hy=>qk2 7 7 M0 _ _ x y 7 7 W (mb0 _) hx.pi hy.pi HS1.out.d HS2.out.d HS1.out.l HS2.out.l qn1 qrw
 have CPV:Hid (∀ W (x y:PE),CRx M0 W 4 x (upl (D+1) n1 f)->CRx M0 W 4 y (upl (D+1) n2 g)->Calls Tryz.prog 17 #[.agg (peA y),.agg (peA x)] W (qvV W (upl (D+1) n1 f) (upl (D+1) n2 g) (snorm (upl (D+1) n2 g)))):=fun W x y hx hy=>
  qff 7 7 M0 _ _ (snorm (upl (D+1) n2 g)) y x 7 7 W (mb0 _) hy.pi hx.pi (quJ hy HS2.out.d HS2.out.l) (qp0 (qbS _ _ _)) HS1.out.d (qmh (qbS _ _ _) HS2.out.d) HS1.out.l (Nat.le_trans (qah (qeO _)) HS2.out.l) qn1 qrw
 clear hu1 hu2 hs1 hs2 hd2 HD1 HR1 HR2 hb1 hb2 hlv HLV HE1 HE2 hDL hJL;generalize hff:upl (D+1) n1 f=F at *;generalize hgg:upl (D+1) n2 g=G at *;have HFF:=Lib.hid hff;have HGG:=Lib.hid hgg;clear hff hgg;go_wp2_with (fail);refine (CF.out _ _ _ _ _ _ (HU1.out.ext HE3.out)).mono ?_;rintro e w4 ⟨x,rfl,hx,he4⟩;rw [HFF.out] at hx;have HBX:Hid (BX _ w4.heap.size x F):=qjy hx;have HE4:=Lib.hid ((HE3.out.trans he4).alloc (.cells (peA x) 33));clear hx he4 HE3
 go_upto_region 6 with (fail)
 generalize w4.heap.size=ba at *;generalize w4.alloc (.cells (peA x) 33)=W4 at *;go_wp2_with (fail);refine (CF.out _ _ _ _ _ _ (HU2.out.ext HE4.out)).mono ?_;rintro e w5 ⟨y,rfl,hy,he5⟩;rw [HGG.out] at hy;have hEa:=he5.alloc (.cells (peA y) 33);have HBX5:=Lib.hid (HBX.out.ext hEa);have HBY:Hid (BX _ w5.heap.size y G):=qjy hy;have HE5:=Lib.hid (HE4.out.trans hEa);clear hy he5 HE4 HBX hEa
 go_upto_region 7 with (fail)
 generalize w5.heap.size=bb at *;generalize w5.alloc (.cells (peA y) 33)=W5 at *;obtain ⟨⟨x0,x1,x2,x3⟩,cx⟩:=HBX5.out;obtain ⟨⟨y0,y1,y2,y3⟩,cy⟩:=HBY.out;have CC:=Lib.hid (CPD.out W5 x y cx cy);clear cx cy;go_wp2_with (fail);refine CC.out.mono ?_;rintro e w6 ⟨q,r,er,rfl,ho,he6⟩;have hb3:=Blk.of_arr w6 (peA q) 33 4 rfl;have hb4:=Blk.of_arr (w6.alloc (.cells (peA q) 33)) (peA r) 33 4 rfl;simp only [World.size_alloc] at hb4;have hEb:Ext w6 ((w6.alloc (.cells (peA q) 33)).alloc (.cells (peA r) 33)):=((Ext.refl w6).alloc _).alloc _;have HO:=Lib.hid ho;have HEO:=Lib.hid hEb;have HBX6:=Lib.hid ((HBX5.out.ext he6).ext hEb);have HBY6:=Lib.hid ((HBY.out.ext he6).ext hEb);have HE6:=Lib.hid ((HE5.out.trans he6).trans hEb);have HPQ:Hid (P4 ((w6.alloc (.cells (peA q) 33)).alloc (.cells (peA r) 33)) w6.heap.size q):=(hb3.alloc _).p4;have HPR:Hid (P4 _ (w6.heap.size+1) r):=hb4.p4;clear ho he6 hb3 hb4 hEb CC HBX5 HBY HE5 x0 x1 x2 x3 y0 y1 y2 y3 CPD
 go_upto_region 8 with (fail)
 generalize hgq:w6.heap.size=bq at *;generalize (w6.alloc (.cells (peA q) 33)).alloc (.cells (peA r) 33)=W6 at *;clear hgq;go_wp2_with (fail);refine (CP.out _ HE6.out).mono ?_;rintro e w7 ⟨au,nu,cu,av,nv,cv,xr,rfl,hp,he7⟩;have HJ:Hid (er=xr /\ ∃ Xu zu Xv zv,qco M0 w7 au nu cu Xu zu/\qco M0 w7 av nv cv Xv zv /\ ∃ ql rl,CRx M0 w6 4 q ql/\CRx M0 w6 4 r rl/\Sim ql (upl (D+1) nu zu)/\Sim rl (upl (D+1) nv zv)):=qsu h1J hD4 (by rw [HFF.out,HGG.out];exact HO.out) hp;obtain ⟨rfl,Xu,zu,Xv,zv,hu,hv,ql,rl,hq,hr,sq,sr⟩:=HJ.out;have HU:=Lib.hid hu;have HV:=Lib.hid hv;have HSQ:=Lib.hid sq;have HSR:=Lib.hid sr;have HQ:Hid (BX w7 bq q ql):=⟨HPQ.out.ext he7,(hq.ext HEO.out).ext he7⟩;have HR:Hid (BX w7 (bq+1) r rl):=⟨HPR.out.ext he7,(hr.ext HEO.out).ext he7⟩;have HBX7:=Lib.hid (HBX6.out.ext he7);have HBY7:=Lib.hid (HBY6.out.ext he7);have HE7:=Lib.hid (HE6.out.trans he7);clear hp he7 hu hv hq hr sq sr HJ HO HEO HPQ HPR HBX6 HBY6 HE6
 go_upto_region 9 with (fail)
 go_wp2_with (fail);refine (CF.out _ _ _ _ _ _ HU.out).mono ?_;rintro e w8 ⟨c,rfl,hc,he8⟩;have hEa:=he8.alloc (.cells (peA c) 33);have HC:Hid (BX _ w8.heap.size c (upl (D+1) nu zu)):=qjy hc;have HBX8:=Lib.hid (HBX7.out.ext hEa);have HBY8:=Lib.hid (HBY7.out.ext hEa);have HQ8:=Lib.hid (HQ.out.ext hEa);have HR8:=Lib.hid (HR.out.ext hEa);have HV8:=Lib.hid (HV.out.ext hEa);have HE8:=Lib.hid (HE7.out.trans hEa);clear hc he8 hEa HBX7 HBY7 HQ HR HV HE7 HU
 go_upto_region 10 with (fail)
 generalize w8.heap.size=bc at *;generalize w8.alloc (.cells (peA c) 33)=W8 at *;go_wp2_with (fail);refine (CF.out _ _ _ _ _ _ HV8.out).mono ?_;rintro e w9 ⟨d,rfl,hd,he9⟩;have hEa:=he9.alloc (.cells (peA d) 33);have HD:Hid (BX _ w9.heap.size d (upl (D+1) nv zv)):=qjy hd;have HBX9:=Lib.hid (HBX8.out.ext hEa);have HBY9:=Lib.hid (HBY8.out.ext hEa);have HQ9:=Lib.hid (HQ8.out.ext hEa);have HR9:=Lib.hid (HR8.out.ext hEa);have HC9:=Lib.hid (HC.out.ext hEa);have HE9:=Lib.hid (HE8.out.trans hEa);clear hd he9 hEa HBX8 HBY8 HQ8 HR8 HV8 HE8 HC
 go_upto_region 11 with (fail)
 generalize w9.heap.size=bd at *;generalize w9.alloc (.cells (peA d) 33)=W9 at *;obtain ⟨⟨x0,x1,x2,x3⟩,cx⟩:=HBX9.out;obtain ⟨⟨y0,y1,y2,y3⟩,cy⟩:=HBY9.out;have CC:=Lib.hid (CPX.out W9 x y cx cy);clear cx cy;go_wp2_with (fail);refine CC.out.mono ?_;rintro e w10 ⟨h,er2,rfl,hh,he10⟩;have hEb:=(Ext.refl w10).alloc (.cells (peA h) 33);have hEa:=he10.trans hEb;have HH:=Lib.hid hh;have HEO:=Lib.hid hEb;have HPH:Hid (P4 _ w10.heap.size h):=(Blk.of_arr w10 (peA h) 33 4 rfl).p4;have HBX10:=Lib.hid (HBX9.out.ext hEa);have HBY10:=Lib.hid (HBY9.out.ext hEa);have HQ10:=Lib.hid (HQ9.out.ext hEa);have HR10:=Lib.hid (HR9.out.ext hEa);have HC10:=Lib.hid (HC9.out.ext hEa);have HD10:=Lib.hid (HD.out.ext hEa);have HE10:=Lib.hid (HE9.out.trans hEa);clear hh he10 hEb hEa CC CPX HBX9 HBY9 HQ9 HR9 HC9 HD HE9 x0 x1 x2 x3 y0 y1 y2 y3
 go_upto_region 12 with (fail)
 generalize hgq:w10.heap.size=bh at *;generalize w10.alloc (.cells (peA h) 33)=W10 at *;clear hgq;go_wp2_with (fail);refine (CX.out _ HE10.out).mono ?_;rintro e w11 ⟨aw,nw,cw,xr2,rfl,hp,he11⟩;have HJ:Hid (er2=xr2 /\ ∃ Xu zu,qco M0 w11 aw nw cw Xu zu /\ ∃ ql,CRx M0 w10 4 h ql/\Sim ql (upl (D+1) nw zu)):=qm9 h1J hD4 (by rw [HFF.out,HGG.out];exact HH.out) hp;obtain ⟨rfl,Xw,zw,hw,hl,hhl,sh⟩:=HJ.out;have HW:=Lib.hid hw;have HSH:=Lib.hid sh;have HH11:Hid (BX w11 bh h hl):=⟨HPH.out.ext he11,(hhl.ext HEO.out).ext he11⟩;have HBX11:=Lib.hid (HBX10.out.ext he11);have HBY11:=Lib.hid (HBY10.out.ext he11);have HQ11:=Lib.hid (HQ10.out.ext he11);have HR11:=Lib.hid (HR10.out.ext he11);have HC11:=Lib.hid (HC10.out.ext he11);have HD11:=Lib.hid (HD10.out.ext he11);have HE11:=Lib.hid (HE10.out.trans he11);clear hp he11 hw hhl sh HJ HH HEO HPH HBX10 HBY10 HQ10 HR10 HC10 HD10 HE10
 go_upto_region 13 with (fail)
 go_wp2_with (fail);refine (CF.out _ _ _ _ _ _ HW.out).mono ?_;rintro e w12 ⟨k,rfl,hk,he12⟩;have hEa:=he12.alloc (.cells (peA k) 33);have HK:Hid (BX _ w12.heap.size k (upl (D+1) nw zw)):=qjy hk;have HBX12:=Lib.hid (HBX11.out.ext hEa);have HBY12:=Lib.hid (HBY11.out.ext hEa);have HQ12:=Lib.hid (HQ11.out.ext hEa);have HR12:=Lib.hid (HR11.out.ext hEa);have HC12:=Lib.hid (HC11.out.ext hEa);have HD12:=Lib.hid (HD11.out.ext hEa);have HH12:=Lib.hid (HH11.out.ext hEa);have HE12:=Lib.hid (HE11.out.trans hEa);clear hk he12 hEa HBX11 HBY11 HQ11 HR11 HC11 HD11 HH11 HE11 HW CF
 go_upto_region 14 with (fail)
 generalize w12.heap.size=bk at *;generalize w12.alloc (.cells (peA k) 33)=W12 at *;obtain ⟨⟨q0,q1,q2,q3⟩,cq⟩:=HQ12.out;obtain ⟨⟨c0,c1,c2,c3⟩,cc⟩:=HC12.out;have CC:=Lib.hid (qhS M0 q c _ _ W12 (mb0 _) cq.pi cc.pi);clear cq cc;go_wp2_with (fail);refine CC.out.mono ?_;rintro e w13 ⟨b,rfl,hb,he13⟩;obtain rfl:b=true:=hb.2 HSQ.out;have HBX13:=Lib.hid (HBX12.out.ext he13);have HBY13:=Lib.hid (HBY12.out.ext he13);have HR13:=Lib.hid (HR12.out.ext he13);have HD13:=Lib.hid (HD12.out.ext he13);have HH13:=Lib.hid (HH12.out.ext he13);have HK13:=Lib.hid (HK.out.ext he13);have HE13:=Lib.hid (HE12.out.trans he13);clear hb he13 CC HBX12 HBY12 HQ12 HR12 HC12 HD12 HH12 HE12 HK q0 q1 q2 q3 c0 c1 c2 c3;obtain ⟨⟨r0,r1,r2,r3⟩,cr⟩:=HR13.out;obtain ⟨⟨d0,d1,d2,d3⟩,cd⟩:=HD13.out;have CC:=Lib.hid (qhS M0 r d _ _ w13 (mb0 _) cr.pi cd.pi);clear cr cd;go_wp2_with (fail);refine CC.out.mono ?_;rintro e w14 ⟨b,rfl,hb,he14⟩;obtain rfl:b=true:=hb.2 HSR.out;have HBX14:=Lib.hid (HBX13.out.ext he14);have HBY14:=Lib.hid (HBY13.out.ext he14);have HH14:=Lib.hid (HH13.out.ext he14);have HK14:=Lib.hid (HK13.out.ext he14);have HE14:=Lib.hid (HE13.out.trans he14);clear hb he14 CC HBX13 HBY13 HR13 HD13 HH13 HE13 HK13 r0 r1 r2 r3 d0 d1 d2 d3;obtain ⟨⟨h0,h1,h2,h3⟩,ch⟩:=HH14.out;obtain ⟨⟨k0,k1,k2,k3⟩,ck⟩:=HK14.out;have CC:=Lib.hid (qhS M0 h k _ _ w14 (mb0 _) ch.pi ck.pi);clear ch ck;go_wp2_with (fail);refine CC.out.mono ?_;rintro e w15 ⟨b,rfl,hb,he15⟩;obtain rfl:b=true:=hb.2 HSH.out;have HBX15:=Lib.hid (HBX14.out.ext he15);have HBY15:=Lib.hid (HBY14.out.ext he15)
 have HE15:=Lib.hid (HE14.out.trans he15);clear hb he15 CC HBX14 HBY14 HH14 HE14 HK14 h0 h1 h2 h3 k0 k1 k2 k3;obtain ⟨⟨x0,x1,x2,x3⟩,cx⟩:=HBX15.out;obtain ⟨⟨y0,y1,y2,y3⟩,cy⟩:=HBY15.out;have CC:=Lib.hid (CPV.out w15 x y cx cy);clear cx cy;go_wp2_with (fail);refine CC.out.mono ?_;rintro e w16 ⟨bv,rfl,hv0,hv1,he16⟩;have HV0:=Lib.hid hv0;have HV1:=Lib.hid hv1;have HE16:=Lib.hid (HE15.out.trans he16);clear hv0 hv1 he16 CC CPV HBX15 HBY15 HE15 x0 x1 x2 x3 y0 y1 y2 y3;go_wp2_with (fail);refine (CV.out _ HE16.out).mono ?_;rintro e w17 ⟨bu,rfl,hbu,he17⟩;have HBE:Hid (bv=bu):=qst h1J hD4 HS1.out.d HS2.out.d HS1.out.l HS2.out.l (by rw [HFF.out,HGG.out];exact HV0.out) (by rw [HFF.out,HGG.out];exact HV1.out) hbu;have HE17:=Lib.hid (HE16.out.trans he17);obtain rfl:=HBE.out;clear hbu he17 HV0 HV1 HE16 HBE
 cases bv with
 | false=>
  go_wp2;go_ret;exact ⟨rfl,HE17.out⟩
 | true=>
  go_wp2;go_ret;exact ⟨rfl,HE17.out⟩
end Go.Proofs.YtmcfpnmoklnhoaaGreat

namespace Go.Proofs.YtmcfpnmoklnhoaaGreat
open Go.ChangeShapes Go.WideShapes Go.ChangeAt Go.RowKit Go.Deep

namespace pseudoUni
theorem own:ownKnob Tryz.prog.godebug=none:=by kernel_rfl
theorem contract (H : Type) (enc : TypeId × Value -> H) (W : World) (base : Nat) (args : Array Value) (ds gs : List (DataW H)) (before : List MemPlace)
  (hval : ∀ (j:Nat) t v,Tryz.f3.params[j]? = some t->args[j]? = some v->Value.okWide Tryz.prog W .any base t v)
  (hW:DataW.Whole enc Tryz.prog Tryz.f3.params.toList Rows.pseudoUniSpec.vars false W args.toList ds gs before) :
  Calls Tryz.prog 3 args W fun e W'=>∃ v,e = .returned v/\Rows.pseudoUniSpec.post enc Tryz.prog Tryz.f3 false true false false W args v W':=by
 have hW':=hW;obtain ⟨p,q,hA0,hV,rfl,hfz,hnd⟩:=hW;have hA:DataW.TrodAll enc Tryz.prog W 0 (fun _=>true) true Tryz.f3.params.toList args.toList ds p:=hA0;rw [Tryz.params3] at hA hval;obtain ⟨v0,vs0,d0,ds0,p0,q0,hargs,rfl,rfl,h0,r0⟩:=trodAll_cons hA;obtain ⟨v1,vs1,d1,ds1,p1,q1,rfl,rfl,rfl,h1,r1⟩:=trodAll_cons r0;obtain ⟨v2,vs2,d2,ds2,p2,q2,rfl,rfl,rfl,h2,r2⟩:=trodAll_cons r1;obtain ⟨rfl,rfl,rfl⟩:=trodAll_nil r2
 obtain rfl:args = #[v0,v1,v2]:=by cases args;simp_all
 obtain ⟨rfl,rfl⟩:=trodVars_none hV;obtain ⟨a0,n0,c0,X0,rfl,g0⟩:=qk9 (hval 0 23 v0 rfl rfl) h0;obtain ⟨a1,n1,c1,X1,rfl,g1⟩:=qk9 (hval 1 23 v1 rfl rfl) h1;obtain ⟨z2,rfl,g2⟩:=qqo (hval 2 3 v2 rfl rfl) h2;refine (qoi a0 n0 c0 X0 a1 n1 c1 X1 z2 W g0 g1 g2).mono fun e W' ⟨he,hg⟩=>?_;subst he;refine ⟨_,rfl,qnT (tb:=4) (by kernel_rfl) ?_ rfl rfl (by kernel_rfl) Tryz.underlying4 hW' hg⟩;rw [Tryz.params3];intro t ht;simp only [List.mem_cons,List.not_mem_nil,or_false,or_self,or_self_left] at ht;rcases ht with rfl | rfl
 ·exact ⟨by kernel_rfl,of_decide_eq_true (by kernel_rfl)⟩
 ·exact ⟨by kernel_rfl,of_decide_eq_true (by kernel_rfl)⟩
theorem lifted (os : Os) (started : os.Started) (H : Type) (enc : TypeId × Value -> H) :
  ReturnsInHanded {} Tryz.checked os 3 .any (Rows.pseudoUniSpec.pre6 enc Tryz.prog Tryz.f3 Rows.pseudoUniRow.domain false) (Rows.pseudoUniSpec.post enc Tryz.prog Tryz.f3 false true false false):=by
 refine returnsInHanded_of_change (C:=Tryz.checked) own started (by kernel_rfl) Tryz.func3
  (ChangeSpec.witness6 (enc:=enc) (C:=Tryz.checked) false ⟨#[],#[.slice none 0 0,.slice none 0 0,.int .i64 0],[]⟩ 8 (by kernel_rfl) (by kernel_rfl) (by kernel_rfl) (by kernel_rfl)) ?_
 intro W base args ds gs before hval hW _ _;exact contract H enc W base args ds gs before hval hW
theorem kInp:(Rows.pseudoUniRow.inPlace == Tryz.pinned.checked.prog.inPlace 3)=true:=by kernel_rfl
theorem kUnf:(Rows.pseudoUniRow.unfollowed == Tryz.pinned.checked.prog.unfollowed 3)=true:=by kernel_rfl
theorem kRec:(Rows.pseudoUniRow.recurses == Tryz.pinned.checked.prog.recurses 3)=true:=by kernel_rfl
theorem kNam:(Rows.pseudoUniRow.named == Tryz.pinned.checked.prog.varsNamed 3)=true:=by kernel_rfl
theorem kLaid:laidOutB Tryz.pinned.checked.prog=true:=by kernel_rfl
theorem closed:joinedFacts Tryz.pinned.checked.prog 3 Tryz.f3 Rows.pseudoUniSpec Rows.pseudoUniRow=true:=by
 unfold joinedFacts;rw [kInp,kUnf,kRec,kNam,kLaid]
 kernel_rfl
theorem proved:Rows.PseudoUniSaid:=
 OpenClaim.holds_of_wide (p:=Tryz.pinned) (s:=Rows.pseudoUniSpec) (c:=Rows.pseudoUniRow) 3 Tryz.f3 rfl rfl rfl rfl rfl rfl rfl ⟨rfl,rfl,rfl,rfl,rfl⟩ rfl rfl rfl rfl rfl (by kernel_rfl) Tryz.func3 closed
  (of_decide_eq_true (by kernel_rfl)) (by unfold Func.isWrapper;first | (rw [if_pos (by decide +kernel)];kernel_rfl) | (rw [if_neg (by decide +kernel)];exact ⟨rfl,rfl⟩))
  (fun os started H enc _=>lifted os started H enc)
end pseudoUni
end Go.Proofs.YtmcfpnmoklnhoaaGreat
