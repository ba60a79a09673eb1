/- Resultants: sizes, free of the variable; plain. resultant.Resultant. cylinderlaw26: inner, power, res. resultant.Common; cylinderlaw26.shared. One alloc beside calls and mutable blocks; the derivative; cylinderlaw's discriminant: what its calls answer. resultant.Discriminant. unipoly.Of, resultant.lift, resultant.Uni. cylinderlaw26.fit, the plain facts. cylinderlaw26.fit: the walk. ResultantProduct: what its calls answer. -/
import Derived.Test.YtmcfpnmoklnhoaaGreatVc
import Derived.Test.YtmcfpnmoklnhoaaGreatMv
import Derived.Test.YtmcfpnmoklnhoaaGreatQb
import Derived.Test.YtmcfpnmoklnhoaaGreatMt
set_option linter.unusedVariables false
set_option maxRecDepth 100000
set_option maxHeartbeats 400000000
set_option linter.unusedSimpArgs false

namespace Go.Proofs.YtmcfpnmoklnhoaaGreat
open Go.RowKit

theorem Gn.rszB {J m n β:Nat} {f g:List Tm} (H:Gn J m n β f g) (hb:β<=6):Sz 1000 12001 (SJ J 0 m n f g):=by
 have h6:=H.m6;have h7:=H.n6;refine ⟨qcJ H.h1 H.h4 H.sf.n H.sg.n _ _ _,?_,?_⟩
 ·by_cases hm:m=0
  ·subst hm;exact ((qeS H.sf.d H.sf.n n).mono (show n*β<=1000 by have:=Nat.mul_le_mul h7 hb;omega)).sim (qiu H.h1 H.h4 H.sf.n H.sg.n H.df n).symm
  ·by_cases hn:n=0
   ·subst hn;exact ((qeS H.sg.d H.sg.n m).mono (show m*β<=1000 by have:=Nat.mul_le_mul h6 hb;omega)).sim (qjk H.h1 H.h4 H.sf.n H.sg.n H.dg m).symm
   ·exact (H.bound (j:=0) (by omega) (by omega)).d
 ·refine Nat.le_trans (qq3 (A:=1000) H.sf.a H.sg.a (by omega)) ?_;have:=Nat.mul_le_mul_right 1000 (show n - 0+(m - 0)<=12 by omega);omega
theorem Gn.rsz {J m n:Nat} {f g:List Tm} (H:Gn J m n 4 f g):Sz 1000 12001 (SJ J 0 m n f g):=H.rszB (by decide)


theorem qd5 (l:Int) (w:World):Calls Tryz.prog 102 #[.int .i64 l] w fun e w'=>e = .returned (.bool (qay l))/\w=w':=by
 by_cases h1:1<=l
 ·by_cases h2:l<=4
  ·have H:Hid (qay l=true):=by show _=_;unfold qay;simp [h1,h2]
   go_enter Tryz.func102,Tryz.ntmps102
   go_wp2;go_ret;exact ⟨by rw [H.out];rfl,rfl⟩
  ·have H:Hid (qay l=false):=by show _=_;unfold qay;simp [h2]
   go_enter Tryz.func102,Tryz.ntmps102
   go_wp2;go_ret;exact ⟨by rw [H.out];rfl,rfl⟩
 ·have H:Hid (qay l=false):=by show _=_;unfold qay;simp [h1]
  go_enter Tryz.func102,Tryz.ntmps102
  go_wp2;go_ret;exact ⟨by rw [H.out];rfl,rfl⟩
theorem qfn {J:Nat} (h1:1<=J) (h4:J<=4):qay (J:Int)=true:=by unfold qay;simp;omega
theorem LiV.openM {M:Nat->Prop} {w w':World} {v:Value} {N:Nat} {F:Nat->List Tm} (h:LiV M w w' v N F) : ∃ u,v = .slice u N N/\Hid (0<N -> ∃ gl:Nat,u=some ⟨gl,0,none⟩/\w.heap.size<=gl/\qax (fun b=>M b∨b=gl) w' 4 gl N F):=by
 rcases h with ⟨h0,rfl⟩ | ⟨gl,rfl,hgl,hk⟩
 ·exact ⟨none,by rw [h0],fun h=>by omega⟩
 ·exact ⟨_,rfl,fun _=>⟨gl,rfl,hgl,hk⟩⟩
structure RsC (M:Nat->Prop) (w:World) (x y:PE) (J:Int) (m n:Int) (N:Nat) (F:Nat->List Tm) (r:List Tm):Prop where
 hJ:qay J=true
 b : -1<=m/\m<=100 /\ -1<=n/\n<=100/\N<=100
 dx : ∀ wk,Ext w wk->Calls Tryz.prog 43 #[.agg (peA x),.int .i64 J] wk fun e w'=>e = .returned (.int .i64 m)/\Ext wk w'
 dy : ∀ wk,Ext w wk->Calls Tryz.prog 43 #[.agg (peA y),.int .i64 J] wk fun e w'=>e = .returned (.int .i64 n)/\Ext wk w'
 z:m<0∨n<0->Sim [] r
 p:m=0->0<=n -> ∀ (M':Nat->Prop) wk,Mb M' wk->(∀ g,M' g->M g∨w.heap.size<=g)->Ext w wk->Calls Tryz.prog 53 #[.agg (peA x),.int .i64 n] wk (qa8 M' wk 4 r)
 q:1<=m->n=0 -> ∀ (M':Nat->Prop) wk,Mb M' wk->(∀ g,M' g->M g∨w.heap.size<=g)->Ext w wk->Calls Tryz.prog 53 #[.agg (peA y),.int .i64 m] wk (qa8 M' wk 4 r)
 c:1<=m->1<=n -> ∀ (M':Nat->Prop) wk,Mb M' wk->(∀ g,M' g->M g∨w.heap.size<=g)->Ext w wk->Calls Tryz.prog 133 #[.agg (peA x),.agg (peA y),.int .i64 J] wk (qnu M' wk N F 0)
 f:1<=m->1<=n->0<N/\Sim (F 0) r
theorem qlF (M : Nat -> Prop) (x y : PE) (J m n : Int) (N : Nat) (F : Nat -> List Tm) (r : List Tm) (w : World) (hM : Mb M w) (H : RsC M w x y J m n N F r) :
  Calls Tryz.prog 81 #[.agg (peA x),.agg (peA y),.int .i64 J] w (qf7 M w 4 r 0):=by
 obtain ⟨hE0,hX0,hY0,hB0,hM0⟩:=qkb hM x y;have ctr:=qd5 J (((w.alloc (.cells (peA x) 33)).alloc (.cells (peA y) 33)).alloc (.cells zA 33));rw [H.hJ] at ctr
 have hsz0:w.heap.size+3=((((w.alloc (.cells (peA x) 33)).alloc (.cells (peA y) 33)).alloc (.cells zA 33))).heap.size:=by simp
 generalize hW:((w.alloc (.cells (peA x) 33)).alloc (.cells (peA y) 33)).alloc (.cells zA 33)=W at *;have HW:=Lib.hid hW;have CTR:=Lib.hid ctr;have HE:=Lib.hid hE0;have HS:Hid (SP2 w.heap.size x y W):=⟨hX0,hY0⟩;have HB0:=Lib.hid hB0;have HM0:=Lib.hid hM0;have HH:=Lib.hid H;have HMM:Hid (∀ g,Mx M w.heap.size (w.heap.size+3) g->M g∨w.heap.size<=g):=Mx.more (Nat.le_refl _);clear hE0 hX0 hY0 hB0 hM0 hW hM H ctr
 go_enter Tryz.func81,Tryz.ntmps81
 go_upto_region 1 with (fail)
 rw [HW.out];clear HW;go_wp2_with (fail);refine CTR.out.mono ?_;rintro e w1 ⟨rfl,rfl⟩;clear CTR
 go_upto_region 3 with (fail)
 have HSd:Hid (SP2 w.heap.size x y W.drew):=HS.out.ext (Ext.refl _).drew;have HEd:Hid (Ext w W.drew):=HE.out.trans (Ext.refl _).drew;have HBd:=Lib.hid (HB0.out.ext (Ext.refl W).drew);have HMd:Hid (Mb (Mx M w.heap.size (w.heap.size+3)) W.drew):=HM0.out.ext (Ext.refl W).drew
 have hwd:w.heap.size+2<W.drew.heap.size:=by have:=(Ext.refl W).drew.size;omega
 clear HS HE HB0 HM0 hsz0;refine qad (SP2 w.heap.size x y) 8 (by kernel_rfl) HSd.out (fun hHeld=>?_);generalize W.drew=wd at *;(refine tkB [0,1,3,4] ?_;(iterate 4 (refine tk1 (oi:=?_) (v:=?_) (by kernel_rfl) (by first | exact hSn | exact hHeld) ?_ ?_ ?_ ?_ ?_;rotate_left 2;(simp only [xgA,xgB,xgC];rfl);rfl;(intro wS hSw;obtain ⟨⟨S1,S2,S3,S4⟩,S5,S6,S7,S8⟩:=hSw;go_simp;try with_reducible rfl);(exact fun _ _ _ h=>h);(try simp only [Act.put,xgD,xgE,xgF])));refine tkE ?_);((refine qaa 2 (o:=?_) (by kernel_rfl) ?_ ?_;rotate_left 1;(simp only [xgA,xgB,xgC];rfl);intro K hK);go_simp;(refine (HH.out.dx wd HEd.out).mono ?_);rintro e_ v1 ⟨rfl,d1⟩;go_wp2_with (fail);(try clear hSn);(have hSn:=hHeld.ext d1);(refine hK.out _ _ (fun _=>hSn) ?_);clear hK K;(try simp only [Act.put,xgD,xgE,xgF]));((refine qaa 5 (o:=?_) (by kernel_rfl) ?_ ?_;rotate_left 1;(simp only [xgA,xgB,xgC];rfl);intro K hK);go_simp;(refine (HH.out.dy v1 (HEd.out.trans d1)).mono ?_);rintro e_ v2 ⟨rfl,d2⟩;go_wp2_with (fail);(try clear hSn);(have hSn:=hHeld.ext (d1.trans d2));(refine hK.out _ _ (fun _=>hSn) ?_);clear hK K;(try simp only [Act.put,xgD,xgE,xgF]));(refine tkB [6,7] ?_;(iterate 2 (refine tk1 (oi:=?_) (v:=?_) (by kernel_rfl) (by first | exact hSn | exact hHeld) ?_ ?_ ?_ ?_ ?_;rotate_left 2;(simp only [xgA,xgB,xgC];rfl);rfl;(intro wS hSw;obtain ⟨⟨S1,S2,S3,S4⟩,S5,S6,S7,S8⟩:=hSw;go_simp;try with_reducible rfl);(exact fun _ _ _ h=>h);(try simp only [Act.put,xgD,xgE,xgF])));refine tkE ?_);refine qac (by kernel_rfl) ?_ _
 have HE2:=Lib.hid (HEd.out.trans (d1.trans d2));have HS2:Hid (SP2 w.heap.size x y v2):=HSd.out.ext (d1.trans d2);have HB2:=Lib.hid (HBd.out.ext (d1.trans d2));have HM2:Hid (Mb (Mx M w.heap.size (w.heap.size+3)) v2):=HMd.out.ext (d1.trans d2);have hw2:w.heap.size+2<v2.heap.size:=Nat.lt_of_lt_of_le hwd (d1.trans d2).size;have HBN:=Lib.hid HH.out.b;clear hHeld hSn d1 d2 HSd HEd HBd HMd hwd
 by_cases hm:m<0
 ·have HZ:=Lib.hid (HH.out.z (.inl hm));obtain ⟨⟨q0,q1,q2,q3⟩,⟨f0,f1,f2,f3⟩,⟨r0,r1,r2,r3⟩,HF⟩:=qbR (M:=M) (M':=Mx M w.heap.size (w.heap.size+3)) (w:=w) (L:=4) (l:=[]) (y:=PE.z) HB2.out (Mx.at (by omega)) (by omega) HE2.out (CR.zero _ _ 4) Mx.sub;have HF2:=Lib.hid ((HF.sim HZ.out).tup 0);simp only [PE.z] at r0 r1 r2 r3;clear HF HB2 HE2 HM2 HS2 HH HZ HBN HMM;go_wp2;exact bodyPost_ret (v:=.tuple #[.agg (peA PE.z),.int .i64 0]) (by simp [results,Tryz.results81,go_sem,r0,r1,r2,r3,PE.z]) rfl HF2.out
 ·by_cases hn:n<0
  ·have HZ:=Lib.hid (HH.out.z (.inr hn));obtain ⟨⟨q0,q1,q2,q3⟩,⟨f0,f1,f2,f3⟩,⟨r0,r1,r2,r3⟩,HF⟩:=qbR (M:=M) (M':=Mx M w.heap.size (w.heap.size+3)) (w:=w) (L:=4) (l:=[]) (y:=PE.z) HB2.out (Mx.at (by omega)) (by omega) HE2.out (CR.zero _ _ 4) Mx.sub;have HF2:=Lib.hid ((HF.sim HZ.out).tup 0);simp only [PE.z] at r0 r1 r2 r3;clear HF HB2 HE2 HM2 HS2 HH HZ HBN HMM;go_wp2;exact bodyPost_ret (v:=.tuple #[.agg (peA PE.z),.int .i64 0]) (by simp [results,Tryz.results81,go_sem,r0,r1,r2,r3,PE.z]) rfl HF2.out
  ·by_cases h0:m=0
   ·have CP:=Lib.hid (HH.out.p h0 (by omega) (Mx M w.heap.size (w.heap.size+3)) v2 HM2.out HMM.out HE2.out);obtain ⟨⟨S1,S2,S3,S4⟩,S5,S6,S7,S8⟩:=HS2.out;clear HH HBN;go_wp2_with (fail);refine CP.out.mono ?_;rintro e w3 ⟨v,rfl,hv,e3⟩;obtain ⟨⟨q0,q1,q2,q3⟩,⟨f0,f1,f2,f3⟩,⟨r0,r1,r2,r3⟩,HF⟩:=qbR (M:=M) (w:=w) (HB2.out.ext e3) (Mx.at (by omega)) (by omega) (HE2.out.trans e3) hv Mx.sub;have HF2:=Lib.hid (HF.tup 0);have hw3:w.heap.size+2<w3.heap.size:=Nat.lt_of_lt_of_le hw2 e3.size;clear HF HB2 HE2 HM2 HS2 CP HMM hv e3 S1 S2 S3 S4 S5 S6 S7 S8 hw2;go_wp2;exact bodyPost_ret (v:=.tuple #[.agg (peA v),.int .i64 0]) (by simp [results,Tryz.results81,go_sem,r0,r1,r2,r3]) rfl HF2.out
   ·have hm1:(m == 0)=false:=by simp [h0]
    by_cases hn0:n=0
    ·have CP:=Lib.hid (HH.out.q (by omega) hn0 (Mx M w.heap.size (w.heap.size+3)) v2 HM2.out HMM.out HE2.out);obtain ⟨⟨S1,S2,S3,S4⟩,S5,S6,S7,S8⟩:=HS2.out;clear HH HBN;go_wp2_with (fail);refine CP.out.mono ?_;rintro e w3 ⟨v,rfl,hv,e3⟩;obtain ⟨⟨q0,q1,q2,q3⟩,⟨f0,f1,f2,f3⟩,⟨r0,r1,r2,r3⟩,HF⟩:=qbR (M:=M) (w:=w) (HB2.out.ext e3) (Mx.at (by omega)) (by omega) (HE2.out.trans e3) hv Mx.sub;have HF2:=Lib.hid (HF.tup 0);have hw3:w.heap.size+2<w3.heap.size:=Nat.lt_of_lt_of_le hw2 e3.size;clear HF HB2 HE2 HM2 HS2 CP HMM hv e3 S1 S2 S3 S4 S5 S6 S7 S8 hw2;go_wp2;exact bodyPost_ret (v:=.tuple #[.agg (peA v),.int .i64 0]) (by simp [results,Tryz.results81,go_sem,r0,r1,r2,r3]) rfl HF2.out
    ·have CC:=Lib.hid (HH.out.c (by omega) (by omega) (Mx M w.heap.size (w.heap.size+3)) v2 HM2.out HMM.out HE2.out);have HFF:=Lib.hid (HH.out.f (by omega) (by omega))
     have hn1:(n == 0)=false:=by simp [hn0]
     obtain ⟨⟨S1,S2,S3,S4⟩,S5,S6,S7,S8⟩:=HS2.out;clear HH;go_wp2_with (fail);refine CC.out.mono ?_;rintro e w3 ⟨vl,rfl,hl,e3⟩;obtain ⟨ul,rfl,HL⟩:=hl.openM;obtain ⟨gl,rfl,hgl,hk⟩:=HL.out HFF.out.1;obtain ⟨za,hza,hxa⟩:=hk.cel 0 HFF.out.1;obtain ⟨c0,c1,c2,c3⟩:=hza;simp only [Nat.zero_mul,Nat.zero_add] at c0 c1 c2 c3;have hv:CRx (Mx M w.heap.size (w.heap.size+3)) w3 4 za r:=(hxa.sim HFF.out.2).more fun b hb=>.inl (.inl hb);obtain ⟨⟨q0,q1,q2,q3⟩,⟨f0,f1,f2,f3⟩,⟨r0,r1,r2,r3⟩,HF⟩:=qbR (M:=M) (w:=w) (HB2.out.ext e3) (Mx.at (by omega)) (by omega) (HE2.out.trans e3) hv Mx.sub;have HF2:=Lib.hid (HF.tup 0);have hw3:w.heap.size+2<w3.heap.size:=Nat.lt_of_lt_of_le hw2 e3.size;have hglt:=hk.lt
     have hN0:(0:Int)<(N:Int):=by have:=HFF.out.1;omega
     clear HF HB2 HE2 HM2 HS2 CC HMM hv hl hk hxa HL HFF HBN e3 S1 S2 S3 S4 S5 S6 S7 S8 hw2 hgl;go_wp2;exact bodyPost_ret (v:=.tuple #[.agg (peA za),.int .i64 0]) (by simp [results,Tryz.results81,go_sem,r0,r1,r2,r3]) rfl HF2.out
theorem Gn.resB {J m n β : Nat} {f g : List Tm} (H : Gn J m n β f g) (hb : β <= 6) (M : Nat -> Prop) (x y : PE) (w : World) (hM : Mb M w) (hx : CRx M w 4 x f) (hy : CRx M w 4 y g) :
  Calls Tryz.prog 81 #[.agg (peA x),.agg (peA y),.int .i64 (J:Int)] w (qf7 M w 4 (SJ J 0 m n f g) 0):=by
 have h6:=H.m6;have h7:=H.n6;refine qlF M x y (J:Int) m n (min m n) (fun j=>SJ J j m n f g) _ w hM ⟨qfn H.h1 H.h4,by omega,fun wk he=>H.degf M x wk (hM.ext he) (hx.ext he),fun wk he=>H.swap.degf M y wk (hM.ext he) (hy.ext he),fun h=>by omega,fun h0 _ M' wk hM' hm he=>?_,fun h0 _ M' wk hM' hm he=>?_,fun _ _ M' wk hM' hm he=>H.chain M' x y wk hM' ((hx.more hm).ext he) ((hy.more hm).ext he),fun _ _=>⟨by omega,Sim.refl _⟩⟩
 ·obtain rfl:m=0:=by omega
  exact (qfQ H.sf (by omega) (by have:=Nat.mul_le_mul h7 hb;omega) (by omega) M' wk x hM' ((hx.more hm).ext he)).mono fun e w' h=>h.sim (qiu H.h1 H.h4 H.sf.n H.sg.n H.df n).symm
 ·obtain rfl:n=0:=by omega
  exact (qfQ H.sg (by omega) (by have:=Nat.mul_le_mul h6 hb;omega) (by omega) M' wk y hM' ((hy.more hm).ext he)).mono fun e w' h=>h.sim (qjk H.h1 H.h4 H.sf.n H.sg.n H.dg m).symm
theorem Gn.resO {J m n : Nat} {f g : List Tm} (H : Gn J m n 4 f g) (M : Nat -> Prop) (x y : PE) (w : World) (hM : Mb M w) (hx : CRx M w 4 x f) (hy : CRx M w 4 y g) :
  Calls Tryz.prog 81 #[.agg (peA x),.agg (peA y),.int .i64 (J:Int)] w (qf7 M w 4 (SJ J 0 m n f g) 0):=H.resB (by decide) M x y w hM hx hy
theorem qp9 {J : Nat} (h1 : 1 <= J) (h4 : J <= 4) {f g : List Tm} (nf : NN f) (ng : NN g) (hz : Sim f [] ∨ Sim g []) (df : Deg 100 f) (dg : Deg 100 g) (M : Nat -> Prop) (x y : PE) (w : World) (hM : Mb M w) (hx : CRx M w 4 x f) (hy : CRx M w 4 y g) :
  Calls Tryz.prog 81 #[.agg (peA x),.agg (peA y),.int .i64 (J:Int)] w (qf7 M w 4 [] 0):=by
 have key : ∀ {l:List Tm},NN l->Deg 100 l -> ∃ z:Int,DgV J l z /\ -1<=z/\z<=100/\(Sim l []->z<0):=fun {l} nl dl=>by
  by_cases h:Sim l []
  ·exact ⟨-1,.inl ⟨h,rfl⟩,by omega,by omega,fun _=>by omega⟩
  ·obtain ⟨a,ha⟩:=qiS (k:=J) nl;have:=qoJ ha dl;exact ⟨a,.inr ⟨h,a,ha,rfl⟩,by omega,by omega,fun hs=>absurd hs h⟩
 obtain ⟨m,hm,m1,m2,m3⟩:=key nf df;obtain ⟨n,hn,n1,n2,n3⟩:=key ng dg;have hneg:m<0∨n<0:=hz.imp m3 n3;exact qlF M x y (J:Int) m n 0 (fun _=>[]) _ w hM ⟨qfn h1 h4,by omega,fun wk he=>qb6 M x f J m wk h1 h4 nf hm (hM.ext he) (hx.ext he).pi,fun wk he=>qb6 M y g J n wk h1 h4 ng hn (hM.ext he) (hy.ext he).pi,fun _=>Sim.refl _,fun _ _=>by omega,fun _ _=>by omega,fun _ _=>by omega,fun _ _=>by omega⟩






structure qtN (M':Nat->Prop) (wd W:World) (a:Nat) (x:PE) (l:List Tm):Prop where
 e:Ext wd W
 b:Blk W a 33 4 (arr (peA x))
 x:CRx (M9 M' (some a) none) W 4 x l
 w:wd.heap.size<=a
theorem S9.put8 {M' : Nat -> Prop} {wd wk : World} {a : Nat} {x : PE} {l : List Tm} (h : S9 M' wd wk (some a) none) (hx : CRx (M9 M' (some a) none) wk 4 x l) :
  ∃ W1,W1=set4 wk a 0 (.int .i64 x.lv) (.bool x.b) (.slice x.a x.n x.p) (.slice x.ka x.kn x.kp)/\Z4 wk a/\Fz4 wk a/\qtN M' wd W1 a x l:=by
 obtain ⟨hB,hw⟩:=h.a a rfl;exact ⟨_,rfl,hB.z4,hB.fz4,h.e.set4 hw _ _ _ _ _,qdB hB x,hx.kp (Kp.set4 (.inr (.inl rfl)) _ _ _ _ _),hw⟩
theorem qmh (M:Nat->Prop) (x:PE) (l:List Tm) (J n:Nat) (w:World) (h1:1<=J) (h4:J<=4) (hz : ¬ Sim l []) (hd:DgR J l n) (hs:Sz 4 20 l) (hM:Mb M w) (h:CRx M w 4 x l):Calls Tryz.prog 115 #[.agg (peA x),.int .i64 (J:Int)] w (qa8 M w 4 (poly J n (dvC J l))):=by
 refine (qdR M x l (J:Int) 4 w hM h.pi hs.d (by decide) (by decide) (Nat.le_trans hs.a (by decide))).mono ?_;rintro e w' ⟨v,s,rfl,hv,hs',he⟩;rcases hs' with ⟨k | k,_⟩ | ⟨_,J',b,k0,_,_,hb,rfl⟩
 ·exact absurd k hz
 ·exact absurd ⟨by omega,by omega⟩ k
 ·obtain rfl:J=J':=by omega
  rw [qcM hs.n hz hd hb];exact ⟨v,rfl,hv,he⟩
theorem Gn.drv1 {J n:Nat} (h1:1<=J) (h4:J<=4) {f:List Tm} (hn:1<=n) (hn4:n<=4) (hf:Sz 4 20 f) (df:DgR J f n):Gn J n (n - 1) 4 f (poly J n (dvC J f)):=by
 have zf : ¬ Sim f []:=df.nz h1 h4 (by omega);have hg:=(qrU h1 h4 (show n<=100 by omega) hf).mono (Nat.le_refl 4) (show 21<=1000 by decide);refine Gn.of44 h1 h4 (hf.mono (Nat.le_refl _) (by decide)) hg zf (fun hs=>?_) df (qm2 h1 h4 hf.n hn df) hn4 (by omega);have hl : ¬ Sim (ck J (n:Int) f) []:=qot h1 h4 hf.n df zf;obtain ⟨k,rfl⟩ : ∃ k,n=k+1:=⟨n - 1,by omega⟩;have h2:=qj8 h1 h4 f (k+1) k;rw [if_pos (Nat.lt_succ_self k)] at h2;exact qpF hl (h2.symm.trans ((qa0 hs).trans (Sim.refl [])))


theorem qr8 (M : Nat -> Prop) (x : PE) (J : Nat) (z : Int) (l : List Tm) (w : World) (hM : Mb M w) (h1 : 1 <= J) (h4 : J <= 4) (nl : NN l) (hz : DgV J l z) (hz1 : z < 1) (hx : CRx M w 4 x l) :
  Calls Tryz.prog 49 #[.agg (peA x),.int .i64 (J:Int)] w (qf7 M w 4 [] 12):=by
 obtain ⟨hE0,hX0,hB0,hM0⟩:=qro hM x;have ctr:=qd5 (J:Int) ((w.alloc (.cells (peA x) 33)).alloc (.cells zA 33));rw [qfn h1 h4] at ctr;have cd:=qb6 (Mx M w.heap.size (w.heap.size+2)) x l J z ((w.alloc (.cells (peA x) 33)).alloc (.cells zA 33)) h1 h4 nl hz hM0 ((hx.more (Mx.more (Nat.le_refl _))).ext hE0).pi
 have hsz0:w.heap.size+1<((w.alloc (.cells (peA x) 33)).alloc (.cells zA 33)).heap.size:=by simp
 generalize hW:(w.alloc (.cells (peA x) 33)).alloc (.cells zA 33)=W at *;have HW:=Lib.hid hW;have CTR:=Lib.hid ctr;have CD:=Lib.hid cd;have HB0:=Lib.hid hB0;have HE0:=Lib.hid hE0;obtain ⟨x0,x1,x2,x3⟩:=hX0;clear hE0 hB0 hM0 hW hM ctr cd hz nl h1 h4 hx
 go_enter Tryz.func49,Tryz.ntmps49
 go_upto_region 1 with (fail)
 rw [HW.out];clear HW;go_wp2_with (fail);refine CTR.out.mono ?_;rintro e w1 ⟨rfl,rfl⟩;clear CTR;go_wp2_with (fail);refine CD.out.mono ?_;rintro e w2 ⟨rfl,e2⟩;obtain ⟨⟨q0,q1,q2,q3⟩,⟨f0,f1,f2,f3⟩,⟨r0,r1,r2,r3⟩,HF⟩:=qbR (M:=M) (M':=Mx M w.heap.size (w.heap.size+2)) (w:=w) (L:=4) (l:=[]) (y:=PE.z) (HB0.out.ext e2) (Mx.at (by omega)) (by omega) (HE0.out.trans e2) (CR.zero _ _ 4) Mx.sub;have HF2:=Lib.hid (HF.tup 12);simp only [PE.z] at r0 r1 r2 r3;have hw2:w.heap.size+1<w2.heap.size:=Nat.lt_of_lt_of_le hsz0 e2.size;clear CD HF HB0 HE0 e2 x0 x1 x2 x3 hsz0;go_wp2;exact bodyPost_ret (v:=.tuple #[.agg (peA PE.z),.int .i64 12]) (by simp [results,Tryz.results49,go_sem,r0,r1,r2,r3,PE.z]) rfl HF2.out
def qtE (M':Nat->Prop) (wd:World) (l:List Tm) (s7 s8:Value) (wx:World):Prop:=∃ (a:Nat) (v:PE),s7 = .pointer (some ⟨a,0,none⟩)/\s8 = .int .i64 0/\qtN M' wd wx a v l
def qrA (M':Nat->Prop) (w:World) (x:PE) (a:Nat) (l:List Tm) (wx:World):Prop:=∃ vv:PE,P4 wx w.heap.size x/\Blk wx (w.heap.size+1) 33 4 (arr zA)/\Blk wx a 33 4 (arr (peA vv))/\CRx M' wx 4 vv l/\Ext w wx/\Mb M' wx
def SQ2 (b a:Nat) (x y:PE) (w:World):Prop:=P4 w b x/\P4 w a y
theorem SQ2.ext {b a:Nat} {x y:PE} {w w':World} (h:SQ2 b a x y w) (he:Ext w w'):SQ2 b a x y w':=⟨h.1.ext he,h.2.ext he⟩
structure RdC (M:Nat->Prop) (w:World) (x:PE) (J:Int) (n:Nat) (g R c u:List Tm):Prop where
 hJ:qay J=true
 b:1<=n/\n<=100
 dx : ∀ wk,Ext w wk->Calls Tryz.prog 43 #[.agg (peA x),.int .i64 J] wk fun e w'=>e = .returned (.int .i64 (n:Int))/\Ext wk w'
 dr : ∀ (M':Nat->Prop) wk,Mb M' wk->(∀ g,M' g->M g∨w.heap.size<=g)->Ext w wk->Calls Tryz.prog 115 #[.agg (peA x),.int .i64 J] wk (qa8 M' wk 4 g)
 rs : ∀ (M':Nat->Prop) wk y,Mb M' wk->(∀ g,M' g->M g∨w.heap.size<=g)->Ext w wk->CRx M' wk 4 y g->Calls Tryz.prog 81 #[.agg (peA x),.agg (peA y),.int .i64 J] wk (qf7 M' wk 4 R 0)
 ng:n % 4>1 -> ∀ (M':Nat->Prop) wk y,Mb M' wk->CRx M' wk 4 y R->Calls Tryz.prog 116 #[.agg (peA y)] wk (qa8 M' wk 4 (qbz R))
 ld : ∀ (M':Nat->Prop) wk,Mb M' wk->(∀ g,M' g->M g∨w.heap.size<=g)->Ext w wk->Calls Tryz.prog 117 #[.agg (peA x),.int .i64 J] wk (qa8 M' wk 4 c)
 ex : ∀ (M':Nat->Prop) wk y z,Mb M' wk->CRx M' wk 4 y (sgS n R)->CRx M' wk 4 z c->Calls Tryz.prog 14 #[.agg (peA y),.agg (peA z)] wk (qf7 M' wk 4 u 0)
theorem qlQ (M : Nat -> Prop) (x : PE) (J : Int) (n : Nat) (g R c u : List Tm) (w : World) (hM : Mb M w) (H : RdC M w x J n g R c u) :
  Calls Tryz.prog 49 #[.agg (peA x),.int .i64 J] w (qf7 M w 4 u 0):=by
 obtain ⟨hE0,hX0,hB0,hM0⟩:=qro hM x;have ctr:=qd5 J ((w.alloc (.cells (peA x) 33)).alloc (.cells zA 33));rw [H.hJ] at ctr
 have hsz0:w.heap.size+1<((w.alloc (.cells (peA x) 33)).alloc (.cells zA 33)).heap.size:=by simp
 have cd:=H.dx _ hE0;generalize hW:(w.alloc (.cells (peA x) 33)).alloc (.cells zA 33)=W at *;have HW:=Lib.hid hW;have CTR:=Lib.hid ctr;have CD:=Lib.hid cd;have HB0:=Lib.hid hB0;have HE0:=Lib.hid hE0;have HM0:=Lib.hid hM0;have HH:=Lib.hid H;have HX0:Hid (P4 W w.heap.size x):=hX0
 have hn1:(1:Int)<=(n:Int):=by have:=H.b.1;omega
 have hn100:(n:Int)<=100:=by have:=H.b.2;omega
 have HMM:Hid (∀ g,Mx M w.heap.size (w.heap.size+2) g->M g∨w.heap.size<=g):=Mx.more (Nat.le_refl _);clear hE0 hB0 hM0 hW hM ctr cd H hX0;obtain ⟨x0,x1,x2,x3⟩:=HX0.out
 go_enter Tryz.func49,Tryz.ntmps49
 go_upto_region 1 with (fail)
 rw [HW.out];clear HW;go_wp2_with (fail);refine CTR.out.mono ?_;rintro e w1 ⟨rfl,rfl⟩;clear CTR;go_wp2_with (fail);refine CD.out.mono ?_;rintro e w2 ⟨rfl,e2⟩;have HX2:Hid (P4 w2 w.heap.size x):=HX0.out.ext e2;have HB2:=Lib.hid (HB0.out.ext e2);have HE2:=Lib.hid (HE0.out.trans e2);have HM2:Hid (Mb (Mx M w.heap.size (w.heap.size+2)) w2):=HM0.out.ext e2;have hw2:w.heap.size+1<w2.heap.size:=Nat.lt_of_lt_of_le hsz0 e2.size;clear CD HX0 HB0 HE0 HM0 hsz0 e2 x0 x1 x2 x3
 go_upto_region 6 with (fail)
 have hEd:Ext w2 w2.drew:=(Ext.refl w2).drew;have HXd:Hid (P4 w2.drew w.heap.size x):=HX2.out.ext hEd;have HBd:=Lib.hid (HB2.out.ext hEd);have HEd:=Lib.hid (HE2.out.trans hEd);have HMd:Hid (Mb (Mx M w.heap.size (w.heap.size+2)) w2.drew):=HM2.out.ext hEd;have hwd:w.heap.size+1<w2.drew.heap.size:=Nat.lt_of_lt_of_le hw2 hEd.size;clear HX2 HB2 HE2 HM2 hw2 hEd
 go_cut [7,8] (qtE (Mx M w.heap.size (w.heap.size+2)) w2.drew R)
 case first=>
  refine qad (fun W=>P4 W w.heap.size x) 12 (by kernel_rfl) HXd.out (fun hHeld=>?_);have S0:=S9.start HMd.out;generalize w2.drew=wd at *;have C1:Hid (∀ A B wk,S9 (Mx M w.heap.size (w.heap.size+2)) wd wk A B->Calls Tryz.prog 115 #[.agg (peA x),.int .i64 J] wk (qa8 (M9 (Mx M w.heap.size (w.heap.size+2)) A B) wk 4 g)):=fun A B wk S=>HH.out.dr _ wk S.mb (fun b hb=>(S.sub b hb).elim (HMM.out b) fun q=>.inr (by have:=HEd.out.size;omega)) (HEd.out.trans S.e);have C2:Hid (∀ A B wk,S9 (Mx M w.heap.size (w.heap.size+2)) wd wk A B -> ∀ y,CRx (M9 (Mx M w.heap.size (w.heap.size+2)) A B) wk 4 y g->Calls Tryz.prog 81 #[.agg (peA x),.agg (peA y),.int .i64 J] wk (qf7 (M9 (Mx M w.heap.size (w.heap.size+2)) A B) wk 4 R 0)):=fun A B wk S y hy=>HH.out.rs _ wk y S.mb (fun b hb=>(S.sub b hb).elim (HMM.out b) fun q=>.inr (by have:=HEd.out.size;omega)) (HEd.out.trans S.e) hy;clear HXd HBd HEd HMd HMM HH hwd;(refine tkB [0,1,2,4] ?_;(iterate 4 (refine tk1 (oi:=?_) (v:=?_) (by kernel_rfl) (by first | exact hSn | exact hHeld) ?_ ?_ ?_ ?_ ?_;rotate_left 2;(simp only [xgA,xgB,xgC];rfl);rfl;(intro wS hSw;obtain ⟨A1,A2,A3,A4⟩:=hSw;go_simp;try with_reducible rfl);(exact fun _ _ _ h=>h);(try simp only [Act.put,xgD,xgE,xgF])));refine tkE ?_);(refine qau 3 9 (oi:=?_) (oj:=?_) (by kernel_rfl) ?_ ?_ ?_ ?_;rotate_left 2;(simp only [xgA,xgB,xgC];rfl);(simp only [xgA,xgB,xgC];rfl);all_goals intro K hK)
  ·go_simp;refine (C1.out _ _ wd S0).mono ?_;rintro e v1 ⟨d,rfl,hd,D⟩;go_wp2_with (fail);have S1:=S0.call D;clear D
   try clear hSn
   have hSn:=hHeld.ext S1.e;refine hK.out _ _ (fun _=>hSn) ?_;clear hK K;(try simp only [Act.put,xgD,xgE,xgF]);(refine qau 5 9 (oi:=?_) (oj:=?_) (by kernel_rfl) ?_ ?_ ?_ ?_;rotate_left 2;(simp only [xgA,xgB,xgC];rfl);(simp only [xgA,xgB,xgC];rfl);all_goals intro K hK)
   ·go_simp;refine (C2.out _ _ v1 S1 _ hd).mono ?_;rintro e v2 ⟨r,rfl,hr,D⟩;go_wp2_with (fail);have S2:=S1.call D;replace hd:=hd.ext D;clear D
    try clear hSn
    have hSn:=hHeld.ext S2.e;refine hK.out _ _ (fun _=>hSn) ?_;clear hK K;(try simp only [Act.put,xgD,xgE,xgF]);(refine tkB [6,7,8] ?_;(iterate 3 (refine tk1 (oi:=?_) (v:=?_) (by kernel_rfl) (by first | exact hSn | exact hHeld) ?_ ?_ ?_ ?_ ?_;rotate_left 2;(simp only [xgA,xgB,xgC];rfl);rfl;(intro wS hSw;obtain ⟨A1,A2,A3,A4⟩:=hSw;go_simp;try with_reducible rfl);(exact fun _ _ _ h=>h);(try simp only [Act.put,xgD,xgE,xgF])));refine tkE ?_);(refine qaa 9 (o:=?_) (by kernel_rfl) ?_ ?_;rotate_left 1;(simp only [xgA,xgB,xgC];rfl);intro K hK);go_simp;have S3:=S2.allA;replace hd:=S2.keepA hd;replace hr:=S2.keepA hr
    try clear hSn
    have hSn:=hHeld.ext S3.e;refine hK.out _ _ (fun _=>hSn) ?_;clear hK K;(try simp only [Act.put,xgD,xgE,xgF]);generalize v2.alloc (.cells zA 33)=v3 at *;generalize v2.heap.size=g3 at *;obtain ⟨W1,hW1,⟨q0,q1,q2,q3⟩,⟨f0,f1,f2,f3⟩,HP2⟩:=S3.put8 hr;unfold set4 at hW1;have hSn1:=hHeld.ext HP2.e;clear hSn;(refine qaa 10 (o:=?_) (by kernel_rfl) ?_ ?_;rotate_left 1;(simp only [xgA,xgB,xgC];rfl);intro K hK);go_simp;rw [<- hW1];clear hW1;refine hK.out _ _ (fun _=>hSn1) ?_;clear hK K q0 q1 q2 q3 f0 f1 f2 f3;(try simp only [Act.put,xgD,xgE,xgF]);have hSn:=hSn1;(refine tkB [11] ?_;(iterate 1 (refine tk1 (oi:=?_) (v:=?_) (by kernel_rfl) (by first | exact hSn | exact hHeld) ?_ ?_ ?_ ?_ ?_;rotate_left 2;(simp only [xgA,xgB,xgC];rfl);rfl;(intro wS hSw;obtain ⟨A1,A2,A3,A4⟩:=hSw;go_simp;try with_reducible rfl);(exact fun _ _ _ h=>h);(try simp only [Act.put,xgD,xgE,xgF])));refine tkE ?_);refine qac (by kernel_rfl) ?_ _;go_wp2_with (fail)
    go_meet
    exact ⟨_,_,rfl,rfl,HP2⟩
   ·go_simp;have S4:=S1.allA;replace hd:=S1.keepA hd
    try clear hSn
    have hSn:=hHeld.ext S4.e;refine hK.out _ _ (fun _=>hSn) ?_;clear hK K;(try simp only [Act.put,xgD,xgE,xgF]);generalize v1.alloc (.cells zA 33)=v4 at *;generalize v1.heap.size=g4 at *;(refine qaa 5 (o:=?_) (by kernel_rfl) ?_ ?_;rotate_left 1;(simp only [xgA,xgB,xgC];rfl);intro K hK);go_simp;refine (C2.out _ _ v4 S4 _ hd).mono ?_;rintro e v5 ⟨r,rfl,hr,D⟩;go_wp2_with (fail);have S5:=S4.call D;replace hd:=hd.ext D;clear D
    try clear hSn
    have hSn:=hHeld.ext S5.e;refine hK.out _ _ (fun _=>hSn) ?_;clear hK K;(try simp only [Act.put,xgD,xgE,xgF]);(refine tkB [6,7,8] ?_;(iterate 3 (refine tk1 (oi:=?_) (v:=?_) (by kernel_rfl) (by first | exact hSn | exact hHeld) ?_ ?_ ?_ ?_ ?_;rotate_left 2;(simp only [xgA,xgB,xgC];rfl);rfl;(intro wS hSw;obtain ⟨A1,A2,A3,A4⟩:=hSw;go_simp;try with_reducible rfl);(exact fun _ _ _ h=>h);(try simp only [Act.put,xgD,xgE,xgF])));refine tkE ?_);obtain ⟨W1,hW1,⟨q0,q1,q2,q3⟩,⟨f0,f1,f2,f3⟩,HP2⟩:=S5.put8 hr;unfold set4 at hW1;have hSn1:=hHeld.ext HP2.e;clear hSn;(refine qaa 10 (o:=?_) (by kernel_rfl) ?_ ?_;rotate_left 1;(simp only [xgA,xgB,xgC];rfl);intro K hK);go_simp;rw [<- hW1];clear hW1;refine hK.out _ _ (fun _=>hSn1) ?_;clear hK K q0 q1 q2 q3 f0 f1 f2 f3;(try simp only [Act.put,xgD,xgE,xgF]);have hSn:=hSn1;(refine tkB [11] ?_;(iterate 1 (refine tk1 (oi:=?_) (v:=?_) (by kernel_rfl) (by first | exact hSn | exact hHeld) ?_ ?_ ?_ ?_ ?_;rotate_left 2;(simp only [xgA,xgB,xgC];rfl);rfl;(intro wS hSw;obtain ⟨A1,A2,A3,A4⟩:=hSw;go_simp;try with_reducible rfl);(exact fun _ _ _ h=>h);(try simp only [Act.put,xgD,xgE,xgF])));refine tkE ?_);refine qac (by kernel_rfl) ?_ _;go_wp2_with (fail)
    go_meet
    exact ⟨_,_,rfl,rfl,HP2⟩
  ·go_simp;have S6:=S0.allA
   try clear hSn
   have hSn:=hHeld.ext S6.e;refine hK.out _ _ (fun _=>hSn) ?_;clear hK K;(try simp only [Act.put,xgD,xgE,xgF]);generalize wd.alloc (.cells zA 33)=v6 at *;generalize wd.heap.size=g6 at *;(refine qaa 3 (o:=?_) (by kernel_rfl) ?_ ?_;rotate_left 1;(simp only [xgA,xgB,xgC];rfl);intro K hK);go_simp;refine (C1.out _ _ v6 S6).mono ?_;rintro e v7 ⟨d,rfl,hd,D⟩;go_wp2_with (fail);have S7:=S6.call D;clear D
   try clear hSn
   have hSn:=hHeld.ext S7.e;refine hK.out _ _ (fun _=>hSn) ?_;clear hK K;(try simp only [Act.put,xgD,xgE,xgF]);(refine qaa 5 (o:=?_) (by kernel_rfl) ?_ ?_;rotate_left 1;(simp only [xgA,xgB,xgC];rfl);intro K hK);go_simp;refine (C2.out _ _ v7 S7 _ hd).mono ?_;rintro e v8 ⟨r,rfl,hr,D⟩;go_wp2_with (fail);have S8:=S7.call D;replace hd:=hd.ext D;clear D
   try clear hSn
   have hSn:=hHeld.ext S8.e;refine hK.out _ _ (fun _=>hSn) ?_;clear hK K;(try simp only [Act.put,xgD,xgE,xgF]);(refine tkB [6,7,8] ?_;(iterate 3 (refine tk1 (oi:=?_) (v:=?_) (by kernel_rfl) (by first | exact hSn | exact hHeld) ?_ ?_ ?_ ?_ ?_;rotate_left 2;(simp only [xgA,xgB,xgC];rfl);rfl;(intro wS hSw;obtain ⟨A1,A2,A3,A4⟩:=hSw;go_simp;try with_reducible rfl);(exact fun _ _ _ h=>h);(try simp only [Act.put,xgD,xgE,xgF])));refine tkE ?_);obtain ⟨W1,hW1,⟨q0,q1,q2,q3⟩,⟨f0,f1,f2,f3⟩,HP2⟩:=S8.put8 hr;unfold set4 at hW1;have hSn1:=hHeld.ext HP2.e;clear hSn;(refine qaa 10 (o:=?_) (by kernel_rfl) ?_ ?_;rotate_left 1;(simp only [xgA,xgB,xgC];rfl);intro K hK);go_simp;rw [<- hW1];clear hW1;refine hK.out _ _ (fun _=>hSn1) ?_;clear hK K q0 q1 q2 q3 f0 f1 f2 f3;(try simp only [Act.put,xgD,xgE,xgF]);have hSn:=hSn1;(refine tkB [11] ?_;(iterate 1 (refine tk1 (oi:=?_) (v:=?_) (by kernel_rfl) (by first | exact hSn | exact hHeld) ?_ ?_ ?_ ?_ ?_;rotate_left 2;(simp only [xgA,xgB,xgC];rfl);rfl;(intro wS hSw;obtain ⟨A1,A2,A3,A4⟩:=hSw;go_simp;try with_reducible rfl);(exact fun _ _ _ h=>h);(try simp only [Act.put,xgD,xgE,xgF])));refine tkE ?_);refine qac (by kernel_rfl) ?_ _;go_wp2_with (fail)
   go_meet
   exact ⟨_,_,rfl,rfl,HP2⟩
 case rest=>
  obtain ⟨a,v,rfl,rfl,HP⟩:=hcut;have HX3:Hid (P4 wc w.heap.size x):=HXd.out.ext HP.e;have HB3:=Lib.hid (HBd.out.ext HP.e);have HE3:=Lib.hid (HEd.out.trans HP.e);have HV3:=Lib.hid HP.x;have HA3:=Lib.hid HP.b
  have hwa:w.heap.size+1<a:=by have:=HP.w;omega
  have HM3:Hid (Mb (M9 (Mx M w.heap.size (w.heap.size+2)) (some a) none) wc):=fun b hb=>hb.elim (fun q=>Nat.lt_of_lt_of_le (HMd.out b q) HP.e.size) fun q=>by
   rcases q with q | q
   ·cases q;exact HP.b.lt
   ·cases q
  have HMN:Hid (∀ b,M9 (Mx M w.heap.size (w.heap.size+2)) (some a) none b->M b∨w.heap.size<=b):=fun b hb=>hb.elim (HMM.out b) fun q=>by
   rcases q with q | q
   ·cases q;exact .inr (by omega)
   ·cases q
  clear HP HXd HBd HEd HMd HMM hwd;obtain ⟨W3,hW3⟩ : ∃ W3,W3=wc:=⟨_,rfl⟩
  go_upto_if 34 with (fail)
  clear hW3
  go_cut [7] (fun s7 wx=>s7 = .pointer (some ⟨a,0,none⟩)/\qrA (M9 (Mx M w.heap.size (w.heap.size+2)) (some a) none) w x a (sgS n R) wx)
  case first=>
   by_cases hs:n % 4>1
   ·have ht:1<((n:Nat):Int) % 4:=by omega
    have e1:Hid (sgS n R=qbz R):=if_pos hs;have CN:=Lib.hid (HH.out.ng hs _ wc v HM3.out HV3.out);obtain ⟨v0,v1,v2,v3⟩:=HA3.out.p4;clear hs HH;go_wp2_with (fail);refine CN.out.mono ?_;rintro e w5 ⟨vv,rfl,hvv,e5⟩;have hA5:=HA3.out.ext e5;obtain ⟨q0,q1,q2,q3⟩:=hA5.p4;obtain ⟨f0,f1,f2,f3⟩:=hA5.fz4
    have HF:Hid (qrA (M9 (Mx M w.heap.size (w.heap.size+2)) (some a) none) w x a (sgS n R) (set4 w5 a 0 (.int .i64 vv.lv) (.bool vv.b) (.slice vv.a vv.n vv.p) (.slice vv.ka vv.kn vv.kp))):=by
     refine ⟨vv,qak (HX3.out.ext e5) (qag _ _ _ _ _ _ _ _ (by omega)),(HB3.out.ext e5).of_heap (qag w5 a 0 (.int .i64 vv.lv) (.bool vv.b) (.slice vv.a vv.n vv.p) (.slice vv.ka vv.kn vv.kp) _ (by omega)),qdB hA5 vv,?_,(HE3.out.trans e5).set4 (show w.heap.size<=a by omega) 0 (.int .i64 vv.lv) (.bool vv.b) (.slice vv.a vv.n vv.p) (.slice vv.ka vv.kn vv.kp),fun b hb=>by rw [qaq];exact Nat.lt_of_lt_of_le (HM3.out b hb) e5.size⟩;rw [e1.out];exact hvv.kp (Kp.set4 (.inr (.inl rfl)) (0) (.int .i64 vv.lv) (.bool vv.b) (.slice vv.a vv.n vv.p) (.slice vv.ka vv.kn vv.kp))
    have halt:a<w5.heap.size:=hA5.lt;clear hA5 hvv e5 CN e1 HX3 HB3 HE3 HV3 HA3 HM3 HMN v0 v1 v2 v3 ht;go_wp2
    go_meet
    exact ⟨rfl,HF.out⟩
   ·have ht : ¬ 1<((n:Nat):Int) % 4:=by omega
    have HF:Hid (qrA (M9 (Mx M w.heap.size (w.heap.size+2)) (some a) none) w x a (sgS n R) wc):=⟨v,HX3.out,HB3.out,HA3.out,by rw [show sgS n R=R from if_neg hs];exact HV3.out,HE3.out,HM3.out⟩;clear hs HH HX3 HB3 HE3 HV3 HA3 HM3 HMN;go_wp2
    go_meet
    exact ⟨rfl,HF.out⟩
  case rest=>
   obtain ⟨rfl,vv,hX4,hB4,hA4,hV4,hE4,hM4⟩:=hcut;have HX4:=Lib.hid hX4;have HB4:=Lib.hid hB4;have HA4:=Lib.hid hA4;have HV4:=Lib.hid hV4;have HE4:=Lib.hid hE4;have HM4:=Lib.hid hM4;clear hX4 hB4 hA4 hV4 hE4 hM4 HX3 HB3 HE3 HV3 HA3 HM3
   go_upto_region 11 with (fail)
   have hEd:Ext wc wc.drew:=(Ext.refl wc).drew;have HS5:Hid (SQ2 w.heap.size a x vv wc.drew):=⟨HX4.out.ext hEd,(HA4.out.ext hEd).p4⟩;have HB5:=Lib.hid (HB4.out.ext hEd);have HV5:=Lib.hid (HV4.out.ext hEd);have HE5:=Lib.hid (HE4.out.trans hEd);have HM5:Hid (Mb (M9 (Mx M w.heap.size (w.heap.size+2)) (some a) none) wc.drew):=HM4.out.ext hEd;clear HX4 HB4 HA4 HV4 HE4 HM4 hEd;refine qad (SQ2 w.heap.size a x vv) 8 (by kernel_rfl) HS5.out (fun hHeld=>?_);generalize wc.drew=wd at *;(refine tkB [0,1,2] ?_;(iterate 3 (refine tk1 (oi:=?_) (v:=?_) (by kernel_rfl) (by first | exact hSn | exact hHeld) ?_ ?_ ?_ ?_ ?_;rotate_left 2;(simp only [xgA,xgB,xgC];rfl);rfl;(intro wS hSw;obtain ⟨⟨A1,A2,A3,A4⟩,B1,B2,B3,B4⟩:=hSw;go_simp;try with_reducible rfl);(exact fun _ _ _ h=>h);(try simp only [Act.put,xgD,xgE,xgF])));refine tkE ?_);((refine qaa 3 (o:=?_) (by kernel_rfl) ?_ ?_;rotate_left 1;(simp only [xgA,xgB,xgC];rfl);intro K hK);go_simp;(refine (HH.out.ld _ wd HM5.out HMN.out HE5.out).mono ?_);rintro e_ v1 ⟨y,rfl,hy,d1⟩;go_wp2_with (fail);(try clear hSn);(have hSn:=hHeld.ext d1);(refine hK.out _ _ (fun _=>hSn) ?_);clear hK K;(try simp only [Act.put,xgD,xgE,xgF]));((refine qaa 4 (o:=?_) (by kernel_rfl) ?_ ?_;rotate_left 1;(simp only [xgA,xgB,xgC];rfl);intro K hK);go_simp;(refine (HH.out.ex _ v1 vv y (HM5.out.ext d1) (HV5.out.ext d1) hy).mono ?_);rintro e_ v2 ⟨q,rfl,hq,d2⟩;go_wp2_with (fail);(try clear hSn);(have hSn:=hHeld.ext (d1.trans d2));(refine hK.out _ _ (fun _=>hSn) ?_);clear hK K;(try simp only [Act.put,xgD,xgE,xgF]))
   (refine tkB [5,6] ?_;(iterate 2 (refine tk1 (oi:=?_) (v:=?_) (by kernel_rfl) (by first | exact hSn | exact hHeld) ?_ ?_ ?_ ?_ ?_;rotate_left 2;(simp only [xgA,xgB,xgC];rfl);rfl;(intro wS hSw;obtain ⟨⟨A1,A2,A3,A4⟩,B1,B2,B3,B4⟩:=hSw;go_simp;try with_reducible rfl);(exact fun _ _ _ h=>h);(try simp only [Act.put,xgD,xgE,xgF])));refine tkE ?_);have hS9:SQ2 w.heap.size a x vv v2:=hSn;obtain ⟨⟨q0,q1,q2,q3⟩,⟨f0,f1,f2,f3⟩,⟨r0,r1,r2,r3⟩,HF⟩:=qbR (M:=M) (w:=w) (HB5.out.ext (d1.trans d2)) (show M9 (Mx M w.heap.size (w.heap.size+2)) (some a) none _ from .inl (Mx.at (by omega))) (by omega) (HE5.out.trans (d1.trans d2)) hq (fun g hg=>.inl (.inl hg));have HF2:=Lib.hid (HF.tup 0);have hlt2:w.heap.size+1<v2.heap.size:=(HB5.out.ext (d1.trans d2)).lt;have hS8:SQ2 w.heap.size a x vv (set4 v2 (w.heap.size+1) 0 (.int .i64 q.lv) (.bool q.b) (.slice q.a q.n q.p) (.slice q.ka q.kn q.kp)):=⟨qak hS9.1 (qag _ _ _ _ _ _ _ _ (by omega)),qak hS9.2 (qag _ _ _ _ _ _ _ _ (by omega))⟩;clear hSn hS9 HF hq hy d1 d2 HB5 HV5 HE5 HM5 HH HMN HS5;(refine qaa 7 (o:=?_) (by kernel_rfl) ?_ ?_;rotate_left 1;(simp only [xgA,xgB,xgC];rfl);intro K hK);go_simp;refine hK.out _ _ (fun _=>hS8) ?_;clear hK K;(try simp only [Act.put,xgD,xgE,xgF]);((refine qaa 8 (o:=?_) (by kernel_rfl) ?_ ?_;rotate_left 1;(simp only [xgA,xgB,xgC];rfl);intro K hK);go_simp;(refine hK.out _ _ (fun h=>absurd rfl h) ?_);clear hK K;refine qac (by kernel_rfl) ?_ _);clear hS8 hHeld;go_wp2;exact bodyPost_ret (v:=.tuple #[.agg (peA q),.int .i64 0]) (by simp [results,Tryz.results49,go_sem,r0,r1,r2,r3]) rfl HF2.out
theorem qtk {J n : Nat} (h1 : 1 <= J) (h4 : J <= 4) (hn : 1 <= n) (hn4 : n <= 4) {f : List Tm} (hf : Sz 4 20 f) (df : DgR J f n) (M : Nat -> Prop) (x : PE) (w : World) (hM : Mb M w) (hx : CRx M w 4 x f) :
  Calls Tryz.prog 49 #[.agg (peA x),.int .i64 (J:Int)] w (qf7 M w 4 (dsL J n f) 0):=by
 have H:=Gn.drv1 h1 h4 hn hn4 hf df;have zf : ¬ Sim f []:=df.nz h1 h4 (by omega);have hR:=H.rsz;refine qlQ M x (J:Int) n (poly J n (dvC J f)) (SJ J 0 n (n - 1) f (poly J n (dvC J f))) (ck J (n:Int) f) _ w hM ⟨qfn h1 h4,⟨hn,by omega⟩,fun wk he=>H.degf M x wk (hM.ext he) (hx.ext he),fun M' wk hM' hm he=>qmh M' x f J n wk h1 h4 zf df hf hM' ((hx.more hm).ext he),fun M' wk y hM' hm he hy=>H.resO M' x y wk hM' ((hx.more hm).ext he) hy,fun _ M' wk y hM' hy=>?_,fun M' wk hM' hm he=>qhL h1 h4 hf zf df (by decide) (by decide) M' wk x hM' ((hx.more hm).ext he),fun M' wk y z hM' hy hz=>?_⟩
 ·exact qji M' y _ 1000 wk hM' hy.pi (Nat.le_trans (Nat.succ_le_succ hR.a) (by decide)) hR.d (by decide)
 ·exact qkR h1 h4 hn hn4 hf (qpH (by omega) hf.a) df hR.d M' y z wk hM' hy.pi hz.pi


def qoW (w:World) (a:Option Addr) (n cap:Nat) (z:Nat->Int):Prop:=
 n<=1000/\n<=cap/\cap<=1000 /\ ∀ i,i<n->(-1000000<=z i/\z i<=1000000) /\ ∃ b off,a=some ⟨b,off,none⟩/\b<w.heap.size/\w.cell? ⟨b,off+i,none⟩=some (.int .i64 (z i))
theorem qnM (M : Nat -> Prop) (a : Option Addr) (n cap : Nat) (z : Nat -> Int) (w : World) (hM : Mb M w) (h : qoW w a n cap z) :
  Calls Tryz.prog 75 #[.slice a n cap] w fun e w'=>∃ a' X,e = .returned (.slice a' (tz z n) n)/\qb5 M w' a' (tz z n) n X z/\Ext w w':=by
 obtain ⟨i0,hi,hz0,hz1,hz2⟩:=info_parts Tryz.info30;have hn:=h.1;have hnc:=h.2.1;have hcm:=h.2.2.1;have HU:=Lib.hid h;have HM:=Lib.hid hM;clear h
 go_enter Tryz.func75,Tryz.ntmps75
 go_wp2_with (first | (refine wpList_make_full _ rfl _ _ _ rfl w.heap.size 30 i0 (.agg #[.bool false,.slice none 0 0]) 2 Tryz.underlying23 hi hz0 hz1 .i64 .i64 _ _ n rfl rfl ?c4 ?c5 ?c2 ?c3 ?c6 ?_))
 case c2=>rw [hz2];omega
 case c3=>unfold maxLen;omega
 case c4=>simp
 case c5=>simp
 case c6=>simp
 intro w1 hown hgrow;have hBk:=Blk.made hown rfl (by omega);have HE1:=Lib.hid (qaw hgrow)
 have hs1:w.heap.size+1<=w1.heap.size:=by have:=hBk.lt;omega
 have HK1:Hid (UK (Mx M w.heap.size (w.heap.size+1)) w1 w.heap.size n 0 z):=UK.fresh hBk;clear hown hgrow hBk;go_wp2
 go_loopw [11] (fun i wr=>∃ k:Nat,k<=n/\i = .int .i64 k/\w.heap.size+1<=wr.heap.size/\Hid (UK (Mx M w.heap.size (w.heap.size+1)) wr w.heap.size n k z)/\Hid (Ext w wr)) (fun i _=>n - (intOf i).toNat)
 case atStart=>exact ⟨0,Nat.zero_le _,rfl,hs1,HK1,HE1⟩
 case round=>
  clear HK1 HE1 hs1;obtain ⟨k,hk,rfl,hsz,HK,HEW⟩:=hrel
  by_cases hlt:k<n
  ·obtain ⟨hzz,b,off,hva,hb,x0⟩:=HU.out.2.2.2 k hlt;subst hva;rw [<- HEW.out.cell hb] at x0
   have hbw:b<wr.heap.size:=by omega
   have hM3:Mb (Mx M w.heap.size (w.heap.size+1)) wr:=Mx.mb HM.out (by omega) (by omega);have CTR:=Lib.hid (qer (M:=Mx M w.heap.size (w.heap.size+1)) (z k) wr hM3 (by omega) (by omega));clear hM3 hzz;go_wp2_with (fail);refine (CTR.out).mono ?_;rintro e w4 ⟨d0,d1,rfl,hc,he5⟩;obtain ⟨b2,a2,n2,p2,rfl,rfl⟩:=hc.form;have hK4:=HK.out.ext he5;obtain ⟨⟨_,k0⟩,⟨_,k1⟩,hfr,hg4⟩:=hK4.at hlt;have hf0:=hfr (k*2);have hf1:=hfr (k*2+1);have HK5:Hid (UK (Mx M w.heap.size (w.heap.size+1)) (set2 w4 w.heap.size (k*2) (.bool b2) (.slice a2 n2 p2)) w.heap.size n (k+1) z):=hK4.set (Mx.at (by omega)) hc.toV;have HE5:Hid (Ext w (set2 w4 w.heap.size (k*2) (.bool b2) (.slice a2 n2 p2))):=(HEW.out.trans he5).set2 (by omega) _ _ _
   have HSZ5:Hid (w.heap.size+1<=(set2 w4 w.heap.size (k*2) (.bool b2) (.slice a2 n2 p2)).heap.size):=by show _<=_;rw [qdH];have:=he5.size;omega
   clear hK4 hfr hc he5 x0;go_wp2
   go_roundw
   case rel=>exact ⟨k+1,by omega,by go_num,HSZ5.out,HK5,HE5⟩
   case measure=>simp [intOf];omega
  ·have hkn:k=n:=by omega
   subst hkn;obtain ⟨X',hX'⟩:=HK.out.row (M':=M) (fun g hg=>.inl (.inl hg)) (HM.out.new (Nat.le_refl _)) (Nat.le_trans hn (by decide));have CT:=Lib.hid (qgc M _ k k X' z wr hX');have HX':=Lib.hid hX';have hle:tz z k<=k:=qdj z k;clear hX';go_wp2_with (fail);refine CT.out.mono ?_;rintro e w5 ⟨rfl,e5⟩;have HF:Hid (qb5 M w5 (some ⟨w.heap.size,0,none⟩) (tz z k) k X' z/\Ext w w5):=⟨(HX'.out.ext e5).cut hle,HEW.out.trans e5⟩;clear e5 CT HX' HEW HK;go_wp2;go_ret;exact ⟨_,X',rfl,HF.out.1,HF.out.2⟩
theorem qiq (M : Nat -> Prop) (a : Option Addr) (n cap : Nat) (X : Nat -> IE) (z : Nat -> Int) (w : World) (hM : Mb M w) (h : qb5 M w a n cap X z) :
  Calls Tryz.prog 82 #[.slice a n cap] w (qa8 M w 4 (upl 1 n z)):=by
 have hE0:Ext w (w.alloc (.cells zA 33)):=(Ext.refl w).alloc _;have hB0:=Blk.of_arr w zA 33 4 rfl;have hM1:Mb (Mx M w.heap.size (w.heap.size+1)) (w.alloc (.cells zA 33)):=Mx.mb hM (by simp) (by simp);have cc:=qkK (Mx M w.heap.size (w.heap.size+1)) a n cap X z 0 _ hM1 ((h.more (Mx.more (Nat.le_refl _))).ext hE0) (by decide);rw [show (((0:Nat):Int)+1)=1 from rfl] at cc
 have hsz0:w.heap.size<(w.alloc (.cells zA 33)).heap.size:=by simp
 generalize hW:w.alloc (.cells zA 33)=W at *;have HW:=Lib.hid hW;have HE:=Lib.hid hE0;have HB0:=Lib.hid hB0;have CC:=Lib.hid cc;clear hE0 hB0 hM1 hW hM h cc
 go_enter Tryz.func82,Tryz.ntmps82
 go_upto_region 1 with (fail)
 rw [HW.out];clear HW;go_wp2_with (fail);refine CC.out.mono ?_;rintro e w3 ⟨v,rfl,hv,e3⟩;have HV:Hid (CRx (Mx M w.heap.size (w.heap.size+1)) w3 4 v (upl 1 n z)):=hv.up (by decide);have HE3:=Lib.hid e3
 have hw3:w.heap.size<w3.heap.size:=by have:=e3.size;omega
 clear hv e3 CC hsz0
 go_upto_region 2 with (fail)
 obtain ⟨W4,hW4⟩ : ∃ W4,W4=w3.alloc (.cells #[.int .i64 v.lv,.bool v.b,.slice v.a v.n v.p,.slice v.ka v.kn v.kp] 33):=⟨_,rfl⟩
 have eb:Ext w3 W4:=by rw [hW4];exact (Ext.refl w3).alloc _
 have hP:P4 W4 w3.heap.size v:=by rw [hW4];exact (Blk.of_arr w3 (peA v) 33 4 rfl).p4
 have hlt:w3.heap.size<W4.heap.size:=by rw [hW4];simp
 rw [<- hW4];obtain ⟨v0,v1,v2,v3⟩:=hP;obtain ⟨⟨q0,q1,q2,q3⟩,⟨f0,f1,f2,f3⟩,⟨r0,r1,r2,r3⟩,HF⟩:=qbR (M:=M) (w:=w) ((HB0.out.ext HE3.out).ext eb) (Mx.at (by omega)) (by omega) ((HE.out.trans HE3.out).trans eb) (HV.out.ext eb) Mx.sub;have HF2:=Lib.hid HF;clear HF HV HB0 HE HE3 eb hW4;go_wp2;exact bodyPost_ret (v:=.agg (peA v)) (by simp [results,Tryz.results82,go_sem,r0,r1,r2,r3]) rfl HF2.out
theorem qg0 {z k:Int} {l:List Tm} (h:Sim l [(z,Mo.zero)]) (h':Sim l [(k,Mo.zero)]):z=k:=by
 have e : ∀ y:Int,qab [(y,Mo.zero)] Mo.zero=y:=fun y=>by simp [qab]
 rw [<- e z,<- h,h',e k]
theorem qlG (a1 a2 : Option Addr) (n1 c1 n2 c2 : Nat) (X1 X2 : Nat -> IE) (z1 z2 : Nat -> Int) (r : List Tm) (k : Int) (w : World) (h1 : qb5 M0 w a1 n1 c1 X1 z1) (h2 : qb5 M0 w a2 n2 c2 X2 z2) (hk : Sim r [(k, Mo.zero)])
  (HR : ∀ (M':Nat->Prop) wk x y,Mb M' wk->CRx M' wk 4 x (upl 1 n1 z1)->CRx M' wk 4 y (upl 1 n2 z2)->Calls Tryz.prog 81 #[.agg (peA x),.agg (peA y),.int .i64 1] wk (qf7 M' wk 4 r 0)) :
  Calls Tryz.prog 26 #[.slice a1 n1 c1,.slice a2 n2 c2] w fun e w'=>∃ b a n p,e = .returned (.agg #[.bool b,.slice a n p])/\qbq M0 w' (.bool b) (.slice a n p) k/\Ext w w':=by
 have hE0:Ext w (w.alloc (.cells #[.bool false,.slice none 0 0] 30)):=(Ext.refl w).alloc _;have hB0:=Blk.of_arr w #[.bool false,.slice none 0 0] 30 2 rfl;have hM1:Mb (Mx M0 w.heap.size (w.heap.size+1)) (w.alloc (.cells #[.bool false,.slice none 0 0] 30)):=Mx.mb (mb0 w) (by simp) (by simp)
 have hsz0:w.heap.size<(w.alloc (.cells #[.bool false,.slice none 0 0] 30)).heap.size:=by simp
 have HU1:=Lib.hid ((h1.more (M':=Mx M0 w.heap.size (w.heap.size+1)) (Mx.more (Nat.le_refl _))).ext hE0);have HU2:=Lib.hid ((h2.more (M':=Mx M0 w.heap.size (w.heap.size+1)) (Mx.more (Nat.le_refl _))).ext hE0);generalize hW:w.alloc (.cells #[.bool false,.slice none 0 0] 30)=W at *;have HW:=Lib.hid hW;have HE:=Lib.hid hE0;have HB0:=Lib.hid hB0;have HM:=Lib.hid hM1;have HK:=Lib.hid hk;have HRR:=Lib.hid HR;clear hE0 hB0 hM1 hW h1 h2 hk HR
 go_enter Tryz.func26,Tryz.ntmps26
 go_upto_region 1 with (fail)
 rw [HW.out];clear HW;go_wp2_with (fail);refine (qiq _ a1 n1 c1 X1 z1 W HM.out HU1.out).mono ?_;rintro e w1 ⟨x,rfl,hx,e1⟩;have HX:=Lib.hid hx;have HE1:=Lib.hid e1;clear hx e1;go_wp2_with (fail);refine (qiq _ a2 n2 c2 X2 z2 w1 (HM.out.ext HE1.out) (HU2.out.ext HE1.out)).mono ?_;rintro e w2 ⟨y,rfl,hy,e2⟩;have HX2:=Lib.hid (HX.out.ext e2);have HY2:=Lib.hid hy;have HE2:=Lib.hid (HE1.out.trans e2);clear HX HE1 hy e2 HU1 HU2;go_wp2_with (fail);refine (HRR.out _ w2 x y (HM.out.ext HE2.out) HX2.out HY2.out).mono ?_;rintro e w3 ⟨v,rfl,hv,e3⟩;have HE3:=Lib.hid (HE2.out.trans e3);have HV:=Lib.hid hv;clear hv e3 HX2 HY2 HE2 HRR
 go_upto_region 2 with (fail)
 obtain ⟨W4,hW4⟩ : ∃ W4,W4=w3.alloc (.cells #[.int .i64 v.lv,.bool v.b,.slice v.a v.n v.p,.slice v.ka v.kn v.kp] 33):=⟨_,rfl⟩
 have eb:Ext w3 W4:=by rw [hW4];exact (Ext.refl w3).alloc _
 have hP:P4 W4 w3.heap.size v:=by rw [hW4];exact (Blk.of_arr w3 (peA v) 33 4 rfl).p4
 rw [<- hW4];obtain ⟨v0,v1,v2,v3⟩:=hP;have HE4:=Lib.hid (HE3.out.trans eb);have CC:=Lib.hid (qfa _ v r W4 (HM.out.ext HE4.out) (HV.out.ext eb).pi);clear HV eb hW4 HE3;go_wp2_with (fail);refine CC.out.mono ?_;rintro e w5 ⟨q,ok,b,a,n,p,rfl,hI,ht,hf,e5⟩
 have hq:q=k:=by
  cases ok with
  | true=>exact qg0 (ht rfl) HK.out
  | false=>
   obtain ⟨_,m,i,hm,hi1,hi4,hp⟩:=hf rfl;rw [HK.out m] at hm;obtain ⟨t,ht',rfl⟩:=qfx hm;simp only [List.mem_singleton] at ht';subst ht';rw [qbc] at hp;omega
 subst hq;have HI:=Lib.hid hI;have HE5:=Lib.hid (HE4.out.trans e5);clear hI ht hf e5 HK CC v0 v1 v2 v3 HE4
 go_upto_region 3 with (fail)
 obtain ⟨W6,hW6⟩ : ∃ W6,W6=w5.alloc (.cells #[.bool b,.slice a n p] 30):=⟨_,rfl⟩
 have eb:Ext w5 W6:=by rw [hW6];exact (Ext.refl w5).alloc _
 have hBq:Blk W6 w5.heap.size 30 2 (arr #[.bool b,.slice a n p]):=by rw [hW6];exact Blk.of_arr w5 _ 30 2 rfl
 rw [<- hW6];have i0:W6.cell? ⟨w5.heap.size,0,none⟩=some (.bool b):=hBq.cell (i:=0) (by omega);have i1:W6.cell? ⟨w5.heap.size,1,none⟩=some (.slice a n p):=hBq.cell (i:=1) (by omega);have hltq:=hBq.lt;obtain ⟨⟨s0,s1,g0,g1⟩,⟨t0,t1⟩,hk2,hf2⟩:=qgL (M':=Mx M0 w.heap.size (w.heap.size+1)) (w:=w) (.bool b) (.slice a n p) (HB0.out.ext (HE5.out.trans eb)) (Mx.at (by omega)) (by omega) (HE.out.trans (HE5.out.trans eb));have HF:Hid (qbq M0 _ (.bool b) (.slice a n p) q/\Ext w _):=⟨((HI.out.toV.ext eb).kp hk2).more Mx.less,hf2⟩;have hltw:w.heap.size<W6.heap.size:=(HB0.out.ext (HE5.out.trans eb)).lt;simp only [arr] at s0 s1;clear hk2 hf2 HI HE5 HB0 HE HM hBq eb hW6;go_wp2;exact bodyPost_ret (v:=.agg #[.bool b,.slice a n p]) (by simp [results,Tryz.results26,go_sem,t0,t1]) rfl ⟨b,a,n,p,rfl,HF.out.1,HF.out.2⟩


def hF:List Tm:=qbm (qdi 1) 2 ++ (pmul (qdi 1) (qdi 2) ++ qdi 3)
def hD:List Tm:=qbm (qdi 2) 2 ++ pmul (pmul (qdi 3) [(4,Mo.zero)]) [(-1,Mo.zero)]
theorem qqP:NN hF:=qaT (by decide)
theorem qtr:Sz 4 20 hF:=⟨qqP,(qeT (B:=2) qqP (by decide)).mono (by decide),by decide⟩
theorem qts:DgR 1 hF 2:=⟨qgU (by decide),.inr ⟨⟨2,0,0,0⟩,by decide,by decide⟩⟩
theorem qtt:NN hD:=qaT (by decide)
theorem qtu:Sim (dsL 1 2 hF) hD:=qe7 (qps (by decide) (by decide) qqP 2) qtt (by decide +kernel)
def hz1:Nat->Int:=fun i=>if i=0 then -2 else 1
def hz2:Nat->Int:=fun i=>if i=0 then -3 else if i=1 then 0 else 1
theorem qti:tz hz1 2=2:=by decide
theorem qth:tz hz2 3=3:=by decide
theorem qpW:NN (upl 1 2 hz1):=qaT (by decide)
theorem qpV:NN (upl 1 3 hz2):=qaT (by decide)
theorem qrO:DgR 1 (upl 1 2 hz1) 1:=⟨qgU (by decide),.inr ⟨⟨1,0,0,0⟩,by decide,by decide⟩⟩
theorem qrN:DgR 1 (upl 1 3 hz2) 2:=⟨qgU (by decide),.inr ⟨⟨2,0,0,0⟩,by decide,by decide⟩⟩
theorem qtR:Gn 1 1 2 4 (upl 1 2 hz1) (upl 1 3 hz2):=Gn.of44 (by decide) (by decide) ⟨qpW,(qeT (B:=1) qpW (by decide)).mono (by decide),Nat.le_trans (show _<=2 by decide) (by decide)⟩ ⟨qpV,(qeT (B:=2) qpV (by decide)).mono (by decide),Nat.le_trans (show _<=2 by decide) (by decide)⟩ (qrO.nz (by decide) (by decide) (by decide)) (qrN.nz (by decide) (by decide) (by decide)) qrO qrN (by decide) (by decide)
theorem qtg:Sim (SJ 1 0 1 2 (upl 1 2 hz1) (upl 1 3 hz2)) [(1,Mo.zero)]:=qe7 (qcJ (by decide) (by decide) qpW qpV _ _ _) (qaT (by decide)) (by decide +kernel)
theorem qiM (a1 a2 : Option Addr) (c1 c2 : Nat) (X1 X2 : Nat -> IE) (w : World) (h1 : qb5 M0 w a1 2 c1 X1 hz1) (h2 : qb5 M0 w a2 3 c2 X2 hz2) :
  Calls Tryz.prog 26 #[.slice a1 2 c1,.slice a2 3 c2] w fun e w'=>∃ b a n p,e = .returned (.agg #[.bool b,.slice a n p])/\qbq M0 w' (.bool b) (.slice a n p) 1/\Ext w w':=
 qlG a1 a2 2 c1 3 c2 X1 X2 hz1 hz2 (SJ 1 0 1 2 (upl 1 2 hz1) (upl 1 3 hz2)) 1 w h1 h2 qtg fun M' wk x y hM hx hy=>qtR.resO M' x y wk hM hx hy


def qry (wd:World) (l:List Tm) (s4 s5:Value) (wx:World):Prop:=∃ (a:Nat) (v:PE),s4 = .pointer (some ⟨a,0,none⟩)/\s5 = .int .i64 0/\qtO wd wx a v l
theorem qeY (w:World) (z:Nat->Int) (a b:Int) (ha:z 0=a) (hb:z 1=b) (h:(-1000000<=a/\a<=1000000) /\ -1000000<=b/\b<=1000000):qoW (w.alloc (.cells #[.int .i64 a,.int .i64 b] 2)) (some ⟨w.heap.size,0,none⟩) 2 2 z:=by
 have hB:=Blk.of_arr w #[.int .i64 a,.int .i64 b] 2 2 rfl;refine ⟨by decide,by decide,by decide,fun i hi=>?_⟩;rcases (show i=0∨i=1 by omega) with rfl | rfl
 ·exact ⟨by rw [ha];exact h.1,_,_,rfl,hB.lt,by rw [ha];exact hB.cell (i:=0) (by omega)⟩
 ·exact ⟨by rw [hb];exact h.2,_,_,rfl,hB.lt,by rw [hb];exact hB.cell (i:=1) (by omega)⟩
theorem qeX (w:World) (z:Nat->Int) (a b c:Int) (ha:z 0=a) (hb:z 1=b) (hc:z 2=c) (h:(-1000000<=a/\a<=1000000)/\(-1000000<=b/\b<=1000000) /\ -1000000<=c/\c<=1000000):qoW (w.alloc (.cells #[.int .i64 a,.int .i64 b,.int .i64 c] 2)) (some ⟨w.heap.size,0,none⟩) 3 3 z:=by
 have hB:=Blk.of_arr w #[.int .i64 a,.int .i64 b,.int .i64 c] 2 3 rfl;refine ⟨by decide,by decide,by decide,fun i hi=>?_⟩;rcases (show i=0∨i=1∨i=2 by omega) with rfl | rfl | rfl
 ·exact ⟨by rw [ha];exact h.1,_,_,rfl,hB.lt,by rw [ha];exact hB.cell (i:=0) (by omega)⟩
 ·exact ⟨by rw [hb];exact h.2.1,_,_,rfl,hB.lt,by rw [hb];exact hB.cell (i:=1) (by omega)⟩
 ·exact ⟨by rw [hc];exact h.2.2,_,_,rfl,hB.lt,by rw [hc];exact hB.cell (i:=2) (by omega)⟩
theorem qoW.ext {w w':World} {a:Option Addr} {n cap:Nat} {z:Nat->Int} (h:qoW w a n cap z) (he:Ext w w'):qoW w' a n cap z:=
 ⟨h.1,h.2.1,h.2.2.1,fun i hi=>by
  obtain ⟨q,b,off,h1,h2,h3⟩:=h.2.2.2 i hi
  exact ⟨q,b,off,h1,Nat.lt_of_lt_of_le h2 he.size,by rw [he.cell h2];exact h3⟩⟩
theorem qiO (a:Option Addr) (w:World) (h:qoW w a 2 2 hz1):Calls Tryz.prog 75 #[.slice a 2 2] w fun e w'=>∃ a' X,e = .returned (.slice a' 2 2)/\qb5 M0 w' a' 2 2 X hz1/\Ext w w':=by
 have h2:=qnM M0 a 2 2 hz1 w (mb0 w) h;rw [qti] at h2;exact h2
theorem qiN (a:Option Addr) (w:World) (h:qoW w a 3 3 hz2):Calls Tryz.prog 75 #[.slice a 3 3] w fun e w'=>∃ a' X,e = .returned (.slice a' 3 3)/\qb5 M0 w' a' 3 3 X hz2/\Ext w w':=by
 have h2:=qnM M0 a 3 3 hz2 w (mb0 w) h;rw [qth] at h2;exact h2
theorem qgk {c0 c1 d0 d1:Value} (w:World) (h:qbq M0 w c0 c1 1) (h':qbq M0 w d0 d1 1):Calls Tryz.prog 25 #[.agg #[c0,c1],.agg #[d0,d1]] w fun e w'=>e = .returned (.bool true)/\Ext w w':=
 (qgI c0 c1 d0 d1 1 1 w h h').mono fun e w' h=>⟨by rw [h.1];rfl,h.2⟩
theorem qmp (w:World):Calls Tryz.prog 19 #[] w fun e w'=>e = .returned (.bool true)/\Ext w w':=by
 go_enter Tryz.func19,Tryz.ntmps19
 go_wp2_with (fail);refine (qlI M0 1 _ (mb0 _)).mono ?_;rintro e w1 ⟨x,rfl,hx,he1⟩;go_wp2_with (fail);refine (qlI M0 2 _ (mb0 _)).mono ?_;rintro e w2 ⟨y,rfl,hy,he2⟩;go_wp2_with (fail);refine (qlI M0 3 _ (mb0 _)).mono ?_;rintro e w3 ⟨z,rfl,hz,he3⟩;have HX3:=Lib.hid ((hx.ext he2).ext he3);have HY3:=Lib.hid (hy.ext he3);have HZ3:=Lib.hid hz;have HE3:=Lib.hid ((he1.trans he2).trans he3);clear hx hy hz he1 he2 he3
 go_upto_region 2 with (fail)
 obtain ⟨W,hW⟩ : ∃ W,W=((w3.alloc (.cells #[.int .i64 x.lv,.bool x.b,.slice x.a x.n x.p,.slice x.ka x.kn x.kp] 33)).alloc (.cells #[.int .i64 y.lv,.bool y.b,.slice y.a y.n y.p,.slice y.ka y.kn y.kp] 33)).alloc (.cells #[.int .i64 z.lv,.bool z.b,.slice z.a z.n z.p,.slice z.ka z.kn z.kp] 33):=⟨_,rfl⟩
 have hEW:Ext w3 W:=by rw [hW];exact (((Ext.refl w3).alloc _).alloc _).alloc _
 obtain ⟨g0,hg0⟩ : ∃ g0,g0=w3.heap.size:=⟨_,rfl⟩
 have HSB:Hid (SB3 g0 x y z W):=by rw [hW,hg0];exact qoi w3 x y z
 have HX:=Lib.hid (HX3.out.ext hEW);have HY:=Lib.hid (HY3.out.ext hEW);have HZ:=Lib.hid (HZ3.out.ext hEW);have HE:=Lib.hid (HE3.out.trans hEW);rw [<- hW,<- hg0];clear hW hg0 hEW HX3 HY3 HZ3 HE3;have hEd:Ext W W.drew:=(Ext.refl W).drew;have HSd:Hid (SB3 g0 x y z W.drew):=HSB.out.ext hEd;have HXd:=Lib.hid (HX.out.ext hEd);have HYd:=Lib.hid (HY.out.ext hEd);have HZd:=Lib.hid (HZ.out.ext hEd);have HEd:=Lib.hid (HE.out.trans hEd);clear HSB HX HY HZ HE hEd
 go_cut [4,5] (qry W.drew hD)
 case first=>
  refine qad (SB3 g0 x y z) 15 (by kernel_rfl) HSd.out (fun hHeld=>?_);have S0:=S7.start W.drew;generalize W.drew=wd at *;have C1:Hid (∀ A B wk,S7 wd wk A B->Calls Tryz.prog 53 #[.agg (peA x),.int .i64 2] wk (qa8 (M7 A B) wk 4 (qbm (qdi 1) 2))):=fun A B wk S=>qlJ (M7 A B) x (qdi 1) 1 2 wk S.mb (S.old HXd.out).pi (by decide) (by decide) (qfv 1) (by decide);have C4:Hid (∀ A B wk,S7 wd wk A B->Calls Tryz.prog 55 #[.agg (peA x),.agg (peA y)] wk (qa8 (M7 A B) wk 4 (pmul (qdi 1) (qdi 2)))):=fun A B wk S=>qfP (M7 A B) x y (qdi 1) (qdi 2) 1 1 wk S.mb (S.old HXd.out).pi (S.old HYd.out).pi (by decide) (qfv 1) (qfv 2) (by decide);have C6:Hid (∀ A B wk,S7 wd wk A B -> ∀ q,CRx (M7 A B) wk 4 q (pmul (qdi 1) (qdi 2))->Calls Tryz.prog 54 #[.agg (peA q),.agg (peA z)] wk (qa8 (M7 A B) wk 4 (pmul (qdi 1) (qdi 2) ++ qdi 3))):=fun A B wk S q hq=>qpb (M7 A B) q z _ _ wk S.mb hq.pi (S.old HZd.out).pi (by decide);have C7:Hid (∀ A B wk,S7 wd wk A B -> ∀ p,CRx (M7 A B) wk 4 p (qbm (qdi 1) 2) -> ∀ s,CRx (M7 A B) wk 4 s (pmul (qdi 1) (qdi 2) ++ qdi 3)->Calls Tryz.prog 54 #[.agg (peA p),.agg (peA s)] wk (qa8 (M7 A B) wk 4 hF)):=fun A B wk S p hp s hs=>qpb (M7 A B) p s _ _ wk S.mb hp.pi hs.pi (by decide);have C8:Hid (∀ A B wk,S7 wd wk A B -> ∀ t,CRx (M7 A B) wk 4 t hF->Calls Tryz.prog 49 #[.agg (peA t),.int .i64 1] wk (qf7 (M7 A B) wk 4 hD 0)):=fun A B wk S t ht=>(qtk (J:=1) (n:=2) (by decide) (by decide) (by decide) (by decide) qtr qts (M7 A B) t wk S.mb ht).mono fun e w' ⟨v,h1,h2,h3⟩=>⟨v,h1,h2.sim qtu,h3⟩
  clear HXd HYd HZd HEd HSd;(refine tkB [0,2,3,5] ?_;(iterate 4 (refine tk1 (oi:=?_) (v:=?_) (by kernel_rfl) (by first | exact hSn | exact hHeld) ?_ ?_ ?_ ?_ ?_;rotate_left 2;(simp only [xgA,xgB,xgC];rfl);rfl;(intro wS hSw;obtain ⟨⟨A1,A2,A3,A4⟩,⟨A5,A6,A7,A8⟩,A9,A10,A11,A12⟩:=hSw;go_simp;try with_reducible rfl);(exact fun _ _ _ h=>h);(try simp only [Act.put,xgD,xgE,xgF])));refine tkE ?_);(refine qau 1 12 (oi:=?_) (oj:=?_) (by kernel_rfl) ?_ ?_ ?_ ?_;rotate_left 2;(simp only [xgA,xgB,xgC];rfl);(simp only [xgA,xgB,xgC];rfl);all_goals intro K hK)
  ·go_simp;refine (C1.out _ _ wd S0).mono ?_;rintro e v1 ⟨p,rfl,hp,D⟩;go_wp2_with (fail);have S1:=S0.call D;clear D
   try clear hSn
   have hSn:=hHeld.ext S1.e;refine hK.out _ _ (fun _=>hSn) ?_;clear hK K;(try simp only [Act.put,xgD,xgE,xgF]);(refine qau 4 12 (oi:=?_) (oj:=?_) (by kernel_rfl) ?_ ?_ ?_ ?_;rotate_left 2;(simp only [xgA,xgB,xgC];rfl);(simp only [xgA,xgB,xgC];rfl);all_goals intro K hK)
   ·go_simp;refine (C4.out _ _ v1 S1).mono ?_;rintro e v2 ⟨q,rfl,hq,D⟩;go_wp2_with (fail);have S2:=S1.call D;replace hp:=hp.ext D;clear D
    try clear hSn
    have hSn:=hHeld.ext S2.e;refine hK.out _ _ (fun _=>hSn) ?_;clear hK K;(try simp only [Act.put,xgD,xgE,xgF]);(refine qau 6 12 (oi:=?_) (oj:=?_) (by kernel_rfl) ?_ ?_ ?_ ?_;rotate_left 2;(simp only [xgA,xgB,xgC];rfl);(simp only [xgA,xgB,xgC];rfl);all_goals intro K hK)
    ·go_simp;refine (C6.out _ _ v2 S2 _ hq).mono ?_;rintro e v3 ⟨s,rfl,hs,D⟩;go_wp2_with (fail);have S3:=S2.call D;replace hp:=hp.ext D;replace hq:=hq.ext D;clear D
     try clear hSn
     have hSn:=hHeld.ext S3.e;refine hK.out _ _ (fun _=>hSn) ?_;clear hK K;(try simp only [Act.put,xgD,xgE,xgF]);(refine qau 7 12 (oi:=?_) (oj:=?_) (by kernel_rfl) ?_ ?_ ?_ ?_;rotate_left 2;(simp only [xgA,xgB,xgC];rfl);(simp only [xgA,xgB,xgC];rfl);all_goals intro K hK)
     ·go_simp;refine (C7.out _ _ v3 S3 _ hp _ hs).mono ?_;rintro e v4 ⟨t,rfl,ht,D⟩;go_wp2_with (fail);have S4:=S3.call D;replace hp:=hp.ext D;replace hq:=hq.ext D;replace hs:=hs.ext D;clear D
      try clear hSn
      have hSn:=hHeld.ext S4.e;refine hK.out _ _ (fun _=>hSn) ?_;clear hK K;(try simp only [Act.put,xgD,xgE,xgF]);(refine qau 8 12 (oi:=?_) (oj:=?_) (by kernel_rfl) ?_ ?_ ?_ ?_;rotate_left 2;(simp only [xgA,xgB,xgC];rfl);(simp only [xgA,xgB,xgC];rfl);all_goals intro K hK)
      ·go_simp;refine (C8.out _ _ v4 S4 _ ht).mono ?_;rintro e v5 ⟨d,rfl,hd,D⟩;go_wp2_with (fail);have S5:=S4.call D;replace hp:=hp.ext D;replace hq:=hq.ext D;replace hs:=hs.ext D;replace ht:=ht.ext D;clear D
       try clear hSn
       have hSn:=hHeld.ext S5.e;refine hK.out _ _ (fun _=>hSn) ?_;clear hK K;(try simp only [Act.put,xgD,xgE,xgF]);(refine tkB [9,10,11] ?_;(iterate 3 (refine tk1 (oi:=?_) (v:=?_) (by kernel_rfl) (by first | exact hSn | exact hHeld) ?_ ?_ ?_ ?_ ?_;rotate_left 2;(simp only [xgA,xgB,xgC];rfl);rfl;(intro wS hSw;obtain ⟨⟨A1,A2,A3,A4⟩,⟨A5,A6,A7,A8⟩,A9,A10,A11,A12⟩:=hSw;go_simp;try with_reducible rfl);(exact fun _ _ _ h=>h);(try simp only [Act.put,xgD,xgE,xgF])));refine tkE ?_);(refine qaa 12 (o:=?_) (by kernel_rfl) ?_ ?_;rotate_left 1;(simp only [xgA,xgB,xgC];rfl);intro K hK);go_simp;have S6:=S5.allA;replace hp:=S5.keepA hp;replace hq:=S5.keepA hq;replace hs:=S5.keepA hs;replace ht:=S5.keepA ht;replace hd:=S5.keepA hd
       try clear hSn
       have hSn:=hHeld.ext S6.e;refine hK.out _ _ (fun _=>hSn) ?_;clear hK K;(try simp only [Act.put,xgD,xgE,xgF]);generalize v5.alloc (.cells zA 33)=v6 at *;generalize v5.heap.size=g6 at *;obtain ⟨W1,hW1,⟨q0,q1,q2,q3⟩,⟨f0,f1,f2,f3⟩,HP2⟩:=S6.put1 hd;unfold set4 at hW1;have hSn1:=hHeld.ext HP2.e;clear hSn;(refine qaa 13 (o:=?_) (by kernel_rfl) ?_ ?_;rotate_left 1;(simp only [xgA,xgB,xgC];rfl);intro K hK);go_simp;rw [<- hW1];clear hW1;refine hK.out _ _ (fun _=>hSn1) ?_;clear hK K q0 q1 q2 q3 f0 f1 f2 f3;(try simp only [Act.put,xgD,xgE,xgF]);have hSn:=hSn1;(refine tkB [14] ?_;(iterate 1 (refine tk1 (oi:=?_) (v:=?_) (by kernel_rfl) (by first | exact hSn | exact hHeld) ?_ ?_ ?_ ?_ ?_;rotate_left 2;(simp only [xgA,xgB,xgC];rfl);rfl;(intro wS hSw;obtain ⟨⟨A1,A2,A3,A4⟩,⟨A5,A6,A7,A8⟩,A9,A10,A11,A12⟩:=hSw;go_simp;try with_reducible rfl);(exact fun _ _ _ h=>h);(try simp only [Act.put,xgD,xgE,xgF])));refine tkE ?_);refine qac (by kernel_rfl) ?_ _;go_wp2_with (fail)
       go_meet
       exact ⟨_,_,rfl,rfl,HP2⟩
      ·go_simp;have S7:=S4.allA;replace hp:=S4.keepA hp;replace hq:=S4.keepA hq;replace hs:=S4.keepA hs;replace ht:=S4.keepA ht
       try clear hSn
       have hSn:=hHeld.ext S7.e;refine hK.out _ _ (fun _=>hSn) ?_;clear hK K;(try simp only [Act.put,xgD,xgE,xgF]);generalize v4.alloc (.cells zA 33)=v7 at *;generalize v4.heap.size=g7 at *;(refine qaa 8 (o:=?_) (by kernel_rfl) ?_ ?_;rotate_left 1;(simp only [xgA,xgB,xgC];rfl);intro K hK);go_simp;refine (C8.out _ _ v7 S7 _ ht).mono ?_;rintro e v8 ⟨d,rfl,hd,D⟩;go_wp2_with (fail);have S8:=S7.call D;replace hp:=hp.ext D;replace hq:=hq.ext D;replace hs:=hs.ext D;replace ht:=ht.ext D;clear D
       try clear hSn
       have hSn:=hHeld.ext S8.e;refine hK.out _ _ (fun _=>hSn) ?_;clear hK K;(try simp only [Act.put,xgD,xgE,xgF]);(refine tkB [9,10,11] ?_;(iterate 3 (refine tk1 (oi:=?_) (v:=?_) (by kernel_rfl) (by first | exact hSn | exact hHeld) ?_ ?_ ?_ ?_ ?_;rotate_left 2;(simp only [xgA,xgB,xgC];rfl);rfl;(intro wS hSw;obtain ⟨⟨A1,A2,A3,A4⟩,⟨A5,A6,A7,A8⟩,A9,A10,A11,A12⟩:=hSw;go_simp;try with_reducible rfl);(exact fun _ _ _ h=>h);(try simp only [Act.put,xgD,xgE,xgF])));refine tkE ?_);obtain ⟨W1,hW1,⟨q0,q1,q2,q3⟩,⟨f0,f1,f2,f3⟩,HP2⟩:=S8.put1 hd;unfold set4 at hW1;have hSn1:=hHeld.ext HP2.e;clear hSn;(refine qaa 13 (o:=?_) (by kernel_rfl) ?_ ?_;rotate_left 1;(simp only [xgA,xgB,xgC];rfl);intro K hK);go_simp;rw [<- hW1];clear hW1;refine hK.out _ _ (fun _=>hSn1) ?_;clear hK K q0 q1 q2 q3 f0 f1 f2 f3;(try simp only [Act.put,xgD,xgE,xgF]);have hSn:=hSn1;(refine tkB [14] ?_;(iterate 1 (refine tk1 (oi:=?_) (v:=?_) (by kernel_rfl) (by first | exact hSn | exact hHeld) ?_ ?_ ?_ ?_ ?_;rotate_left 2;(simp only [xgA,xgB,xgC];rfl);rfl;(intro wS hSw;obtain ⟨⟨A1,A2,A3,A4⟩,⟨A5,A6,A7,A8⟩,A9,A10,A11,A12⟩:=hSw;go_simp;try with_reducible rfl);(exact fun _ _ _ h=>h);(try simp only [Act.put,xgD,xgE,xgF])));refine tkE ?_);refine qac (by kernel_rfl) ?_ _;go_wp2_with (fail)
       go_meet
       exact ⟨_,_,rfl,rfl,HP2⟩
     ·go_simp;have S9:=S3.allA;replace hp:=S3.keepA hp;replace hq:=S3.keepA hq;replace hs:=S3.keepA hs
      try clear hSn
      have hSn:=hHeld.ext S9.e;refine hK.out _ _ (fun _=>hSn) ?_;clear hK K;(try simp only [Act.put,xgD,xgE,xgF]);generalize v3.alloc (.cells zA 33)=v9 at *;generalize v3.heap.size=g9 at *;(refine qaa 7 (o:=?_) (by kernel_rfl) ?_ ?_;rotate_left 1;(simp only [xgA,xgB,xgC];rfl);intro K hK);go_simp;refine (C7.out _ _ v9 S9 _ hp _ hs).mono ?_;rintro e v10 ⟨t,rfl,ht,D⟩;go_wp2_with (fail);have S10:=S9.call D;replace hp:=hp.ext D;replace hq:=hq.ext D;replace hs:=hs.ext D;clear D
      try clear hSn
      have hSn:=hHeld.ext S10.e;refine hK.out _ _ (fun _=>hSn) ?_;clear hK K;(try simp only [Act.put,xgD,xgE,xgF]);(refine qaa 8 (o:=?_) (by kernel_rfl) ?_ ?_;rotate_left 1;(simp only [xgA,xgB,xgC];rfl);intro K hK);go_simp;refine (C8.out _ _ v10 S10 _ ht).mono ?_;rintro e v11 ⟨d,rfl,hd,D⟩;go_wp2_with (fail);have S11:=S10.call D;replace hp:=hp.ext D;replace hq:=hq.ext D;replace hs:=hs.ext D;replace ht:=ht.ext D;clear D
      try clear hSn
      have hSn:=hHeld.ext S11.e;refine hK.out _ _ (fun _=>hSn) ?_;clear hK K;(try simp only [Act.put,xgD,xgE,xgF]);(refine tkB [9,10,11] ?_;(iterate 3 (refine tk1 (oi:=?_) (v:=?_) (by kernel_rfl) (by first | exact hSn | exact hHeld) ?_ ?_ ?_ ?_ ?_;rotate_left 2;(simp only [xgA,xgB,xgC];rfl);rfl;(intro wS hSw;obtain ⟨⟨A1,A2,A3,A4⟩,⟨A5,A6,A7,A8⟩,A9,A10,A11,A12⟩:=hSw;go_simp;try with_reducible rfl);(exact fun _ _ _ h=>h);(try simp only [Act.put,xgD,xgE,xgF])));refine tkE ?_);obtain ⟨W1,hW1,⟨q0,q1,q2,q3⟩,⟨f0,f1,f2,f3⟩,HP2⟩:=S11.put1 hd;unfold set4 at hW1;have hSn1:=hHeld.ext HP2.e;clear hSn;(refine qaa 13 (o:=?_) (by kernel_rfl) ?_ ?_;rotate_left 1;(simp only [xgA,xgB,xgC];rfl);intro K hK);go_simp;rw [<- hW1];clear hW1;refine hK.out _ _ (fun _=>hSn1) ?_;clear hK K q0 q1 q2 q3 f0 f1 f2 f3;(try simp only [Act.put,xgD,xgE,xgF]);have hSn:=hSn1;(refine tkB [14] ?_;(iterate 1 (refine tk1 (oi:=?_) (v:=?_) (by kernel_rfl) (by first | exact hSn | exact hHeld) ?_ ?_ ?_ ?_ ?_;rotate_left 2;(simp only [xgA,xgB,xgC];rfl);rfl;(intro wS hSw;obtain ⟨⟨A1,A2,A3,A4⟩,⟨A5,A6,A7,A8⟩,A9,A10,A11,A12⟩:=hSw;go_simp;try with_reducible rfl);(exact fun _ _ _ h=>h);(try simp only [Act.put,xgD,xgE,xgF])));refine tkE ?_);refine qac (by kernel_rfl) ?_ _;go_wp2_with (fail)
      go_meet
      exact ⟨_,_,rfl,rfl,HP2⟩
    ·go_simp;have S12:=S2.allA;replace hp:=S2.keepA hp;replace hq:=S2.keepA hq
     try clear hSn
     have hSn:=hHeld.ext S12.e;refine hK.out _ _ (fun _=>hSn) ?_;clear hK K;(try simp only [Act.put,xgD,xgE,xgF]);generalize v2.alloc (.cells zA 33)=v12 at *;generalize v2.heap.size=g12 at *;(refine qaa 6 (o:=?_) (by kernel_rfl) ?_ ?_;rotate_left 1;(simp only [xgA,xgB,xgC];rfl);intro K hK);go_simp;refine (C6.out _ _ v12 S12 _ hq).mono ?_;rintro e v13 ⟨s,rfl,hs,D⟩;go_wp2_with (fail);have S13:=S12.call D;replace hp:=hp.ext D;replace hq:=hq.ext D;clear D
     try clear hSn
     have hSn:=hHeld.ext S13.e;refine hK.out _ _ (fun _=>hSn) ?_;clear hK K;(try simp only [Act.put,xgD,xgE,xgF]);(refine qaa 7 (o:=?_) (by kernel_rfl) ?_ ?_;rotate_left 1;(simp only [xgA,xgB,xgC];rfl);intro K hK);go_simp;refine (C7.out _ _ v13 S13 _ hp _ hs).mono ?_;rintro e v14 ⟨t,rfl,ht,D⟩;go_wp2_with (fail);have S14:=S13.call D;replace hp:=hp.ext D;replace hq:=hq.ext D;replace hs:=hs.ext D;clear D
     try clear hSn
     have hSn:=hHeld.ext S14.e;refine hK.out _ _ (fun _=>hSn) ?_;clear hK K;(try simp only [Act.put,xgD,xgE,xgF]);(refine qaa 8 (o:=?_) (by kernel_rfl) ?_ ?_;rotate_left 1;(simp only [xgA,xgB,xgC];rfl);intro K hK);go_simp;refine (C8.out _ _ v14 S14 _ ht).mono ?_;rintro e v15 ⟨d,rfl,hd,D⟩;go_wp2_with (fail);have S15:=S14.call D;replace hp:=hp.ext D;replace hq:=hq.ext D;replace hs:=hs.ext D;replace ht:=ht.ext D;clear D
     try clear hSn
     have hSn:=hHeld.ext S15.e;refine hK.out _ _ (fun _=>hSn) ?_;clear hK K;(try simp only [Act.put,xgD,xgE,xgF]);(refine tkB [9,10,11] ?_;(iterate 3 (refine tk1 (oi:=?_) (v:=?_) (by kernel_rfl) (by first | exact hSn | exact hHeld) ?_ ?_ ?_ ?_ ?_;rotate_left 2;(simp only [xgA,xgB,xgC];rfl);rfl;(intro wS hSw;obtain ⟨⟨A1,A2,A3,A4⟩,⟨A5,A6,A7,A8⟩,A9,A10,A11,A12⟩:=hSw;go_simp;try with_reducible rfl);(exact fun _ _ _ h=>h);(try simp only [Act.put,xgD,xgE,xgF])));refine tkE ?_);obtain ⟨W1,hW1,⟨q0,q1,q2,q3⟩,⟨f0,f1,f2,f3⟩,HP2⟩:=S15.put1 hd;unfold set4 at hW1;have hSn1:=hHeld.ext HP2.e;clear hSn;(refine qaa 13 (o:=?_) (by kernel_rfl) ?_ ?_;rotate_left 1;(simp only [xgA,xgB,xgC];rfl);intro K hK);go_simp;rw [<- hW1];clear hW1;refine hK.out _ _ (fun _=>hSn1) ?_;clear hK K q0 q1 q2 q3 f0 f1 f2 f3;(try simp only [Act.put,xgD,xgE,xgF]);have hSn:=hSn1;(refine tkB [14] ?_;(iterate 1 (refine tk1 (oi:=?_) (v:=?_) (by kernel_rfl) (by first | exact hSn | exact hHeld) ?_ ?_ ?_ ?_ ?_;rotate_left 2;(simp only [xgA,xgB,xgC];rfl);rfl;(intro wS hSw;obtain ⟨⟨A1,A2,A3,A4⟩,⟨A5,A6,A7,A8⟩,A9,A10,A11,A12⟩:=hSw;go_simp;try with_reducible rfl);(exact fun _ _ _ h=>h);(try simp only [Act.put,xgD,xgE,xgF])));refine tkE ?_);refine qac (by kernel_rfl) ?_ _;go_wp2_with (fail)
     go_meet
     exact ⟨_,_,rfl,rfl,HP2⟩
   ·go_simp;have S16:=S1.allA;replace hp:=S1.keepA hp
    try clear hSn
    have hSn:=hHeld.ext S16.e;refine hK.out _ _ (fun _=>hSn) ?_;clear hK K;(try simp only [Act.put,xgD,xgE,xgF]);generalize v1.alloc (.cells zA 33)=v16 at *;generalize v1.heap.size=g16 at *;(refine qaa 4 (o:=?_) (by kernel_rfl) ?_ ?_;rotate_left 1;(simp only [xgA,xgB,xgC];rfl);intro K hK);go_simp;refine (C4.out _ _ v16 S16).mono ?_;rintro e v17 ⟨q,rfl,hq,D⟩;go_wp2_with (fail);have S17:=S16.call D;replace hp:=hp.ext D;clear D
    try clear hSn
    have hSn:=hHeld.ext S17.e;refine hK.out _ _ (fun _=>hSn) ?_;clear hK K;(try simp only [Act.put,xgD,xgE,xgF]);(refine qaa 6 (o:=?_) (by kernel_rfl) ?_ ?_;rotate_left 1;(simp only [xgA,xgB,xgC];rfl);intro K hK);go_simp;refine (C6.out _ _ v17 S17 _ hq).mono ?_;rintro e v18 ⟨s,rfl,hs,D⟩;go_wp2_with (fail);have S18:=S17.call D;replace hp:=hp.ext D;replace hq:=hq.ext D;clear D
    try clear hSn
    have hSn:=hHeld.ext S18.e;refine hK.out _ _ (fun _=>hSn) ?_;clear hK K;(try simp only [Act.put,xgD,xgE,xgF]);(refine qaa 7 (o:=?_) (by kernel_rfl) ?_ ?_;rotate_left 1;(simp only [xgA,xgB,xgC];rfl);intro K hK);go_simp;refine (C7.out _ _ v18 S18 _ hp _ hs).mono ?_;rintro e v19 ⟨t,rfl,ht,D⟩;go_wp2_with (fail);have S19:=S18.call D;replace hp:=hp.ext D;replace hq:=hq.ext D;replace hs:=hs.ext D;clear D
    try clear hSn
    have hSn:=hHeld.ext S19.e;refine hK.out _ _ (fun _=>hSn) ?_;clear hK K;(try simp only [Act.put,xgD,xgE,xgF]);(refine qaa 8 (o:=?_) (by kernel_rfl) ?_ ?_;rotate_left 1;(simp only [xgA,xgB,xgC];rfl);intro K hK);go_simp;refine (C8.out _ _ v19 S19 _ ht).mono ?_;rintro e v20 ⟨d,rfl,hd,D⟩;go_wp2_with (fail);have S20:=S19.call D;replace hp:=hp.ext D;replace hq:=hq.ext D;replace hs:=hs.ext D;replace ht:=ht.ext D;clear D
    try clear hSn
    have hSn:=hHeld.ext S20.e;refine hK.out _ _ (fun _=>hSn) ?_;clear hK K;(try simp only [Act.put,xgD,xgE,xgF]);(refine tkB [9,10,11] ?_;(iterate 3 (refine tk1 (oi:=?_) (v:=?_) (by kernel_rfl) (by first | exact hSn | exact hHeld) ?_ ?_ ?_ ?_ ?_;rotate_left 2;(simp only [xgA,xgB,xgC];rfl);rfl;(intro wS hSw;obtain ⟨⟨A1,A2,A3,A4⟩,⟨A5,A6,A7,A8⟩,A9,A10,A11,A12⟩:=hSw;go_simp;try with_reducible rfl);(exact fun _ _ _ h=>h);(try simp only [Act.put,xgD,xgE,xgF])));refine tkE ?_);obtain ⟨W1,hW1,⟨q0,q1,q2,q3⟩,⟨f0,f1,f2,f3⟩,HP2⟩:=S20.put1 hd;unfold set4 at hW1;have hSn1:=hHeld.ext HP2.e;clear hSn;(refine qaa 13 (o:=?_) (by kernel_rfl) ?_ ?_;rotate_left 1;(simp only [xgA,xgB,xgC];rfl);intro K hK);go_simp;rw [<- hW1];clear hW1;refine hK.out _ _ (fun _=>hSn1) ?_;clear hK K q0 q1 q2 q3 f0 f1 f2 f3;(try simp only [Act.put,xgD,xgE,xgF]);have hSn:=hSn1;(refine tkB [14] ?_;(iterate 1 (refine tk1 (oi:=?_) (v:=?_) (by kernel_rfl) (by first | exact hSn | exact hHeld) ?_ ?_ ?_ ?_ ?_;rotate_left 2;(simp only [xgA,xgB,xgC];rfl);rfl;(intro wS hSw;obtain ⟨⟨A1,A2,A3,A4⟩,⟨A5,A6,A7,A8⟩,A9,A10,A11,A12⟩:=hSw;go_simp;try with_reducible rfl);(exact fun _ _ _ h=>h);(try simp only [Act.put,xgD,xgE,xgF])));refine tkE ?_);refine qac (by kernel_rfl) ?_ _;go_wp2_with (fail)
    go_meet
    exact ⟨_,_,rfl,rfl,HP2⟩
  ·go_simp;have S21:=S0.allA
   try clear hSn
   have hSn:=hHeld.ext S21.e;refine hK.out _ _ (fun _=>hSn) ?_;clear hK K;(try simp only [Act.put,xgD,xgE,xgF]);generalize wd.alloc (.cells zA 33)=v21 at *;generalize wd.heap.size=g21 at *;(refine qaa 1 (o:=?_) (by kernel_rfl) ?_ ?_;rotate_left 1;(simp only [xgA,xgB,xgC];rfl);intro K hK);go_simp;refine (C1.out _ _ v21 S21).mono ?_;rintro e v22 ⟨p,rfl,hp,D⟩;go_wp2_with (fail);have S22:=S21.call D;clear D
   try clear hSn
   have hSn:=hHeld.ext S22.e;refine hK.out _ _ (fun _=>hSn) ?_;clear hK K;(try simp only [Act.put,xgD,xgE,xgF]);(refine qaa 4 (o:=?_) (by kernel_rfl) ?_ ?_;rotate_left 1;(simp only [xgA,xgB,xgC];rfl);intro K hK);go_simp;refine (C4.out _ _ v22 S22).mono ?_;rintro e v23 ⟨q,rfl,hq,D⟩;go_wp2_with (fail);have S23:=S22.call D;replace hp:=hp.ext D;clear D
   try clear hSn
   have hSn:=hHeld.ext S23.e;refine hK.out _ _ (fun _=>hSn) ?_;clear hK K;(try simp only [Act.put,xgD,xgE,xgF]);(refine qaa 6 (o:=?_) (by kernel_rfl) ?_ ?_;rotate_left 1;(simp only [xgA,xgB,xgC];rfl);intro K hK);go_simp;refine (C6.out _ _ v23 S23 _ hq).mono ?_;rintro e v24 ⟨s,rfl,hs,D⟩;go_wp2_with (fail);have S24:=S23.call D;replace hp:=hp.ext D;replace hq:=hq.ext D;clear D
   try clear hSn
   have hSn:=hHeld.ext S24.e;refine hK.out _ _ (fun _=>hSn) ?_;clear hK K;(try simp only [Act.put,xgD,xgE,xgF]);(refine qaa 7 (o:=?_) (by kernel_rfl) ?_ ?_;rotate_left 1;(simp only [xgA,xgB,xgC];rfl);intro K hK);go_simp;refine (C7.out _ _ v24 S24 _ hp _ hs).mono ?_;rintro e v25 ⟨t,rfl,ht,D⟩;go_wp2_with (fail);have S25:=S24.call D;replace hp:=hp.ext D;replace hq:=hq.ext D;replace hs:=hs.ext D;clear D
   try clear hSn
   have hSn:=hHeld.ext S25.e;refine hK.out _ _ (fun _=>hSn) ?_;clear hK K;(try simp only [Act.put,xgD,xgE,xgF]);(refine qaa 8 (o:=?_) (by kernel_rfl) ?_ ?_;rotate_left 1;(simp only [xgA,xgB,xgC];rfl);intro K hK);go_simp;refine (C8.out _ _ v25 S25 _ ht).mono ?_;rintro e v26 ⟨d,rfl,hd,D⟩;go_wp2_with (fail);have S26:=S25.call D;replace hp:=hp.ext D;replace hq:=hq.ext D;replace hs:=hs.ext D;replace ht:=ht.ext D;clear D
   try clear hSn
   have hSn:=hHeld.ext S26.e;refine hK.out _ _ (fun _=>hSn) ?_;clear hK K;(try simp only [Act.put,xgD,xgE,xgF]);(refine tkB [9,10,11] ?_;(iterate 3 (refine tk1 (oi:=?_) (v:=?_) (by kernel_rfl) (by first | exact hSn | exact hHeld) ?_ ?_ ?_ ?_ ?_;rotate_left 2;(simp only [xgA,xgB,xgC];rfl);rfl;(intro wS hSw;obtain ⟨⟨A1,A2,A3,A4⟩,⟨A5,A6,A7,A8⟩,A9,A10,A11,A12⟩:=hSw;go_simp;try with_reducible rfl);(exact fun _ _ _ h=>h);(try simp only [Act.put,xgD,xgE,xgF])));refine tkE ?_);obtain ⟨W1,hW1,⟨q0,q1,q2,q3⟩,⟨f0,f1,f2,f3⟩,HP2⟩:=S26.put1 hd;unfold set4 at hW1;have hSn1:=hHeld.ext HP2.e;clear hSn;(refine qaa 13 (o:=?_) (by kernel_rfl) ?_ ?_;rotate_left 1;(simp only [xgA,xgB,xgC];rfl);intro K hK);go_simp;rw [<- hW1];clear hW1;refine hK.out _ _ (fun _=>hSn1) ?_;clear hK K q0 q1 q2 q3 f0 f1 f2 f3;(try simp only [Act.put,xgD,xgE,xgF]);have hSn:=hSn1;(refine tkB [14] ?_;(iterate 1 (refine tk1 (oi:=?_) (v:=?_) (by kernel_rfl) (by first | exact hSn | exact hHeld) ?_ ?_ ?_ ?_ ?_;rotate_left 2;(simp only [xgA,xgB,xgC];rfl);rfl;(intro wS hSw;obtain ⟨⟨A1,A2,A3,A4⟩,⟨A5,A6,A7,A8⟩,A9,A10,A11,A12⟩:=hSw;go_simp;try with_reducible rfl);(exact fun _ _ _ h=>h);(try simp only [Act.put,xgD,xgE,xgF])));refine tkE ?_);refine qac (by kernel_rfl) ?_ _;go_wp2_with (fail)
   go_meet
   exact ⟨_,_,rfl,rfl,HP2⟩
 case rest=>
  obtain ⟨a,v,rfl,rfl,HP⟩:=hcut;have HE4:=Lib.hid (HEd.out.trans HP.e);have HY4:=Lib.hid (HYd.out.ext HP.e);have HZ4:=Lib.hid (HZd.out.ext HP.e);have HV4:=Lib.hid HP.x;have HS4:Hid (SJ3 (g0+1) (g0+2) a y z v wc):=⟨HSd.out.2.1.ext HP.e,HSd.out.2.2.ext HP.e,HP.p⟩;clear HP HXd HYd HZd HEd HSd
  go_upto_region 3 with (fail)
  have hEd:Ext wc wc.drew:=(Ext.refl wc).drew;have HSd:Hid (SJ3 (g0+1) (g0+2) a y z v wc.drew):=HS4.out.ext hEd;have HYd:=Lib.hid (HY4.out.ext hEd);have HZd:=Lib.hid (HZ4.out.ext hEd);have HVd:=Lib.hid (HV4.out.ext hEd);have HEd:=Lib.hid (HE4.out.trans hEd);clear HY4 HZ4 HV4 HE4 HS4 hEd;refine qad (SJ3 (g0+1) (g0+2) a y z v) 22 (by kernel_rfl) HSd.out (fun hHeld=>?_);generalize wc.drew=wd at *;(refine tkB [0,1,2,3,4,6] ?_;(iterate 6 (refine tk1 (oi:=?_) (v:=?_) (by kernel_rfl) (by first | exact hSn | exact hHeld) ?_ ?_ ?_ ?_ ?_;rotate_left 2;(simp only [xgA,xgB,xgC];rfl);rfl;(intro wS hSw;obtain ⟨⟨A1,A2,A3,A4⟩,⟨A5,A6,A7,A8⟩,A9,A10,A11,A12⟩:=hSw;go_simp;try with_reducible rfl);(exact fun _ _ _ h=>h);(try simp only [Act.put,xgD,xgE,xgF])));refine tkE ?_);((refine qaa 5 (o:=?_) (by kernel_rfl) ?_ ?_;rotate_left 1;(simp only [xgA,xgB,xgC];rfl);intro K hK);go_simp;(refine (qlJ M0 y (qdi 2) 1 2 wd (mb0 _) HYd.out.pi (by decide) (by decide) (qfv 2) (by decide)).mono ?_);rintro e_ v1 ⟨p,rfl,hp,d1⟩;go_wp2_with (fail);(try clear hSn);(have hSn:=hHeld.ext d1);(refine hK.out _ _ (fun _=>hSn) ?_);clear hK K;(try simp only [Act.put,xgD,xgE,xgF]));((refine qaa 7 (o:=?_) (by kernel_rfl) ?_ ?_;rotate_left 1;(simp only [xgA,xgB,xgC];rfl);intro K hK);go_simp;(refine (qgJ 4 (by omega) v1).mono ?_);rintro e_ v2 ⟨ib,ia,ik,ip,rfl,hI,d2⟩;go_wp2_with (fail);(try clear hSn);(have hSn:=hHeld.ext (d1.trans d2));(refine hK.out _ _ (fun _=>hSn) ?_);clear hK K;(try simp only [Act.put,xgD,xgE,xgF]));((refine qaa 8 (o:=?_) (by kernel_rfl) ?_ ?_;rotate_left 1;(simp only [xgA,xgB,xgC];rfl);intro K hK);go_simp;(refine (qgn M0 z (qdi 3) 1 ib ia ik ip 4 v2 (mb0 _) (HZd.out.ext (d1.trans d2)).pi hI (by decide) (qfv 3) (by decide)).mono ?_);rintro e_ v3 ⟨q,rfl,hq,d3⟩;go_wp2_with (fail);(try clear hSn);(have hSn:=hHeld.ext ((d1.trans d2).trans d3));(refine hK.out _ _ (fun _=>hSn) ?_);clear hK K;(try simp only [Act.put,xgD,xgE,xgF]))
  ((refine qaa 9 (o:=?_) (by kernel_rfl) ?_ ?_;rotate_left 1;(simp only [xgA,xgB,xgC];rfl);intro K hK);go_simp;(refine (qjh M0 p q (qbm (qdi 2) 2) (pmul (qdi 3) [(4,Mo.zero)]) 1 v3 (mb0 _) (hp.ext (d2.trans d3)).pi hq.pi (by decide) (by decide) (qeT (qaT (by decide)) (by decide)) (by decide)).mono ?_);rintro e_ v4 ⟨u,rfl,hu,d4⟩;go_wp2_with (fail);(try clear hSn);(have hSn:=hHeld.ext (((d1.trans d2).trans d3).trans d4));(refine hK.out _ _ (fun _=>hSn) ?_);clear hK K;(try simp only [Act.put,xgD,xgE,xgF]));((refine qaa 10 (o:=?_) (by kernel_rfl) ?_ ?_;rotate_left 1;(simp only [xgA,xgB,xgC];rfl);intro K hK);go_simp;(refine (qr1 v u hD hD v4 true (HVd.out.ext (((d1.trans d2).trans d3).trans d4)).pi hu.pi (by simp [Sim.refl])).mono ?_);rintro e_ v5 ⟨rfl,d5⟩;go_wp2_with (fail);(try clear hSn);(have hSn:=hHeld.ext ((((d1.trans d2).trans d3).trans d4).trans d5));(refine hK.out _ _ (fun _=>hSn) ?_);clear hK K;(try simp only [Act.put,xgD,xgE,xgF]));(refine tkB [11,12] ?_;(iterate 2 (refine tk1 (oi:=?_) (v:=?_) (by kernel_rfl) (by first | exact hSn | exact hHeld) ?_ ?_ ?_ ?_ ?_;rotate_left 2;(simp only [xgA,xgB,xgC];rfl);rfl;(intro wS hSw;obtain ⟨⟨A1,A2,A3,A4⟩,⟨A5,A6,A7,A8⟩,A9,A10,A11,A12⟩:=hSw;go_simp;try with_reducible rfl);(exact fun _ _ _ h=>h);(try simp only [Act.put,xgD,xgE,xgF])));refine tkE ?_);have k5:=(((d1.trans d2).trans d3).trans d4).trans d5;clear hp hI hq hu d1 d2 d3 d4 d5 HYd HZd HVd HSd;(refine qau 13 15 (oi:=?_) (oj:=?_) (by kernel_rfl) ?_ ?_ ?_ ?_;rotate_left 2;(simp only [xgA,xgB,xgC];rfl);(simp only [xgA,xgB,xgC];rfl);all_goals intro K hK)
  ·go_simp;have ea:Ext v5 (v5.alloc (.cells #[.int .i64 (-2),.int .i64 1] 2)):=(Ext.refl _).alloc _;have k6:=(k5).trans ea;have hr1:=qeY v5 hz1 (-2) 1 rfl rfl (by omega);clear ea
   try clear hSn
   have hSn:=hHeld.ext k6;refine hK.out _ _ (fun _=>hSn) ?_;clear hK K;(try simp only [Act.put,xgD,xgE,xgF]);generalize v5.alloc (.cells #[.int .i64 (-2),.int .i64 1] 2)=v6 at *;generalize v5.heap.size=g6 at *;(refine qau 14 15 (oi:=?_) (oj:=?_) (by kernel_rfl) ?_ ?_ ?_ ?_;rotate_left 2;(simp only [xgA,xgB,xgC];rfl);(simp only [xgA,xgB,xgC];rfl);all_goals intro K hK)
   ·go_simp;refine (qiO _ v6 hr1).mono ?_;rintro e v7 ⟨a1,X1,rfl,hu1,D⟩;go_wp2_with (fail);have k7:=(k6).trans D;clear hr1;clear D
    try clear hSn
    have hSn:=hHeld.ext k7;refine hK.out _ _ (fun _=>hSn) ?_;clear hK K;(try simp only [Act.put,xgD,xgE,xgF]);(refine qaa 15 (o:=?_) (by kernel_rfl) ?_ ?_;rotate_left 1;(simp only [xgA,xgB,xgC];rfl);intro K hK);go_simp;have ea:Ext v7 (v7.alloc (.cells #[.int .i64 (-3),.int .i64 0,.int .i64 1] 2)):=(Ext.refl _).alloc _;have k8:=(k7).trans ea;replace hu1:=hu1.ext ea;have hr2:=qeX v7 hz2 (-3) 0 1 rfl rfl rfl (by omega);clear ea
    try clear hSn
    have hSn:=hHeld.ext k8;refine hK.out _ _ (fun _=>hSn) ?_;clear hK K;(try simp only [Act.put,xgD,xgE,xgF]);generalize v7.alloc (.cells #[.int .i64 (-3),.int .i64 0,.int .i64 1] 2)=v8 at *;generalize v7.heap.size=g8 at *;(refine qaa 16 (o:=?_) (by kernel_rfl) ?_ ?_;rotate_left 1;(simp only [xgA,xgB,xgC];rfl);intro K hK);go_simp;refine (qiN _ v8 hr2).mono ?_;rintro e v9 ⟨a2,X2,rfl,hu2,D⟩;go_wp2_with (fail);have k9:=(k8).trans D;clear hr2;replace hu1:=hu1.ext D;clear D
    try clear hSn
    have hSn:=hHeld.ext k9;refine hK.out _ _ (fun _=>hSn) ?_;clear hK K;(try simp only [Act.put,xgD,xgE,xgF]);((refine qaa 17 (o:=?_) (by kernel_rfl) ?_ ?_;rotate_left 1;(simp only [xgA,xgB,xgC];rfl);intro K hK);go_simp;(refine (qiM a1 a2 2 3 X1 X2 v9 hu1 hu2).mono ?_);rintro e_ y7 ⟨jb,ja,jn,jp,rfl,hJ,d7⟩;go_wp2_with (fail);(try clear hSn);(have hSn:=hHeld.ext (k9.trans d7));(refine hK.out _ _ (fun _=>hSn) ?_);clear hK K;(try simp only [Act.put,xgD,xgE,xgF]));((refine qaa 18 (o:=?_) (by kernel_rfl) ?_ ?_;rotate_left 1;(simp only [xgA,xgB,xgC];rfl);intro K hK);go_simp;(refine (qgJ 1 (by omega) y7).mono ?_);rintro e_ y8 ⟨lb,la,ln,lp,rfl,hL,d8⟩;go_wp2_with (fail);(try clear hSn);(have hSn:=hHeld.ext ((k9.trans d7).trans d8));(refine hK.out _ _ (fun _=>hSn) ?_);clear hK K;(try simp only [Act.put,xgD,xgE,xgF]));((refine qaa 19 (o:=?_) (by kernel_rfl) ?_ ?_;rotate_left 1;(simp only [xgA,xgB,xgC];rfl);intro K hK);go_simp;(refine (qgk y8 (hJ.ext d8) hL).mono ?_);rintro e_ y9 ⟨rfl,d9⟩;go_wp2_with (fail);(try clear hSn);(have hSn:=hHeld.ext (((k9.trans d7).trans d8).trans d9));(refine hK.out _ _ (fun _=>hSn) ?_);clear hK K;(try simp only [Act.put,xgD,xgE,xgF]));(refine tkB [20,21] ?_;(iterate 2 (refine tk1 (oi:=?_) (v:=?_) (by kernel_rfl) (by first | exact hSn | exact hHeld) ?_ ?_ ?_ ?_ ?_;rotate_left 2;(simp only [xgA,xgB,xgC];rfl);rfl;(intro wS hSw;obtain ⟨⟨A1,A2,A3,A4⟩,⟨A5,A6,A7,A8⟩,A9,A10,A11,A12⟩:=hSw;go_simp;try with_reducible rfl);(exact fun _ _ _ h=>h);(try simp only [Act.put,xgD,xgE,xgF])));refine tkE ?_)
    refine qac (by kernel_rfl) ?_ _;have HF:=Lib.hid (HEd.out.trans (((k9.trans d7).trans d8).trans d9));clear hHeld hSn hu1 hu2 hJ hL d7 d8 d9;go_wp2;go_ret;exact ⟨rfl,HF.out⟩
   ·go_simp;have ea:Ext v6 (v6.alloc (.cells #[.int .i64 (-3),.int .i64 0,.int .i64 1] 2)):=(Ext.refl _).alloc _;have k10:=(k6).trans ea;replace hr1:=hr1.ext ea;have hr2:=qeX v6 hz2 (-3) 0 1 rfl rfl rfl (by omega);clear ea
    try clear hSn
    have hSn:=hHeld.ext k10;refine hK.out _ _ (fun _=>hSn) ?_;clear hK K;(try simp only [Act.put,xgD,xgE,xgF]);generalize v6.alloc (.cells #[.int .i64 (-3),.int .i64 0,.int .i64 1] 2)=v10 at *;generalize v6.heap.size=g10 at *;(refine qaa 14 (o:=?_) (by kernel_rfl) ?_ ?_;rotate_left 1;(simp only [xgA,xgB,xgC];rfl);intro K hK);go_simp;refine (qiO _ v10 hr1).mono ?_;rintro e v11 ⟨a1,X1,rfl,hu1,D⟩;go_wp2_with (fail);have k11:=(k10).trans D;clear hr1;replace hr2:=hr2.ext D;clear D
    try clear hSn
    have hSn:=hHeld.ext k11;refine hK.out _ _ (fun _=>hSn) ?_;clear hK K;(try simp only [Act.put,xgD,xgE,xgF]);(refine qaa 16 (o:=?_) (by kernel_rfl) ?_ ?_;rotate_left 1;(simp only [xgA,xgB,xgC];rfl);intro K hK);go_simp;refine (qiN _ v11 hr2).mono ?_;rintro e v12 ⟨a2,X2,rfl,hu2,D⟩;go_wp2_with (fail);have k12:=(k11).trans D;clear hr2;replace hu1:=hu1.ext D;clear D
    try clear hSn
    have hSn:=hHeld.ext k12;refine hK.out _ _ (fun _=>hSn) ?_;clear hK K;(try simp only [Act.put,xgD,xgE,xgF]);((refine qaa 17 (o:=?_) (by kernel_rfl) ?_ ?_;rotate_left 1;(simp only [xgA,xgB,xgC];rfl);intro K hK);go_simp;(refine (qiM a1 a2 2 3 X1 X2 v12 hu1 hu2).mono ?_);rintro e_ y7 ⟨jb,ja,jn,jp,rfl,hJ,d7⟩;go_wp2_with (fail);(try clear hSn);(have hSn:=hHeld.ext (k12.trans d7));(refine hK.out _ _ (fun _=>hSn) ?_);clear hK K;(try simp only [Act.put,xgD,xgE,xgF]));((refine qaa 18 (o:=?_) (by kernel_rfl) ?_ ?_;rotate_left 1;(simp only [xgA,xgB,xgC];rfl);intro K hK);go_simp;(refine (qgJ 1 (by omega) y7).mono ?_);rintro e_ y8 ⟨lb,la,ln,lp,rfl,hL,d8⟩;go_wp2_with (fail);(try clear hSn);(have hSn:=hHeld.ext ((k12.trans d7).trans d8));(refine hK.out _ _ (fun _=>hSn) ?_);clear hK K;(try simp only [Act.put,xgD,xgE,xgF]));((refine qaa 19 (o:=?_) (by kernel_rfl) ?_ ?_;rotate_left 1;(simp only [xgA,xgB,xgC];rfl);intro K hK);go_simp;(refine (qgk y8 (hJ.ext d8) hL).mono ?_);rintro e_ y9 ⟨rfl,d9⟩;go_wp2_with (fail);(try clear hSn);(have hSn:=hHeld.ext (((k12.trans d7).trans d8).trans d9));(refine hK.out _ _ (fun _=>hSn) ?_);clear hK K;(try simp only [Act.put,xgD,xgE,xgF]));(refine tkB [20,21] ?_;(iterate 2 (refine tk1 (oi:=?_) (v:=?_) (by kernel_rfl) (by first | exact hSn | exact hHeld) ?_ ?_ ?_ ?_ ?_;rotate_left 2;(simp only [xgA,xgB,xgC];rfl);rfl;(intro wS hSw;obtain ⟨⟨A1,A2,A3,A4⟩,⟨A5,A6,A7,A8⟩,A9,A10,A11,A12⟩:=hSw;go_simp;try with_reducible rfl);(exact fun _ _ _ h=>h);(try simp only [Act.put,xgD,xgE,xgF])));refine tkE ?_)
    refine qac (by kernel_rfl) ?_ _;have HF:=Lib.hid (HEd.out.trans (((k12.trans d7).trans d8).trans d9));clear hHeld hSn hu1 hu2 hJ hL d7 d8 d9;go_wp2;go_ret;exact ⟨rfl,HF.out⟩
  ·go_simp;have ea:Ext v5 (v5.alloc (.cells #[.int .i64 (-3),.int .i64 0,.int .i64 1] 2)):=(Ext.refl _).alloc _;have k13:=(k5).trans ea;have hr2:=qeX v5 hz2 (-3) 0 1 rfl rfl rfl (by omega);clear ea
   try clear hSn
   have hSn:=hHeld.ext k13;refine hK.out _ _ (fun _=>hSn) ?_;clear hK K;(try simp only [Act.put,xgD,xgE,xgF]);generalize v5.alloc (.cells #[.int .i64 (-3),.int .i64 0,.int .i64 1] 2)=v13 at *;generalize v5.heap.size=g13 at *;(refine qaa 13 (o:=?_) (by kernel_rfl) ?_ ?_;rotate_left 1;(simp only [xgA,xgB,xgC];rfl);intro K hK);go_simp;have ea:Ext v13 (v13.alloc (.cells #[.int .i64 (-2),.int .i64 1] 2)):=(Ext.refl _).alloc _;have k14:=(k13).trans ea;replace hr2:=hr2.ext ea;have hr1:=qeY v13 hz1 (-2) 1 rfl rfl (by omega);clear ea
   try clear hSn
   have hSn:=hHeld.ext k14;refine hK.out _ _ (fun _=>hSn) ?_;clear hK K;(try simp only [Act.put,xgD,xgE,xgF]);generalize v13.alloc (.cells #[.int .i64 (-2),.int .i64 1] 2)=v14 at *;generalize v13.heap.size=g14 at *;(refine qaa 14 (o:=?_) (by kernel_rfl) ?_ ?_;rotate_left 1;(simp only [xgA,xgB,xgC];rfl);intro K hK);go_simp;refine (qiO _ v14 hr1).mono ?_;rintro e v15 ⟨a1,X1,rfl,hu1,D⟩;go_wp2_with (fail);have k15:=(k14).trans D;clear hr1;replace hr2:=hr2.ext D;clear D
   try clear hSn
   have hSn:=hHeld.ext k15;refine hK.out _ _ (fun _=>hSn) ?_;clear hK K;(try simp only [Act.put,xgD,xgE,xgF]);(refine qaa 16 (o:=?_) (by kernel_rfl) ?_ ?_;rotate_left 1;(simp only [xgA,xgB,xgC];rfl);intro K hK);go_simp;refine (qiN _ v15 hr2).mono ?_;rintro e v16 ⟨a2,X2,rfl,hu2,D⟩;go_wp2_with (fail);have k16:=(k15).trans D;clear hr2;replace hu1:=hu1.ext D;clear D
   try clear hSn
   have hSn:=hHeld.ext k16;refine hK.out _ _ (fun _=>hSn) ?_;clear hK K;(try simp only [Act.put,xgD,xgE,xgF]);((refine qaa 17 (o:=?_) (by kernel_rfl) ?_ ?_;rotate_left 1;(simp only [xgA,xgB,xgC];rfl);intro K hK);go_simp;(refine (qiM a1 a2 2 3 X1 X2 v16 hu1 hu2).mono ?_);rintro e_ y7 ⟨jb,ja,jn,jp,rfl,hJ,d7⟩;go_wp2_with (fail);(try clear hSn);(have hSn:=hHeld.ext (k16.trans d7));(refine hK.out _ _ (fun _=>hSn) ?_);clear hK K;(try simp only [Act.put,xgD,xgE,xgF]));((refine qaa 18 (o:=?_) (by kernel_rfl) ?_ ?_;rotate_left 1;(simp only [xgA,xgB,xgC];rfl);intro K hK);go_simp;(refine (qgJ 1 (by omega) y7).mono ?_);rintro e_ y8 ⟨lb,la,ln,lp,rfl,hL,d8⟩;go_wp2_with (fail);(try clear hSn);(have hSn:=hHeld.ext ((k16.trans d7).trans d8));(refine hK.out _ _ (fun _=>hSn) ?_);clear hK K;(try simp only [Act.put,xgD,xgE,xgF]));((refine qaa 19 (o:=?_) (by kernel_rfl) ?_ ?_;rotate_left 1;(simp only [xgA,xgB,xgC];rfl);intro K hK);go_simp;(refine (qgk y8 (hJ.ext d8) hL).mono ?_);rintro e_ y9 ⟨rfl,d9⟩;go_wp2_with (fail);(try clear hSn);(have hSn:=hHeld.ext (((k16.trans d7).trans d8).trans d9));(refine hK.out _ _ (fun _=>hSn) ?_);clear hK K;(try simp only [Act.put,xgD,xgE,xgF]));(refine tkB [20,21] ?_;(iterate 2 (refine tk1 (oi:=?_) (v:=?_) (by kernel_rfl) (by first | exact hSn | exact hHeld) ?_ ?_ ?_ ?_ ?_;rotate_left 2;(simp only [xgA,xgB,xgC];rfl);rfl;(intro wS hSw;obtain ⟨⟨A1,A2,A3,A4⟩,⟨A5,A6,A7,A8⟩,A9,A10,A11,A12⟩:=hSw;go_simp;try with_reducible rfl);(exact fun _ _ _ h=>h);(try simp only [Act.put,xgD,xgE,xgF])));refine tkE ?_)
   refine qac (by kernel_rfl) ?_ _;have HF:=Lib.hid (HEd.out.trans (((k16.trans d7).trans d8).trans d9));clear hHeld hSn hu1 hu2 hJ hL d7 d8 d9;go_wp2;go_ret;exact ⟨rfl,HF.out⟩


section
variable {P:Program} {ops:Array Oper} {Q:Exit->Act->World->Prop} {md:Region.Mode} {S:World->Prop} {last:Nat}
end
end Go.Proofs.YtmcfpnmoklnhoaaGreat
