/- Ve -/
import Derived.Test.YtmcfpnmoklnhoaaGreatTf
import Derived.Test.YtmcfpnmoklnhoaaGreatMv
import Derived.Test.YtmcfpnmoklnhoaaGreatQb
import Derived.Test.YtmcfpnmoklnhoaaGreatMq
set_option linter.unusedVariables false
set_option maxRecDepth 100000
set_option maxHeartbeats 400000000
set_option linter.unusedSimpArgs false
namespace Go.Proofs.YtmcfpnmoklnhoaaGreat
open Go.RowKit
theorem Gn.qA5{J m n β:Nat}{f g:List Tm}(H:Gn J m n β f g)(hb:β<=6):Sz 1000 12001 (SJ J 0 m n f g):=by
 have h6:=H.m6;have h7:=H.n6;refine⟨iD H.h1 H.h4 H.sf.n H.sg.n _ _ _,?_,?_⟩
 ·by_cases hm:m=0
  ·subst hm;exact((VN H.sf.d H.sf.n n).mono (show n*β<=1000 by have:=Nat.mul_le_mul h7 hb;omega)).dh (Ym H.h1 H.h4 H.sf.n H.sg.n H.df n).symm
  ·by_cases hn:n=0
   ·subst hn;exact((VN H.sg.d H.sg.n m).mono (show m*β<=1000 by have:=Nat.mul_le_mul h6 hb;omega)).dh (qeC H.h1 H.h4 H.sf.n H.sg.n H.dg m).symm
   ·exact(H.bound (j:=0) (by omega) (by omega)).d
 ·refine aR (VS (A:=1000) H.sf.a H.sg.a (by omega)) ?_;have:=eB 1000 (show n-0+(m-0)<=12 by omega);omega
theorem Gn.rsz{J m n:Nat}{f g:List Tm}(H:Gn J m n 4 f g):Sz 1000 12001 (SJ J 0 m n f g):=H.qA5 (by decide)
theorem qeK(l:Int)(w:World):Calls Tryz.prog 102 #[.int .i64 l] w λe w'=>e=.returned (.bool (gm l))/\w=w':=by
 by_cases h1:1<=l
 ·by_cases h2:l<=4
  ·have H:Hid (gm l=true):=by show _=_;unfold gm;simp[h1,h2]
   go_enter Tryz.func102,Tryz.ntmps102
   go_wp2;go_ret;exact⟨by rw[H.out];rfl,rfl⟩
  ·have H:Hid (gm l=false):=by show _=_;unfold gm;simp[h2]
   go_enter Tryz.func102,Tryz.ntmps102
   go_wp2;go_ret;exact⟨by rw[H.out];rfl,rfl⟩
 ·have H:Hid (gm l=false):=by show _=_;unfold gm;simp[h1]
  go_enter Tryz.func102,Tryz.ntmps102
  go_wp2;go_ret;exact⟨by rw[H.out];rfl,rfl⟩
theorem SN{J:Nat}(h1:1<=J)(h4:J<=4):gm (J:Int)=true:=by unfold gm;simp;omega
theorem LiV.qzZ{M:Nat->Prop}{w w':World}{v:Value}{N:Nat}{F:Nat->List Tm}(h:LiV M w w' v N F):∃u,v=.slice u N N/\Hid (0<N->∃gl:Nat,u=some ⟨gl,0,none⟩/\w.heap.size<=gl/\Kids (λb=>M b\/b=gl) w' 4 gl N F):=by
 rcases h with⟨h0,rfl⟩|⟨gl,rfl,fA,hk⟩
 ·exact⟨none,by rw[h0],λh=>by omega⟩
 ·exact⟨_,rfl,λ_=>⟨gl,rfl,fA,hk⟩⟩
structure RsC(M:Nat->Prop)(w:World)(x y:PE)(J:Int)(m n:Int)(N:Nat)(F:Nat->List Tm)(r:List Tm):Prop where
 hJ:gm J=true
 b: -1<=m/\m<=100/\ -1<=n/\n<=100/\N<=100
 dx:∀wk,Ext w wk->Calls Tryz.prog 43 #[.agg (ak x),.int .i64 J] wk λe w'=>e=.returned (.int .i64 m)/\Ext wk w'
 dy:∀wk,Ext w wk->Calls Tryz.prog 43 #[.agg (ak y),.int .i64 J] wk λe w'=>e=.returned (.int .i64 n)/\Ext wk w'
 z:m<0\/n<0->af [] r
 p:m=0->0<=n->∀(M':Nat->Prop) wk,Mb M' wk->(∀g,M' g->M g\/w.heap.size<=g)->Ext w wk->Calls Tryz.prog 53 #[.agg (ak x),.int .i64 n] wk (dO M' wk 4 r)
 q:1<=m->n=0->∀(M':Nat->Prop) wk,Mb M' wk->(∀g,M' g->M g\/w.heap.size<=g)->Ext w wk->Calls Tryz.prog 53 #[.agg (ak y),.int .i64 m] wk (dO M' wk 4 r)
 c:1<=m->1<=n->∀(M':Nat->Prop) wk,Mb M' wk->(∀g,M' g->M g\/w.heap.size<=g)->Ext w wk->Calls Tryz.prog 133 #[.agg (ak x),.agg (ak y),.int .i64 J] wk (Qj M' wk N F 0)
 f:1<=m->1<=n->0<N/\af (F 0) r
theorem qp5(M:Nat->Prop)(x y:PE)(J m n:Int)(N:Nat)(F:Nat->List Tm)(r:List Tm)(w:World)(hM:Mb M w)(H:RsC M w x y J m n N F r):
 Calls Tryz.prog 81 #[.agg (ak x),.agg (ak y),.int .i64 J] w (lI M w 4 r 0):=by
 obtain⟨aV,ky,vJ,bL,dD⟩:=yN hM x y;have bf:=qeK J (((w.alloc (.cells (ak x) 33)).alloc (.cells (ak y) 33)).alloc (.cells zA 33));rw[H.hJ]at bf
 have jT:w.heap.size+3=((((w.alloc (.cells (ak x) 33)).alloc (.cells (ak y) 33)).alloc (.cells zA 33))).heap.size:=by simp
 generalize hW:((w.alloc (.cells (ak x) 33)).alloc (.cells (ak y) 33)).alloc (.cells zA 33)=W at*;have HW:=ae hW;have aW:=ae bf;have HE:=ae aV;have HS:Hid (jU w.heap.size x y W):=⟨ky,vJ⟩;have dY:=ae bL;have ui:=ae dD;have HH:=ae H;have gK:Hid (∀g,Mx M w.heap.size (w.heap.size+3) g->M g\/w.heap.size<=g):=Mx.more (aI _);clear aV ky vJ bL dD hW hM H bf
 go_enter Tryz.func81,Tryz.ntmps81
 go_upto_region 1 with(fail)
 rw[HW.out];clear HW;go_wp2_with (fail);refine aW.out.mono ?_;rintro e w1 ⟨rfl,rfl⟩;clear aW
 go_upto_region 3 with(fail)
 have yE:Hid (jU w.heap.size x y W.drew):=HS.out.ext (aA _).drew;have ql:Hid (Ext w W.drew):=HE.out.trans (aA _).drew;have LU:=ae (dY.out.ext (aA W).drew);have Cn:Hid (Mb (Mx M w.heap.size (w.heap.size+3)) W.drew):=ui.out.ext (aA W).drew
 have hwd:w.heap.size+2<W.drew.heap.size:=by have:=(aA W).drew.size;omega
 clear HS HE dY ui jT;refine gB (jU w.heap.size x y) 8 (by kernel_rfl) yE.out (λhHeld=>?_);generalize W.drew=wd at*;(refine cB [0,1,3,4] ?_;(iterate 4 (refine bZ (v:=?_) ?_ ?_;rotate_left 1;(intro wS hSw;obtain⟨⟨S1,S2,S3,S4⟩,S5,S6,S7,S8⟩:=hSw;go_simp;try with_reducible rfl);(try simp only[Act.put,aB,aC,aD])));refine cK ?_);((refine aO 2 ?_;intro K hK);go_simp;(refine(HH.out.dx wd ql.out).mono ?_);rintro e_ v1 ⟨rfl,d1⟩;go_wp2_with (fail);(try clear ag);(have ag:=hHeld.ext d1);(refine hK.out _ _ (λ_=>ag) ?_);clear hK K;(try simp only[Act.put,aB,aC,aD]));((refine aO 5 ?_;intro K hK);go_simp;(refine(HH.out.dy v1 (ql.out.trans d1)).mono ?_);rintro e_ v2 ⟨rfl,d2⟩;go_wp2_with (fail);(try clear ag);(have ag:=hHeld.ext (d1.trans d2));(refine hK.out _ _ (λ_=>ag) ?_);clear hK K;(try simp only[Act.put,aB,aC,aD]));(refine cB [6,7] ?_;(iterate 2 (refine bZ (v:=?_) ?_ ?_;rotate_left 1;(intro wS hSw;obtain⟨⟨S1,S2,S3,S4⟩,S5,S6,S7,S8⟩:=hSw;go_simp;try with_reducible rfl);(try simp only[Act.put,aB,aC,aD])));refine cK ?_);refine dX ?_;have aZ:=ae (ql.out.trans (d1.trans d2));have pM:Hid (jU w.heap.size x y v2):=yE.out.ext (d1.trans d2);have eG:=ae (LU.out.ext (d1.trans d2));have gJ:Hid (Mb (Mx M w.heap.size (w.heap.size+3)) v2):=Cn.out.ext (d1.trans d2);have iQ:w.heap.size+2<v2.heap.size:=dH hwd (d1.trans d2).size
 have Pk:=ae HH.out.b;clear hHeld ag d1 d2 yE ql LU Cn hwd
 by_cases hm:m<0
 ·have HZ:=ae (HH.out.z (.inl hm));obtain⟨⟨q0,q1,q2,q3⟩,⟨f0,f1,f2,f3⟩,⟨r0,r1,r2,r3⟩,HF⟩:=iF (M:=M) (M':=Mx M w.heap.size (w.heap.size+3)) (w:=w) (L:=4) (l:=[]) (y:=PE.z) eG.out (Mx.at (by omega)) (by omega) aZ.out (CR.zero _ _ 4) Mx.sub;have dI:=ae ((HF.dh HZ.out).Jk 0);simp only[PE.z]at r0 r1 r2 r3;clear HF eG aZ gJ pM HH HZ Pk gK;go_wp2;exact bu (v:=.tuple #[.agg (ak PE.z),.int .i64 0]) (by simp[results,Tryz.results81,go_sem,r0,r1,r2,r3,PE.z]) rfl dI.out
 ·by_cases hn:n<0
  ·have HZ:=ae (HH.out.z (.inr hn));obtain⟨⟨q0,q1,q2,q3⟩,⟨f0,f1,f2,f3⟩,⟨r0,r1,r2,r3⟩,HF⟩:=iF (M:=M) (M':=Mx M w.heap.size (w.heap.size+3)) (w:=w) (L:=4) (l:=[]) (y:=PE.z) eG.out (Mx.at (by omega)) (by omega) aZ.out (CR.zero _ _ 4) Mx.sub;have dI:=ae ((HF.dh HZ.out).Jk 0);simp only[PE.z]at r0 r1 r2 r3;clear HF eG aZ gJ pM HH HZ Pk gK;go_wp2;exact bu (v:=.tuple #[.agg (ak PE.z),.int .i64 0]) (by simp[results,Tryz.results81,go_sem,r0,r1,r2,r3,PE.z]) rfl dI.out
  ·by_cases h0:m=0
   ·have CP:=ae (HH.out.p h0 (by omega) (Mx M w.heap.size (w.heap.size+3)) v2 gJ.out gK.out aZ.out);obtain⟨⟨S1,S2,S3,S4⟩,S5,S6,S7,S8⟩:=pM.out;clear HH Pk;go_wp2_with (fail);refine CP.out.mono ?_;rintro e w3 ⟨v,rfl,hv,e3⟩;obtain⟨⟨q0,q1,q2,q3⟩,⟨f0,f1,f2,f3⟩,⟨r0,r1,r2,r3⟩,HF⟩:=iF (M:=M) (w:=w) (eG.out.ext e3) (Mx.at (by omega)) (by omega) (aZ.out.trans e3) hv Mx.sub;have dI:=ae (HF.Jk 0);have lC:w.heap.size+2<w3.heap.size:=dH iQ e3.size;clear HF eG aZ gJ pM CP gK hv e3 S1 S2 S3 S4 S5 S6 S7 S8 iQ;go_wp2;exact bu (v:=.tuple #[.agg (ak v),.int .i64 0]) (by simp[results,Tryz.results81,go_sem,r0,r1,r2,r3]) rfl dI.out
   ·have wR:(m==0)=false:=by simp[h0]
    by_cases jg:n=0
    ·have CP:=ae (HH.out.q (by omega) jg (Mx M w.heap.size (w.heap.size+3)) v2 gJ.out gK.out aZ.out);obtain⟨⟨S1,S2,S3,S4⟩,S5,S6,S7,S8⟩:=pM.out;clear HH Pk;go_wp2_with (fail);refine CP.out.mono ?_;rintro e w3 ⟨v,rfl,hv,e3⟩;obtain⟨⟨q0,q1,q2,q3⟩,⟨f0,f1,f2,f3⟩,⟨r0,r1,r2,r3⟩,HF⟩:=iF (M:=M) (w:=w) (eG.out.ext e3) (Mx.at (by omega)) (by omega) (aZ.out.trans e3) hv Mx.sub;have dI:=ae (HF.Jk 0);have lC:w.heap.size+2<w3.heap.size:=dH iQ e3.size;clear HF eG aZ gJ pM CP gK hv e3 S1 S2 S3 S4 S5 S6 S7 S8 iQ;go_wp2;exact bu (v:=.tuple #[.agg (ak v),.int .i64 0]) (by simp[results,Tryz.results81,go_sem,r0,r1,r2,r3]) rfl dI.out
    ·have CC:=ae (HH.out.c (by omega) (by omega) (Mx M w.heap.size (w.heap.size+3)) v2 gJ.out gK.out aZ.out);have Py:=ae (HH.out.f (by omega) (by omega))
     have kT:(n==0)=false:=by simp[jg]
     obtain⟨⟨S1,S2,S3,S4⟩,S5,S6,S7,S8⟩:=pM.out;clear HH;go_wp2_with (fail);refine CC.out.mono ?_;rintro e w3 ⟨vl,rfl,hl,e3⟩;obtain⟨ul,rfl,HL⟩:=hl.qzZ;obtain⟨gl,rfl,fA,hk⟩:=HL.out Py.out.1;obtain⟨za,hza,hxa⟩:=hk.kI 0 Py.out.1;obtain⟨c0,c1,c2,c3⟩:=hza;simp only[Nat.zero_mul,Nat.zero_add]at c0 c1 c2 c3;have hv:aN (Mx M w.heap.size (w.heap.size+3)) w3 4 za r:=(hxa.dh Py.out.2).more λb hb=>.inl (.inl hb);obtain⟨⟨q0,q1,q2,q3⟩,⟨f0,f1,f2,f3⟩,⟨r0,r1,r2,r3⟩,HF⟩:=iF (M:=M) (w:=w) (eG.out.ext e3) (Mx.at (by omega)) (by omega) (aZ.out.trans e3) hv Mx.sub;have dI:=ae (HF.Jk 0);have lC:w.heap.size+2<w3.heap.size:=dH iQ e3.size;have Rp:=hk.lt
     have Wq:(0:Int)<(N:Int):=by have:=Py.out.1;omega
     clear HF eG aZ gJ pM CC gK hv hl hk hxa HL Py Pk e3 S1 S2 S3 S4 S5 S6 S7 S8 iQ fA;go_wp2;exact bu (v:=.tuple #[.agg (ak za),.int .i64 0]) (by simp[results,Tryz.results81,go_sem,r0,r1,r2,r3]) rfl dI.out
theorem Gn.qpR{J m n β:Nat}{f g:List Tm}(H:Gn J m n β f g)(hb:β<=6)(M:Nat->Prop)(x y:PE)(w:World)(hM:Mb M w)(hx:aN M w 4 x f)(hy:aN M w 4 y g):
 Calls Tryz.prog 81 #[.agg (ak x),.agg (ak y),.int .i64 (J:Int)] w (lI M w 4 (SJ J 0 m n f g) 0):=by
 have h6:=H.m6;have h7:=H.n6;refine qp5 M x y (J:Int) m n (min m n) (λj=>SJ J j m n f g) _ w hM ⟨SN H.h1 H.h4,by omega,λwk he=>H.Qy M x wk (hM.ext he) (hx.ext he),λwk he=>H.swap.Qy M y wk (hM.ext he) (hy.ext he),λh=>by omega,λh0 _ M' wk kN hm he=>?_,λh0 _ M' wk kN hm he=>?_,λ_ _ M' wk kN hm he=>H.chain M' x y wk kN ((hx.more hm).ext he) ((hy.more hm).ext he),λ_ _=>⟨by omega,af.refl _⟩⟩
 ·obtain rfl:m=0:=by omega
  exact(OO H.sf (by omega) (by have:=Nat.mul_le_mul h7 hb;omega) (by omega) M' wk x kN ((hx.more hm).ext he)).mono λe w' h=>h.dh (Ym H.h1 H.h4 H.sf.n H.sg.n H.df n).symm
 ·obtain rfl:n=0:=by omega
  exact(OO H.sg (by omega) (by have:=Nat.mul_le_mul h6 hb;omega) (by omega) M' wk y kN ((hy.more hm).ext he)).mono λe w' h=>h.dh (qeC H.h1 H.h4 H.sf.n H.sg.n H.dg m).symm
theorem Gn.qpS{J m n:Nat}{f g:List Tm}(H:Gn J m n 4 f g)(M:Nat->Prop)(x y:PE)(w:World)(hM:Mb M w)(hx:aN M w 4 x f)(hy:aN M w 4 y g):
 Calls Tryz.prog 81 #[.agg (ak x),.agg (ak y),.int .i64 (J:Int)] w (lI M w 4 (SJ J 0 m n f g) 0):=H.qpR (by decide) M x y w hM hx hy
theorem qA3{J:Nat}(h1:1<=J)(h4:J<=4){f g:List Tm}(nf:NN f)(ng:NN g)(hz:af f []\/af g [])(df:bH 100 f)(dg:bH 100 g)(M:Nat->Prop)(x y:PE)(w:World)(hM:Mb M w)(hx:aN M w 4 x f)(hy:aN M w 4 y g):
 Calls Tryz.prog 81 #[.agg (ak x),.agg (ak y),.int .i64 (J:Int)] w (lI M w 4 [] 0):=by
 have key:∀{l:List Tm},NN l->bH 100 l->∃z:Int,O8 J l z/\ -1<=z/\z<=100/\(af l []->z<0):=λ{l} nl dl=>by
  by_cases h:af l []
  ·exact⟨-1,.inl ⟨h,rfl⟩,by omega,by omega,λ_=>by omega⟩
  ·obtain⟨a,ha⟩:=Kg (k:=J) nl;have:=VP ha dl;exact⟨a,.inr ⟨h,a,ha,rfl⟩,by omega,by omega,λhs=>absurd hs h⟩
 obtain⟨m,hm,m1,m2,m3⟩:=key nf df;obtain⟨n,hn,n1,n2,n3⟩:=key ng dg;have Im:m<0\/n<0:=hz.imp m3 n3;exact qp5 M x y (J:Int) m n 0 (λ_=>[]) _ w hM ⟨SN h1 h4,by omega,λwk he=>Oy M x f J m wk h1 h4 nf hm (hM.ext he) (hx.ext he).pi,λwk he=>Oy M y g J n wk h1 h4 ng hn (hM.ext he) (hy.ext he).pi,λ_=>af.refl _,λ_ _=>by omega,λ_ _=>by omega,λ_ _=>by omega,λ_ _=>by omega⟩
theorem qoc(L:Int)(b:Bool)(hb:b=true↔1<=L/\L<=4)(w:World):Calls Tryz.prog 42 #[.int .i64 L] w λe w'=>e=.returned (.bool b)/\w'=w:=by
 go_enter Tryz.func42,Tryz.ntmps42
 by_cases h1:1<=L
 ·by_cases h4:L<=4
  ·obtain rfl:b=true:=hb.2 ⟨h1,h4⟩;clear hb;go_wp2;go_ret;exact⟨rfl,rfl⟩
  ·obtain rfl:b=false:=by
    cases b with
    |false=>rfl
    |true=>exact absurd (hb.1 rfl).2 h4
   clear hb;go_wp2;go_ret;exact⟨rfl,rfl⟩
 ·obtain rfl:b=false:=by
   cases b with
   |false=>rfl
   |true=>exact absurd (hb.1 rfl).1 h1
  clear hb;go_wp2;go_ret;exact⟨rfl,rfl⟩
theorem qyN(M:Nat->Prop)(x y:PE)(L er:Int)(r:List Tm)(w:World)(hM:Mb M w)
 (H:∀(M':Nat->Prop) wk,Mb M' wk->(∀g,M' g->M g\/w.heap.size<=g)->Ext w wk->Calls Tryz.prog 81 #[.agg (ak x),.agg (ak y),.int .i64 L] wk (lI M' wk 4 r er)):
 Calls Tryz.prog 44 #[.agg (ak x),.agg (ak y),.int .i64 L] w (dO M w 4 r):=by
 obtain⟨aV,ky,vJ,bL,dD⟩:=yN hM x y
 have jT:w.heap.size+3=((((w.alloc (.cells (ak x) 33)).alloc (.cells (ak y) 33)).alloc (.cells zA 33))).heap.size:=by simp
 generalize hW:((w.alloc (.cells (ak x) 33)).alloc (.cells (ak y) 33)).alloc (.cells zA 33)=W at*;have HW:=ae hW;have HE:=ae aV;have dY:=ae bL;have CC:=ae (H (Mx M w.heap.size (w.heap.size+3)) W dD (Mx.more (aI _)) aV);obtain⟨x0,x1,x2,x3⟩:=ky;obtain⟨y0,y1,y2,y3⟩:=vJ;clear aV bL dD hW hM H
 go_enter Tryz.func44,Tryz.ntmps44
 go_upto_region 1 with(fail)
 rw[HW.out];clear HW;go_wp2_with (fail);refine CC.out.mono ?_;rintro e w3 ⟨v,rfl,hv,e3⟩;have HV:=ae hv;have dM:=ae e3
 have lC:w.heap.size+2<w3.heap.size:=by have:=e3.size;omega
 clear hv e3 CC x0 x1 x2 x3 y0 y1 y2 y3 jT
 go_upto_region 2 with(fail)
 obtain⟨W4,gG⟩:∃W4,W4=w3.alloc (.cells #[.int .i64 v.lv,.bool v.b,.slice v.a v.n v.p,.slice v.ka v.kn v.kp] 33):=⟨_,rfl⟩
 have eb:Ext w3 W4:=by rw[gG];exact(aA w3).alloc _
 have hP:P4 W4 w3.heap.size v:=by rw[gG];exact(aG.bq w3 (ak v) 33 4 rfl).p4
 have hlt:w3.heap.size<W4.heap.size:=by rw[gG];simp
 rw[<-gG];obtain⟨v0,v1,v2,v3⟩:=hP;obtain⟨⟨q0,q1,q2,q3⟩,⟨f0,f1,f2,f3⟩,⟨r0,r1,r2,r3⟩,HF⟩:=iF (M:=M) (w:=w) ((dY.out.ext dM.out).ext eb) (Mx.at (by omega)) (by omega) ((HE.out.trans dM.out).trans eb) (HV.out.ext eb) Mx.sub;have dI:=ae HF;clear HF HV dY HE dM eb gG;go_wp2;exact bu (v:=.agg (ak v)) (by simp[results,Tryz.results44,go_sem,r0,r1,r2,r3]) rfl dI.out
structure qim(M':Nat->Prop)(wd W:World)(a:Nat)(x:PE)(l:List Tm):Prop where
 e:Ext wd W
 b:aG W a 33 4 (arr (ak x))
 x:aN (M9 M' (some a) none) W 4 x l
 w:wd.heap.size<=a
theorem S9.qex{M':Nat->Prop}{wd wk:World}{a:Nat}{x:PE}{l:List Tm}(h:S9 M' wd wk (some a) none)(hx:aN (M9 M' (some a) none) wk 4 x l):
 ∃W1,W1=aM wk a 0 (.int .i64 x.lv) (.bool x.b) (.slice x.a x.n x.p) (.slice x.ka x.kn x.kp)/\Z4 wk a/\LM wk a/\qim M' wd W1 a x l:=by
 obtain⟨hB,hw⟩:=h.a a rfl;exact⟨_,rfl,hB.z4,hB.Nu,h.e.aM hw _ _ _ _ _,Ka hB x,hx.kp (Kp.aM (.inr (.inl rfl)) _ _ _ _ _),hw⟩
theorem qzd(M:Nat->Prop)(x:PE)(l:List Tm)(J n:Nat)(w:World)(h1:1<=J)(h4:J<=4)(hz:¬af l [])(hd:bE J l n)(hs:Sz 4 20 l)(hM:Mb M w)(h:aN M w 4 x l):Calls Tryz.prog 115 #[.agg (ak x),.int .i64 (J:Int)] w (dO M w 4 (aQ J n (jc J l))):=by
 refine(qol M x l (J:Int) 4 w hM h.pi hs.d (by decide) (by decide) (aR hs.a (by decide))).mono ?_;rintro e w' ⟨v,s,rfl,hv,kC,he⟩;rcases kC with⟨k|k,_⟩|⟨_,J',b,k0,_,_,hb,rfl⟩
 ·exact absurd k hz
 ·exact absurd ⟨by omega,by omega⟩ k
 ·obtain rfl:J=J':=by omega
  rw[G5 hs.n hz hd hb];exact⟨v,rfl,hv,he⟩
theorem Gn.quB{J n:Nat}(h1:1<=J)(h4:J<=4){f:List Tm}(hn:1<=n)(xX:n<=4)(hf:Sz 4 20 f)(df:bE J f n):Gn J n (n-1) 4 f (aQ J n (jc J f)):=by
 have zf:¬af f []:=df.nz h1 h4 (by omega);have hg:=(qBS h1 h4 (show n<=100 by omega) hf).mono (aI 4) (show 21<=1000 by decide);refine Gn.qo4 h1 h4 (hf.mono (aI _) (by decide)) hg zf (λhs=>?_) df (qjl h1 h4 hf.n hn df) xX (by omega);have hl:¬af (ck J (n:Int) f) []:=uG h1 h4 hf.n df zf;obtain⟨k,rfl⟩:∃k,n=k+1:=⟨n-1,by omega⟩;have h2:=Vz h1 h4 f (k+1) k;rw[ai (Nat.lt_succ_self k)]at h2;exact qjx hl (h2.symm.trans ((jk hs).trans (af.refl [])))
theorem qAH(M:Nat->Prop)(x:PE)(J:Nat)(z:Int)(l:List Tm)(w:World)(hM:Mb M w)(h1:1<=J)(h4:J<=4)(nl:NN l)(hz:O8 J l z)(hz1:z<1)(hx:aN M w 4 x l):
 Calls Tryz.prog 49 #[.agg (ak x),.int .i64 (J:Int)] w (lI M w 4 [] 12):=by
 obtain⟨aV,ky,bL,dD⟩:=Kb hM x;have bf:=qeK (J:Int) ((w.alloc (.cells (ak x) 33)).alloc (.cells zA 33));rw[SN h1 h4]at bf;have cd:=Oy (Mx M w.heap.size (w.heap.size+2)) x l J z ((w.alloc (.cells (ak x) 33)).alloc (.cells zA 33)) h1 h4 nl hz dD ((hx.more (Mx.more (aI _))).ext aV).pi
 have jT:w.heap.size+1<((w.alloc (.cells (ak x) 33)).alloc (.cells zA 33)).heap.size:=by simp
 generalize hW:(w.alloc (.cells (ak x) 33)).alloc (.cells zA 33)=W at*;have HW:=ae hW;have aW:=ae bf;have CD:=ae cd;have dY:=ae bL;have gI:=ae aV;obtain⟨x0,x1,x2,x3⟩:=ky;clear aV bL dD hW hM bf cd hz nl h1 h4 hx
 go_enter Tryz.func49,Tryz.ntmps49
 go_upto_region 1 with(fail)
 rw[HW.out];clear HW;go_wp2_with (fail);refine aW.out.mono ?_;rintro e w1 ⟨rfl,rfl⟩;clear aW;go_wp2_with (fail);refine CD.out.mono ?_;rintro e w2 ⟨rfl,e2⟩;obtain⟨⟨q0,q1,q2,q3⟩,⟨f0,f1,f2,f3⟩,⟨r0,r1,r2,r3⟩,HF⟩:=iF (M:=M) (M':=Mx M w.heap.size (w.heap.size+2)) (w:=w) (L:=4) (l:=[]) (y:=PE.z) (dY.out.ext e2) (Mx.at (by omega)) (by omega) (gI.out.trans e2) (CR.zero _ _ 4) Mx.sub;have dI:=ae (HF.Jk 12);simp only[PE.z]at r0 r1 r2 r3;have iQ:w.heap.size+1<w2.heap.size:=dH jT e2.size;clear CD HF dY gI e2 x0 x1 x2 x3 jT;go_wp2;exact bu (v:=.tuple #[.agg (ak PE.z),.int .i64 12]) (by simp[results,Tryz.results49,go_sem,r0,r1,r2,r3,PE.z]) rfl dI.out
def qrh(M':Nat->Prop)(wd:World)(l:List Tm)(s7 s8:Value)(wx:World):Prop:=∃(a:Nat)(v:PE),s7=.pointer (some ⟨a,0,none⟩)/\s8=.int .i64 0/\qim M' wd wx a v l
def Y1(M':Nat->Prop)(w:World)(x:PE)(a:Nat)(l:List Tm)(wx:World):Prop:=∃vv:PE,P4 wx w.heap.size x/\aG wx (w.heap.size+1) 33 4 (arr zA)/\aG wx a 33 4 (arr (ak vv))/\aN M' wx 4 vv l/\Ext w wx/\Mb M' wx
def J7(b a:Nat)(x y:PE)(w:World):Prop:=P4 w b x/\P4 w a y
theorem J7.ext{b a:Nat}{x y:PE}{w w':World}(h:J7 b a x y w)(he:Ext w w'):J7 b a x y w':=⟨h.1.ext he,h.2.ext he⟩
structure RdC(M:Nat->Prop)(w:World)(x:PE)(J:Int)(n:Nat)(g R c u:List Tm):Prop where
 hJ:gm J=true
 b:1<=n/\n<=100
 dx:∀wk,Ext w wk->Calls Tryz.prog 43 #[.agg (ak x),.int .i64 J] wk λe w'=>e=.returned (.int .i64 (n:Int))/\Ext wk w'
 dr:∀(M':Nat->Prop) wk,Mb M' wk->(∀g,M' g->M g\/w.heap.size<=g)->Ext w wk->Calls Tryz.prog 115 #[.agg (ak x),.int .i64 J] wk (dO M' wk 4 g)
 rs:∀(M':Nat->Prop) wk y,Mb M' wk->(∀g,M' g->M g\/w.heap.size<=g)->Ext w wk->aN M' wk 4 y g->Calls Tryz.prog 81 #[.agg (ak x),.agg (ak y),.int .i64 J] wk (lI M' wk 4 R 0)
 ng:n%4>1->∀(M':Nat->Prop) wk y,Mb M' wk->aN M' wk 4 y R->Calls Tryz.prog 116 #[.agg (ak y)] wk (dO M' wk 4 (dN R))
 ld:∀(M':Nat->Prop) wk,Mb M' wk->(∀g,M' g->M g\/w.heap.size<=g)->Ext w wk->Calls Tryz.prog 117 #[.agg (ak x),.int .i64 J] wk (dO M' wk 4 c)
 ex:∀(M':Nat->Prop) wk y z,Mb M' wk->aN M' wk 4 y (vU n R)->aN M' wk 4 z c->Calls Tryz.prog 14 #[.agg (ak y),.agg (ak z)] wk (lI M' wk 4 u 0)
theorem qpN(M:Nat->Prop)(x:PE)(J:Int)(n:Nat)(g R c u:List Tm)(w:World)(hM:Mb M w)(H:RdC M w x J n g R c u):
 Calls Tryz.prog 49 #[.agg (ak x),.int .i64 J] w (lI M w 4 u 0):=by
 obtain⟨aV,ky,bL,dD⟩:=Kb hM x;have bf:=qeK J ((w.alloc (.cells (ak x) 33)).alloc (.cells zA 33));rw[H.hJ]at bf
 have jT:w.heap.size+1<((w.alloc (.cells (ak x) 33)).alloc (.cells zA 33)).heap.size:=by simp
 have cd:=H.dx _ aV;generalize hW:(w.alloc (.cells (ak x) 33)).alloc (.cells zA 33)=W at*;have HW:=ae hW;have aW:=ae bf;have CD:=ae cd;have dY:=ae bL;have gI:=ae aV;have ui:=ae dD;have HH:=ae H;have CW:Hid (P4 W w.heap.size x):=ky
 have kT:(1:Int)<=(n:Int):=by have:=H.b.1;omega
 have qEO:(n:Int)<=100:=by have:=H.b.2;omega
 have gK:Hid (∀g,Mx M w.heap.size (w.heap.size+2) g->M g\/w.heap.size<=g):=Mx.more (aI _);clear aV bL dD hW hM bf cd H ky;obtain⟨x0,x1,x2,x3⟩:=CW.out
 go_enter Tryz.func49,Tryz.ntmps49
 go_upto_region 1 with(fail)
 rw[HW.out];clear HW;go_wp2_with (fail);refine aW.out.mono ?_;rintro e w1 ⟨rfl,rfl⟩;clear aW;go_wp2_with (fail);refine CD.out.mono ?_;rintro e w2 ⟨rfl,e2⟩;have lY:Hid (P4 w2 w.heap.size x):=CW.out.ext e2;have eG:=ae (dY.out.ext e2);have aZ:=ae (gI.out.trans e2);have gJ:Hid (Mb (Mx M w.heap.size (w.heap.size+2)) w2):=ui.out.ext e2;have iQ:w.heap.size+1<w2.heap.size:=dH jT e2.size;clear CD CW dY gI ui jT e2 x0 x1 x2 x3
 go_upto_region 6 with(fail)
 have bI:Ext w2 w2.drew:=(aA w2).drew;have Az:Hid (P4 w2.drew w.heap.size x):=lY.out.ext bI;have LU:=ae (eG.out.ext bI);have ql:=ae (aZ.out.trans bI);have Cn:Hid (Mb (Mx M w.heap.size (w.heap.size+2)) w2.drew):=gJ.out.ext bI;have hwd:w.heap.size+1<w2.drew.heap.size:=dH iQ bI.size;clear lY eG aZ gJ iQ bI
 go_cut [7,8] (qrh (Mx M w.heap.size (w.heap.size+2)) w2.drew R)
 case first=>
  refine gB (λW=>P4 W w.heap.size x) 12 (by kernel_rfl) Az.out (λhHeld=>?_);have S0:=S9.start Cn.out;generalize w2.drew=wd at*;have C1:Hid (∀A B wk,S9 (Mx M w.heap.size (w.heap.size+2)) wd wk A B->Calls Tryz.prog 115 #[.agg (ak x),.int .i64 J] wk (dO (M9 (Mx M w.heap.size (w.heap.size+2)) A B) wk 4 g)):=λA B wk S=>HH.out.dr _ wk S.mb (λb hb=>(S.sub b hb).elim (gK.out b) λq=>.inr (by have:=ql.out.size;omega)) (ql.out.trans S.e);have C2:Hid (∀A B wk,S9 (Mx M w.heap.size (w.heap.size+2)) wd wk A B->∀y,aN (M9 (Mx M w.heap.size (w.heap.size+2)) A B) wk 4 y g->Calls Tryz.prog 81 #[.agg (ak x),.agg (ak y),.int .i64 J] wk (lI (M9 (Mx M w.heap.size (w.heap.size+2)) A B) wk 4 R 0)):=λA B wk S y hy=>HH.out.rs _ wk y S.mb (λb hb=>(S.sub b hb).elim (gK.out b) λq=>.inr (by have:=ql.out.size;omega)) (ql.out.trans S.e) hy;clear Az LU ql Cn gK HH hwd;(refine cB [0,1,2,4] ?_;(iterate 4 (refine bZ (v:=?_) ?_ ?_;rotate_left 1;(intro wS hSw;obtain⟨A1,A2,A3,A4⟩:=hSw;go_simp;try with_reducible rfl);(try simp only[Act.put,aB,aC,aD])));refine cK ?_);(refine pI 3 9 (oi:=?_) (oj:=?_) (by kernel_rfl) ?_ ?_ ?_ ?_;rotate_left 2;(simp only[fC,fD,fE];rfl);(simp only[fC,fD,fE];rfl);all_goals intro K hK)
  ·go_simp;refine(C1.out _ _ wd S0).mono ?_;rintro e v1 ⟨d,rfl,hd,D⟩;go_wp2_with (fail);have S1:=S0.call D;clear D
   try clear ag
   have ag:=hHeld.ext S1.e;refine hK.out _ _ (λ_=>ag) ?_;clear hK K;(try simp only[Act.put,aB,aC,aD]);(refine pI 5 9 (oi:=?_) (oj:=?_) (by kernel_rfl) ?_ ?_ ?_ ?_;rotate_left 2;(simp only[fC,fD,fE];rfl);(simp only[fC,fD,fE];rfl);all_goals intro K hK)
   ·go_simp;refine(C2.out _ _ v1 S1 _ hd).mono ?_;rintro e v2 ⟨r,rfl,hr,D⟩;go_wp2_with (fail);have S2:=S1.call D;replace hd:=hd.ext D;clear D
    try clear ag
    have ag:=hHeld.ext S2.e;refine hK.out _ _ (λ_=>ag) ?_;clear hK K;(try simp only[Act.put,aB,aC,aD]);(refine cB [6,7,8] ?_;(iterate 3 (refine bZ (v:=?_) ?_ ?_;rotate_left 1;(intro wS hSw;obtain⟨A1,A2,A3,A4⟩:=hSw;go_simp;try with_reducible rfl);(try simp only[Act.put,aB,aC,aD])));refine cK ?_);(refine aO 9 ?_;intro K hK);go_simp;have S3:=S2.ve;replace hd:=S2.mK hd;replace hr:=S2.mK hr
    try clear ag
    have ag:=hHeld.ext S3.e;refine hK.out _ _ (λ_=>ag) ?_;clear hK K;(try simp only[Act.put,aB,aC,aD]);generalize v2.alloc (.cells zA 33)=v3 at*;generalize v2.heap.size=g3 at*;obtain⟨W1,hW1,⟨q0,q1,q2,q3⟩,⟨f0,f1,f2,f3⟩,eD⟩:=S3.qex hr;unfold aM at hW1;have je:=hHeld.ext eD.e;clear ag;(refine aO 10 ?_;intro K hK);go_simp;rw[<-hW1];clear hW1;refine hK.out _ _ (λ_=>je) ?_;clear hK K q0 q1 q2 q3 f0 f1 f2 f3;(try simp only[Act.put,aB,aC,aD]);have ag:=je;(refine cB [11] ?_;(iterate 1 (refine bZ (v:=?_) ?_ ?_;rotate_left 1;(intro wS hSw;obtain⟨A1,A2,A3,A4⟩:=hSw;go_simp;try with_reducible rfl);(try simp only[Act.put,aB,aC,aD])));refine cK ?_);refine dX ?_;go_wp2_with (fail)
    go_meet
    exact⟨_,_,rfl,rfl,eD⟩
   ·go_simp;have S4:=S1.ve;replace hd:=S1.mK hd
    try clear ag
    have ag:=hHeld.ext S4.e;refine hK.out _ _ (λ_=>ag) ?_;clear hK K;(try simp only[Act.put,aB,aC,aD]);generalize v1.alloc (.cells zA 33)=v4 at*;generalize v1.heap.size=g4 at*;(refine aO 5 ?_;intro K hK);go_simp;refine(C2.out _ _ v4 S4 _ hd).mono ?_;rintro e v5 ⟨r,rfl,hr,D⟩;go_wp2_with (fail);have S5:=S4.call D;replace hd:=hd.ext D;clear D
    try clear ag
    have ag:=hHeld.ext S5.e;refine hK.out _ _ (λ_=>ag) ?_;clear hK K;(try simp only[Act.put,aB,aC,aD]);(refine cB [6,7,8] ?_;(iterate 3 (refine bZ (v:=?_) ?_ ?_;rotate_left 1;(intro wS hSw;obtain⟨A1,A2,A3,A4⟩:=hSw;go_simp;try with_reducible rfl);(try simp only[Act.put,aB,aC,aD])));refine cK ?_);obtain⟨W1,hW1,⟨q0,q1,q2,q3⟩,⟨f0,f1,f2,f3⟩,eD⟩:=S5.qex hr;unfold aM at hW1;have je:=hHeld.ext eD.e;clear ag;(refine aO 10 ?_;intro K hK);go_simp;rw[<-hW1];clear hW1;refine hK.out _ _ (λ_=>je) ?_;clear hK K q0 q1 q2 q3 f0 f1 f2 f3;(try simp only[Act.put,aB,aC,aD]);have ag:=je;(refine cB [11] ?_;(iterate 1 (refine bZ (v:=?_) ?_ ?_;rotate_left 1;(intro wS hSw;obtain⟨A1,A2,A3,A4⟩:=hSw;go_simp;try with_reducible rfl);(try simp only[Act.put,aB,aC,aD])));refine cK ?_);refine dX ?_;go_wp2_with (fail)
    go_meet
    exact⟨_,_,rfl,rfl,eD⟩
  ·go_simp;have S6:=S0.ve
   try clear ag
   have ag:=hHeld.ext S6.e;refine hK.out _ _ (λ_=>ag) ?_;clear hK K;(try simp only[Act.put,aB,aC,aD]);generalize wd.alloc (.cells zA 33)=v6 at*;generalize wd.heap.size=g6 at*;(refine aO 3 ?_;intro K hK);go_simp;refine(C1.out _ _ v6 S6).mono ?_;rintro e v7 ⟨d,rfl,hd,D⟩;go_wp2_with (fail);have S7:=S6.call D;clear D
   try clear ag
   have ag:=hHeld.ext S7.e;refine hK.out _ _ (λ_=>ag) ?_;clear hK K;(try simp only[Act.put,aB,aC,aD]);(refine aO 5 ?_;intro K hK);go_simp;refine(C2.out _ _ v7 S7 _ hd).mono ?_;rintro e v8 ⟨r,rfl,hr,D⟩;go_wp2_with (fail);have S8:=S7.call D;replace hd:=hd.ext D;clear D
   try clear ag
   have ag:=hHeld.ext S8.e;refine hK.out _ _ (λ_=>ag) ?_;clear hK K;(try simp only[Act.put,aB,aC,aD]);(refine cB [6,7,8] ?_;(iterate 3 (refine bZ (v:=?_) ?_ ?_;rotate_left 1;(intro wS hSw;obtain⟨A1,A2,A3,A4⟩:=hSw;go_simp;try with_reducible rfl);(try simp only[Act.put,aB,aC,aD])));refine cK ?_);obtain⟨W1,hW1,⟨q0,q1,q2,q3⟩,⟨f0,f1,f2,f3⟩,eD⟩:=S8.qex hr;unfold aM at hW1;have je:=hHeld.ext eD.e;clear ag;(refine aO 10 ?_;intro K hK);go_simp;rw[<-hW1];clear hW1;refine hK.out _ _ (λ_=>je) ?_;clear hK K q0 q1 q2 q3 f0 f1 f2 f3;(try simp only[Act.put,aB,aC,aD]);have ag:=je;(refine cB [11] ?_;(iterate 1 (refine bZ (v:=?_) ?_ ?_;rotate_left 1;(intro wS hSw;obtain⟨A1,A2,A3,A4⟩:=hSw;go_simp;try with_reducible rfl);(try simp only[Act.put,aB,aC,aD])));refine cK ?_);refine dX ?_;go_wp2_with (fail)
   go_meet
   exact⟨_,_,rfl,rfl,eD⟩
 case rest=>
  obtain⟨a,v,rfl,rfl,HP⟩:=hcut;have Aw:Hid (P4 wc w.heap.size x):=Az.out.ext HP.e;have lT:=ae (LU.out.ext HP.e);have dM:=ae (ql.out.trans HP.e);have xB:=ae HP.x;have yo:=ae HP.b
  have hwa:w.heap.size+1<a:=by have:=HP.w;omega
  have pK:Hid (Mb (M9 (Mx M w.heap.size (w.heap.size+2)) (some a) none) wc):=λb hb=>hb.elim (λq=>dH (Cn.out b q) HP.e.size) λq=>by
   rcases q with q|q
   ·cases q;exact HP.b.lt
   ·cases q
  have UJ:Hid (∀b,M9 (Mx M w.heap.size (w.heap.size+2)) (some a) none b->M b\/w.heap.size<=b):=λb hb=>hb.elim (gK.out b) λq=>by
   rcases q with q|q
   ·cases q;exact .inr (by omega)
   ·cases q
  clear HP Az LU ql Cn gK hwd;obtain⟨W3,pV⟩:∃W3,W3=wc:=⟨_,rfl⟩
  go_upto_if 34 with(fail)
  clear pV
  go_cut [7] (λs7 wx=>s7=.pointer (some ⟨a,0,none⟩)/\Y1 (M9 (Mx M w.heap.size (w.heap.size+2)) (some a) none) w x a (vU n R) wx)
  case first=>
   by_cases hs:n%4>1
   ·have ht:1<((n:Nat):Int)%4:=by omega
    have e1:Hid (vU n R=dN R):=ai hs;have CN:=ae (HH.out.ng hs _ wc v pK.out xB.out);obtain⟨v0,v1,v2,v3⟩:=yo.out.p4;clear hs HH;go_wp2_with (fail);refine CN.out.mono ?_;rintro e w5 ⟨vv,rfl,IB,e5⟩;have E8:=yo.out.ext e5;obtain⟨q0,q1,q2,q3⟩:=E8.p4;obtain⟨f0,f1,f2,f3⟩:=E8.Nu
    have HF:Hid (Y1 (M9 (Mx M w.heap.size (w.heap.size+2)) (some a) none) w x a (vU n R) (aM w5 a 0 (.int .i64 vv.lv) (.bool vv.b) (.slice vv.a vv.n vv.p) (.slice vv.ka vv.kn vv.kp))):=by
     refine⟨vv,sH (Aw.out.ext e5) (iI _ _ _ _ _ _ _ _ (by omega)),(lT.out.ext e5).of_heap (iI w5 a 0 (.int .i64 vv.lv) (.bool vv.b) (.slice vv.a vv.n vv.p) (.slice vv.ka vv.kn vv.kp) _ (by omega)),Ka E8 vv,?_,(dM.out.trans e5).aM (show w.heap.size<=a by omega) 0 (.int .i64 vv.lv) (.bool vv.b) (.slice vv.a vv.n vv.p) (.slice vv.ka vv.kn vv.kp),λb hb=>by rw[nW];exact dH (pK.out b hb) e5.size⟩;rw[e1.out];exact IB.kp (Kp.aM (.inr (.inl rfl)) (0) (.int .i64 vv.lv) (.bool vv.b) (.slice vv.a vv.n vv.p) (.slice vv.ka vv.kn vv.kp))
    have halt:a<w5.heap.size:=E8.lt;clear E8 IB e5 CN e1 Aw lT dM xB yo pK UJ v0 v1 v2 v3 ht;go_wp2
    go_meet
    exact⟨rfl,HF.out⟩
   ·have ht:¬1<((n:Nat):Int)%4:=by omega
    have HF:Hid (Y1 (M9 (Mx M w.heap.size (w.heap.size+2)) (some a) none) w x a (vU n R) wc):=⟨v,Aw.out,lT.out,yo.out,by rw[show vU n R=R from ah hs];exact xB.out,dM.out,pK.out⟩;clear hs HH Aw lT dM xB yo pK UJ;go_wp2
    go_meet
    exact⟨rfl,HF.out⟩
  case rest=>
   obtain⟨rfl,vv,hX4,kL,hA4,hV4,fI,pU⟩:=hcut;have yG:=ae hX4;have rG:=ae kL;have Gc:=ae hA4;have P5:=ae hV4;have eX:=ae fI;have wF:=ae pU;clear hX4 kL hA4 hV4 fI pU Aw lT dM xB yo pK
   go_upto_region 11 with(fail)
   have bI:Ext wc wc.drew:=(aA wc).drew;have iG:Hid (J7 w.heap.size a x vv wc.drew):=⟨yG.out.ext bI,(Gc.out.ext bI).p4⟩;have oQ:=ae (rG.out.ext bI);have JO:=ae (P5.out.ext bI);have dV:=ae (eX.out.trans bI);have uR:Hid (Mb (M9 (Mx M w.heap.size (w.heap.size+2)) (some a) none) wc.drew):=wF.out.ext bI;clear yG rG Gc P5 eX wF bI;refine gB (J7 w.heap.size a x vv) 8 (by kernel_rfl) iG.out (λhHeld=>?_);generalize wc.drew=wd at*;(refine cB [0,1,2] ?_;(iterate 3 (refine bZ (v:=?_) ?_ ?_;rotate_left 1;(intro wS hSw;obtain⟨⟨A1,A2,A3,A4⟩,B1,B2,B3,B4⟩:=hSw;go_simp;try with_reducible rfl);(try simp only[Act.put,aB,aC,aD])));refine cK ?_);((refine aO 3 ?_;intro K hK);go_simp;(refine(HH.out.ld _ wd uR.out UJ.out dV.out).mono ?_);rintro e_ v1 ⟨y,rfl,hy,d1⟩;go_wp2_with (fail);(try clear ag);(have ag:=hHeld.ext d1);(refine hK.out _ _ (λ_=>ag) ?_);clear hK K;(try simp only[Act.put,aB,aC,aD]));((refine aO 4 ?_;intro K hK);go_simp;(refine(HH.out.ex _ v1 vv y (uR.out.ext d1) (JO.out.ext d1) hy).mono ?_);rintro e_ v2 ⟨q,rfl,hq,d2⟩;go_wp2_with (fail);(try clear ag);(have ag:=hHeld.ext (d1.trans d2));(refine hK.out _ _ (λ_=>ag) ?_);clear hK K;(try simp only[Act.put,aB,aC,aD]));(refine cB [5,6] ?_;(iterate 2 (refine bZ (v:=?_) ?_ ?_;rotate_left 1;(intro wS hSw;obtain⟨⟨A1,A2,A3,A4⟩,B1,B2,B3,B4⟩:=hSw;go_simp;try with_reducible rfl);(try simp only[Act.put,aB,aC,aD])));refine cK ?_)
   have rW:J7 w.heap.size a x vv v2:=ag;obtain⟨⟨q0,q1,q2,q3⟩,⟨f0,f1,f2,f3⟩,⟨r0,r1,r2,r3⟩,HF⟩:=iF (M:=M) (w:=w) (oQ.out.ext (d1.trans d2)) (show M9 (Mx M w.heap.size (w.heap.size+2)) (some a) none _ from .inl (Mx.at (by omega))) (by omega) (dV.out.trans (d1.trans d2)) hq (λg hg=>.inl (.inl hg));have dI:=ae (HF.Jk 0);have qM:w.heap.size+1<v2.heap.size:=(oQ.out.ext (d1.trans d2)).lt;have hS8:J7 w.heap.size a x vv (aM v2 (w.heap.size+1) 0 (.int .i64 q.lv) (.bool q.b) (.slice q.a q.n q.p) (.slice q.ka q.kn q.kp)):=⟨sH rW.1 (iI _ _ _ _ _ _ _ _ (by omega)),sH rW.2 (iI _ _ _ _ _ _ _ _ (by omega))⟩;clear ag rW HF hq hy d1 d2 oQ JO dV uR HH UJ iG;(refine aO 7 ?_;intro K hK);go_simp;refine hK.out _ _ (λ_=>hS8) ?_;clear hK K;(try simp only[Act.put,aB,aC,aD]);((refine aO 8 ?_;intro K hK);go_simp;(refine hK.out _ _ (λh=>absurd rfl h) ?_);clear hK K;refine dX ?_);clear hS8 hHeld;go_wp2;exact bu (v:=.tuple #[.agg (ak q),.int .i64 0]) (by simp[results,Tryz.results49,go_sem,r0,r1,r2,r3]) rfl dI.out
theorem qAI{J n:Nat}(h1:1<=J)(h4:J<=4)(hn:1<=n)(xX:n<=4){f:List Tm}(hf:Sz 4 20 f)(df:bE J f n)(M:Nat->Prop)(x:PE)(w:World)(hM:Mb M w)(hx:aN M w 4 x f):
 Calls Tryz.prog 49 #[.agg (ak x),.int .i64 (J:Int)] w (lI M w 4 (xK J n f) 0):=by
 have H:=Gn.quB h1 h4 hn xX hf df;have zf:¬af f []:=df.nz h1 h4 (by omega);have hR:=H.rsz;refine qpN M x (J:Int) n (aQ J n (jc J f)) (SJ J 0 n (n-1) f (aQ J n (jc J f))) (ck J (n:Int) f) _ w hM ⟨SN h1 h4,⟨hn,by omega⟩,λwk he=>H.Qy M x wk (hM.ext he) (hx.ext he),λM' wk kN hm he=>qzd M' x f J n wk h1 h4 zf df hf kN ((hx.more hm).ext he),λM' wk y kN hm he hy=>H.qpS M' x y wk kN ((hx.more hm).ext he) hy,λ_ M' wk y kN hy=>?_,λM' wk kN hm he=>SK h1 h4 hf zf df (by decide) (by decide) M' wk x kN ((hx.more hm).ext he),λM' wk y z kN hy hz=>?_⟩
 ·exact Yn M' y _ 1000 wk kN hy.pi (aR (Nat.succ_le_succ hR.a) (by decide)) hR.d (by decide)
 ·exact quf h1 h4 hn xX hf (qjn (by omega) hf.a) df hR.d M' y z wk kN hy.pi hz.pi
def EP(w:World)(a:Option Addr)(n cap:Nat)(z:Nat->Int):Prop:=
 n<=1000/\n<=cap/\cap<=1000/\∀i,i<n->(-1000000<=z i/\z i<=1000000)/\∃b off,a=some ⟨b,off,none⟩/\b<w.heap.size/\w.cell? ⟨b,off+i,none⟩=some (.int .i64 (z i))
theorem qe5(M:Nat->Prop)(a:Option Addr)(n cap:Nat)(z:Nat->Int)(w:World)(hM:Mb M w)(h:EP w a n cap z):
 Calls Tryz.prog 75 #[.slice a n cap] w λe w'=>∃a' X,e=.returned (.slice a' (tz z n) n)/\bC M w' a' (tz z n) n X z/\Ext w w':=by
 obtain⟨i0,hi,hz0,hz1,hz2⟩:=info_parts Tryz.K5;have hn:=h.1;have mi:=h.2.1;have iB:=h.2.2.1;have HU:=ae h;have HM:=ae hM;clear h
 go_enter Tryz.func75,Tryz.ntmps75
 go_wp2_with (first|(refine wpList_make_full _ rfl _ _ _ rfl w.heap.size 30 i0 (.agg #[.bool false,.slice none 0 0]) 2 Tryz.underlying23 hi hz0 hz1 .i64 .i64 _ _ n rfl rfl ?c4 ?c5 ?c2 ?c3 ?c6 ?_))
 case c2=>rw[hz2];omega
 case c3=>unfold maxLen;omega
 case c4=>simp
 case c5=>simp
 case c6=>simp
 intro w1 hown hgrow;have cO:=aG.made hown rfl (by omega);have aS:=ae (nL hgrow)
 have eU:w.heap.size+1<=w1.heap.size:=by have:=cO.lt;omega
 have xq:Hid (UK (Mx M w.heap.size (w.heap.size+1)) w1 w.heap.size n 0 z):=UK.fresh cO;clear hown hgrow cO;go_wp2
 go_loopw [11] (λi wr=>∃k:Nat,k<=n/\i=.int .i64 k/\w.heap.size+1<=wr.heap.size/\Hid (UK (Mx M w.heap.size (w.heap.size+1)) wr w.heap.size n k z)/\Hid (Ext w wr)) (λi _=>n-(intOf i).toNat)
 case atStart=>exact⟨0,bK _,rfl,eU,xq,aS⟩
 case round=>
  clear xq aS eU;obtain⟨k,hk,rfl,hsz,HK,cZ⟩:=hrel
  by_cases hlt:k<n
  ·obtain⟨XD,b,off,BF,hb,x0⟩:=HU.out.2.2.2 k hlt;subst BF;rw[<-cZ.out.cell hb]at x0
   have jE:b<wr.heap.size:=by omega
   have jD:Mb (Mx M w.heap.size (w.heap.size+1)) wr:=Mx.mb HM.out (by omega) (by omega);have aW:=ae (IQ (M:=Mx M w.heap.size (w.heap.size+1)) (z k) wr jD (by omega) (by omega));clear jD XD;go_wp2_with (fail);refine(aW.out).mono ?_;rintro e w4 ⟨d0,d1,rfl,hc,bn⟩;obtain⟨b2,a2,n2,p2,rfl,rfl⟩:=hc.form;have fo:=HK.out.ext bn;obtain⟨⟨_,k0⟩,⟨_,k1⟩,bA,nO⟩:=fo.at hlt;have fV:=bA (k*2);have fP:=bA (k*2+1);have lV:Hid (UK (Mx M w.heap.size (w.heap.size+1)) (bW w4 w.heap.size (k*2) (.bool b2) (.slice a2 n2 p2)) w.heap.size n (k+1) z):=fo.set (Mx.at (by omega)) hc.fB;have dV:Hid (Ext w (bW w4 w.heap.size (k*2) (.bool b2) (.slice a2 n2 p2))):=(cZ.out.trans bn).bW (by omega) _ _ _
   have rf:Hid (w.heap.size+1<=(bW w4 w.heap.size (k*2) (.bool b2) (.slice a2 n2 p2)).heap.size):=by show _<=_;rw[BU];have:=bn.size;omega
   clear fo bA hc bn x0;go_wp2
   go_roundw
   case rel=>exact⟨k+1,by omega,by go_num,rf.out,lV,dV⟩
   case measure=>simp[intOf];omega
  ·have hkn:k=n:=by omega
   subst hkn;obtain⟨X',Fu⟩:=HK.out.row (M':=M) (λg hg=>.inl (.inl hg)) (HM.out.new (aI _)) (aR hn (by decide));have CT:=ae (Jm M _ k k X' z wr Fu);have HX':=ae Fu;have hle:tz z k<=k:=iR z k;clear Fu;go_wp2_with (fail);refine CT.out.mono ?_;rintro e w5 ⟨rfl,e5⟩;have HF:Hid (bC M w5 (some ⟨w.heap.size,0,none⟩) (tz z k) k X' z/\Ext w w5):=⟨(HX'.out.ext e5).cut hle,cZ.out.trans e5⟩;clear e5 CT HX' cZ HK;go_wp2;go_ret;exact⟨_,X',rfl,HF.out.1,HF.out.2⟩
theorem qeL(M:Nat->Prop)(a:Option Addr)(n cap:Nat)(X:Nat->IE)(z:Nat->Int)(w:World)(hM:Mb M w)(h:bC M w a n cap X z):
 Calls Tryz.prog 82 #[.slice a n cap] w (dO M w 4 (aU 1 n z)):=by
 have aV:Ext w (w.alloc (.cells zA 33)):=(aA w).alloc _;have bL:=aG.bq w zA 33 4 rfl;have jQ:Mb (Mx M w.heap.size (w.heap.size+1)) (w.alloc (.cells zA 33)):=Mx.mb hM (by simp) (by simp);have cc:=qj1 (Mx M w.heap.size (w.heap.size+1)) a n cap X z 0 _ jQ ((h.more (Mx.more (aI _))).ext aV) (by decide);rw[show(((0:Nat):Int)+1)=1 from rfl]at cc
 have jT:w.heap.size<(w.alloc (.cells zA 33)).heap.size:=by simp
 generalize hW:w.alloc (.cells zA 33)=W at*;have HW:=ae hW;have HE:=ae aV;have dY:=ae bL;have CC:=ae cc;clear aV bL jQ hW hM h cc
 go_enter Tryz.func82,Tryz.ntmps82
 go_upto_region 1 with(fail)
 rw[HW.out];clear HW;go_wp2_with (fail);refine CC.out.mono ?_;rintro e w3 ⟨v,rfl,hv,e3⟩;have HV:Hid (aN (Mx M w.heap.size (w.heap.size+1)) w3 4 v (aU 1 n z)):=hv.up (by decide);have dM:=ae e3
 have lC:w.heap.size<w3.heap.size:=by have:=e3.size;omega
 clear hv e3 CC jT
 go_upto_region 2 with(fail)
 obtain⟨W4,gG⟩:∃W4,W4=w3.alloc (.cells #[.int .i64 v.lv,.bool v.b,.slice v.a v.n v.p,.slice v.ka v.kn v.kp] 33):=⟨_,rfl⟩
 have eb:Ext w3 W4:=by rw[gG];exact(aA w3).alloc _
 have hP:P4 W4 w3.heap.size v:=by rw[gG];exact(aG.bq w3 (ak v) 33 4 rfl).p4
 have hlt:w3.heap.size<W4.heap.size:=by rw[gG];simp
 rw[<-gG];obtain⟨v0,v1,v2,v3⟩:=hP;obtain⟨⟨q0,q1,q2,q3⟩,⟨f0,f1,f2,f3⟩,⟨r0,r1,r2,r3⟩,HF⟩:=iF (M:=M) (w:=w) ((dY.out.ext dM.out).ext eb) (Mx.at (by omega)) (by omega) ((HE.out.trans dM.out).trans eb) (HV.out.ext eb) Mx.sub;have dI:=ae HF;clear HF HV dY HE dM eb gG;go_wp2;exact bu (v:=.agg (ak v)) (by simp[results,Tryz.results82,go_sem,r0,r1,r2,r3]) rfl dI.out
theorem Qv{z k:Int}{l:List Tm}(h:af l [(z,Mo.zero)])(h':af l [(k,Mo.zero)]):z=k:=by
 have e:∀y:Int,aL [(y,Mo.zero)] Mo.zero=y:=λy=>by simp[aL]
 rw[<-e z, <-h,h',e k]
theorem qp4(a1 a2:Option Addr)(n1 c1 n2 c2:Nat)(X1 X2:Nat->IE)(z1 z2:Nat->Int)(r:List Tm)(k:Int)(w:World)(h1:bC M0 w a1 n1 c1 X1 z1)(h2:bC M0 w a2 n2 c2 X2 z2)(hk:af r [(k,Mo.zero)])
 (HR:∀(M':Nat->Prop) wk x y,Mb M' wk->aN M' wk 4 x (aU 1 n1 z1)->aN M' wk 4 y (aU 1 n2 z2)->Calls Tryz.prog 81 #[.agg (ak x),.agg (ak y),.int .i64 1] wk (lI M' wk 4 r 0)):
 Calls Tryz.prog 26 #[.slice a1 n1 c1,.slice a2 n2 c2] w λe w'=>∃b a n p,e=.returned (.agg #[.bool b,.slice a n p])/\dQ M0 w' (.bool b) (.slice a n p) k/\Ext w w':=by
 have aV:Ext w (w.alloc (.cells #[.bool false,.slice none 0 0] 30)):=(aA w).alloc _;have bL:=aG.bq w #[.bool false,.slice none 0 0] 30 2 rfl;have jQ:Mb (Mx M0 w.heap.size (w.heap.size+1)) (w.alloc (.cells #[.bool false,.slice none 0 0] 30)):=Mx.mb (qN w) (by simp) (by simp)
 have jT:w.heap.size<(w.alloc (.cells #[.bool false,.slice none 0 0] 30)).heap.size:=by simp
 have EI:=ae ((h1.more (M':=Mx M0 w.heap.size (w.heap.size+1)) (Mx.more (aI _))).ext aV);have Aq:=ae ((h2.more (M':=Mx M0 w.heap.size (w.heap.size+1)) (Mx.more (aI _))).ext aV);generalize hW:w.alloc (.cells #[.bool false,.slice none 0 0] 30)=W at*;have HW:=ae hW;have HE:=ae aV;have dY:=ae bL;have HM:=ae jQ;have HK:=ae hk;have lX:=ae HR;clear aV bL jQ hW h1 h2 hk HR
 go_enter Tryz.func26,Tryz.ntmps26
 go_upto_region 1 with(fail)
 rw[HW.out];clear HW;go_wp2_with (fail);refine(qeL _ a1 n1 c1 X1 z1 W HM.out EI.out).mono ?_;rintro e w1 ⟨x,rfl,hx,e1⟩;have HX:=ae hx;have aS:=ae e1;clear hx e1;go_wp2_with (fail);refine(qeL _ a2 n2 c2 X2 z2 w1 (HM.out.ext aS.out) (Aq.out.ext aS.out)).mono ?_;rintro e w2 ⟨y,rfl,hy,e2⟩;have lY:=ae (HX.out.ext e2);have o5:=ae hy;have aZ:=ae (aS.out.trans e2);clear HX aS hy e2 EI Aq;go_wp2_with (fail);refine(lX.out _ w2 x y (HM.out.ext aZ.out) lY.out o5.out).mono ?_;rintro e w3 ⟨v,rfl,hv,e3⟩;have dM:=ae (aZ.out.trans e3);have HV:=ae hv;clear hv e3 lY o5 aZ lX
 go_upto_region 2 with(fail)
 obtain⟨W4,gG⟩:∃W4,W4=w3.alloc (.cells #[.int .i64 v.lv,.bool v.b,.slice v.a v.n v.p,.slice v.ka v.kn v.kp] 33):=⟨_,rfl⟩
 have eb:Ext w3 W4:=by rw[gG];exact(aA w3).alloc _
 have hP:P4 W4 w3.heap.size v:=by rw[gG];exact(aG.bq w3 (ak v) 33 4 rfl).p4
 rw[<-gG];obtain⟨v0,v1,v2,v3⟩:=hP;have eX:=ae (dM.out.trans eb);have CC:=ae (qpX _ v r W4 (HM.out.ext eX.out) (HV.out.ext eb).pi);clear HV eb gG dM;go_wp2_with (fail);refine CC.out.mono ?_;rintro e w5 ⟨q,ok,b,a,n,p,rfl,hI,ht,hf,e5⟩
 have hq:q=k:=by
  cases ok with
  |true=>exact Qv (ht rfl) HK.out
  |false=>
   obtain⟨_,m,i,hm,Rt,hi4,hp⟩:=hf rfl;rw[HK.out m]at hm;obtain⟨t,KW,rfl⟩:=VJ hm;simp only[List.mem_singleton]at KW;subst KW;rw[uw]at hp;omega
 subst hq;have HI:=ae hI;have dV:=ae (eX.out.trans e5);clear hI ht hf e5 HK CC v0 v1 v2 v3 eX
 go_upto_region 3 with(fail)
 obtain⟨W6,gV⟩:∃W6,W6=w5.alloc (.cells #[.bool b,.slice a n p] 30):=⟨_,rfl⟩
 have eb:Ext w5 W6:=by rw[gV];exact(aA w5).alloc _
 have kv:aG W6 w5.heap.size 30 2 (arr #[.bool b,.slice a n p]):=by rw[gV];exact aG.bq w5 _ 30 2 rfl
 rw[<-gV];have i0:W6.cell? ⟨w5.heap.size,0,none⟩=some (.bool b):=kv.cell (i:=0) (by omega);have i1:W6.cell? ⟨w5.heap.size,1,none⟩=some (.slice a n p):=kv.cell (i:=1) (by omega);have qxh:=kv.lt;obtain⟨⟨s0,s1,g0,g1⟩,⟨t0,t1⟩,jf,iU⟩:=l6 (M':=Mx M0 w.heap.size (w.heap.size+1)) (w:=w) (.bool b) (.slice a n p) (dY.out.ext (dV.out.trans eb)) (Mx.at (by omega)) (by omega) (HE.out.trans (dV.out.trans eb));have HF:Hid (dQ M0 _ (.bool b) (.slice a n p) q/\Ext w _):=⟨((HI.out.fB.ext eb).kp jf).more Mx.less,iU⟩;have WX:w.heap.size<W6.heap.size:=(dY.out.ext (dV.out.trans eb)).lt;simp only[arr]at s0 s1;clear jf iU HI dV dY HE HM kv eb gV;go_wp2;exact bu (v:=.agg #[.bool b,.slice a n p]) (by simp[results,Tryz.results26,go_sem,t0,t1]) rfl ⟨b,a,n,p,rfl,HF.out.1,HF.out.2⟩
def hF:List Tm:=bO (kr 1) 2++(aF (kr 1) (kr 2)++kr 3)
def hD:List Tm:=bO (kr 2) 2++aF (aF (kr 3) [(4,Mo.zero)]) [(-1,Mo.zero)]
theorem qb1:NN hF:=xe (by decide)
theorem qvX:Sz 4 20 hF:=⟨qb1,(VM (B:=2) qb1 (by decide)).mono (by decide),by decide⟩
theorem qvW:bE 1 hF 2:=⟨qbv (by decide),.inr ⟨⟨2,0,0,0⟩,by decide,by decide⟩⟩
theorem qvT:NN hD:=xe (by decide)
theorem qvS:af (xK 1 2 hF) hD:=qqn (qoI (by decide) (by decide) qb1 2) qvT (by decide+kernel)
def hz1:Nat->Int:=λi=>if i=0 then-2 else 1
def hz2:Nat->Int:=λi=>if i=0 then-3 else if i=1 then 0 else 1
theorem qCc:tz hz1 2=2:=by decide
theorem qCd:tz hz2 3=3:=by decide
theorem qe0:NN (aU 1 2 hz1):=xe (by decide)
theorem qe1:NN (aU 1 3 hz2):=xe (by decide)
theorem qqL:bE 1 (aU 1 2 hz1) 1:=⟨qbv (by decide),.inr ⟨⟨1,0,0,0⟩,by decide,by decide⟩⟩
theorem qqM:bE 1 (aU 1 3 hz2) 2:=⟨qbv (by decide),.inr ⟨⟨2,0,0,0⟩,by decide,by decide⟩⟩
theorem qCg:Gn 1 1 2 4 (aU 1 2 hz1) (aU 1 3 hz2):=Gn.qo4 (by decide) (by decide) ⟨qe0,(VM (B:=1) qe0 (by decide)).mono (by decide),aR (show _<=2 by decide) (by decide)⟩ ⟨qe1,(VM (B:=2) qe1 (by decide)).mono (by decide),aR (show _<=2 by decide) (by decide)⟩ (qqL.nz (by decide) (by decide) (by decide)) (qqM.nz (by decide) (by decide) (by decide)) qqL qqM (by decide) (by decide)
theorem qCh:af (SJ 1 0 1 2 (aU 1 2 hz1) (aU 1 3 hz2)) [(1,Mo.zero)]:=qqn (iD (by decide) (by decide) qe0 qe1 _ _ _) (xe (by decide)) (by decide+kernel)
theorem qbM(a1 a2:Option Addr)(c1 c2:Nat)(X1 X2:Nat->IE)(w:World)(h1:bC M0 w a1 2 c1 X1 hz1)(h2:bC M0 w a2 3 c2 X2 hz2):
 Calls Tryz.prog 26 #[.slice a1 2 c1,.slice a2 3 c2] w λe w'=>∃b a n p,e=.returned (.agg #[.bool b,.slice a n p])/\dQ M0 w' (.bool b) (.slice a n p) 1/\Ext w w':=
 qp4 a1 a2 2 c1 3 c2 X1 X2 hz1 hz2 (SJ 1 0 1 2 (aU 1 2 hz1) (aU 1 3 hz2)) 1 w h1 h2 qCh λM' wk x y hM hx hy=>qCg.qpS M' x y wk hM hx hy
def qrk(wd:World)(l:List Tm)(s4 s5:Value)(wx:World):Prop:=∃(a:Nat)(v:PE),s4=.pointer (some ⟨a,0,none⟩)/\s5=.int .i64 0/\qil wd wx a v l
theorem qrb(w:World)(z:Nat->Int)(a b:Int)(ha:z 0=a)(hb:z 1=b)(h:(-1000000<=a/\a<=1000000)/\ -1000000<=b/\b<=1000000):EP (w.alloc (.cells #[.int .i64 a,.int .i64 b] 2)) (some ⟨w.heap.size,0,none⟩) 2 2 z:=by
 have hB:=aG.bq w #[.int .i64 a,.int .i64 b] 2 2 rfl;refine⟨by decide,by decide,by decide,λi hi=>?_⟩;rcases(show i=0\/i=1 by omega)with rfl|rfl
 ·exact⟨by rw[ha];exact h.1,_,_,rfl,hB.lt,by rw[ha];exact hB.cell (i:=0) (by omega)⟩
 ·exact⟨by rw[hb];exact h.2,_,_,rfl,hB.lt,by rw[hb];exact hB.cell (i:=1) (by omega)⟩
theorem qfk(w:World)(z:Nat->Int)(a b c:Int)(ha:z 0=a)(hb:z 1=b)(hc:z 2=c)(h:(-1000000<=a/\a<=1000000)/\(-1000000<=b/\b<=1000000)/\ -1000000<=c/\c<=1000000):EP (w.alloc (.cells #[.int .i64 a,.int .i64 b,.int .i64 c] 2)) (some ⟨w.heap.size,0,none⟩) 3 3 z:=by
 have hB:=aG.bq w #[.int .i64 a,.int .i64 b,.int .i64 c] 2 3 rfl;refine⟨by decide,by decide,by decide,λi hi=>?_⟩;rcases(show i=0\/i=1\/i=2 by omega)with rfl|rfl|rfl
 ·exact⟨by rw[ha];exact h.1,_,_,rfl,hB.lt,by rw[ha];exact hB.cell (i:=0) (by omega)⟩
 ·exact⟨by rw[hb];exact h.2.1,_,_,rfl,hB.lt,by rw[hb];exact hB.cell (i:=1) (by omega)⟩
 ·exact⟨by rw[hc];exact h.2.2,_,_,rfl,hB.lt,by rw[hc];exact hB.cell (i:=2) (by omega)⟩
theorem EP.ext{w w':World}{a:Option Addr}{n cap:Nat}{z:Nat->Int}(h:EP w a n cap z)(he:Ext w w'):EP w' a n cap z:=
 ⟨h.1,h.2.1,h.2.2.1,λi hi=>by
  obtain⟨q,b,off,h1,h2,h3⟩:=h.2.2.2 i hi
  exact⟨q,b,off,h1,dH h2 he.size,by rw[he.cell h2];exact h3⟩⟩
theorem qbK(a:Option Addr)(w:World)(h:EP w a 2 2 hz1):Calls Tryz.prog 75 #[.slice a 2 2] w λe w'=>∃a' X,e=.returned (.slice a' 2 2)/\bC M0 w' a' 2 2 X hz1/\Ext w w':=by
 have h2:=qe5 M0 a 2 2 hz1 w (qN w) h;rw[qCc]at h2;exact h2
theorem qbL(a:Option Addr)(w:World)(h:EP w a 3 3 hz2):Calls Tryz.prog 75 #[.slice a 3 3] w λe w'=>∃a' X,e=.returned (.slice a' 3 3)/\bC M0 w' a' 3 3 X hz2/\Ext w w':=by
 have h2:=qe5 M0 a 3 3 hz2 w (qN w) h;rw[qCd]at h2;exact h2
theorem qeN{c0 c1 d0 d1:Value}(w:World)(h:dQ M0 w c0 c1 1)(h':dQ M0 w d0 d1 1):Calls Tryz.prog 25 #[.agg #[c0,c1],.agg #[d0,d1]] w λe w'=>e=.returned (.bool true)/\Ext w w':=
 (qdX c0 c1 d0 d1 1 1 w h h').mono λe w' h=>⟨by rw[h.1];rfl,h.2⟩
theorem qyM(w:World):Calls Tryz.prog 19 #[] w λe w'=>e=.returned (.bool true)/\Ext w w':=by
 go_enter Tryz.func19,Tryz.ntmps19
 go_wp2_with (fail);refine(qeH M0 1 _ (qN _)).mono ?_;rintro e w1 ⟨x,rfl,hx,az⟩;go_wp2_with (fail);refine(qeH M0 2 _ (qN _)).mono ?_;rintro e w2 ⟨y,rfl,hy,aJ⟩;go_wp2_with (fail);refine(qeH M0 3 _ (qN _)).mono ?_;rintro e w3 ⟨z,rfl,hz,bg⟩;have Aw:=ae ((hx.ext aJ).ext bg);have MC:=ae (hy.ext bg);have Qc:=ae hz;have dM:=ae ((az.trans aJ).trans bg);clear hx hy hz az aJ bg
 go_upto_region 2 with(fail)
 obtain⟨W,hW⟩:∃W,W=((w3.alloc (.cells #[.int .i64 x.lv,.bool x.b,.slice x.a x.n x.p,.slice x.ka x.kn x.kp] 33)).alloc (.cells #[.int .i64 y.lv,.bool y.b,.slice y.a y.n y.p,.slice y.ka y.kn y.kp] 33)).alloc (.cells #[.int .i64 z.lv,.bool z.b,.slice z.a z.n z.p,.slice z.ka z.kn z.kp] 33):=⟨_,rfl⟩
 have wM:Ext w3 W:=by rw[hW];exact(((aA w3).alloc _).alloc _).alloc _
 obtain⟨g0,vK⟩:∃g0,g0=w3.heap.size:=⟨_,rfl⟩
 have xA:Hid (J5 g0 x y z W):=by rw[hW,vK];exact qzt w3 x y z
 have HX:=ae (Aw.out.ext wM);have HY:=ae (MC.out.ext wM);have HZ:=ae (Qc.out.ext wM);have HE:=ae (dM.out.trans wM);rw[<-hW, <-vK];clear hW vK wM Aw MC Qc dM;have bI:Ext W W.drew:=(aA W).drew;have yE:Hid (J5 g0 x y z W.drew):=xA.out.ext bI;have Az:=ae (HX.out.ext bI);have JS:=ae (HY.out.ext bI);have JU:=ae (HZ.out.ext bI);have ql:=ae (HE.out.trans bI);clear xA HX HY HZ HE bI
 go_cut [4,5] (qrk W.drew hD)
 case first=>
  refine gB (J5 g0 x y z) 15 (by kernel_rfl) yE.out (λhHeld=>?_);have S0:=S7.start W.drew;generalize W.drew=wd at*;have C1:Hid (∀A B wk,S7 wd wk A B->Calls Tryz.prog 53 #[.agg (ak x),.int .i64 2] wk (dO (M7 A B) wk 4 (bO (kr 1) 2))):=λA B wk S=>qeE (M7 A B) x (kr 1) 1 2 wk S.mb (S.old Az.out).pi (by decide) (by decide) (Qx 1) (by decide);have C4:Hid (∀A B wk,S7 wd wk A B->Calls Tryz.prog 55 #[.agg (ak x),.agg (ak y)] wk (dO (M7 A B) wk 4 (aF (kr 1) (kr 2)))):=λA B wk S=>Tv (M7 A B) x y (kr 1) (kr 2) 1 1 wk S.mb (S.old Az.out).pi (S.old JS.out).pi (by decide) (Qx 1) (Qx 2) (by decide);have C6:Hid (∀A B wk,S7 wd wk A B->∀q,aN (M7 A B) wk 4 q (aF (kr 1) (kr 2))->Calls Tryz.prog 54 #[.agg (ak q),.agg (ak z)] wk (dO (M7 A B) wk 4 (aF (kr 1) (kr 2)++kr 3))):=λA B wk S q hq=>qpW (M7 A B) q z _ _ wk S.mb hq.pi (S.old JU.out).pi (by decide);have C7:Hid (∀A B wk,S7 wd wk A B->∀p,aN (M7 A B) wk 4 p (bO (kr 1) 2)->∀s,aN (M7 A B) wk 4 s (aF (kr 1) (kr 2)++kr 3)->Calls Tryz.prog 54 #[.agg (ak p),.agg (ak s)] wk (dO (M7 A B) wk 4 hF)):=λA B wk S p hp s hs=>qpW (M7 A B) p s _ _ wk S.mb hp.pi hs.pi (by decide);have C8:Hid (∀A B wk,S7 wd wk A B->∀t,aN (M7 A B) wk 4 t hF->Calls Tryz.prog 49 #[.agg (ak t),.int .i64 1] wk (lI (M7 A B) wk 4 hD 0)):=λA B wk S t ht=>(qAI (J:=1) (n:=2) (by decide) (by decide) (by decide) (by decide) qvX qvW (M7 A B) t wk S.mb ht).mono λe w'⟨v,h1,h2,h3⟩=>⟨v,h1,h2.dh qvS,h3⟩
  clear Az JS JU ql yE;(refine cB [0,2,3,5] ?_;(iterate 4 (refine bZ (v:=?_) ?_ ?_;rotate_left 1;(intro wS hSw;obtain⟨⟨A1,A2,A3,A4⟩,⟨A5,A6,A7,A8⟩,A9,sJ,sK,sM⟩:=hSw;go_simp;try with_reducible rfl);(try simp only[Act.put,aB,aC,aD])));refine cK ?_);(refine pI 1 12 (oi:=?_) (oj:=?_) (by kernel_rfl) ?_ ?_ ?_ ?_;rotate_left 2;(simp only[fC,fD,fE];rfl);(simp only[fC,fD,fE];rfl);all_goals intro K hK)
  ·go_simp;refine(C1.out _ _ wd S0).mono ?_;rintro e v1 ⟨p,rfl,hp,D⟩;go_wp2_with (fail);have S1:=S0.call D;clear D
   try clear ag
   have ag:=hHeld.ext S1.e;refine hK.out _ _ (λ_=>ag) ?_;clear hK K;(try simp only[Act.put,aB,aC,aD]);(refine pI 4 12 (oi:=?_) (oj:=?_) (by kernel_rfl) ?_ ?_ ?_ ?_;rotate_left 2;(simp only[fC,fD,fE];rfl);(simp only[fC,fD,fE];rfl);all_goals intro K hK)
   ·go_simp;refine(C4.out _ _ v1 S1).mono ?_;rintro e v2 ⟨q,rfl,hq,D⟩;go_wp2_with (fail);have S2:=S1.call D;replace hp:=hp.ext D;clear D
    try clear ag
    have ag:=hHeld.ext S2.e;refine hK.out _ _ (λ_=>ag) ?_;clear hK K;(try simp only[Act.put,aB,aC,aD]);(refine pI 6 12 (oi:=?_) (oj:=?_) (by kernel_rfl) ?_ ?_ ?_ ?_;rotate_left 2;(simp only[fC,fD,fE];rfl);(simp only[fC,fD,fE];rfl);all_goals intro K hK)
    ·go_simp;refine(C6.out _ _ v2 S2 _ hq).mono ?_;rintro e v3 ⟨s,rfl,hs,D⟩;go_wp2_with (fail);have S3:=S2.call D;replace hp:=hp.ext D;replace hq:=hq.ext D;clear D
     try clear ag
     have ag:=hHeld.ext S3.e;refine hK.out _ _ (λ_=>ag) ?_;clear hK K;(try simp only[Act.put,aB,aC,aD]);(refine pI 7 12 (oi:=?_) (oj:=?_) (by kernel_rfl) ?_ ?_ ?_ ?_;rotate_left 2;(simp only[fC,fD,fE];rfl);(simp only[fC,fD,fE];rfl);all_goals intro K hK)
     ·go_simp;refine(C7.out _ _ v3 S3 _ hp _ hs).mono ?_;rintro e v4 ⟨t,rfl,ht,D⟩;go_wp2_with (fail);have S4:=S3.call D;replace hp:=hp.ext D;replace hq:=hq.ext D;replace hs:=hs.ext D;clear D
      try clear ag
      have ag:=hHeld.ext S4.e;refine hK.out _ _ (λ_=>ag) ?_;clear hK K;(try simp only[Act.put,aB,aC,aD]);(refine pI 8 12 (oi:=?_) (oj:=?_) (by kernel_rfl) ?_ ?_ ?_ ?_;rotate_left 2;(simp only[fC,fD,fE];rfl);(simp only[fC,fD,fE];rfl);all_goals intro K hK)
      ·go_simp;refine(C8.out _ _ v4 S4 _ ht).mono ?_;rintro e v5 ⟨d,rfl,hd,D⟩;go_wp2_with (fail);have S5:=S4.call D;replace hp:=hp.ext D;replace hq:=hq.ext D;replace hs:=hs.ext D;replace ht:=ht.ext D;clear D
       try clear ag
       have ag:=hHeld.ext S5.e;refine hK.out _ _ (λ_=>ag) ?_;clear hK K;(try simp only[Act.put,aB,aC,aD]);(refine cB [9,10,11] ?_;(iterate 3 (refine bZ (v:=?_) ?_ ?_;rotate_left 1;(intro wS hSw;obtain⟨⟨A1,A2,A3,A4⟩,⟨A5,A6,A7,A8⟩,A9,sJ,sK,sM⟩:=hSw;go_simp;try with_reducible rfl);(try simp only[Act.put,aB,aC,aD])));refine cK ?_);(refine aO 12 ?_;intro K hK);go_simp;have S6:=S5.ve;replace hp:=S5.mK hp;replace hq:=S5.mK hq;replace hs:=S5.mK hs;replace ht:=S5.mK ht;replace hd:=S5.mK hd
       try clear ag
       have ag:=hHeld.ext S6.e;refine hK.out _ _ (λ_=>ag) ?_;clear hK K;(try simp only[Act.put,aB,aC,aD]);generalize v5.alloc (.cells zA 33)=v6 at*;generalize v5.heap.size=g6 at*;obtain⟨W1,hW1,⟨q0,q1,q2,q3⟩,⟨f0,f1,f2,f3⟩,eD⟩:=S6.BQ hd;unfold aM at hW1;have je:=hHeld.ext eD.e;clear ag;(refine aO 13 ?_;intro K hK);go_simp;rw[<-hW1];clear hW1;refine hK.out _ _ (λ_=>je) ?_;clear hK K q0 q1 q2 q3 f0 f1 f2 f3;(try simp only[Act.put,aB,aC,aD]);have ag:=je;(refine cB [14] ?_;(iterate 1 (refine bZ (v:=?_) ?_ ?_;rotate_left 1;(intro wS hSw;obtain⟨⟨A1,A2,A3,A4⟩,⟨A5,A6,A7,A8⟩,A9,sJ,sK,sM⟩:=hSw;go_simp;try with_reducible rfl);(try simp only[Act.put,aB,aC,aD])));refine cK ?_);refine dX ?_;go_wp2_with (fail)
       go_meet
       exact⟨_,_,rfl,rfl,eD⟩
      ·go_simp;have S7:=S4.ve;replace hp:=S4.mK hp;replace hq:=S4.mK hq;replace hs:=S4.mK hs;replace ht:=S4.mK ht
       try clear ag
       have ag:=hHeld.ext S7.e;refine hK.out _ _ (λ_=>ag) ?_;clear hK K;(try simp only[Act.put,aB,aC,aD]);generalize v4.alloc (.cells zA 33)=v7 at*;generalize v4.heap.size=g7 at*;(refine aO 8 ?_;intro K hK);go_simp;refine(C8.out _ _ v7 S7 _ ht).mono ?_;rintro e v8 ⟨d,rfl,hd,D⟩;go_wp2_with (fail);have S8:=S7.call D;replace hp:=hp.ext D;replace hq:=hq.ext D;replace hs:=hs.ext D;replace ht:=ht.ext D;clear D
       try clear ag
       have ag:=hHeld.ext S8.e;refine hK.out _ _ (λ_=>ag) ?_;clear hK K;(try simp only[Act.put,aB,aC,aD]);(refine cB [9,10,11] ?_;(iterate 3 (refine bZ (v:=?_) ?_ ?_;rotate_left 1;(intro wS hSw;obtain⟨⟨A1,A2,A3,A4⟩,⟨A5,A6,A7,A8⟩,A9,sJ,sK,sM⟩:=hSw;go_simp;try with_reducible rfl);(try simp only[Act.put,aB,aC,aD])));refine cK ?_);obtain⟨W1,hW1,⟨q0,q1,q2,q3⟩,⟨f0,f1,f2,f3⟩,eD⟩:=S8.BQ hd;unfold aM at hW1;have je:=hHeld.ext eD.e;clear ag;(refine aO 13 ?_;intro K hK);go_simp;rw[<-hW1];clear hW1;refine hK.out _ _ (λ_=>je) ?_;clear hK K q0 q1 q2 q3 f0 f1 f2 f3;(try simp only[Act.put,aB,aC,aD]);have ag:=je;(refine cB [14] ?_;(iterate 1 (refine bZ (v:=?_) ?_ ?_;rotate_left 1;(intro wS hSw;obtain⟨⟨A1,A2,A3,A4⟩,⟨A5,A6,A7,A8⟩,A9,sJ,sK,sM⟩:=hSw;go_simp;try with_reducible rfl);(try simp only[Act.put,aB,aC,aD])));refine cK ?_);refine dX ?_;go_wp2_with (fail)
       go_meet
       exact⟨_,_,rfl,rfl,eD⟩
     ·go_simp;have S9:=S3.ve;replace hp:=S3.mK hp;replace hq:=S3.mK hq;replace hs:=S3.mK hs
      try clear ag
      have ag:=hHeld.ext S9.e;refine hK.out _ _ (λ_=>ag) ?_;clear hK K;(try simp only[Act.put,aB,aC,aD]);generalize v3.alloc (.cells zA 33)=v9 at*;generalize v3.heap.size=g9 at*;(refine aO 7 ?_;intro K hK);go_simp;refine(C7.out _ _ v9 S9 _ hp _ hs).mono ?_;rintro e v10 ⟨t,rfl,ht,D⟩;go_wp2_with (fail);have rM:=S9.call D;replace hp:=hp.ext D;replace hq:=hq.ext D;replace hs:=hs.ext D;clear D
      try clear ag
      have ag:=hHeld.ext rM.e;refine hK.out _ _ (λ_=>ag) ?_;clear hK K;(try simp only[Act.put,aB,aC,aD]);(refine aO 8 ?_;intro K hK);go_simp;refine(C8.out _ _ v10 rM _ ht).mono ?_;rintro e v11 ⟨d,rfl,hd,D⟩;go_wp2_with (fail);have uW:=rM.call D;replace hp:=hp.ext D;replace hq:=hq.ext D;replace hs:=hs.ext D;replace ht:=ht.ext D;clear D
      try clear ag
      have ag:=hHeld.ext uW.e;refine hK.out _ _ (λ_=>ag) ?_;clear hK K;(try simp only[Act.put,aB,aC,aD]);(refine cB [9,10,11] ?_;(iterate 3 (refine bZ (v:=?_) ?_ ?_;rotate_left 1;(intro wS hSw;obtain⟨⟨A1,A2,A3,A4⟩,⟨A5,A6,A7,A8⟩,A9,sJ,sK,sM⟩:=hSw;go_simp;try with_reducible rfl);(try simp only[Act.put,aB,aC,aD])));refine cK ?_);obtain⟨W1,hW1,⟨q0,q1,q2,q3⟩,⟨f0,f1,f2,f3⟩,eD⟩:=uW.BQ hd;unfold aM at hW1;have je:=hHeld.ext eD.e;clear ag;(refine aO 13 ?_;intro K hK);go_simp;rw[<-hW1];clear hW1;refine hK.out _ _ (λ_=>je) ?_;clear hK K q0 q1 q2 q3 f0 f1 f2 f3;(try simp only[Act.put,aB,aC,aD]);have ag:=je;(refine cB [14] ?_;(iterate 1 (refine bZ (v:=?_) ?_ ?_;rotate_left 1;(intro wS hSw;obtain⟨⟨A1,A2,A3,A4⟩,⟨A5,A6,A7,A8⟩,A9,sJ,sK,sM⟩:=hSw;go_simp;try with_reducible rfl);(try simp only[Act.put,aB,aC,aD])));refine cK ?_);refine dX ?_;go_wp2_with (fail)
      go_meet
      exact⟨_,_,rfl,rfl,eD⟩
    ·go_simp;have uX:=S2.ve;replace hp:=S2.mK hp;replace hq:=S2.mK hq
     try clear ag
     have ag:=hHeld.ext uX.e;refine hK.out _ _ (λ_=>ag) ?_;clear hK K;(try simp only[Act.put,aB,aC,aD]);generalize v2.alloc (.cells zA 33)=v12 at*;generalize v2.heap.size=g12 at*;(refine aO 6 ?_;intro K hK);go_simp;refine(C6.out _ _ v12 uX _ hq).mono ?_;rintro e Jn ⟨s,rfl,hs,D⟩;go_wp2_with (fail);have AO:=uX.call D;replace hp:=hp.ext D;replace hq:=hq.ext D;clear D
     try clear ag
     have ag:=hHeld.ext AO.e;refine hK.out _ _ (λ_=>ag) ?_;clear hK K;(try simp only[Act.put,aB,aC,aD]);(refine aO 7 ?_;intro K hK);go_simp;refine(C7.out _ _ Jn AO _ hp _ hs).mono ?_;rintro e v14 ⟨t,rfl,ht,D⟩;go_wp2_with (fail);have uY:=AO.call D;replace hp:=hp.ext D;replace hq:=hq.ext D;replace hs:=hs.ext D;clear D
     try clear ag
     have ag:=hHeld.ext uY.e;refine hK.out _ _ (λ_=>ag) ?_;clear hK K;(try simp only[Act.put,aB,aC,aD]);(refine aO 8 ?_;intro K hK);go_simp;refine(C8.out _ _ v14 uY _ ht).mono ?_;rintro e v15 ⟨d,rfl,hd,D⟩;go_wp2_with (fail);have J4:=uY.call D;replace hp:=hp.ext D;replace hq:=hq.ext D;replace hs:=hs.ext D;replace ht:=ht.ext D;clear D
     try clear ag
     have ag:=hHeld.ext J4.e;refine hK.out _ _ (λ_=>ag) ?_;clear hK K;(try simp only[Act.put,aB,aC,aD]);(refine cB [9,10,11] ?_;(iterate 3 (refine bZ (v:=?_) ?_ ?_;rotate_left 1;(intro wS hSw;obtain⟨⟨A1,A2,A3,A4⟩,⟨A5,A6,A7,A8⟩,A9,sJ,sK,sM⟩:=hSw;go_simp;try with_reducible rfl);(try simp only[Act.put,aB,aC,aD])));refine cK ?_);obtain⟨W1,hW1,⟨q0,q1,q2,q3⟩,⟨f0,f1,f2,f3⟩,eD⟩:=J4.BQ hd;unfold aM at hW1;have je:=hHeld.ext eD.e;clear ag;(refine aO 13 ?_;intro K hK);go_simp;rw[<-hW1];clear hW1;refine hK.out _ _ (λ_=>je) ?_;clear hK K q0 q1 q2 q3 f0 f1 f2 f3;(try simp only[Act.put,aB,aC,aD]);have ag:=je;(refine cB [14] ?_;(iterate 1 (refine bZ (v:=?_) ?_ ?_;rotate_left 1;(intro wS hSw;obtain⟨⟨A1,A2,A3,A4⟩,⟨A5,A6,A7,A8⟩,A9,sJ,sK,sM⟩:=hSw;go_simp;try with_reducible rfl);(try simp only[Act.put,aB,aC,aD])));refine cK ?_);refine dX ?_;go_wp2_with (fail)
     go_meet
     exact⟨_,_,rfl,rfl,eD⟩
   ·go_simp;have xG:=S1.ve;replace hp:=S1.mK hp
    try clear ag
    have ag:=hHeld.ext xG.e;refine hK.out _ _ (λ_=>ag) ?_;clear hK K;(try simp only[Act.put,aB,aC,aD]);generalize v1.alloc (.cells zA 33)=v16 at*;generalize v1.heap.size=g16 at*;(refine aO 4 ?_;intro K hK);go_simp;refine(C4.out _ _ v16 xG).mono ?_;rintro e v17 ⟨q,rfl,hq,D⟩;go_wp2_with (fail);have nH:=xG.call D;replace hp:=hp.ext D;clear D
    try clear ag
    have ag:=hHeld.ext nH.e;refine hK.out _ _ (λ_=>ag) ?_;clear hK K;(try simp only[Act.put,aB,aC,aD]);(refine aO 6 ?_;intro K hK);go_simp;refine(C6.out _ _ v17 nH _ hq).mono ?_;rintro e v18 ⟨s,rfl,hs,D⟩;go_wp2_with (fail);have MN:=nH.call D;replace hp:=hp.ext D;replace hq:=hq.ext D;clear D
    try clear ag
    have ag:=hHeld.ext MN.e;refine hK.out _ _ (λ_=>ag) ?_;clear hK K;(try simp only[Act.put,aB,aC,aD]);(refine aO 7 ?_;intro K hK);go_simp;refine(C7.out _ _ v18 MN _ hp _ hs).mono ?_;rintro e v19 ⟨t,rfl,ht,D⟩;go_wp2_with (fail);have Dc:=MN.call D;replace hp:=hp.ext D;replace hq:=hq.ext D;replace hs:=hs.ext D;clear D
    try clear ag
    have ag:=hHeld.ext Dc.e;refine hK.out _ _ (λ_=>ag) ?_;clear hK K;(try simp only[Act.put,aB,aC,aD]);(refine aO 8 ?_;intro K hK);go_simp;refine(C8.out _ _ v19 Dc _ ht).mono ?_;rintro e v20 ⟨d,rfl,hd,D⟩;go_wp2_with (fail);have S20:=Dc.call D;replace hp:=hp.ext D;replace hq:=hq.ext D;replace hs:=hs.ext D;replace ht:=ht.ext D;clear D
    try clear ag
    have ag:=hHeld.ext S20.e;refine hK.out _ _ (λ_=>ag) ?_;clear hK K;(try simp only[Act.put,aB,aC,aD]);(refine cB [9,10,11] ?_;(iterate 3 (refine bZ (v:=?_) ?_ ?_;rotate_left 1;(intro wS hSw;obtain⟨⟨A1,A2,A3,A4⟩,⟨A5,A6,A7,A8⟩,A9,sJ,sK,sM⟩:=hSw;go_simp;try with_reducible rfl);(try simp only[Act.put,aB,aC,aD])));refine cK ?_);obtain⟨W1,hW1,⟨q0,q1,q2,q3⟩,⟨f0,f1,f2,f3⟩,eD⟩:=S20.BQ hd;unfold aM at hW1;have je:=hHeld.ext eD.e;clear ag;(refine aO 13 ?_;intro K hK);go_simp;rw[<-hW1];clear hW1;refine hK.out _ _ (λ_=>je) ?_;clear hK K q0 q1 q2 q3 f0 f1 f2 f3;(try simp only[Act.put,aB,aC,aD]);have ag:=je;(refine cB [14] ?_;(iterate 1 (refine bZ (v:=?_) ?_ ?_;rotate_left 1;(intro wS hSw;obtain⟨⟨A1,A2,A3,A4⟩,⟨A5,A6,A7,A8⟩,A9,sJ,sK,sM⟩:=hSw;go_simp;try with_reducible rfl);(try simp only[Act.put,aB,aC,aD])));refine cK ?_);refine dX ?_;go_wp2_with (fail)
    go_meet
    exact⟨_,_,rfl,rfl,eD⟩
  ·go_simp;have S21:=S0.ve
   try clear ag
   have ag:=hHeld.ext S21.e;refine hK.out _ _ (λ_=>ag) ?_;clear hK K;(try simp only[Act.put,aB,aC,aD]);generalize wd.alloc (.cells zA 33)=v21 at*;generalize wd.heap.size=g21 at*;(refine aO 1 ?_;intro K hK);go_simp;refine(C1.out _ _ v21 S21).mono ?_;rintro e v22 ⟨p,rfl,hp,D⟩;go_wp2_with (fail);have S22:=S21.call D;clear D
   try clear ag
   have ag:=hHeld.ext S22.e;refine hK.out _ _ (λ_=>ag) ?_;clear hK K;(try simp only[Act.put,aB,aC,aD]);(refine aO 4 ?_;intro K hK);go_simp;refine(C4.out _ _ v22 S22).mono ?_;rintro e v23 ⟨q,rfl,hq,D⟩;go_wp2_with (fail);have Vp:=S22.call D;replace hp:=hp.ext D;clear D
   try clear ag
   have ag:=hHeld.ext Vp.e;refine hK.out _ _ (λ_=>ag) ?_;clear hK K;(try simp only[Act.put,aB,aC,aD]);(refine aO 6 ?_;intro K hK);go_simp;refine(C6.out _ _ v23 Vp _ hq).mono ?_;rintro e v24 ⟨s,rfl,hs,D⟩;go_wp2_with (fail);have S24:=Vp.call D;replace hp:=hp.ext D;replace hq:=hq.ext D;clear D
   try clear ag
   have ag:=hHeld.ext S24.e;refine hK.out _ _ (λ_=>ag) ?_;clear hK K;(try simp only[Act.put,aB,aC,aD]);(refine aO 7 ?_;intro K hK);go_simp;refine(C7.out _ _ v24 S24 _ hp _ hs).mono ?_;rintro e v25 ⟨t,rfl,ht,D⟩;go_wp2_with (fail);have um:=S24.call D;replace hp:=hp.ext D;replace hq:=hq.ext D;replace hs:=hs.ext D;clear D
   try clear ag
   have ag:=hHeld.ext um.e;refine hK.out _ _ (λ_=>ag) ?_;clear hK K;(try simp only[Act.put,aB,aC,aD]);(refine aO 8 ?_;intro K hK);go_simp;refine(C8.out _ _ v25 um _ ht).mono ?_;rintro e v26 ⟨d,rfl,hd,D⟩;go_wp2_with (fail);have EN:=um.call D;replace hp:=hp.ext D;replace hq:=hq.ext D;replace hs:=hs.ext D;replace ht:=ht.ext D;clear D
   try clear ag
   have ag:=hHeld.ext EN.e;refine hK.out _ _ (λ_=>ag) ?_;clear hK K;(try simp only[Act.put,aB,aC,aD]);(refine cB [9,10,11] ?_;(iterate 3 (refine bZ (v:=?_) ?_ ?_;rotate_left 1;(intro wS hSw;obtain⟨⟨A1,A2,A3,A4⟩,⟨A5,A6,A7,A8⟩,A9,sJ,sK,sM⟩:=hSw;go_simp;try with_reducible rfl);(try simp only[Act.put,aB,aC,aD])));refine cK ?_);obtain⟨W1,hW1,⟨q0,q1,q2,q3⟩,⟨f0,f1,f2,f3⟩,eD⟩:=EN.BQ hd;unfold aM at hW1;have je:=hHeld.ext eD.e;clear ag;(refine aO 13 ?_;intro K hK);go_simp;rw[<-hW1];clear hW1;refine hK.out _ _ (λ_=>je) ?_;clear hK K q0 q1 q2 q3 f0 f1 f2 f3;(try simp only[Act.put,aB,aC,aD]);have ag:=je;(refine cB [14] ?_;(iterate 1 (refine bZ (v:=?_) ?_ ?_;rotate_left 1;(intro wS hSw;obtain⟨⟨A1,A2,A3,A4⟩,⟨A5,A6,A7,A8⟩,A9,sJ,sK,sM⟩:=hSw;go_simp;try with_reducible rfl);(try simp only[Act.put,aB,aC,aD])));refine cK ?_);refine dX ?_;go_wp2_with (fail)
   go_meet
   exact⟨_,_,rfl,rfl,eD⟩
 case rest=>
  obtain⟨a,v,rfl,rfl,HP⟩:=hcut;have eX:=ae (ql.out.trans HP.e);have CX:=ae (JS.out.ext HP.e);have Qd:=ae (JU.out.ext HP.e);have P5:=ae HP.x;have Mj:Hid (MU (g0+1) (g0+2) a y z v wc):=⟨yE.out.2.1.ext HP.e,yE.out.2.2.ext HP.e,HP.p⟩;clear HP Az JS JU ql yE
  go_upto_region 3 with(fail)
  have bI:Ext wc wc.drew:=(aA wc).drew;have yE:Hid (MU (g0+1) (g0+2) a y z v wc.drew):=Mj.out.ext bI;have JS:=ae (CX.out.ext bI);have JU:=ae (Qd.out.ext bI);have HVd:=ae (P5.out.ext bI);have ql:=ae (eX.out.trans bI);clear CX Qd P5 eX Mj bI;refine gB (MU (g0+1) (g0+2) a y z v) 22 (by kernel_rfl) yE.out (λhHeld=>?_);generalize wc.drew=wd at*;(refine cB [0,1,2,3,4,6] ?_;(iterate 6 (refine bZ (v:=?_) ?_ ?_;rotate_left 1;(intro wS hSw;obtain⟨⟨A1,A2,A3,A4⟩,⟨A5,A6,A7,A8⟩,A9,sJ,sK,sM⟩:=hSw;go_simp;try with_reducible rfl);(try simp only[Act.put,aB,aC,aD])));refine cK ?_);((refine aO 5 ?_;intro K hK);go_simp;(refine(qeE M0 y (kr 2) 1 2 wd (qN _) JS.out.pi (by decide) (by decide) (Qx 2) (by decide)).mono ?_);rintro e_ v1 ⟨p,rfl,hp,d1⟩;go_wp2_with (fail);(try clear ag);(have ag:=hHeld.ext d1);(refine hK.out _ _ (λ_=>ag) ?_);clear hK K;(try simp only[Act.put,aB,aC,aD]));((refine aO 7 ?_;intro K hK);go_simp;(refine(XE 4 (by omega) v1).mono ?_);rintro e_ v2 ⟨ib,ia,ik,ip,rfl,hI,d2⟩;go_wp2_with (fail);(try clear ag);(have ag:=hHeld.ext (d1.trans d2));(refine hK.out _ _ (λ_=>ag) ?_);clear hK K;(try simp only[Act.put,aB,aC,aD]));((refine aO 8 ?_;intro K hK);go_simp;(refine(qeF M0 z (kr 3) 1 ib ia ik ip 4 v2 (qN _) (JU.out.ext (d1.trans d2)).pi hI (by decide) (Qx 3) (by decide)).mono ?_);rintro e_ v3 ⟨q,rfl,hq,d3⟩;go_wp2_with (fail);(try clear ag);(have ag:=hHeld.ext ((d1.trans d2).trans d3));(refine hK.out _ _ (λ_=>ag) ?_);clear hK K;(try simp only[Act.put,aB,aC,aD]))
  ((refine aO 9 ?_;intro K hK);go_simp;(refine(qeG M0 p q (bO (kr 2) 2) (aF (kr 3) [(4,Mo.zero)]) 1 v3 (qN _) (hp.ext (d2.trans d3)).pi hq.pi (by decide) (by decide) (VM (xe (by decide)) (by decide)) (by decide)).mono ?_);rintro e_ v4 ⟨u,rfl,hu,d4⟩;go_wp2_with (fail);(try clear ag);(have ag:=hHeld.ext (((d1.trans d2).trans d3).trans d4));(refine hK.out _ _ (λ_=>ag) ?_);clear hK K;(try simp only[Act.put,aB,aC,aD]));((refine aO 10 ?_;intro K hK);go_simp;(refine(qeM v u hD hD v4 true (HVd.out.ext (((d1.trans d2).trans d3).trans d4)).pi hu.pi (by simp[af.refl])).mono ?_);rintro e_ v5 ⟨rfl,d5⟩;go_wp2_with (fail);(try clear ag);(have ag:=hHeld.ext ((((d1.trans d2).trans d3).trans d4).trans d5));(refine hK.out _ _ (λ_=>ag) ?_);clear hK K;(try simp only[Act.put,aB,aC,aD]));(refine cB [11,12] ?_;(iterate 2 (refine bZ (v:=?_) ?_ ?_;rotate_left 1;(intro wS hSw;obtain⟨⟨A1,A2,A3,A4⟩,⟨A5,A6,A7,A8⟩,A9,sJ,sK,sM⟩:=hSw;go_simp;try with_reducible rfl);(try simp only[Act.put,aB,aC,aD])));refine cK ?_);have k5:=(((d1.trans d2).trans d3).trans d4).trans d5;clear hp hI hq hu d1 d2 d3 d4 d5 JS JU HVd yE;(refine pI 13 15 (oi:=?_) (oj:=?_) (by kernel_rfl) ?_ ?_ ?_ ?_;rotate_left 2;(simp only[fC,fD,fE];rfl);(simp only[fC,fD,fE];rfl);all_goals intro K hK)
  ·go_simp;have ea:Ext v5 (v5.alloc (.cells #[.int .i64 (-2),.int .i64 1] 2)):=(aA _).alloc _;have k6:=(k5).trans ea;have si:=qrb v5 hz1 (-2) 1 rfl rfl (by omega);clear ea
   try clear ag
   have ag:=hHeld.ext k6;refine hK.out _ _ (λ_=>ag) ?_;clear hK K;(try simp only[Act.put,aB,aC,aD]);generalize v5.alloc (.cells #[.int .i64 (-2),.int .i64 1] 2)=v6 at*;generalize v5.heap.size=g6 at*;(refine pI 14 15 (oi:=?_) (oj:=?_) (by kernel_rfl) ?_ ?_ ?_ ?_;rotate_left 2;(simp only[fC,fD,fE];rfl);(simp only[fC,fD,fE];rfl);all_goals intro K hK)
   ·go_simp;refine(qbK _ v6 si).mono ?_;rintro e v7 ⟨a1,X1,rfl,hu1,D⟩;go_wp2_with (fail);have k7:=(k6).trans D;clear si;clear D
    try clear ag
    have ag:=hHeld.ext k7;refine hK.out _ _ (λ_=>ag) ?_;clear hK K;(try simp only[Act.put,aB,aC,aD]);(refine aO 15 ?_;intro K hK);go_simp;have ea:Ext v7 (v7.alloc (.cells #[.int .i64 (-3),.int .i64 0,.int .i64 1] 2)):=(aA _).alloc _;have k8:=(k7).trans ea;replace hu1:=hu1.ext ea;have pq:=qfk v7 hz2 (-3) 0 1 rfl rfl rfl (by omega);clear ea
    try clear ag
    have ag:=hHeld.ext k8;refine hK.out _ _ (λ_=>ag) ?_;clear hK K;(try simp only[Act.put,aB,aC,aD]);generalize v7.alloc (.cells #[.int .i64 (-3),.int .i64 0,.int .i64 1] 2)=v8 at*;generalize v7.heap.size=g8 at*;(refine aO 16 ?_;intro K hK);go_simp;refine(qbL _ v8 pq).mono ?_;rintro e v9 ⟨a2,X2,rfl,mo,D⟩;go_wp2_with (fail);have k9:=(k8).trans D;clear pq;replace hu1:=hu1.ext D;clear D
    try clear ag
    have ag:=hHeld.ext k9;refine hK.out _ _ (λ_=>ag) ?_;clear hK K;(try simp only[Act.put,aB,aC,aD]);((refine aO 17 ?_;intro K hK);go_simp;(refine(qbM a1 a2 2 3 X1 X2 v9 hu1 mo).mono ?_);rintro e_ y7 ⟨jb,ja,jn,jp,rfl,hJ,d7⟩;go_wp2_with (fail);(try clear ag);(have ag:=hHeld.ext (k9.trans d7));(refine hK.out _ _ (λ_=>ag) ?_);clear hK K;(try simp only[Act.put,aB,aC,aD]));((refine aO 18 ?_;intro K hK);go_simp;(refine(XE 1 (by omega) y7).mono ?_);rintro e_ y8 ⟨lb,la,ln,lp,rfl,hL,d8⟩;go_wp2_with (fail);(try clear ag);(have ag:=hHeld.ext ((k9.trans d7).trans d8));(refine hK.out _ _ (λ_=>ag) ?_);clear hK K;(try simp only[Act.put,aB,aC,aD]));((refine aO 19 ?_;intro K hK);go_simp;(refine(qeN y8 (hJ.ext d8) hL).mono ?_);rintro e_ y9 ⟨rfl,d9⟩;go_wp2_with (fail);(try clear ag);(have ag:=hHeld.ext (((k9.trans d7).trans d8).trans d9));(refine hK.out _ _ (λ_=>ag) ?_);clear hK K;(try simp only[Act.put,aB,aC,aD]));(refine cB [20,21] ?_;(iterate 2 (refine bZ (v:=?_) ?_ ?_;rotate_left 1;(intro wS hSw;obtain⟨⟨A1,A2,A3,A4⟩,⟨A5,A6,A7,A8⟩,A9,sJ,sK,sM⟩:=hSw;go_simp;try with_reducible rfl);(try simp only[Act.put,aB,aC,aD])));refine cK ?_);refine dX ?_;have HF:=ae (ql.out.trans (((k9.trans d7).trans d8).trans d9));clear hHeld ag hu1 mo hJ hL d7 d8 d9;go_wp2;go_ret;exact⟨rfl,HF.out⟩
   ·go_simp;have ea:Ext v6 (v6.alloc (.cells #[.int .i64 (-3),.int .i64 0,.int .i64 1] 2)):=(aA _).alloc _;have XG:=(k6).trans ea;replace si:=si.ext ea;have pq:=qfk v6 hz2 (-3) 0 1 rfl rfl rfl (by omega);clear ea
    try clear ag
    have ag:=hHeld.ext XG;refine hK.out _ _ (λ_=>ag) ?_;clear hK K;(try simp only[Act.put,aB,aC,aD]);generalize v6.alloc (.cells #[.int .i64 (-3),.int .i64 0,.int .i64 1] 2)=v10 at*;generalize v6.heap.size=g10 at*;(refine aO 14 ?_;intro K hK);go_simp;refine(qbK _ v10 si).mono ?_;rintro e v11 ⟨a1,X1,rfl,hu1,D⟩;go_wp2_with (fail);have XH:=(XG).trans D;clear si;replace pq:=pq.ext D;clear D
    try clear ag
    have ag:=hHeld.ext XH;refine hK.out _ _ (λ_=>ag) ?_;clear hK K;(try simp only[Act.put,aB,aC,aD]);(refine aO 16 ?_;intro K hK);go_simp;refine(qbL _ v11 pq).mono ?_;rintro e v12 ⟨a2,X2,rfl,mo,D⟩;go_wp2_with (fail);have SC:=(XH).trans D;clear pq;replace hu1:=hu1.ext D;clear D
    try clear ag
    have ag:=hHeld.ext SC;refine hK.out _ _ (λ_=>ag) ?_;clear hK K;(try simp only[Act.put,aB,aC,aD]);((refine aO 17 ?_;intro K hK);go_simp;(refine(qbM a1 a2 2 3 X1 X2 v12 hu1 mo).mono ?_);rintro e_ y7 ⟨jb,ja,jn,jp,rfl,hJ,d7⟩;go_wp2_with (fail);(try clear ag);(have ag:=hHeld.ext (SC.trans d7));(refine hK.out _ _ (λ_=>ag) ?_);clear hK K;(try simp only[Act.put,aB,aC,aD]));((refine aO 18 ?_;intro K hK);go_simp;(refine(XE 1 (by omega) y7).mono ?_);rintro e_ y8 ⟨lb,la,ln,lp,rfl,hL,d8⟩;go_wp2_with (fail);(try clear ag);(have ag:=hHeld.ext ((SC.trans d7).trans d8));(refine hK.out _ _ (λ_=>ag) ?_);clear hK K;(try simp only[Act.put,aB,aC,aD]));((refine aO 19 ?_;intro K hK);go_simp;(refine(qeN y8 (hJ.ext d8) hL).mono ?_);rintro e_ y9 ⟨rfl,d9⟩;go_wp2_with (fail);(try clear ag);(have ag:=hHeld.ext (((SC.trans d7).trans d8).trans d9));(refine hK.out _ _ (λ_=>ag) ?_);clear hK K;(try simp only[Act.put,aB,aC,aD]));(refine cB [20,21] ?_;(iterate 2 (refine bZ (v:=?_) ?_ ?_;rotate_left 1;(intro wS hSw;obtain⟨⟨A1,A2,A3,A4⟩,⟨A5,A6,A7,A8⟩,A9,sJ,sK,sM⟩:=hSw;go_simp;try with_reducible rfl);(try simp only[Act.put,aB,aC,aD])));refine cK ?_);refine dX ?_;have HF:=ae (ql.out.trans (((SC.trans d7).trans d8).trans d9));clear hHeld ag hu1 mo hJ hL d7 d8 d9;go_wp2;go_ret;exact⟨rfl,HF.out⟩
  ·go_simp;have ea:Ext v5 (v5.alloc (.cells #[.int .i64 (-3),.int .i64 0,.int .i64 1] 2)):=(aA _).alloc _;have k13:=(k5).trans ea;have pq:=qfk v5 hz2 (-3) 0 1 rfl rfl rfl (by omega);clear ea
   try clear ag
   have ag:=hHeld.ext k13;refine hK.out _ _ (λ_=>ag) ?_;clear hK K;(try simp only[Act.put,aB,aC,aD]);generalize v5.alloc (.cells #[.int .i64 (-3),.int .i64 0,.int .i64 1] 2)=Jn at*;generalize v5.heap.size=g13 at*;(refine aO 13 ?_;intro K hK);go_simp;have ea:Ext Jn (Jn.alloc (.cells #[.int .i64 (-2),.int .i64 1] 2)):=(aA _).alloc _;have k14:=(k13).trans ea;replace pq:=pq.ext ea;have si:=qrb Jn hz1 (-2) 1 rfl rfl (by omega);clear ea
   try clear ag
   have ag:=hHeld.ext k14;refine hK.out _ _ (λ_=>ag) ?_;clear hK K;(try simp only[Act.put,aB,aC,aD]);generalize Jn.alloc (.cells #[.int .i64 (-2),.int .i64 1] 2)=v14 at*;generalize Jn.heap.size=g14 at*;(refine aO 14 ?_;intro K hK);go_simp;refine(qbK _ v14 si).mono ?_;rintro e v15 ⟨a1,X1,rfl,hu1,D⟩;go_wp2_with (fail);have k15:=(k14).trans D;clear si;replace pq:=pq.ext D;clear D
   try clear ag
   have ag:=hHeld.ext k15;refine hK.out _ _ (λ_=>ag) ?_;clear hK K;(try simp only[Act.put,aB,aC,aD]);(refine aO 16 ?_;intro K hK);go_simp;refine(qbL _ v15 pq).mono ?_;rintro e v16 ⟨a2,X2,rfl,mo,D⟩;go_wp2_with (fail);have SF:=(k15).trans D;clear pq;replace hu1:=hu1.ext D;clear D
   try clear ag
   have ag:=hHeld.ext SF;refine hK.out _ _ (λ_=>ag) ?_;clear hK K;(try simp only[Act.put,aB,aC,aD]);((refine aO 17 ?_;intro K hK);go_simp;(refine(qbM a1 a2 2 3 X1 X2 v16 hu1 mo).mono ?_);rintro e_ y7 ⟨jb,ja,jn,jp,rfl,hJ,d7⟩;go_wp2_with (fail);(try clear ag);(have ag:=hHeld.ext (SF.trans d7));(refine hK.out _ _ (λ_=>ag) ?_);clear hK K;(try simp only[Act.put,aB,aC,aD]));((refine aO 18 ?_;intro K hK);go_simp;(refine(XE 1 (by omega) y7).mono ?_);rintro e_ y8 ⟨lb,la,ln,lp,rfl,hL,d8⟩;go_wp2_with (fail);(try clear ag);(have ag:=hHeld.ext ((SF.trans d7).trans d8));(refine hK.out _ _ (λ_=>ag) ?_);clear hK K;(try simp only[Act.put,aB,aC,aD]));((refine aO 19 ?_;intro K hK);go_simp;(refine(qeN y8 (hJ.ext d8) hL).mono ?_);rintro e_ y9 ⟨rfl,d9⟩;go_wp2_with (fail);(try clear ag);(have ag:=hHeld.ext (((SF.trans d7).trans d8).trans d9));(refine hK.out _ _ (λ_=>ag) ?_);clear hK K;(try simp only[Act.put,aB,aC,aD]));(refine cB [20,21] ?_;(iterate 2 (refine bZ (v:=?_) ?_ ?_;rotate_left 1;(intro wS hSw;obtain⟨⟨A1,A2,A3,A4⟩,⟨A5,A6,A7,A8⟩,A9,sJ,sK,sM⟩:=hSw;go_simp;try with_reducible rfl);(try simp only[Act.put,aB,aC,aD])));refine cK ?_);refine dX ?_;have HF:=ae (ql.out.trans (((SF.trans d7).trans d8).trans d9));clear hHeld ag hu1 mo hJ hL d7 d8 d9;go_wp2;go_ret;exact⟨rfl,HF.out⟩
section
variable{P:Program}{ops:Array Oper}{Q:Exit->Act->World->Prop}{md:Region.Mode}{S:World->Prop}{last:Nat}
theorem qFK{i:Nat}{is:List Nat}{oi:Oper}{fuel:Nat}{listed:Array Bool}{a:Act}{w:World}
 (h:M4 P md ops Q S last is fuel (listed.setIfInBounds i true) (a.put oi.dst undef) w)
 (hc:(Region.noSelect ops&&Region.free md ops listed i&&(Region.ready md ops listed).contains i&&waits md ops last i)=true:=by kernel_rfl) (hS:S w:=by first|exact ag|exact hHeld)
 (hi:ops[i]?=some oi:=by simp only[fC,fD,fE];rfl) (hwd:Region.wanted oi (yielded ops a.tmps)=false:=by rfl) (hQ:∀c a w,Q (.panic c) (a.put oi.dst undef) w->Q (.panic c) a w:=by exactλ_ _ _ h=>h):M4 P md ops Q S last (i::is) (fuel+1) listed a w:=by
 simp only[Bool.and_eq_true]at hc;exact⟨qqX hi (Region.noSelect_spec hc.1.1.1) hQ hc.2 fuel listed a w (Region.free_spec hi hc.1.1.2) (by simpa using hc.1.2) (.inr ⟨hwd,rfl⟩) hS h.out⟩
end
end Go.Proofs.YtmcfpnmoklnhoaaGreat
