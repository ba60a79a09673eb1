/- Ya -/
import Derived.Test.YtmcfpnmoklnhoaaGreatXb
import Derived.Test.YtmcfpnmoklnhoaaGreatNb
import Derived.Test.YtmcfpnmoklnhoaaGreatNe
set_option linter.unusedVariables false
set_option maxRecDepth 100000
set_option maxHeartbeats 400000000
set_option linter.unusedSimpArgs false
namespace Go.Proofs.YtmcfpnmoklnhoaaGreat
open Go.RowKit
theorem qs7{M:Nat->Prop}(x y:IE)(p q:Int)(w:World)(hM:Mb M w)(h:IX M w x p)(k:IX M w y q)(hL:az p.natAbs+1<=1099511627776)(D8:az q.natAbs+1<=1099511627776):
 Calls Tryz.prog 137 #[.agg #[.bool x.b,.slice x.a x.n x.p],.agg #[.bool y.b,.slice y.a y.n y.p]] w (kI M w (Int.gcd p q:Nat)):=by
 refine(qsu x.b x.a x.n x.p p y.b y.a y.n y.p q w hM h k hL D8).mono ?_;rintro e w' ⟨b,a,n,c,rfl,hc,he⟩;exact⟨⟨b,a,n,c⟩,rfl,hc.eH,he⟩
def K3(M:Nat->Prop)(w:World)(b off m:Nat)(A:Nat->Option Addr)(N C:Nat->Nat)(X:Nat->Nat->IE)(z:Nat->Nat->Int):Prop:=b<w.heap.size/\∀j,j<m->w.cell? ⟨b,off+j,none⟩=some (.slice (A j) (N j) (C j))/\bg M w (A j) (N j) (C j) (X j) (z j)
theorem K3.ext{M:Nat->Prop}{w w':World}{b off m:Nat}{A:Nat->Option Addr}{N C:Nat->Nat}{X:Nat->Nat->IE}{z:Nat->Nat->Int}(h:K3 M w b off m A N C X z)(he:Ext w w'):K3 M w' b off m A N C X z:=
 ⟨Nat.lt_of_lt_of_le h.1 he.size,λj hj=>⟨by rw[he.cell h.1];exact(h.2 j hj).1,(h.2 j hj).2.ext he⟩⟩
def qgw(M:Nat->Prop)(w:World)(m:Nat)(N:Nat->Nat)(z:Nat->Nat->Int)(D:Nat)(e:Ending)(w':World):Prop:=
 ∃(x:IE)(c:Int),e=.returned (.agg #[.bool x.b,.slice x.a x.n x.p])/\IX M w' x c/\0<=c/\az c.natAbs<=D/\(∀j,j<m->∀i,i<N j->c∣z j i)/\Ext w w'
def AL(m k:Nat)(j:Nat)(N:Nat->Nat)(z:Nat->Nat->Int)(D:Nat)(c:Int):Prop:=0<=c/\az c.natAbs<=D/\(∀q,q<j->∀i,i<N q->c∣z q i)/\(j<m->∀i,k<=i->i<N j->c∣z j i)
theorem AL.step{m k j D:Nat}{N:Nat->Nat}{z:Nat->Nat->Int}{c:Int}(h:AL m (k+1) j N z D c)(hd:az (z j k).natAbs<=D):AL m k j N z D (Int.gcd c (z j k):Nat):=by
 obtain⟨h0,h1,h2,h3⟩:=h;have hl:((Int.gcd c (z j k):Nat):Int)∣c:=Int.gcd_dvd_left ..;refine⟨Int.natCast_nonneg _,?_,λq hq i hi=>Int.dvd_trans hl (h2 q hq i hi),λhj i hk hi=>?_⟩
 ·rw[Int.natAbs_natCast]
  by_cases hc:c=0
  ·subst hc;have e:Int.gcd 0 (z j k)=(z j k).natAbs:=Int.gcd_zero_left _;rw[e];exact hd
  ·exact Nat.le_trans (ji (Int.gcd_le_natAbs_left _ hc)) h1
 ·by_cases e:i=k
  ·subst e;exact Int.gcd_dvd_right ..
  ·exact Int.dvd_trans hl (h3 hj i (by omega) hi)
theorem AL.one{m j D:Nat}{N:Nat->Nat}{z:Nat->Nat->Int}:AL m (N j) j N z D 0↔∀q,q<j->∀i,i<N q->(0:Int)∣z q i:=
 ⟨λh=>h.2.2.1,λh=>⟨Int.le_refl _,Nat.le_trans (by decide:az (0:Int).natAbs<=0) (Nat.zero_le _),h,λ_ i h1 h2=>by omega⟩⟩
theorem kI.cn{M:Nat->Prop}{w w':World}{m D:Nat}{N:Nat->Nat}{z:Nat->Nat->Int}{c:Int}{e:Ending}(h:kI M w c e w')(h0:0<=c)(h1:az c.natAbs<=D)(h2:∀j,j<m->∀i,i<N j->c∣z j i):qgw M w m N z D e w':=by
 obtain⟨x,e,hx,he⟩:=h;exact⟨x,c,e,hx,h0,h1,h2,he⟩
theorem qoB(M:Nat->Prop)(b m cp:Nat)(A:Nat->Option Addr)(N C:Nat->Nat)(X:Nat->Nat->IE)(z:Nat->Nat->Int)(D:Nat)(w:World)(hM:Mb M w)(h:K3 M w b 0 m A N C X z)(hm:m<=100)(hmc:m<=cp)(wI:cp<=100)(hN:∀j,j<m->N j<=1000000)(hz:∀j,j<m->∀i,i<N j->az (z j i).natAbs<=D)(hD:D<=500000000000):
 Calls Tryz.prog 87 #[.slice (some ⟨b,0,none⟩) m cp] w (qgw M w m N z D):=by
 have HU:=Lib.hid h;have HM:=Lib.hid hM;have HN:=Lib.hid hN;have HZ:=Lib.hid hz;clear h hN hz
 go_enter Tryz.func87,Tryz.ntmps87
 have aQ:=(Ext.refl w).alloc (.cells #[.bool false,.slice none 0 0] 30);have bO:=ak.bf w #[.bool false,.slice none 0 0] 30 2 rfl;have dw:Mb (λb=>M b\/b=w.heap.size) (w.alloc (.cells #[.bool false,.slice none 0 0] 30)):=mO (hM.ext aQ) (by simp)
 go_upto_region 1 with(fail)
 go_wp2_with (fail);refine(ofI 1 _ dw (by omega)).mono ?_;rintro e w1 ⟨v,rfl,hv,af⟩;obtain⟨g1,mI⟩:∃g1,g1=w1.heap.size:=⟨_,rfl⟩;have aN:=(Ext.refl w1).alloc (.cells #[.bool v.b,.slice v.a v.n v.p] 30);have bH:=ak.bf w1 #[.bool v.b,.slice v.a v.n v.p] 30 2 rfl;rw[<-mI]at bH;obtain⟨W2,jg⟩:∃W2,w1.alloc (.cells #[.bool v.b,.slice v.a v.n v.p] 30)=W2:=⟨_,rfl⟩;rw[jg]at aN bH;have uS:=Lib.hid jg;have xm:=Lib.hid mI
 have qvq:w.heap.size<g1:=by have:=af.size;simp at this;omega
 have cZ:=(bO.ext af).ext aN;have jl:=(aQ.trans af).trans aN;have eG:Mb (λb=>M b\/b=w.heap.size) W2:=dw.ext (af.trans aN);have hv2:=hv.ext aN;obtain⟨gv,PS⟩:∃gv,gv=W2.heap.size:=⟨_,rfl⟩;have kK:=(Ext.refl W2).alloc (.cells #[.bool false,.slice none 0 0] 30);have wB:=ak.bf W2 #[.bool false,.slice none 0 0] 30 2 rfl;rw[<-PS]at wB;obtain⟨W3,qo⟩:∃W3,W2.alloc (.cells #[.bool false,.slice none 0 0] 30)=W3:=⟨_,rfl⟩;rw[qo]at kK wB;have Bh:=Lib.hid qo;have HGV:=Lib.hid PS
 have qBx:g1<gv:=by have:=bH.lt;omega
 have Cg:∀g,M3 M w.heap.size gv g->(M g\/g=w.heap.size)\/W2.heap.size<=g:=λg h=>h.imp id λe=>by omega
 have HA:Hid (Ac (M3 M w.heap.size gv) w w.heap.size gv ⟨false,none,0,0⟩ 0 W3):=
  ⟨wB,cZ.ext kK,(dJ.zero _ _).eH,mO (eG.ext kK) wB.lt,jl.trans kK,by omega,by omega,by omega,.inr rfl,.inl (.inr rfl)⟩
 have HJ:Hid (JC W3 g1 0 v):=(kY bH).ext bH.lt kK;have HV:Hid (IX (M3 M w.heap.size gv) W3 v 1):=(hv2.more Cg).ext kK;clear jg aN bH hv af aQ bO dw cZ jl eG hv2 qo kK wB Cg mI PS hM
 go_upto_region 2 with(fail)
 rw[uS.out, <-xm.out];clear uS xm
 go_upto_region 3 with(fail)
 rw[Bh.out, <-HGV.out];clear Bh HGV;go_wp2
 go_loopw [12] (λiv wr=>∃(j:Nat)(x:IE)(c:Int),j<=m/\iv=.int .i64 (j:Int)/\Hid (Ac (M3 M w.heap.size gv) w w.heap.size gv x c wr)/\Hid (JC wr g1 0 v)/\Hid (IX (M3 M w.heap.size gv) wr v 1)/\Hid (AL m (N j) j N z D c)) (λiv _=>m-(intOf iv).toNat)
 case atStart=>exact⟨0,_,0,Nat.zero_le _,rfl,HA,HJ,HV,AL.one.2 λq hq=>absurd hq (Nat.not_lt_zero _)⟩
 case round=>
  clear HA HJ HV;obtain⟨j,x,c,hj,rfl,HA,HJ,HV,HC⟩:=hrel
  by_cases hlt:j<m
  ·have hjI:(j:Int)<(m:Int):=by omega
   have hj0:(0:Int)<=(j:Int):=Int.natCast_nonneg _;have hjw:IntKind.i64.wrap (j:Int)=(j:Int):=IntWalk.i64_in _ (by omega);have Ie:Hid (j<m):=hlt;obtain⟨hcell,hrow⟩:=(HU.out.ext HA.out.e).2 j hlt;rw[Nat.zero_add]at hcell;obtain⟨aj,haj⟩:∃aj,aj=A j:=⟨_,rfl⟩;rw[<-haj]at hcell;have HAJ:=Lib.hid haj;clear haj;have hNj:=HN.out j hlt;have UH:b<wr.heap.size:=Nat.lt_of_lt_of_le HU.out.1 HA.out.e.size;clear hrow hlt;obtain⟨wo,rfl⟩:∃wo,wo=wr:=⟨_,rfl⟩;go_wp2
   go_loopw [7] (λiv wr=>∃(k:Nat)(x:IE)(c:Int),k<=N j/\iv=.int .i64 ((k:Int)-1)/\Hid (Ac (M3 M w.heap.size gv) w w.heap.size gv x c wr)/\Hid (JC wr g1 0 v)/\Hid (IX (M3 M w.heap.size gv) wr v 1)/\Hid (AL m k j N z D c)) (λiv _=>(intOf iv+1).toNat)
   case atStart=>exact⟨N j,x,c,Nat.le_refl _,rfl,HA,HJ,HV,HC⟩
   case round=>
    clear HA HJ HV HC hcell UH;obtain⟨k1,x,c,hk,rfl,HA,HJ,HV,HC⟩:=hrel
    by_cases fJ:k1=0
    ·subst fJ
     have iZ:¬((0:Int)<=((0:Nat):Int)-1):=by omega
     have mf:Hid (AL m (N (j+1)) (j+1) N z D c):=by
      obtain⟨q0,q1,q2,q3⟩:=HC.out;refine⟨q0,q1,λq hq i hi=>?_,λ_ i h1 h2=>by omega⟩
      by_cases e:q=j
      ·subst e;exact q3 Ie.out i (Nat.zero_le _) hi
      ·exact q2 q (by omega) i hi
     clear HC;go_wp2
     go_roundw
     case rel=>exact⟨j+1,x,c,Ie.out,by go_num,HA,HJ,HV,mf⟩
     case measure=>have:=Ie.out;simp[intOf];omega
    ·obtain⟨k,rfl⟩:∃k,k1=k+1:=⟨k1-1,by omega⟩;have Er:(0:Int)<=(k:Int):=Int.natCast_nonneg _
     have hkn:(k:Int)<((N j:Nat):Int):=by omega
     have hkw:IntKind.i64.wrap (k:Int)=(k:Int):=IntWalk.i64_in _ (by omega)
     have PV:(k:Int)+1<=1000001:=by omega
     have gF:Hid (k<N j):=by show _<_;omega
     obtain⟨gb,ob,ha,fD,PQ,hx⟩:=((HU.out.ext HA.out.e).2 j Ie.out).2.jH (i:=k) gF.out
     have Gv:∀g,M3 M w.heap.size gv g->M g\/w.heap.size<=g:=λg h=>by
      rcases h with(h|e)|e
      ·exact .inl h
      ·exact .inr (by omega)
      ·exact .inr (by omega)
     have wU:IX M w (X j k) (z j k):=by
      obtain⟨_,_,_,_,_,q⟩:=(HU.out.2 j Ie.out).2.jH (i:=k) gF.out;exact q
     have oK:=(wU.more Gv).ext HA.out.e;obtain rfl:aj=some ⟨gb,ob,none⟩:=HAJ.out.trans ha;have cO:=(Ext.refl wr).drew;have hS:xL gb (ob+k*2) (X j k) gv x g1 0 v wr.drew:=xL.ext ⟨fD,kY HA.out.v,HJ.out,PQ,HA.out.v.lt,HJ.out.lt⟩ cO;have HAD:=Lib.hid (HA.out.ext cO);have Ic:=Lib.hid (HJ.out.ext HJ.out.lt cO);have Ip:=Lib.hid (HV.out.ext cO);have mr:=Lib.hid (oK.ext cO);have O0:gb<wr.drew.heap.size:=hS.2.2.2.1;have O3:gv<wr.drew.heap.size:=hS.2.2.2.2.1;have qtk:g1<wr.drew.heap.size:=hS.2.2.2.2.2;clear cO fD hx wU oK PQ ha Gv HA HJ HV fJ hk;rw[show((k+1:Nat):Int)=(k:Int)+1 by omega,show(k:Int)+1-1=(k:Int) by omega]
     go_upto_region 9 with(fail)
     refine fM (xL gb (ob+k*2) (X j k) gv x g1 0 v) 6 (by kernel_rfl) hS (λhHeld=>?_);clear hS;generalize wr.drew=wd at*
     have C5:Hid (∀(W:World),Ext wd W->Calls Tryz.prog 137 #[.agg #[.bool x.b,.slice x.a x.n x.p],.agg #[.bool (X j k).b,.slice (X j k).a (X j k).n (X j k).p]] W (kI (M3 M w.heap.size gv) W (Int.gcd c (z j k):Nat))):=λW he=>
      qs7 x (X j k) c (z j k) W (HAD.out.m.ext he) (HAD.out.x.ext he) (mr.out.ext he) (by have:=HC.out.2.1;omega) (by have:=HZ.out j Ie.out k gF.out;omega)
     (refine dF [0,1,2,3,4] ?_;(iterate 5 (refine dD (v:=?_) ?_ ?_;rotate_left 1;(intro wS hSw;obtain⟨⟨S1,S2⟩,⟨S3,S4⟩,⟨S5,S6⟩,S7,S8,S9⟩:=hSw;go_simp;try with_reducible rfl);(try simp only[Act.put,aD,aF,aG])));refine dG ?_);((refine aK 5 ?_;intro K hK);go_simp;(refine(C5.out _ (Ext.refl _)).mono ?_);rintro e_ u2 ⟨u,rfl,hu,bN⟩;go_wp2_with (fail);(try clear ag);(have ag:=hHeld.ext bN);(refine hK.out _ _ (λ_=>ag) ?_);clear hK K;(try simp only[Act.put,aD,aF,aG]));have mf:Hid (AL m k j N z D (Int.gcd c (z j k):Nat)):=HC.out.step (HZ.out j Ie.out k gF.out);generalize ((Int.gcd c (z j k):Nat):Int)=c2 at*;have hA5:=HAD.out.ext bN;have Dc:=Lib.hid (hA5.sum hu);have Dm:Hid (JC (bK u2 gv 0 (.bool u.b) (.slice u.a u.n u.p)) g1 0 v):=(Ic.out.ext Ic.out.lt bN).of_heap (wK _ _ _ _ _ _ (by omega));have rC:Hid (IX (M3 M w.heap.size gv) (bK u2 gv 0 (.bool u.b) (.slice u.a u.n u.p)) v 1):=(Ip.out.ext bN).kp (Kp.bK (.inr rfl) _ _ _);obtain⟨W6,jy⟩:∃W6,bK u2 gv 0 (.bool u.b) (.slice u.a u.n u.p)=W6:=⟨_,rfl⟩;obtain⟨⟨k0,k1⟩,fB,fo,kN⟩:=hA5.put;rw[jy]at Dc Dm rC;unfold bK at jy;have p9:=Lib.hid jy;clear hA5 hu bN jy HAD Ic Ip mr C5 hHeld ag HC;((refine aK 6 ?_;intro K hK);go_simp;(refine hK.out _ _ (λh=>absurd rfl h) ?_);clear hK K;refine ek ?_)
     go_upto_region 10 with(fail)
     rw[p9.out];clear k0 k1 fB fo kN p9 O0 O3 qtk;obtain⟨y0,y1⟩:=kY Dc.out.v;obtain⟨v0,v1⟩:=Dm.out;have sU:=Dc.out.v.lt;have hvl:=Dm.out.lt;go_wp2_with (fail);refine(qlX _ _ _ _ c2 1 W6 Dc.out.x rC.out).mono ?_;rintro e w7 ⟨rfl,fE⟩;have J4:=Lib.hid (Dc.out.ext fE);have HJ7:=Lib.hid (Dm.out.ext Dm.out.lt fE);have Ta:=Lib.hid (rC.out.ext fE);clear fE Dc Dm rC y0 y1 v0 v1 sU hvl
     by_cases h1:c2=1
     ·have ht:decide (c2=1)=true:=decide_eq_true h1;obtain⟨⟨s0,s1,g0,g1'⟩,⟨r0,r1⟩,hR⟩:=J4.out.ret (M:=M) (λg hg=>.inl (.inl hg));obtain⟨v0,v1⟩:=kY J4.out.v;have hvl:=J4.out.v.lt;have Qh:=J4.out.r.lt;have HR:=Lib.hid (hR.cn (m:=m) (N:=N) (z:=z) mf.out.1 mf.out.2.1 λj hj i hi=>by rw[h1];exact Int.one_dvd _);clear hR J4 HJ7 Ta mf h1;rw[ht];go_wp2;exact bodyPost_ret (v:=.agg #[.bool u.b,.slice u.a u.n u.p]) (by simp[results,Tryz.results87,go_sem,r0,r1]) rfl HR.out
     ·have ht:decide (c2=1)=false:=decide_eq_false h1;clear h1;rw[ht];go_wp2
      go_roundw
      case rel=>exact⟨k,u,c2,by have:=gF.out;omega,by go_num,J4,HJ7,Ta,mf⟩
      case measure=>simp[intOf]
  ·obtain rfl:j=m:=by omega
   obtain⟨⟨s0,s1,g0,g1'⟩,⟨r0,r1⟩,hR⟩:=HA.out.ret (M:=M) (λg hg=>.inl (.inl hg));obtain⟨v0,v1⟩:=kY HA.out.v;have hvl:=HA.out.v.lt;have Qh:=HA.out.r.lt;have HR:=Lib.hid (hR.cn (m:=j) (N:=N) (z:=z) HC.out.1 HC.out.2.1 HC.out.2.2.1);clear hR HA HJ HV HC;go_wp2;exact bodyPost_ret (v:=.agg #[.bool x.b,.slice x.a x.n x.p]) (by simp[results,Tryz.results87,go_sem,r0,r1]) rfl HR.out
theorem qmG{M:Nat->Prop}(x:IE)(p:Int)(w:World)(hM:Mb M w)(h:IX M w x p):Calls Tryz.prog 139 #[.agg #[.bool x.b,.slice x.a x.n x.p]] w (kI M w (-p)):=by
 refine(qvY x.b x.a x.n x.p p w hM h).mono ?_;rintro e w' ⟨b,a,n,c,rfl,hc,he⟩;exact⟨⟨b,a,n,c⟩,rfl,hc.eH,he⟩
theorem qnI{M:Nat->Prop}(x y:IE)(p q:Int)(w:World)(hM:Mb M w)(h:IX M w x p)(k:IX M w y q)(hz:q≠0)(hL:az p.natAbs+1<=1099511627776):
 Calls Tryz.prog 126 #[.agg #[.bool x.b,.slice x.a x.n x.p],.agg #[.bool y.b,.slice y.a y.n y.p]] w λe w'=>∃u v:IE,e=.returned (.tuple #[.agg #[.bool u.b,.slice u.a u.n u.p],.agg #[.bool v.b,.slice v.a v.n v.p],.int .i64 0])/\IX M w' u (p.tdiv q)/\Ext w w':=by
 refine(qhK x.b x.a x.n x.p p y.b y.a y.n y.p q w hM h k hz hL).mono ?_;rintro e w' ⟨b,a,n,c,b2,a2,n2,c2,rfl,hc,_,he⟩;exact⟨⟨b,a,n,c⟩,⟨b2,a2,n2,c2⟩,rfl,hc.eH,he⟩
def qgx(M:Nat->Prop)(w:World)(n:Nat)(z:Nat->Int)(D:Nat)(e:Ending)(w':World):Prop:=
 ∃(x:IE)(c:Int),e=.returned (.agg #[.bool x.b,.slice x.a x.n x.p])/\IX M w' x c/\0<=c/\az c.natAbs<=D/\(∀i,i<n->c∣z i)/\Ext w w'
theorem qzK(M:Nat->Prop)(a:Option Addr)(n cap:Nat)(X:Nat->IE)(z:Nat->Int)(D:Nat)(w:World)(hM:Mb M w)(h:bg M w a n cap X z)(hn:n<=1000000)(hz:∀i,i<n->az (z i).natAbs<=D)(hD:D<=500000000000):
 Calls Tryz.prog 138 #[.slice a n cap] w (qgx M w n z D):=by
 have aQ:=(Ext.refl w).alloc (.cells #[.bool false,.slice none 0 0] 30);have bO:=ak.bf w #[.bool false,.slice none 0 0] 30 2 rfl;have dw:Mb (Mx M w.heap.size (w.heap.size+1)) (w.alloc (.cells #[.bool false,.slice none 0 0] 30)):=Mx.mb hM (by simp) (by simp);have hu:=(h.more (M':=Mx M w.heap.size (w.heap.size+1)) (Mx.more (Nat.le_refl _))).ext aQ;generalize hW:w.alloc (.cells #[.bool false,.slice none 0 0] 30)=W at*;have aN:=(Ext.refl W).alloc (.cells #[.slice a n cap] 23);have bH:=ak.bf W #[.slice a n cap] 23 1 rfl
 have Pq:K3 (Mx M w.heap.size (w.heap.size+1)) (W.alloc (.cells #[.slice a n cap] 23)) W.heap.size 0 1 (λ_=>a) (λ_=>n) (λ_=>cap) (λ_=>X) (λ_=>z):=
  ⟨bH.lt,λj hj=>by
   obtain rfl:j=0:=by omega
   exact⟨bH.cell (i:=0) (by omega),hu.ext aN⟩⟩
 have CC:=Lib.hid (qoB _ W.heap.size 1 1 (λ_=>a) (λ_=>n) (λ_=>cap) (λ_=>X) (λ_=>z) D _ (dw.ext aN) Pq (by omega) (Nat.le_refl 1) (by omega) (λ_ _=>hn) (λ_ _=>hz) hD);have HW:=Lib.hid hW;have HB:=Lib.hid (bO.ext aN);have HE:=Lib.hid (aQ.trans aN);clear hW aQ bO dw hu aN bH Pq h hM hz
 go_enter Tryz.func138,Tryz.ntmps138
 go_upto_region 1 with(fail)
 rw[HW.out];clear HW;go_wp2_with (fail);refine CC.out.mono ?_;rintro e w2 ⟨x,c,rfl,hx,h0,h1,h2,aA⟩;obtain⟨⟨q0,q1,f0,f1⟩,⟨r0,r1⟩,aZ,dM⟩:=nL (M':=Mx M w.heap.size (w.heap.size+1)) (w:=w) (.bool x.b) (.slice x.a x.n x.p) (HB.out.ext aA) (Mx.at (by omega)) (Nat.le_refl _) (HE.out.trans aA);have HF:Hid (qgx M w n z D (.returned (.agg #[.bool x.b,.slice x.a x.n x.p])) _):=⟨x,c,rfl,(hx.kp aZ).more Mx.less,h0,h1,h2 0 (by omega),dM⟩;have hlt:=(HB.out.ext aA).lt;simp only[arr]at q0 q1;clear aZ dM hx h1 h2 aA CC HB HE;go_wp2;exact bodyPost_ret (v:=.agg #[.bool x.b,.slice x.a x.n x.p]) (by simp[results,Tryz.results138,go_sem,r0,r1]) rfl HF.out
def Q4(c:Int)(k:Nat)(z:Nat->Int)(i:Nat):Int:=if i<k then(z i).tdiv c else z i
theorem qdB(M:Nat->Prop)(a:Option Addr)(n cap:Nat)(X:Nat->IE)(z:Nat->Int)(y:IE)(c:Int)(D:Nat)(w:World)(hM:Mb M w)(h:bg M w a n cap X z)(hy:IX M w y c)(hc:c≠0)(hn:n<=1000000)(hz:∀i,i<n->az (z i).natAbs<=D)(hD:D<=500000000000):
 Calls Tryz.prog 140 #[.slice a n cap,.agg #[.bool y.b,.slice y.a y.n y.p]] w (Bp M w (tz z n) λi=>(z i).tdiv c):=by
 have aN:=(Ext.refl w).alloc (.cells #[.bool y.b,.slice y.a y.n y.p] 30);have bH:=ak.bf w #[.bool y.b,.slice y.a y.n y.p] 30 2 rfl;obtain⟨gc,sP⟩:∃gc,gc=w.heap.size:=⟨_,rfl⟩;rw[<-sP]at bH;obtain⟨W1,hW1⟩:∃W1,w.alloc (.cells #[.bool y.b,.slice y.a y.n y.p] 30)=W1:=⟨_,rfl⟩;rw[hW1]at aN bH;have Fz:=Lib.hid hW1;have sD:=Lib.hid sP;have aL:=Lib.hid aN;have Fh:=Lib.hid (kY bH);have HY:=Lib.hid hy;have HM:=Lib.hid hM;have hle:=jr z n;have HZ:=Lib.hid hz;have qO:=bH.lt;have CN:=Lib.hid (qdC M a n cap X z W1 (hM.ext aN) (h.ext aN));clear hW1 aN bH sP h hy hM hz
 go_enter Tryz.func140,Tryz.ntmps140
 go_upto_region 1 with(fail)
 rw[Fz.out, <-sD.out];clear Fz;go_wp2_with (fail);refine CN.out.mono ?_;rintro e w2 ⟨gq,rfl,zT,kz,aA⟩
 have qud:gc≠gq:=by omega
 have EE:w.heap.size<=gq:=Nat.le_trans aL.out.size zT;have jb:Hid (Mb (λb=>M b\/b=gq) w2):=mO (HM.out.ext (aL.out.trans aA)) kz.lt;have kV:Hid (UK (λb=>M b\/b=gq) w2 gq (tz z n) (tz z n) (Q4 c 0 z)):=kz.congr λi _=>(if_neg (by omega)).symm;have Dl:=Lib.hid (Fh.out.ext Fh.out.lt aA);have aU:=Lib.hid (aL.out.trans aA);have qd:Hid (IX (λb=>M b\/b=gq) w2 y c):=(HY.out.more λg hg=>hg.imp id λe=>by rw[e];exact EE).ext aU.out;have HWQ:=Lib.hid EE;clear CN kz aA zT aL Fh HY sD EE;obtain⟨N,UA⟩:∃N,N=tz z n:=⟨_,rfl⟩;rw[<-UA]at kV hle⊢;have oQ:=Lib.hid UA;clear UA;go_wp2
 go_loopw [11] (λiv wr=>∃k:Nat,k<=N/\iv=.int .i64 (k:Int)/\Hid (UK (λb=>M b\/b=gq) wr gq N N (Q4 c k z))/\Hid (JC wr gc 0 y)/\Hid (IX (λb=>M b\/b=gq) wr y c)/\Hid (Mb (λb=>M b\/b=gq) wr)/\Hid (Ext w wr)) (λiv _=>N-(intOf iv).toNat)
 case atStart=>exact⟨0,Nat.zero_le _,rfl,kV,Dl,qd,jb,aU⟩
 case round=>
  clear kV Dl qd jb aU;obtain⟨k,hk,rfl,HK,HJ,HY,dL,HE⟩:=hrel
  by_cases hlt:k<N
  ·have Er:(k:Int)<(N:Int):=by omega
   have fJ:(0:Int)<=(k:Int):=Int.natCast_nonneg _;have hkw:IntKind.i64.wrap (k:Int)=(k:Int):=IntWalk.i64_in _ (by omega);have gF:Hid (k<N):=hlt;obtain⟨x,Qv,hx⟩:=HK.out.jH (j:=k) hlt (Nat.le_refl _);rw[show Q4 c k z k=z k from if_neg (by omega)]at hx;have cO:=(Ext.refl wr).drew;have hS:qH gq (k*2) x gc y wr.drew:=qH.ext ⟨Qv,HJ.out,HK.out.lt,HJ.out.lt⟩ cO;have xq:=Lib.hid (HK.out.ext cO);have Ic:=Lib.hid (HJ.out.ext HJ.out.lt cO);have DF:=Lib.hid (HY.out.ext cO);have kH:=Lib.hid (dL.out.ext cO);have jF:=Lib.hid (HE.out.trans cO);have mr:=Lib.hid (hx.ext cO);have O0:gq<wr.drew.heap.size:=hS.2.2.1;have O3:gc<wr.drew.heap.size:=hS.2.2.2;clear cO Qv hx HK HJ HY dL HE hlt
   go_upto_region 5 with(fail)
   refine Rw (qH gq (k*2) x gc y) 13 (by kernel_rfl) hS (λhHeld=>?_);clear hS;generalize wr.drew=wd at*;have C7:=Lib.hid (λ(W:World)(he:Ext wd W)=>qnI x y (z k) c W (kH.out.ext he) (mr.out.ext he) (DF.out.ext he) hc (by have:=HZ.out k (by have:=gF.out;omega);omega))
   ((refine pQ 0 (v:=?_) ?_ ?_;rotate_left 1;(intro wS hSw;obtain⟨⟨S1,S2⟩,⟨S3,S4⟩,S5,S6⟩:=hSw;go_simp;try with_reducible rfl);(try simp only[Act.put,aD,aF,aG]));(refine pQ 1 (v:=?_) ?_ ?_;rotate_left 1;(intro wS hSw;obtain⟨⟨S1,S2⟩,⟨S3,S4⟩,S5,S6⟩:=hSw;go_simp;try with_reducible rfl);(try simp only[Act.put,aD,aF,aG]));(refine pQ 2 (v:=?_) ?_ ?_;rotate_left 1;(intro wS hSw;obtain⟨⟨S1,S2⟩,⟨S3,S4⟩,S5,S6⟩:=hSw;go_simp;try with_reducible rfl);(try simp only[Act.put,aD,aF,aG]));(refine pQ 3 (v:=?_) ?_ ?_;rotate_left 1;(intro wS hSw;obtain⟨⟨S1,S2⟩,⟨S3,S4⟩,S5,S6⟩:=hSw;go_simp;try with_reducible rfl);(try simp only[Act.put,aD,aF,aG]));(refine pQ 4 (v:=?_) ?_ ?_;rotate_left 1;(intro wS hSw;obtain⟨⟨S1,S2⟩,⟨S3,S4⟩,S5,S6⟩:=hSw;go_simp;try with_reducible rfl);(try simp only[Act.put,aD,aF,aG]));(refine pQ 5 (v:=?_) ?_ ?_;rotate_left 1;(intro wS hSw;obtain⟨⟨S1,S2⟩,⟨S3,S4⟩,S5,S6⟩:=hSw;go_simp;try with_reducible rfl);(try simp only[Act.put,aD,aF,aG]));(refine pQ 6 (v:=?_) ?_ ?_;rotate_left 1;(intro wS hSw;obtain⟨⟨S1,S2⟩,⟨S3,S4⟩,S5,S6⟩:=hSw;go_simp;try with_reducible rfl);(try simp only[Act.put,aD,aF,aG])))
   ((refine uJ 7 ?_;intro K hK);go_simp;(refine(C7.out _ (Ext.refl _)).mono ?_);rintro e_ u1 ⟨u,v,rfl,hu,bN⟩;go_wp2_with (fail);(try clear ag);(have ag:=hHeld.ext bN);(refine hK.out _ _ (λ_ _=>ag) ?_);clear hK K;(try simp only[Act.put,aD,aF,aG]))
   ((refine EW 8 (v:=?_) ?_ ?_;rotate_left 1;(intro wS;go_simp;try with_reducible rfl);(try simp only[Act.put,aD,aF,aG]));(refine EW 9 (v:=?_) ?_ ?_;rotate_left 1;(intro wS;go_simp;try with_reducible rfl);(try simp only[Act.put,aD,aF,aG]));(refine EW 10 (v:=?_) ?_ ?_;rotate_left 1;(intro wS;go_simp;try with_reducible rfl);(try simp only[Act.put,aD,aF,aG]));(refine EW 11 (v:=?_) ?_ ?_;rotate_left 1;(intro wS;go_simp;try with_reducible rfl);(try simp only[Act.put,aD,aF,aG])))
   ((refine pQ 12 (v:=?_) ?_ ?_;rotate_left 1;(intro wS hSw;obtain⟨⟨S1,S2⟩,⟨S3,S4⟩,S5,S6⟩:=hSw;go_simp;try with_reducible rfl);(try simp only[Act.put,aD,aF,aG])))
   have Lx:=xq.out.ext bN;have aZ:=Kp.bK (M:=λb=>M b\/b=gq) (w:=u1) (g:=gq) (.inr rfl) (k*2) (.bool u.b) (.slice u.a u.n u.p)
   have lJ:Hid (UK (λb=>M b\/b=gq) (bK u1 gq (k*2) (.bool u.b) (.slice u.a u.n u.p)) gq N N (Q4 c (k+1) z)):=(Lx.put (.inr rfl) gF.out hu).congr λi _=>by
    unfold Q4
    by_cases e:i=k
    ·rw[if_pos e,if_pos (by omega),e]
    ·rw[if_neg e]
     by_cases h2:i<k
     ·rw[if_pos h2,if_pos (by omega)]
     ·rw[if_neg h2,if_neg (by omega)]
   have HJ5:Hid (JC (bK u1 gq (k*2) (.bool u.b) (.slice u.a u.n u.p)) gc 0 y):=(Ic.out.ext Ic.out.lt bN).of_heap (wK _ _ _ _ _ _ qud);have HY5:=Lib.hid ((DF.out.ext bN).kp aZ);have yP:Hid (Mb (λb=>M b\/b=gq) (bK u1 gq (k*2) (.bool u.b) (.slice u.a u.n u.p))):=(kH.out.ext bN).size (by rw[Aw];exact Nat.le_refl _);have eD:=Lib.hid ((jF.out.trans bN).bK HWQ.out (k*2) (.bool u.b) (.slice u.a u.n u.p));obtain⟨xx,⟨k0,k1⟩,_⟩:=Lx.jH (j:=k) gF.out (Nat.le_refl _);have fB:=Lx.xP (k*2);have fo:=Lx.xP (k*2+1);have kN:=Lx.lt;obtain⟨W6,jy⟩:∃W6,bK u1 gq (k*2) (.bool u.b) (.slice u.a u.n u.p)=W6:=⟨_,rfl⟩;rw[jy]at lJ HJ5 HY5 yP eD;unfold bK at jy;have p9:=Lib.hid jy;clear Lx aZ hu bN jy xq Ic DF kH jF mr C7 hHeld ag
   ((refine uJ 13 ?_;intro K hK);go_simp;(refine hK.out _ _ (λh=>absurd rfl h) ?_);clear hK K;refine Rs ?_)
   go_upto_region 6 with(fail)
   rw[p9.out];clear k0 k1 fB fo kN p9 O0 O3;go_wp2
   go_roundw
   case rel=>exact⟨k+1,gF.out,by go_num,lJ,HJ5,HY5,yP,eD⟩
   case measure=>have:=gF.out;simp[intOf];omega
  ·obtain rfl:k=N:=by omega
   obtain⟨X',Ee⟩:=(HK.out.congr (z':=λi=>(z i).tdiv c) λi hi=>if_pos hi).row (M':=M) (λg h=>.inl (.inl h)) (HM.out.new HWQ.out) (by omega)
   have HF:Hid (Bp M w (tz z n) (λi=>(z i).tdiv c) (.returned (.slice (some ⟨gq,0,none⟩) k k)) wr):=by rw[<-oQ.out];exact⟨_,X',rfl,Ee,HE.out⟩
   clear HK HJ HY dL HE Ee;go_wp2;go_ret;exact HF.out
def Zd(M:Nat->Prop)(w:World)(n:Nat)(z:Nat->Int)(e:Ending)(w':World):Prop:=∃c:Int,c≠0/\(∀i,i<n->c∣z i)/\Bp M w (tz z n) (λi=>(z i).tdiv c) e w'
theorem qdA(M:Nat->Prop)(a:Option Addr)(n cap:Nat)(X:Nat->IE)(z:Nat->Int)(D:Nat)(w:World)(hM:Mb M w)(h:bg M w a n cap X z)(ht:tz z n≠0)(hn:n<=1000000)(hz:∀i,i<n->az (z i).natAbs<=D)(hD:D<=500000000000):
 Calls Tryz.prog 88 #[.slice a n cap] w (Zd M w n z):=by
 have fF:z (tz z n-1)≠0:=(Ho z n).resolve_left ht
 have hlt:tz z n-1<n:=by have:=jr z n;omega
 have CC:=Lib.hid (qzK M a n cap X z D w hM h hn hz hD);have HU:=Lib.hid h;have HM:=Lib.hid hM;have hl:vJ z n=z (tz z n-1):=if_neg ht;have HZ:=Lib.hid hz
 have Dq:Hid (∀c:Int,(∀i,i<n->c∣z i)->c≠0):=λc hc h0=>fF (by
  have:=hc _ hlt;rw[h0]at this
  exact Int.zero_dvd.1 this)
 have HL:Hid (vJ z n≠0):=by show _≠_;rw[hl];exact fF
 clear h hM hz fF hl hlt ht
 go_enter Tryz.func88,Tryz.ntmps88
 go_wp2_with (fail);refine CC.out.mono ?_;rintro e w1 ⟨x,c,rfl,hx,h0,h1,h2,af⟩;have oM:Hid (c≠0):=Dq.out c h2;have AQ:=Lib.hid h2;obtain⟨gc,sP⟩:∃gc,gc=w1.heap.size:=⟨_,rfl⟩;have aN:=(Ext.refl w1).alloc (.cells #[.bool x.b,.slice x.a x.n x.p] 30);have bH:=ak.bf w1 #[.bool x.b,.slice x.a x.n x.p] 30 2 rfl;rw[<-sP]at bH;obtain⟨W2,jg⟩:∃W2,w1.alloc (.cells #[.bool x.b,.slice x.a x.n x.p] 30)=W2:=⟨_,rfl⟩;rw[jg]at aN bH;have uS:=Lib.hid jg;have sD:=Lib.hid sP;have fH:=Lib.hid bH
 have Qs:w.heap.size<=gc:=by have:=af.size;omega
 have Gv:∀g,(M g\/g=gc)->M g\/w1.heap.size<=g:=λg h=>h.imp id λe=>by omega
 have ow:Hid (IX (λb=>M b\/b=gc) W2 x c):=(hx.more Gv).ext aN;have aU:=Lib.hid (af.trans aN);have jb:Hid (Mb (λb=>M b\/b=gc) W2):=mO (HM.out.ext aU.out) bH.lt
 have P8:∀g,(M g\/g=gc)->M g\/w.heap.size<=g:=λg h=>h.imp id λe=>by omega
 have yS:=Lib.hid ((HU.out.more P8).ext aU.out);have CL:=Lib.hid (Wv _ a n cap X z W2 jb.out yS.out);clear jg aN bH hx af Gv sP CC h2
 go_upto_region 2 with(fail)
 rw[uS.out, <-sD.out];clear uS sD;go_wp2_with (fail);refine CL.out.mono ?_;rintro e w3 ⟨y,rfl,hy,aT⟩;have og:=Lib.hid (fH.out.ext aT);have HX3:=Lib.hid (ow.out.ext aT);have uQ:=Lib.hid (jb.out.ext aT);have eP:=Lib.hid (aU.out.trans aT);have HU3:=Lib.hid (yS.out.ext aT);have HY:=Lib.hid hy;clear hy aT fH ow jb aU yS CL;go_wp2_with (fail);refine(Mw _ _ (vJ z n) _ HY.out).mono ?_;rintro e w4 ⟨rfl,aW⟩;have tL:=Lib.hid (og.out.ext aW);have Dz:=Lib.hid (HX3.out.ext aW);have yO:=Lib.hid (uQ.out.ext aW);have fV:=Lib.hid (eP.out.trans aW);have Fw:=Lib.hid (HU3.out.ext aW);clear aW og HX3 uQ eP HU3 HY;generalize vJ z n=l at*
 by_cases Jo:l<0
 ·have yl:l.sign= -1:=Int.sign_eq_neg_one_of_neg Jo;have HLN:Hid (l<0):=Jo;clear Jo;rw[yl];clear yl;obtain⟨x0,x1⟩:=kY tL.out;have dZ:=tL.out.lt;go_wp2_with (fail);refine(qmG x c w4 yO.out Dz.out).mono ?_;rintro e w5 ⟨v,rfl,hv,aR⟩;have jO:=tL.out.ext aR;obtain⟨k0,k1⟩:=kY jO;have fB:=jO.frozen 0;have fo:=jO.frozen 1;have kN:=jO.lt;have aZ:=Kp.bK (M:=λb=>M b\/b=gc) (w:=w5) (g:=gc) (.inr rfl) 0 (.bool v.b) (.slice v.a v.n v.p);have jV:=Lib.hid (OB jO v);have rC:=Lib.hid (hv.kp aZ);have YN:=Lib.hid ((Fw.out.ext aR).kp aZ);have fw:=Lib.hid ((fV.out.trans aR).bK Qs 0 (.bool v.b) (.slice v.a v.n v.p));obtain⟨W6,jy⟩:∃W6,bK w5 gc 0 (.bool v.b) (.slice v.a v.n v.p)=W6:=⟨_,rfl⟩;rw[jy]at jV rC YN fw;unfold bK at jy;have p9:=Lib.hid jy;clear jO hv aR aZ jy tL Dz yO fV Fw x0 x1 dZ
  go_upto_region 7 with(fail)
  rw[p9.out];clear k0 k1 fB fo kN p9;obtain⟨k0,k1⟩:=kY jV.out;have dU:=jV.out.lt
  have wH: -c≠0:=by have:=oM.out;omega
  have Ju:∀g,M g->(M g\/g=gc)\/W6.heap.size<=g:=λg h=>.inl (.inl h);have CO:=Lib.hid (qdB M a n cap X z v (-c) D W6 (HM.out.ext fw.out) (YN.out.more Ju) (rC.out.more Ju) wH hn HZ.out hD);clear wH Ju;go_wp2_with (fail);refine CO.out.mono ?_;rintro e w7 ⟨ar,Xr,rfl,hr,fE⟩;have HF:Hid (Zd M w n z (.returned (.slice ar (tz z n) (tz z n))) w7):=⟨-c,by have:=oM.out;omega,λi hi=>Int.neg_dvd.2 (AQ.out i hi),ar,Xr,rfl,hr,fw.out.trans fE⟩;clear hr fE CO fw YN rC jV k0 k1;generalize tz z n=N at*;go_wp2;go_ret;exact HF.out
 ·have yl:l.sign=1:=Int.sign_eq_one_of_pos (by have:=HL.out;omega);clear Jo;rw[yl];clear yl;obtain⟨k0,k1⟩:=kY tL.out;have dU:=tL.out.lt;have Ju:∀g,M g->(M g\/g=gc)\/w4.heap.size<=g:=λg h=>.inl (.inl h);have CO:=Lib.hid (qdB M a n cap X z x c D w4 (HM.out.ext fV.out) (Fw.out.more Ju) (Dz.out.more Ju) oM.out hn HZ.out hD);clear Ju;go_wp2_with (fail);refine CO.out.mono ?_;rintro e w7 ⟨ar,Xr,rfl,hr,fE⟩;have HF:Hid (Zd M w n z (.returned (.slice ar (tz z n) (tz z n))) w7):=⟨c,oM.out,AQ.out,ar,Xr,rfl,hr,fV.out.trans fE⟩;clear hr fE CO fV Fw Dz tL k0 k1;generalize tz z n=N at*;go_wp2;go_ret;exact HF.out
def cz(p:Int)(i:Nat):Int:=if i=0 then p else 0
theorem qoS(p s:Int)(i:Nat):∀V,zC (cz p) (cz s) V i=if V=0 then 0 else cz (p*s) i
 |0=>rfl
 |V+1=>by
  show zC (cz p) (cz s) V i+(if V<=i then cz p V*cz s (i-V)else 0)=_;rw[qoS p s i V,if_neg (show¬V+1=0 by omega)]
  by_cases hV:V=0
  ·subst hV;rw[if_pos rfl,if_pos (Nat.zero_le _),Int.zero_add];unfold cz;rw[if_pos rfl,Nat.sub_zero]
   split<;>simp
  ·rw[if_neg hV];have e:cz p V=0:=if_neg hV;rw[e,Int.zero_mul]
   split<;>simp
theorem qrM{n1 n2:Nat}{z1 z2:Nat->Int}{p s:Int}(h1:∀i,aM n1 z1 i=cz p i)(h2:∀i,aM n2 z2 i=cz s i)(i:Nat):aM (uo (tz z1 n1) (tz z2 n2)) (zC z1 (aM (tz z2 n2) z2) (tz z1 n1)) i=cz (p*s) i:=by
 rw[qrL,qAj,show aM (tz z2 n2) z2=cz s from funext λj=>(C8 n2 z2 j).trans (h2 j),show zC z1 (cz s) n1 i=zC (cz p) (cz s) n1 i from qdI n1 λk hk=>by rw[<-h1 k];exact(if_pos hk).symm,qoS]
 by_cases hn:n1=0
 ·subst hn
  have hp:p=0:=by have:=h1 0;exact this.symm
  rw[if_pos rfl,hp,Int.zero_mul];unfold cz
  split<;>rfl
 ·rw[if_neg hn]
theorem qqV:∀n:Nat,n<8->bits .and .i64 (n:Int) 1=((n%2:Nat):Int):=by decide
def CU(M:Nat->Prop)(w:World)(p:Int)(a:Option Addr)(n cap:Nat):Prop:=n<=1/\∃X z,bg M w a n cap X z/\∀i,aM n z i=cz p i
theorem CU.ext{M:Nat->Prop}{w w':World}{p:Int}{a:Option Addr}{n cap:Nat}(h:CU M w p a n cap)(he:Ext w w'):CU M w' p a n cap:=by
 obtain⟨h1,X,z,h2,h3⟩:=h;exact⟨h1,X,z,h2.ext he,h3⟩
theorem CU.mul{M:Nat->Prop}{w:World}{p s:Int}{a b:Option Addr}{n m c d A:Nat}(hM:Mb M w)(h:CU M w p a n c)(k:CU M w s b m d)(hp:az p.natAbs<=A)(hs:az s.natAbs<=A)(hA:A<=200000000000):
 Calls Tryz.prog 76 #[.slice a n c,.slice b m d] w λe w'=>∃a' n' c',e=.returned (.slice a' n' c')/\CU M w' (p*s) a' n' c'/\Ext w w':=by
 obtain⟨h1,X1,z1,hu1,hz1⟩:=h;obtain⟨h2,X2,z2,oJ,hz2⟩:=k
 have hd:∀{n:Nat}{z:Nat->Int}{q:Int},n<=1->(∀i,aM n z i=cz q i)->az q.natAbs<=A->∀i,i<n->az (z i).natAbs<=A:=λ{n z q} hn hz hq i hi=>by
  have h5:=hz i;unfold aM cz at h5;rw[if_pos hi,if_pos (by omega)]at h5;rw[h5];exact hq
 refine(qzQ M a n c X1 z1 b m d X2 z2 A A w hM hu1 oJ (by omega) (by omega) (hd h1 hz1 hp) (hd h2 hz2 hs) (by omega)).mono ?_;rintro e w' ⟨a',X,rfl,hX,he⟩;refine⟨a',_,_,rfl,⟨?_,X,_,hX,qrM hz1 hz2⟩,he⟩;have:=jr z1 n;have:=jr z2 m;unfold uo
 split<;>omega
theorem qzS(M:Nat->Prop)(a:Option Addr)(cap:Nat)(X:Nat->IE)(z:Nat->Int)(N A:Nat)(w:World)(hM:Mb M w)(h:bg M w a 1 cap X z)(hN:N<8)(hA:az (z 0).natAbs<=A)(Lm:A<=1000000000):
 Calls Tryz.prog 166 #[.slice a 1 cap,.int .i64 (N:Int)] w λe w'=>∃a' n' c',e=.returned (.slice a' n' c')/\CU M w' (z 0^N) a' n' c'/\Ext w w':=by
 have HM:=Lib.hid hM;have HU:=Lib.hid h
 have HD:Hid (∀k,k<20->az (z 0^k).natAbs<=20000000001):=λk hk=>by
  have h1:=Lg hA k;have h2:=Nat.mul_le_mul (show k<=20 by omega) Lm;omega
 clear h hM
 go_enter Tryz.func166,Tryz.ntmps166
 have hz1:=qAA w (λi=>if i=0 then 1 else 0) 1 rfl (by omega);have gB:Hid (Ext w (w.alloc (.cells #[.int .i64 1] 2))):=(Ext.refl w).alloc _;have CO:=Lib.hid (qzR M _ 1 1 _ _ (HM.out.ext gB.out) hz1);rw[show tz (λi:Nat=>if i=0 then(1:Int)else 0) 1=1 from Ro (by omega) (by simp)]at CO;clear hz1;go_wp2_with (fail);refine CO.out.mono ?_;rintro e w1 ⟨a1,X1,rfl,hu1,af⟩;have aL:=Lib.hid (gB.out.trans af)
 have Ii:Hid (CU M w1 (z 0^0) a1 1 1):=⟨Nat.le_refl 1,X1,_,hu1,λi=>by
  rw[Int.pow_zero];unfold aM cz
  by_cases h:i=0
  ·subst h;rfl
  ·rw[if_neg (by omega),if_neg h]⟩
 clear hu1 af gB CO;go_wp2_with (fail);refine(Rq M a 1 cap X z w1 (HM.out.ext aL.out) (HU.out.ext aL.out)).mono ?_;rintro e w2 ⟨a2,X2,rfl,oJ,aA⟩
 have xA:Hid (CU M w2 (z 0^1) a2 (tz z 1) (tz z 1)):=⟨jr z 1,X2,z,oJ,λi=>by
  rw[C8,Int.pow_succ,Int.pow_zero,Int.one_mul];unfold aM cz
  by_cases h:i=0
  ·subst h;rfl
  ·rw[if_neg (by omega),if_neg h]⟩
 have iR:=Lib.hid (Ii.out.ext aA);have aU:=Lib.hid (aL.out.trans aA);clear oJ aA Ii aL;generalize tz z 1=m2 at*;go_wp2
 go_loopw [1,5,6] (λnv rv sv wr=>∃(n e b:Nat)(ar:Option Addr)(nr cr:Nat)(aq:Option Addr)(ns cs:Nat),e+b*n=N/\(1<=b/\b<=N+1)/\nv=.int .i64 (n:Int)/\rv=.slice ar nr cr/\sv=.slice aq ns cs/\Hid (CU M wr (z 0^e) ar nr cr)/\Hid (CU M wr (z 0^b) aq ns cs)/\Hid (Ext w wr)) (λnv _ _ _=>(intOf nv).toNat)
 case atStart=>exact⟨N,0,1,a1,1,1,a2,m2,m2,by omega,⟨by omega,by omega⟩,rfl,rfl,rfl,iR,xA,aU⟩
 case round=>
  clear iR xA aU;obtain⟨n,e,b,ar,nr,cr,aq,ns,cs,Em,hb,rfl,rfl,rfl,HP,HS,HE⟩:=hrel
  by_cases iw:n=0
  ·subst iw
   have iZ:¬((0:Int)<((0:Nat):Int)):=by omega
   obtain rfl:e=N:=by omega
   have HF:Hid (∃a' n' c',Ending.returned (.slice ar nr cr)=.returned (.slice a' n' c')/\CU M wr (z 0^e) a' n' c'/\Ext w wr):=⟨_,_,_,rfl,HP.out,HE.out⟩;clear HP HS HE;go_wp2;go_ret;exact HF.out
  ·have U7:(0:Int)<(n:Int):=by omega
   have E9:Hid (e+b*n=N):=Em;have hbn:b<=b*n:=Nat.le_mul_of_pos_right b (by omega);have U6:n<=b*n:=Nat.le_mul_of_pos_left n (by omega)
   have hn8:n<8:=by omega
   have UF:b<=N:=by omega
   have heN:e<=N:=by omega
   have hand:=qqV n hn8;have hb1:=hb.1;clear hbn U6 Em hb;obtain⟨m,hm⟩:∃m,m=n/2:=⟨_,rfl⟩
   have hmI:(n:Int)/2=(m:Int):=by omega
   by_cases zZ:n%2=1
   ·have hz:(bits .and .i64 (n:Int) 1==0)=false:=by rw[hand,zZ];decide
    have gY:n=2*m+1:=by omega
    have cB:Hid (e+b+2*b*m=N):=by
     have h1:=E9.out;show _=_;rw[gY,Nat.mul_add,Nat.mul_one, <-Nat.mul_assoc,Nat.mul_comm b 2]at h1;omega
    have hbm:0<m->2*b<=N:=λh=>by
     have:=cB.out;have:=Nat.le_mul_of_pos_right (2*b) h;omega
    have qBs:e+b<=N:=by have:=cB.out;omega
    clear hand hm gY zZ;go_wp2_with (fail);refine(CU.mul (A:=20000000001) (HM.out.ext HE.out) HP.out HS.out (HD.out e (by omega)) (HD.out b (by omega)) (by omega)).mono ?_;rintro e_ w3 ⟨a3,n3,c3,rfl,h3,aT⟩
    have Kk:Hid (CU M w3 (z 0^(e+b)) a3 n3 c3):=by rw[Int.pow_add];exact h3
    have xB:=Lib.hid (HS.out.ext aT);have eP:=Lib.hid (HE.out.trans aT);clear h3 aT HP HS HE
    by_cases sQ:m=0
    ·have hmz:¬(0:Int)<(m:Int):=by omega
     have og:Hid (e+b+b*m=N):=by
      have:=cB.out;rw[sQ,Nat.mul_zero]at this;show _=_;rw[sQ,Nat.mul_zero];exact this
     clear sQ;go_wp2
     go_roundw
     case rel=>exact⟨m,e+b,b,a3,n3,c3,aq,ns,cs,og.out,⟨by omega,by omega⟩,by go_num,rfl,rfl,Kk,xB,eP⟩
     case measure=>simp[intOf];omega
    ·have hmz:(0:Int)<(m:Int):=by omega
     have O1:=hbm (by omega);clear sQ hbm;go_wp2_with (fail);refine(CU.mul (A:=20000000001) (HM.out.ext eP.out) xB.out xB.out (HD.out b (by omega)) (HD.out b (by omega)) (by omega)).mono ?_;rintro e_ w4 ⟨a4,n4,c4,rfl,h4,aW⟩
     have Yy:Hid (CU M w4 (z 0^(2*b)) a4 n4 c4):=by rw[Nat.two_mul,Int.pow_add];exact h4
     have Fs:=Lib.hid (Kk.out.ext aW);have fV:=Lib.hid (eP.out.trans aW);clear h4 aW Kk xB eP;go_wp2
     go_roundw
     case rel=>exact⟨m,e+b,2*b,a3,n3,c3,a4,n4,c4,cB.out,⟨by omega,by omega⟩,by go_num,rfl,rfl,Fs,Yy,fV⟩
     case measure=>simp[intOf];omega
   ·have hz:(bits .and .i64 (n:Int) 1==0)=true:=by rw[hand,show n%2=0 by omega];decide
    have gY:n=2*m:=by omega
    have hmp:0<m:=by omega
    have cB:Hid (e+2*b*m=N):=by
     have h1:=E9.out;show _=_;rw[gY, <-Nat.mul_assoc,Nat.mul_comm b 2]at h1;exact h1
    have O1:2*b<=N:=by
     have:=cB.out;have:=Nat.le_mul_of_pos_right (2*b) hmp;omega
    have hmz:(0:Int)<(m:Int):=by omega
    clear hand hm gY zZ hmp;go_wp2_with (fail);refine(CU.mul (A:=20000000001) (HM.out.ext HE.out) HS.out HS.out (HD.out b (by omega)) (HD.out b (by omega)) (by omega)).mono ?_;rintro e_ w4 ⟨a4,n4,c4,rfl,h4,aW⟩
    have Yy:Hid (CU M w4 (z 0^(2*b)) a4 n4 c4):=by rw[Nat.two_mul,Int.pow_add];exact h4
    have Fs:=Lib.hid (HP.out.ext aW);have fV:=Lib.hid (HE.out.trans aW);clear h4 aW HP HS HE;go_wp2
    go_roundw
    case rel=>exact⟨m,e,2*b,ar,nr,cr,a4,n4,c4,cB.out,⟨by omega,by omega⟩,by go_num,rfl,rfl,Fs,Yy,fV⟩
    case measure=>simp[intOf];omega
theorem Wu(M:Nat->Prop)(x:IE)(p:Int)(N A:Nat)(w:World)(hM:Mb M w)(h:IX M w x p)(hN:N<8)(hA:az p.natAbs<=A)(Lm:A<=1000000000):
 Calls Tryz.prog 142 #[.agg #[.bool x.b,.slice x.a x.n x.p],.int .i64 (N:Int)] w (kI M w (p^N)):=by
 have aQ:Ext w ((w.alloc (.cells #[.bool x.b,.slice x.a x.n x.p] 30)).alloc (.cells zI 30)):=((Ext.refl w).alloc _).alloc _;have bM:=ak.bf (w.alloc (.cells #[.bool x.b,.slice x.a x.n x.p] 30)) zI 30 2 rfl;simp only[World.size_alloc]at bM;have dw:Mb (Mx M w.heap.size (w.heap.size+2)) ((w.alloc (.cells #[.bool x.b,.slice x.a x.n x.p] 30)).alloc (.cells zI 30)):=Mx.mb hM (by simp;omega) (by simp);have hx:=(h.more (M':=Mx M w.heap.size (w.heap.size+2)) (Mx.more (Nat.le_refl _))).ext aQ;have je:=(ak.bf w #[.bool x.b,.slice x.a x.n x.p] 30 2 rfl).alloc (.cells zI 30);obtain⟨x0,x1⟩:=kY je;have GN:=je.lt;generalize hW:(w.alloc (.cells #[.bool x.b,.slice x.a x.n x.p] 30)).alloc (.cells zI 30)=W at*;have aN:=(Ext.refl W).alloc (.cells #[.bool x.b,.slice x.a x.n x.p] 30);have bH:=ak.bf W #[.bool x.b,.slice x.a x.n x.p] 30 2 rfl
 have hR:bg (Mx M w.heap.size (w.heap.size+2)) (W.alloc (.cells #[.bool x.b,.slice x.a x.n x.p] 30)) (some ⟨W.heap.size,0,none⟩) 1 1 (λ_=>x) (λ_=>p):=
  ⟨by decide,Nat.le_refl _,by decide,λe=>(by cases e),λi hi=>by
   obtain rfl:i=0:=by omega
   exact⟨W.heap.size,0,rfl,bH.lt,λhm=>by have:=dw _ hm;omega,bH.cell (i:=0) (by omega),bH.cell (i:=1) (by omega),hx.ext aN⟩⟩
 have CP:=Lib.hid (qzS _ _ 1 (λ_=>x) (λ_=>p) N A _ (dw.ext aN) hR hN hA Lm);have HW:=Lib.hid hW;have HB:=Lib.hid (bM.ext aN);have HE:=Lib.hid (aQ.trans aN);have HM:=Lib.hid (dw.ext aN);clear hW aQ bM dw hx je aN bH hR h hM
 go_enter Tryz.func142,Tryz.ntmps142
 go_upto_region 1 with(fail)
 rw[HW.out];clear HW;go_wp2_with (fail);refine CP.out.mono ?_;rintro e w2 ⟨a',n',c',rfl,⟨zW,X',z',hu,hz⟩,aA⟩
 have hl:vJ z' n'=p^N:=by
  have h0:=hz 0;unfold aM cz at h0;rw[if_pos rfl]at h0;unfold vJ
  by_cases hn:n'=0
  ·subst hn;rw[if_neg (Nat.lt_irrefl 0)]at h0;rw[<-h0];rfl
  ·obtain rfl:n'=1:=by omega
   rw[if_pos (by omega)]at h0
   by_cases hz0:z' 0=0
   ·have ht:tz z' 1=0:=by unfold tz;rw[if_pos hz0];rfl
    rw[if_pos ht, <-h0,hz0]
   ·have ht:tz z' 1=1:=Ro (by omega) hz0;rw[if_neg (by omega),ht];exact h0
 have CL:=Lib.hid (Wv _ a' n' c' X' z' w2 (HM.out.ext aA) hu);rw[hl]at CL;have fH:=Lib.hid (HB.out.ext aA);have aU:=Lib.hid (HE.out.trans aA);clear hu hz aA hl CP HB HE HM x0 x1;go_wp2_with (fail);refine CL.out.mono ?_;rintro e w3 ⟨y,rfl,hy,aT⟩;obtain⟨⟨q0,q1,f0,f1⟩,⟨r0,r1⟩,aZ,dM⟩:=nL (M':=Mx M w.heap.size (w.heap.size+2)) (w:=w) (.bool y.b) (.slice y.a y.n y.p) (fH.out.ext aT) (Mx.at (by omega)) (by omega) (aU.out.trans aT);have HF:Hid (kI M w (p^N) (.returned (.agg #[.bool y.b,.slice y.a y.n y.p])) _):=⟨y,rfl,(hy.kp aZ).more Mx.less,dM⟩;have hlt:=(fH.out.ext aT).lt;simp only[arr]at q0 q1;clear aZ dM hy aT CL fH aU;go_wp2;exact bodyPost_ret (v:=.agg #[.bool y.b,.slice y.a y.n y.p]) (by simp[results,Tryz.results142,go_sem,r0,r1]) rfl HF.out
end Go.Proofs.YtmcfpnmoklnhoaaGreat
