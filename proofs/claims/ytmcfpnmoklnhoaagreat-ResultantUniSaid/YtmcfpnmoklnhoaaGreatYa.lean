/- Ya -/
import Derived.Test.YtmcfpnmoklnhoaaGreatXb
import Derived.Test.YtmcfpnmoklnhoaaGreatNb
import Derived.Test.YtmcfpnmoklnhoaaGreatNr
set_option linter.unusedVariables false
set_option maxRecDepth 100000
set_option maxHeartbeats 400000000
set_option linter.unusedSimpArgs false
namespace Go.Proofs.YtmcfpnmoklnhoaaGreat
open Go.RowKit
theorem qvy{M:Nat->Prop}(x y:IE)(p q:Int)(w:World)(hM:Mb M w)(h:IX M w x p)(k:IX M w y q)(hL:aH p.natAbs+1<=1099511627776)(Ff:aH q.natAbs+1<=1099511627776):
 Calls Tryz.prog 137 #[.agg #[.bool x.b,.slice x.a x.n x.p],.agg #[.bool y.b,.slice y.a y.n y.p]] w (lg M w (Int.gcd p q:Nat)):=by
 refine(quR x.b x.a x.n x.p p y.b y.a y.n y.p q w hM h k hL Ff).mono ?_;rintro e w' ⟨b,a,n,c,rfl,hc,he⟩;exact⟨⟨b,a,n,c⟩,rfl,hc.fB,he⟩
def M5(M:Nat->Prop)(w:World)(b off m:Nat)(A:Nat->Option Addr)(N C:Nat->Nat)(X:Nat->Nat->IE)(z:Nat->Nat->Int):Prop:=b<w.heap.size/\∀j,j<m->w.cell? ⟨b,off+j,none⟩=some (.slice (A j) (N j) (C j))/\bC M w (A j) (N j) (C j) (X j) (z j)
theorem M5.ext{M:Nat->Prop}{w w':World}{b off m:Nat}{A:Nat->Option Addr}{N C:Nat->Nat}{X:Nat->Nat->IE}{z:Nat->Nat->Int}(h:M5 M w b off m A N C X z)(he:Ext w w'):M5 M w' b off m A N C X z:=
 ⟨dH h.1 he.size,λj hj=>⟨by rw[he.cell h.1];exact(h.2 j hj).1,(h.2 j hj).2.ext he⟩⟩
def qir(M:Nat->Prop)(w:World)(m:Nat)(N:Nat->Nat)(z:Nat->Nat->Int)(D:Nat)(e:Ending)(w':World):Prop:=
 ∃(x:IE)(c:Int),e=.returned (.agg #[.bool x.b,.slice x.a x.n x.p])/\IX M w' x c/\0<=c/\aH c.natAbs<=D/\(∀j,j<m->∀i,i<N j->c∣z j i)/\Ext w w'
def Cc(m k:Nat)(j:Nat)(N:Nat->Nat)(z:Nat->Nat->Int)(D:Nat)(c:Int):Prop:=0<=c/\aH c.natAbs<=D/\(∀q,q<j->∀i,i<N q->c∣z q i)/\(j<m->∀i,k<=i->i<N j->c∣z j i)
theorem Cc.step{m k j D:Nat}{N:Nat->Nat}{z:Nat->Nat->Int}{c:Int}(h:Cc m (k+1) j N z D c)(hd:aH (z j k).natAbs<=D):Cc m k j N z D (Int.gcd c (z j k):Nat):=by
 obtain⟨h0,h1,h2,h3⟩:=h;have hl:((Int.gcd c (z j k):Nat):Int)∣c:=Int.gcd_dvd_left ..;refine⟨iw _,?_,λq hq i hi=>Int.dvd_trans hl (h2 q hq i hi),λhj i hk hi=>?_⟩
 ·rw[Int.natAbs_natCast]
  by_cases hc:c=0
  ·subst hc;have e:Int.gcd 0 (z j k)=(z j k).natAbs:=Int.gcd_zero_left _;rw[e];exact hd
  ·exact aR (jB (Int.gcd_le_natAbs_left _ hc)) h1
 ·by_cases e:i=k
  ·subst e;exact Int.gcd_dvd_right ..
  ·exact Int.dvd_trans hl (h3 hj i (by omega) hi)
theorem Cc.one{m j D:Nat}{N:Nat->Nat}{z:Nat->Nat->Int}:Cc m (N j) j N z D 0↔∀q,q<j->∀i,i<N q->(0:Int)∣z q i:=
 ⟨λh=>h.2.2.1,λh=>⟨Int.le_refl _,aR (by decide:aH (0:Int).natAbs<=0) (bK _),h,λ_ i h1 h2=>by omega⟩⟩
theorem lg.cn{M:Nat->Prop}{w w':World}{m D:Nat}{N:Nat->Nat}{z:Nat->Nat->Int}{c:Int}{e:Ending}(h:lg M w c e w')(h0:0<=c)(h1:aH c.natAbs<=D)(h2:∀j,j<m->∀i,i<N j->c∣z j i):qir M w m N z D e w':=by
 obtain⟨x,e,hx,he⟩:=h;exact⟨x,c,e,hx,h0,h1,h2,he⟩
theorem qqO(M:Nat->Prop)(b m cp:Nat)(A:Nat->Option Addr)(N C:Nat->Nat)(X:Nat->Nat->IE)(z:Nat->Nat->Int)(D:Nat)(w:World)(hM:Mb M w)(h:M5 M w b 0 m A N C X z)(hm:m<=100)(hmc:m<=cp)(xR:cp<=100)(hN:∀j,j<m->N j<=1000000)(hz:∀j,j<m->∀i,i<N j->aH (z j i).natAbs<=D)(hD:D<=500000000000):
 Calls Tryz.prog 87 #[.slice (some ⟨b,0,none⟩) m cp] w (qir M w m N z D):=by
 have HU:=ae h;have HM:=ae hM;have HN:=ae hN;have HZ:=ae hz;clear h hN hz
 go_enter Tryz.func87,Tryz.ntmps87
 have aV:=(aA w).alloc (.cells #[.bool false,.slice none 0 0] 30);have bL:=aG.bq w #[.bool false,.slice none 0 0] 30 2 rfl;have dD:Mb (λb=>M b\/b=w.heap.size) (w.alloc (.cells #[.bool false,.slice none 0 0] 30)):=pz (hM.ext aV) (by simp)
 go_upto_region 1 with(fail)
 go_wp2_with (fail);refine(ofI 1 _ dD (by omega)).mono ?_;rintro e w1 ⟨v,rfl,hv,az⟩;obtain⟨g1,qG⟩:∃g1,g1=w1.heap.size:=⟨_,rfl⟩;have aT:=(aA w1).alloc (.cells #[.bool v.b,.slice v.a v.n v.p] 30);have bQ:=aG.bq w1 #[.bool v.b,.slice v.a v.n v.p] 30 2 rfl;rw[<-qG]at bQ;obtain⟨W2,jW⟩:∃W2,w1.alloc (.cells #[.bool v.b,.slice v.a v.n v.p] 30)=W2:=⟨_,rfl⟩;rw[jW]at aT bQ;have wG:=ae jW;have xk:=ae qG
 have qxX:w.heap.size<g1:=by have:=az.size;simp at this;omega
 have dJ:=(bL.ext az).ext aT;have lK:=(aV.trans az).trans aT;have fu:Mb (λb=>M b\/b=w.heap.size) W2:=dD.ext (az.trans aT);have hv2:=hv.ext aT;obtain⟨gv,Rs⟩:∃gv,gv=W2.heap.size:=⟨_,rfl⟩;have l8:=(aA W2).alloc (.cells #[.bool false,.slice none 0 0] 30);have xM:=aG.bq W2 #[.bool false,.slice none 0 0] 30 2 rfl;rw[<-Rs]at xM;obtain⟨W3,pV⟩:∃W3,W2.alloc (.cells #[.bool false,.slice none 0 0] 30)=W3:=⟨_,rfl⟩;rw[pV]at l8 xM;have CB:=ae pV;have HGV:=ae Rs
 have qD6:g1<gv:=by have:=bQ.lt;omega
 have DY:∀g,M3 M w.heap.size gv g->(M g\/g=w.heap.size)\/W2.heap.size<=g:=λg h=>h.imp id λe=>by omega
 have HA:Hid (Ac (M3 M w.heap.size gv) w w.heap.size gv ⟨false,none,0,0⟩ 0 W3):=
  ⟨xM,dJ.ext l8,(ek.zero _ _).fB,pz (fu.ext l8) xM.lt,lK.trans l8,by omega,by omega,by omega,.inr rfl,.inl (.inr rfl)⟩
 have HJ:Hid (JC W3 g1 0 v):=(lJ bQ).ext bQ.lt l8;have HV:Hid (IX (M3 M w.heap.size gv) W3 v 1):=(hv2.more DY).ext l8;clear jW aT bQ hv az aV bL dD dJ lK fu hv2 pV l8 xM DY qG Rs hM
 go_upto_region 2 with(fail)
 rw[wG.out, <-xk.out];clear wG xk
 go_upto_region 3 with(fail)
 rw[CB.out, <-HGV.out];clear CB HGV;go_wp2
 go_loopw [12] (λiv wr=>∃(j:Nat)(x:IE)(c:Int),j<=m/\iv=.int .i64 (j:Int)/\Hid (Ac (M3 M w.heap.size gv) w w.heap.size gv x c wr)/\Hid (JC wr g1 0 v)/\Hid (IX (M3 M w.heap.size gv) wr v 1)/\Hid (Cc m (N j) j N z D c)) (λiv _=>m-(intOf iv).toNat)
 case atStart=>exact⟨0,_,0,bK _,rfl,HA,HJ,HV,Cc.one.2 λq hq=>absurd hq (Nat.not_lt_zero _)⟩
 case round=>
  clear HA HJ HV;obtain⟨j,x,c,hj,rfl,HA,HJ,HV,HC⟩:=hrel
  by_cases hlt:j<m
  ·have hjI:(j:Int)<(m:Int):=by omega
   have WO:(0:Int)<=(j:Int):=iw _;have hjw:IntKind.i64.wrap (j:Int)=(j:Int):=IntWalk.i64_in _ (by omega);have JE:Hid (j<m):=hlt;obtain⟨hcell,hrow⟩:=(HU.out.ext HA.out.e).2 j hlt;rw[Nat.zero_add]at hcell;obtain⟨aj,haj⟩:∃aj,aj=A j:=⟨_,rfl⟩;rw[<-haj]at hcell;have HAJ:=ae haj;clear haj;have hNj:=HN.out j hlt;have KG:b<wr.heap.size:=dH HU.out.1 HA.out.e.size;clear hrow hlt;obtain⟨wo,rfl⟩:∃wo,wo=wr:=⟨_,rfl⟩;go_wp2
   go_loopw [7] (λiv wr=>∃(k:Nat)(x:IE)(c:Int),k<=N j/\iv=.int .i64 ((k:Int)-1)/\Hid (Ac (M3 M w.heap.size gv) w w.heap.size gv x c wr)/\Hid (JC wr g1 0 v)/\Hid (IX (M3 M w.heap.size gv) wr v 1)/\Hid (Cc m k j N z D c)) (λiv _=>(intOf iv+1).toNat)
   case atStart=>exact⟨N j,x,c,aI _,rfl,HA,HJ,HV,HC⟩
   case round=>
    clear HA HJ HV HC hcell KG;obtain⟨k1,x,c,hk,rfl,HA,HJ,HV,HC⟩:=hrel
    by_cases iO:k1=0
    ·subst iO
     have jS:¬((0:Int)<=((0:Nat):Int)-1):=by omega
     have qi:Hid (Cc m (N (j+1)) (j+1) N z D c):=by
      obtain⟨q0,q1,q2,q3⟩:=HC.out;refine⟨q0,q1,λq hq i hi=>?_,λ_ i h1 h2=>by omega⟩
      by_cases e:q=j
      ·subst e;exact q3 JE.out i (bK _) hi
      ·exact q2 q (by omega) i hi
     clear HC;go_wp2
     go_roundw
     case rel=>exact⟨j+1,x,c,JE.out,by go_num,HA,HJ,HV,qi⟩
     case measure=>have:=JE.out;simp[intOf];omega
    ·obtain⟨k,rfl⟩:∃k,k1=k+1:=⟨k1-1,by omega⟩;have NZ:(0:Int)<=(k:Int):=iw _
     have hkn:(k:Int)<((N j:Nat):Int):=by omega
     have hkw:IntKind.i64.wrap (k:Int)=(k:Int):=IntWalk.i64_in _ (by omega)
     have Rw:(k:Int)+1<=1000001:=by omega
     have jX:Hid (k<N j):=by show _<_;omega
     obtain⟨gb,ob,ha,gW,Ro,hx⟩:=((HU.out.ext HA.out.e).2 j JE.out).2.kI (i:=k) jX.out
     have Ik:∀g,M3 M w.heap.size gv g->M g\/w.heap.size<=g:=λg h=>by
      rcases h with(h|e)|e
      ·exact .inl h
      ·exact .inr (by omega)
      ·exact .inr (by omega)
     have yg:IX M w (X j k) (z j k):=by
      obtain⟨_,_,_,_,_,q⟩:=(HU.out.2 j JE.out).2.kI (i:=k) jX.out;exact q
     have qd:=(yg.more Ik).ext HA.out.e;obtain rfl:aj=some ⟨gb,ob,none⟩:=HAJ.out.trans ha;have bI:=(aA wr).drew;have hS:um gb (ob+k*2) (X j k) gv x g1 0 v wr.drew:=um.ext ⟨gW,lJ HA.out.v,HJ.out,Ro,HA.out.v.lt,HJ.out.lt⟩ bI;have HAD:=ae (HA.out.ext bI);have JD:=ae (HJ.out.ext HJ.out.lt bI);have JP:=ae (HV.out.ext bI);have mE:=ae (qd.ext bI);have QO:gb<wr.drew.heap.size:=hS.2.2.2.1;have QQ:gv<wr.drew.heap.size:=hS.2.2.2.2.1;have qvK:g1<wr.drew.heap.size:=hS.2.2.2.2.2;clear bI gW hx yg qd Ro ha Ik HA HJ HV iO hk;rw[show((k+1:Nat):Int)=(k:Int)+1 by omega,show(k:Int)+1-1=(k:Int) by omega]
     go_upto_region 9 with(fail)
     refine gB (um gb (ob+k*2) (X j k) gv x g1 0 v) 6 (by kernel_rfl) hS (λhHeld=>?_);clear hS;generalize wr.drew=wd at*
     have C5:Hid (∀(W:World),Ext wd W->Calls Tryz.prog 137 #[.agg #[.bool x.b,.slice x.a x.n x.p],.agg #[.bool (X j k).b,.slice (X j k).a (X j k).n (X j k).p]] W (lg (M3 M w.heap.size gv) W (Int.gcd c (z j k):Nat))):=λW he=>
      qvy x (X j k) c (z j k) W (HAD.out.m.ext he) (HAD.out.x.ext he) (mE.out.ext he) (by have:=HC.out.2.1;omega) (by have:=HZ.out j JE.out k jX.out;omega)
     (refine cB [0,1,2,3,4] ?_;(iterate 5 (refine bZ (v:=?_) ?_ ?_;rotate_left 1;(intro wS hSw;obtain⟨⟨S1,S2⟩,⟨S3,S4⟩,⟨S5,S6⟩,S7,S8,S9⟩:=hSw;go_simp;try with_reducible rfl);(try simp only[Act.put,aB,aC,aD])));refine cK ?_);((refine aO 5 ?_;intro K hK);go_simp;(refine(C5.out _ (aA _)).mono ?_);rintro e_ u2 ⟨u,rfl,hu,bM⟩;go_wp2_with (fail);(try clear ag);(have ag:=hHeld.ext bM);(refine hK.out _ _ (λ_=>ag) ?_);clear hK K;(try simp only[Act.put,aB,aC,aD]));have qi:Hid (Cc m k j N z D (Int.gcd c (z j k):Nat)):=HC.out.step (HZ.out j JE.out k jX.out);generalize ((Int.gcd c (z j k):Nat):Int)=c2 at*;have E8:=HAD.out.ext bM;have Eo:=ae (E8.sum hu);have Ez:Hid (JC (bW u2 gv 0 (.bool u.b) (.slice u.a u.n u.p)) g1 0 v):=(JD.out.ext JD.out.lt bM).of_heap (xU _ _ _ _ _ _ (by omega));have sU:Hid (IX (M3 M w.heap.size gv) (bW u2 gv 0 (.bool u.b) (.slice u.a u.n u.p)) v 1):=(JP.out.ext bM).kp (Kp.bW (.inr rfl) _ _ _);obtain⟨W6,gV⟩:∃W6,bW u2 gv 0 (.bool u.b) (.slice u.a u.n u.p)=W6:=⟨_,rfl⟩;obtain⟨⟨k0,k1⟩,fV,fP,mH⟩:=E8.put;rw[gV]at Eo Ez sU;unfold bW at gV;have oZ:=ae gV;clear E8 hu bM gV HAD JD JP mE C5 hHeld ag HC;((refine aO 6 ?_;intro K hK);go_simp;(refine hK.out _ _ (λh=>absurd rfl h) ?_);clear hK K;refine dX ?_)
     go_upto_region 10 with(fail)
     rw[oZ.out];clear k0 k1 fV fP mH oZ QO QQ qvK;obtain⟨y0,y1⟩:=lJ Eo.out.v;obtain⟨v0,v1⟩:=Ez.out;have uF:=Eo.out.v.lt;have hvl:=Ez.out.lt;go_wp2_with (fail);refine(qdX _ _ _ _ c2 1 W6 Eo.out.x sU.out).mono ?_;rintro e w7 ⟨rfl,gX⟩;have LP:=ae (Eo.out.ext gX);have HJ7:=ae (Ez.out.ext Ez.out.lt gX);have U9:=ae (sU.out.ext gX);clear gX Eo Ez sU y0 y1 v0 v1 uF hvl
     by_cases h1:c2=1
     ·have ht:decide (c2=1)=true:=decide_eq_true h1;obtain⟨⟨s0,s1,g0,g1'⟩,⟨r0,r1⟩,hR⟩:=LP.out.ret (M:=M) (λg hg=>.inl (.inl hg));obtain⟨v0,v1⟩:=lJ LP.out.v;have hvl:=LP.out.v.lt;have RX:=LP.out.r.lt;have HR:=ae (hR.cn (m:=m) (N:=N) (z:=z) qi.out.1 qi.out.2.1 λj hj i hi=>by rw[h1];exact Int.one_dvd _);clear hR LP HJ7 U9 qi h1;rw[ht];go_wp2;exact bu (v:=.agg #[.bool u.b,.slice u.a u.n u.p]) (by simp[results,Tryz.results87,go_sem,r0,r1]) rfl HR.out
     ·have ht:decide (c2=1)=false:=decide_eq_false h1;clear h1;rw[ht];go_wp2
      go_roundw
      case rel=>exact⟨k,u,c2,by have:=jX.out;omega,by go_num,LP,HJ7,U9,qi⟩
      case measure=>simp[intOf]
  ·obtain rfl:j=m:=by omega
   obtain⟨⟨s0,s1,g0,g1'⟩,⟨r0,r1⟩,hR⟩:=HA.out.ret (M:=M) (λg hg=>.inl (.inl hg));obtain⟨v0,v1⟩:=lJ HA.out.v;have hvl:=HA.out.v.lt;have RX:=HA.out.r.lt;have HR:=ae (hR.cn (m:=j) (N:=N) (z:=z) HC.out.1 HC.out.2.1 HC.out.2.2.1);clear hR HA HJ HV HC;go_wp2;exact bu (v:=.agg #[.bool x.b,.slice x.a x.n x.p]) (by simp[results,Tryz.results87,go_sem,r0,r1]) rfl HR.out
theorem qoF{M:Nat->Prop}(x:IE)(p:Int)(w:World)(hM:Mb M w)(h:IX M w x p):Calls Tryz.prog 139 #[.agg #[.bool x.b,.slice x.a x.n x.p]] w (lg M w (-p)):=by
 refine(qyx x.b x.a x.n x.p p w hM h).mono ?_;rintro e w' ⟨b,a,n,c,rfl,hc,he⟩;exact⟨⟨b,a,n,c⟩,rfl,hc.fB,he⟩
theorem qpK{M:Nat->Prop}(x y:IE)(p q:Int)(w:World)(hM:Mb M w)(h:IX M w x p)(k:IX M w y q)(hz:q≠0)(hL:aH p.natAbs+1<=1099511627776):
 Calls Tryz.prog 126 #[.agg #[.bool x.b,.slice x.a x.n x.p],.agg #[.bool y.b,.slice y.a y.n y.p]] w λe w'=>∃u v:IE,e=.returned (.tuple #[.agg #[.bool u.b,.slice u.a u.n u.p],.agg #[.bool v.b,.slice v.a v.n v.p],.int .i64 0])/\IX M w' u (p.tdiv q)/\Ext w w':=by
 refine(qjB x.b x.a x.n x.p p y.b y.a y.n y.p q w hM h k hz hL).mono ?_;rintro e w' ⟨b,a,n,c,b2,a2,n2,c2,rfl,hc,_,he⟩;exact⟨⟨b,a,n,c⟩,⟨b2,a2,n2,c2⟩,rfl,hc.fB,he⟩
def qis(M:Nat->Prop)(w:World)(n:Nat)(z:Nat->Int)(D:Nat)(e:Ending)(w':World):Prop:=
 ∃(x:IE)(c:Int),e=.returned (.agg #[.bool x.b,.slice x.a x.n x.p])/\IX M w' x c/\0<=c/\aH c.natAbs<=D/\(∀i,i<n->c∣z i)/\Ext w w'
theorem qCi(M:Nat->Prop)(a:Option Addr)(n cap:Nat)(X:Nat->IE)(z:Nat->Int)(D:Nat)(w:World)(hM:Mb M w)(h:bC M w a n cap X z)(hn:n<=1000000)(hz:∀i,i<n->aH (z i).natAbs<=D)(hD:D<=500000000000):
 Calls Tryz.prog 138 #[.slice a n cap] w (qis M w n z D):=by
 have aV:=(aA w).alloc (.cells #[.bool false,.slice none 0 0] 30);have bL:=aG.bq w #[.bool false,.slice none 0 0] 30 2 rfl;have dD:Mb (Mx M w.heap.size (w.heap.size+1)) (w.alloc (.cells #[.bool false,.slice none 0 0] 30)):=Mx.mb hM (by simp) (by simp);have hu:=(h.more (M':=Mx M w.heap.size (w.heap.size+1)) (Mx.more (aI _))).ext aV;generalize hW:w.alloc (.cells #[.bool false,.slice none 0 0] 30)=W at*;have aT:=(aA W).alloc (.cells #[.slice a n cap] 23);have bQ:=aG.bq W #[.slice a n cap] 23 1 rfl
 have Ra:M5 (Mx M w.heap.size (w.heap.size+1)) (W.alloc (.cells #[.slice a n cap] 23)) W.heap.size 0 1 (λ_=>a) (λ_=>n) (λ_=>cap) (λ_=>X) (λ_=>z):=
  ⟨bQ.lt,λj hj=>by
   obtain rfl:j=0:=by omega
   exact⟨bQ.cell (i:=0) (by omega),hu.ext aT⟩⟩
 have CC:=ae (qqO _ W.heap.size 1 1 (λ_=>a) (λ_=>n) (λ_=>cap) (λ_=>X) (λ_=>z) D _ (dD.ext aT) Ra (by omega) (aI 1) (by omega) (λ_ _=>hn) (λ_ _=>hz) hD);have HW:=ae hW;have HB:=ae (bL.ext aT);have HE:=ae (aV.trans aT);clear hW aV bL dD hu aT bQ Ra h hM hz
 go_enter Tryz.func138,Tryz.ntmps138
 go_upto_region 1 with(fail)
 rw[HW.out];clear HW;go_wp2_with (fail);refine CC.out.mono ?_;rintro e w2 ⟨x,c,rfl,hx,h0,h1,h2,aJ⟩;obtain⟨⟨q0,q1,f0,f1⟩,⟨r0,r1⟩,bD,eO⟩:=l6 (M':=Mx M w.heap.size (w.heap.size+1)) (w:=w) (.bool x.b) (.slice x.a x.n x.p) (HB.out.ext aJ) (Mx.at (by omega)) (aI _) (HE.out.trans aJ);have HF:Hid (qis M w n z D (.returned (.agg #[.bool x.b,.slice x.a x.n x.p])) _):=⟨x,c,rfl,(hx.kp bD).more Mx.less,h0,h1,h2 0 (by omega),eO⟩;have hlt:=(HB.out.ext aJ).lt;simp only[arr]at q0 q1;clear bD eO hx h1 h2 aJ CC HB HE;go_wp2;exact bu (v:=.agg #[.bool x.b,.slice x.a x.n x.p]) (by simp[results,Tryz.results138,go_sem,r0,r1]) rfl HF.out
def Tp(c:Int)(k:Nat)(z:Nat->Int)(i:Nat):Int:=if i<k then(z i).tdiv c else z i
theorem qe3(M:Nat->Prop)(a:Option Addr)(n cap:Nat)(X:Nat->IE)(z:Nat->Int)(y:IE)(c:Int)(D:Nat)(w:World)(hM:Mb M w)(h:bC M w a n cap X z)(hy:IX M w y c)(hc:c≠0)(hn:n<=1000000)(hz:∀i,i<n->aH (z i).natAbs<=D)(hD:D<=500000000000):
 Calls Tryz.prog 140 #[.slice a n cap,.agg #[.bool y.b,.slice y.a y.n y.p]] w (xE M w (tz z n) λi=>(z i).tdiv c):=by
 have aT:=(aA w).alloc (.cells #[.bool y.b,.slice y.a y.n y.p] 30);have bQ:=aG.bq w #[.bool y.b,.slice y.a y.n y.p] 30 2 rfl;obtain⟨gc,uD⟩:∃gc,gc=w.heap.size:=⟨_,rfl⟩;rw[<-uD]at bQ;obtain⟨W1,hW1⟩:∃W1,w.alloc (.cells #[.bool y.b,.slice y.a y.n y.p] 30)=W1:=⟨_,rfl⟩;rw[hW1]at aT bQ;have GA:=ae hW1;have uh:=ae uD;have aS:=ae aT;have Gl:=ae (lJ bQ);have HY:=ae hy;have HM:=ae hM;have hle:=iR z n;have HZ:=ae hz;have rY:=bQ.lt;have CN:=ae (qe4 M a n cap X z W1 (hM.ext aT) (h.ext aT));clear hW1 aT bQ uD h hy hM hz
 go_enter Tryz.func140,Tryz.ntmps140
 go_upto_region 1 with(fail)
 rw[GA.out, <-uh.out];clear GA;go_wp2_with (fail);refine CN.out.mono ?_;rintro e w2 ⟨gq,rfl,Bn,jf,aJ⟩
 have qwI:gc≠gq:=by omega
 have Ec:w.heap.size<=gq:=aR aS.out.size Bn;have gJ:Hid (Mb (λb=>M b\/b=gq) w2):=pz (HM.out.ext (aS.out.trans aJ)) jf.lt;have kX:Hid (UK (λb=>M b\/b=gq) w2 gq (tz z n) (tz z n) (Tp c 0 z)):=jf.congr λi _=>(ah (by omega)).symm;have Ey:=ae (Gl.out.ext Gl.out.lt aJ);have aZ:=ae (aS.out.trans aJ);have o5:Hid (IX (λb=>M b\/b=gq) w2 y c):=(HY.out.more λg hg=>hg.imp id λe=>by rw[e];exact Ec).ext aZ.out;have HWQ:=ae Ec;clear CN jf aJ Bn aS Gl HY uh Ec;obtain⟨N,Ws⟩:∃N,N=tz z n:=⟨_,rfl⟩;rw[<-Ws]at kX hle⊢;have qo:=ae Ws;clear Ws;go_wp2
 go_loopw [11] (λiv wr=>∃k:Nat,k<=N/\iv=.int .i64 (k:Int)/\Hid (UK (λb=>M b\/b=gq) wr gq N N (Tp c k z))/\Hid (JC wr gc 0 y)/\Hid (IX (λb=>M b\/b=gq) wr y c)/\Hid (Mb (λb=>M b\/b=gq) wr)/\Hid (Ext w wr)) (λiv _=>N-(intOf iv).toNat)
 case atStart=>exact⟨0,bK _,rfl,kX,Ey,o5,gJ,aZ⟩
 case round=>
  clear kX Ey o5 gJ aZ;obtain⟨k,hk,rfl,HK,HJ,HY,eP,HE⟩:=hrel
  by_cases hlt:k<N
  ·have NZ:(k:Int)<(N:Int):=by omega
   have iO:(0:Int)<=(k:Int):=iw _;have hkw:IntKind.i64.wrap (k:Int)=(k:Int):=IntWalk.i64_in _ (by omega);have jX:Hid (k<N):=hlt;obtain⟨x,FO,hx⟩:=HK.out.kI (j:=k) hlt (aI _);rw[show Tp c k z k=z k from ah (by omega)]at hx;have bI:=(aA wr).drew;have hS:nH gq (k*2) x gc y wr.drew:=nH.ext ⟨FO,HJ.out,HK.out.lt,HJ.out.lt⟩ bI;have yz:=ae (HK.out.ext bI);have JD:=ae (HJ.out.ext HJ.out.lt bI);have EK:=ae (HY.out.ext bI);have lW:=ae (eP.out.ext bI);have jO:=ae (HE.out.trans bI);have mE:=ae (hx.ext bI);have QO:gq<wr.drew.heap.size:=hS.2.2.1;have QQ:gc<wr.drew.heap.size:=hS.2.2.2;clear bI FO hx HK HJ HY eP HE hlt
   go_upto_region 5 with(fail)
   refine TV (nH gq (k*2) x gc y) 13 (by kernel_rfl) hS (λhHeld=>?_);clear hS;generalize wr.drew=wd at*;have C7:=ae (λ(W:World)(he:Ext wd W)=>qpK x y (z k) c W (lW.out.ext he) (mE.out.ext he) (EK.out.ext he) hc (by have:=HZ.out k (by have:=jX.out;omega);omega))
   ((refine qR 0 (v:=?_) ?_ ?_;rotate_left 1;(intro wS hSw;obtain⟨⟨S1,S2⟩,⟨S3,S4⟩,S5,S6⟩:=hSw;go_simp;try with_reducible rfl);(try simp only[Act.put,aB,aC,aD]));(refine qR 1 (v:=?_) ?_ ?_;rotate_left 1;(intro wS hSw;obtain⟨⟨S1,S2⟩,⟨S3,S4⟩,S5,S6⟩:=hSw;go_simp;try with_reducible rfl);(try simp only[Act.put,aB,aC,aD]));(refine qR 2 (v:=?_) ?_ ?_;rotate_left 1;(intro wS hSw;obtain⟨⟨S1,S2⟩,⟨S3,S4⟩,S5,S6⟩:=hSw;go_simp;try with_reducible rfl);(try simp only[Act.put,aB,aC,aD]));(refine qR 3 (v:=?_) ?_ ?_;rotate_left 1;(intro wS hSw;obtain⟨⟨S1,S2⟩,⟨S3,S4⟩,S5,S6⟩:=hSw;go_simp;try with_reducible rfl);(try simp only[Act.put,aB,aC,aD]));(refine qR 4 (v:=?_) ?_ ?_;rotate_left 1;(intro wS hSw;obtain⟨⟨S1,S2⟩,⟨S3,S4⟩,S5,S6⟩:=hSw;go_simp;try with_reducible rfl);(try simp only[Act.put,aB,aC,aD]));(refine qR 5 (v:=?_) ?_ ?_;rotate_left 1;(intro wS hSw;obtain⟨⟨S1,S2⟩,⟨S3,S4⟩,S5,S6⟩:=hSw;go_simp;try with_reducible rfl);(try simp only[Act.put,aB,aC,aD]));(refine qR 6 (v:=?_) ?_ ?_;rotate_left 1;(intro wS hSw;obtain⟨⟨S1,S2⟩,⟨S3,S4⟩,S5,S6⟩:=hSw;go_simp;try with_reducible rfl);(try simp only[Act.put,aB,aC,aD])))
   ((refine vX 7 ?_;intro K hK);go_simp;(refine(C7.out _ (aA _)).mono ?_);rintro e_ u1 ⟨u,v,rfl,hu,bM⟩;go_wp2_with (fail);(try clear ag);(have ag:=hHeld.ext bM);(refine hK.out _ _ (λ_ _=>ag) ?_);clear hK K;(try simp only[Act.put,aB,aC,aD]))
   ((refine F8 8 (v:=?_) ?_ ?_;rotate_left 1;(intro wS;go_simp;try with_reducible rfl);(try simp only[Act.put,aB,aC,aD]));(refine F8 9 (v:=?_) ?_ ?_;rotate_left 1;(intro wS;go_simp;try with_reducible rfl);(try simp only[Act.put,aB,aC,aD]));(refine F8 10 (v:=?_) ?_ ?_;rotate_left 1;(intro wS;go_simp;try with_reducible rfl);(try simp only[Act.put,aB,aC,aD]));(refine F8 11 (v:=?_) ?_ ?_;rotate_left 1;(intro wS;go_simp;try with_reducible rfl);(try simp only[Act.put,aB,aC,aD])))
   ((refine qR 12 (v:=?_) ?_ ?_;rotate_left 1;(intro wS hSw;obtain⟨⟨S1,S2⟩,⟨S3,S4⟩,S5,S6⟩:=hSw;go_simp;try with_reducible rfl);(try simp only[Act.put,aB,aC,aD])))
   have ND:=yz.out.ext bM;have bD:=Kp.bW (M:=λb=>M b\/b=gq) (w:=u1) (g:=gq) (.inr rfl) (k*2) (.bool u.b) (.slice u.a u.n u.p)
   have lV:Hid (UK (λb=>M b\/b=gq) (bW u1 gq (k*2) (.bool u.b) (.slice u.a u.n u.p)) gq N N (Tp c (k+1) z)):=(ND.put (.inr rfl) jX.out hu).congr λi _=>by
    unfold Tp
    by_cases e:i=k
    ·rw[ai e,ai (by omega),e]
    ·rw[ah e]
     by_cases h2:i<k
     ·rw[ai h2,ai (by omega)]
     ·rw[ah h2,ah (by omega)]
   have HJ5:Hid (JC (bW u1 gq (k*2) (.bool u.b) (.slice u.a u.n u.p)) gc 0 y):=(JD.out.ext JD.out.lt bM).of_heap (xU _ _ _ _ _ _ qwI);have HY5:=ae ((EK.out.ext bM).kp bD);have uR:Hid (Mb (λb=>M b\/b=gq) (bW u1 gq (k*2) (.bool u.b) (.slice u.a u.n u.p))):=(lW.out.ext bM).size (by rw[BU];exact aI _);have dV:=ae ((jO.out.trans bM).bW HWQ.out (k*2) (.bool u.b) (.slice u.a u.n u.p));obtain⟨xx,⟨k0,k1⟩,_⟩:=ND.kI (j:=k) jX.out (aI _);have fV:=ND.wL (k*2);have fP:=ND.wL (k*2+1);have mH:=ND.lt;obtain⟨W6,gV⟩:∃W6,bW u1 gq (k*2) (.bool u.b) (.slice u.a u.n u.p)=W6:=⟨_,rfl⟩;rw[gV]at lV HJ5 HY5 uR dV;unfold bW at gV;have oZ:=ae gV;clear ND bD hu bM gV yz JD EK lW jO mE C7 hHeld ag
   ((refine vX 13 ?_;intro K hK);go_simp;(refine hK.out _ _ (λh=>absurd rfl h) ?_);clear hK K;refine TP ?_)
   go_upto_region 6 with(fail)
   rw[oZ.out];clear k0 k1 fV fP mH oZ QO QQ;go_wp2
   go_roundw
   case rel=>exact⟨k+1,jX.out,by go_num,lV,HJ5,HY5,uR,dV⟩
   case measure=>have:=jX.out;simp[intOf];omega
  ·obtain rfl:k=N:=by omega
   obtain⟨X',Fu⟩:=(HK.out.congr (z':=λi=>(z i).tdiv c) λi hi=>ai hi).row (M':=M) (λg h=>.inl (.inl h)) (HM.out.new HWQ.out) (by omega)
   have HF:Hid (xE M w (tz z n) (λi=>(z i).tdiv c) (.returned (.slice (some ⟨gq,0,none⟩) k k)) wr):=by rw[<-qo.out];exact⟨_,X',rfl,Fu,HE.out⟩
   clear HK HJ HY eP HE Fu;go_wp2;go_ret;exact HF.out
def qaQ(M:Nat->Prop)(w:World)(n:Nat)(z:Nat->Int)(e:Ending)(w':World):Prop:=∃c:Int,c≠0/\(∀i,i<n->c∣z i)/\xE M w (tz z n) (λi=>(z i).tdiv c) e w'
theorem qe2(M:Nat->Prop)(a:Option Addr)(n cap:Nat)(X:Nat->IE)(z:Nat->Int)(D:Nat)(w:World)(hM:Mb M w)(h:bC M w a n cap X z)(ht:tz z n≠0)(hn:n<=1000000)(hz:∀i,i<n->aH (z i).natAbs<=D)(hD:D<=500000000000):
 Calls Tryz.prog 88 #[.slice a n cap] w (qaQ M w n z):=by
 have fQ:z (tz z n-1)≠0:=(Jl z n).resolve_left ht
 have hlt:tz z n-1<n:=by have:=iR z n;omega
 have CC:=ae (qCi M a n cap X z D w hM h hn hz hD);have HU:=ae h;have HM:=ae hM;have hl:wX z n=z (tz z n-1):=ah ht;have HZ:=ae hz
 have EB:Hid (∀c:Int,(∀i,i<n->c∣z i)->c≠0):=λc hc h0=>fQ (by
  have:=hc _ hlt;rw[h0]at this
  exact Int.zero_dvd.1 this)
 have HL:Hid (wX z n≠0):=by show _≠_;rw[hl];exact fQ
 clear h hM hz fQ hl hlt ht
 go_enter Tryz.func88,Tryz.ntmps88
 go_wp2_with (fail);refine CC.out.mono ?_;rintro e w1 ⟨x,c,rfl,hx,h0,h1,h2,az⟩;have qh:Hid (c≠0):=EB.out c h2;have Cf:=ae h2;obtain⟨gc,uD⟩:∃gc,gc=w1.heap.size:=⟨_,rfl⟩;have aT:=(aA w1).alloc (.cells #[.bool x.b,.slice x.a x.n x.p] 30);have bQ:=aG.bq w1 #[.bool x.b,.slice x.a x.n x.p] 30 2 rfl;rw[<-uD]at bQ;obtain⟨W2,jW⟩:∃W2,w1.alloc (.cells #[.bool x.b,.slice x.a x.n x.p] 30)=W2:=⟨_,rfl⟩;rw[jW]at aT bQ;have wG:=ae jW;have uh:=ae uD;have eG:=ae bQ
 have Sc:w.heap.size<=gc:=by have:=az.size;omega
 have Ik:∀g,(M g\/g=gc)->M g\/w1.heap.size<=g:=λg h=>h.imp id λe=>by omega
 have lY:Hid (IX (λb=>M b\/b=gc) W2 x c):=(hx.more Ik).ext aT;have aZ:=ae (az.trans aT);have gJ:Hid (Mb (λb=>M b\/b=gc) W2):=pz (HM.out.ext aZ.out) bQ.lt
 have RJ:∀g,(M g\/g=gc)->M g\/w.heap.size<=g:=λg h=>h.imp id λe=>by omega
 have Aq:=ae ((HU.out.more RJ).ext aZ.out);have CL:=ae (YG _ a n cap X z W2 gJ.out Aq.out);clear jW aT bQ hx az Ik uD CC h2
 go_upto_region 2 with(fail)
 rw[wG.out, <-uh.out];clear wG uh;go_wp2_with (fail);refine CL.out.mono ?_;rintro e w3 ⟨y,rfl,hy,bg⟩;have lT:=ae (eG.out.ext bg);have Aw:=ae (lY.out.ext bg);have pK:=ae (gJ.out.ext bg);have dM:=ae (aZ.out.trans bg);have HU3:=ae (Aq.out.ext bg);have HY:=ae hy;clear hy bg eG lY gJ aZ Aq CL;go_wp2_with (fail);refine(IU _ _ (wX z n) _ HY.out).mono ?_;rintro e w4 ⟨rfl,bB⟩;have rG:=ae (lT.out.ext bB);have yG:=ae (Aw.out.ext bB);have wF:=ae (pK.out.ext bB);have eX:=ae (dM.out.trans bB);have Gx:=ae (HU3.out.ext bB);clear bB lT Aw pK dM HU3 HY;generalize wX z n=l at*
 by_cases Im:l<0
 ·have zD:l.sign= -1:=Int.sign_eq_neg_one_of_neg Im;have HLN:Hid (l<0):=Im;clear Im;rw[zD];clear zD;obtain⟨x0,x1⟩:=lJ rG.out;have fA:=rG.out.lt;go_wp2_with (fail);refine(qoF x c w4 wF.out yG.out).mono ?_;rintro e w5 ⟨v,rfl,hv,bn⟩;have jV:=rG.out.ext bn;obtain⟨k0,k1⟩:=lJ jV;have fV:=jV.frozen 0;have fP:=jV.frozen 1;have mH:=jV.lt;have bD:=Kp.bW (M:=λb=>M b\/b=gc) (w:=w5) (g:=gc) (.inr rfl) 0 (.bool v.b) (.slice v.a v.n v.p);have oU:=ae (Qm jV v);have sU:=ae (hv.kp bD);have HU6:=ae ((Gx.out.ext bn).kp bD);have fT:=ae ((eX.out.trans bn).bW Sc 0 (.bool v.b) (.slice v.a v.n v.p));obtain⟨W6,gV⟩:∃W6,bW w5 gc 0 (.bool v.b) (.slice v.a v.n v.p)=W6:=⟨_,rfl⟩;rw[gV]at oU sU HU6 fT;unfold bW at gV;have oZ:=ae gV;clear jV hv bn bD gV rG yG wF eX Gx x0 x1 fA
  go_upto_region 7 with(fail)
  rw[oZ.out];clear k0 k1 fV fP mH oZ;obtain⟨k0,k1⟩:=lJ oU.out;have fG:=oU.out.lt
  have zm: -c≠0:=by have:=qh.out;omega
  have KX:∀g,M g->(M g\/g=gc)\/W6.heap.size<=g:=λg h=>.inl (.inl h);have CO:=ae (qe3 M a n cap X z v (-c) D W6 (HM.out.ext fT.out) (HU6.out.more KX) (sU.out.more KX) zm hn HZ.out hD);clear zm KX;go_wp2_with (fail);refine CO.out.mono ?_;rintro e w7 ⟨ar,Xr,rfl,hr,gX⟩;have HF:Hid (qaQ M w n z (.returned (.slice ar (tz z n) (tz z n))) w7):=⟨-c,by have:=qh.out;omega,λi hi=>Int.neg_dvd.2 (Cf.out i hi),ar,Xr,rfl,hr,fT.out.trans gX⟩;clear hr gX CO fT HU6 sU oU k0 k1;generalize tz z n=N at*;go_wp2;go_ret;exact HF.out
 ·have zD:l.sign=1:=Int.sign_eq_one_of_pos (by have:=HL.out;omega);clear Im;rw[zD];clear zD;obtain⟨k0,k1⟩:=lJ rG.out;have fG:=rG.out.lt;have KX:∀g,M g->(M g\/g=gc)\/w4.heap.size<=g:=λg h=>.inl (.inl h);have CO:=ae (qe3 M a n cap X z x c D w4 (HM.out.ext eX.out) (Gx.out.more KX) (yG.out.more KX) qh.out hn HZ.out hD);clear KX;go_wp2_with (fail);refine CO.out.mono ?_;rintro e w7 ⟨ar,Xr,rfl,hr,gX⟩;have HF:Hid (qaQ M w n z (.returned (.slice ar (tz z n) (tz z n))) w7):=⟨c,qh.out,Cf.out,ar,Xr,rfl,hr,eX.out.trans gX⟩;clear hr gX CO eX Gx yG rG k0 k1;generalize tz z n=N at*;go_wp2;go_ret;exact HF.out
def cz(p:Int)(i:Nat):Int:=if i=0 then p else 0
theorem qq4(p s:Int)(i:Nat):∀V,zC (cz p) (cz s) V i=if V=0 then 0 else cz (p*s) i
 |0=>rfl
 |V+1=>by
  show zC (cz p) (cz s) V i+(if V<=i then cz p V*cz s (i-V)else 0)=_;rw[qq4 p s i V,ah (show¬V+1=0 by omega)]
  by_cases hV:V=0
  ·subst hV;rw[ai rfl,ai (bK _),Int.zero_add];unfold cz;rw[ai rfl,Nat.sub_zero]
   split<;>simp
  ·rw[ah hV];have e:cz p V=0:=ah hV;rw[e,Int.zero_mul]
   split<;>simp
theorem qtY{n1 n2:Nat}{z1 z2:Nat->Int}{p s:Int}(h1:∀i,aP n1 z1 i=cz p i)(h2:∀i,aP n2 z2 i=cz s i)(i:Nat):aP (vB (tz z1 n1) (tz z2 n2)) (zC z1 (aP (tz z2 n2) z2) (tz z1 n1)) i=cz (p*s) i:=by
 rw[qtX,qCS,show aP (tz z2 n2) z2=cz s from funext λj=>(El n2 z2 j).trans (h2 j),show zC z1 (cz s) n1 i=zC (cz p) (cz s) n1 i from qff n1 λk hk=>by rw[<-h1 k];exact(ai hk).symm,qq4]
 by_cases hn:n1=0
 ·subst hn
  have hp:p=0:=by have:=h1 0;exact this.symm
  rw[ai rfl,hp,Int.zero_mul];unfold cz
  split<;>rfl
 ·rw[ah hn]
theorem qs4:∀n:Nat,n<8->bits .and .i64 (n:Int) 1=((n%2:Nat):Int):=by decide
def CU(M:Nat->Prop)(w:World)(p:Int)(a:Option Addr)(n cap:Nat):Prop:=n<=1/\∃X z,bC M w a n cap X z/\∀i,aP n z i=cz p i
theorem CU.ext{M:Nat->Prop}{w w':World}{p:Int}{a:Option Addr}{n cap:Nat}(h:CU M w p a n cap)(he:Ext w w'):CU M w' p a n cap:=by
 obtain⟨h1,X,z,h2,h3⟩:=h;exact⟨h1,X,z,h2.ext he,h3⟩
theorem CU.mul{M:Nat->Prop}{w:World}{p s:Int}{a b:Option Addr}{n m c d A:Nat}(hM:Mb M w)(h:CU M w p a n c)(k:CU M w s b m d)(hp:aH p.natAbs<=A)(hs:aH s.natAbs<=A)(hA:A<=200000000000):
 Calls Tryz.prog 76 #[.slice a n c,.slice b m d] w λe w'=>∃a' n' c',e=.returned (.slice a' n' c')/\CU M w' (p*s) a' n' c'/\Ext w w':=by
 obtain⟨h1,X1,z1,hu1,hz1⟩:=h;obtain⟨h2,X2,z2,mo,hz2⟩:=k
 have hd:∀{n:Nat}{z:Nat->Int}{q:Int},n<=1->(∀i,aP n z i=cz q i)->aH q.natAbs<=A->∀i,i<n->aH (z i).natAbs<=A:=λ{n z q} hn hz hq i hi=>by
  have h5:=hz i;unfold aP cz at h5;rw[ai hi,ai (by omega)]at h5;rw[h5];exact hq
 refine(qCq M a n c X1 z1 b m d X2 z2 A A w hM hu1 mo (by omega) (by omega) (hd h1 hz1 hp) (hd h2 hz2 hs) (by omega)).mono ?_;rintro e w' ⟨a',X,rfl,hX,he⟩;refine⟨a',_,_,rfl,⟨?_,X,_,hX,qtY hz1 hz2⟩,he⟩;have:=iR z1 n;have:=iR z2 m;unfold vB
 split<;>omega
theorem qCr(M:Nat->Prop)(a:Option Addr)(cap:Nat)(X:Nat->IE)(z:Nat->Int)(N A:Nat)(w:World)(hM:Mb M w)(h:bC M w a 1 cap X z)(hN:N<8)(hA:aH (z 0).natAbs<=A)(Ny:A<=1000000000):
 Calls Tryz.prog 166 #[.slice a 1 cap,.int .i64 (N:Int)] w λe w'=>∃a' n' c',e=.returned (.slice a' n' c')/\CU M w' (z 0^N) a' n' c'/\Ext w w':=by
 have HM:=ae hM;have HU:=ae h
 have HD:Hid (∀k,k<20->aH (z 0^k).natAbs<=20000000001):=λk hk=>by
  have h1:=Nn hA k;have h2:=Nat.mul_le_mul (show k<=20 by omega) Ny;omega
 clear h hM
 go_enter Tryz.func166,Tryz.ntmps166
 have hz1:=qC9 w (λi=>if i=0 then 1 else 0) 1 rfl (by omega);have gI:Hid (Ext w (w.alloc (.cells #[.int .i64 1] 2))):=(aA w).alloc _;have CO:=ae (qe5 M _ 1 1 _ _ (HM.out.ext gI.out) hz1);rw[show tz (λi:Nat=>if i=0 then(1:Int)else 0) 1=1 from LH (by omega) (by simp)]at CO;clear hz1;go_wp2_with (fail);refine CO.out.mono ?_;rintro e w1 ⟨a1,X1,rfl,hu1,az⟩;have aS:=ae (gI.out.trans az)
 have JH:Hid (CU M w1 (z 0^0) a1 1 1):=⟨aI 1,X1,_,hu1,λi=>by
  rw[Int.pow_zero];unfold aP cz
  by_cases h:i=0
  ·subst h;rfl
  ·rw[ah (by omega),ah h]⟩
 clear hu1 az gI CO;go_wp2_with (fail);refine(TK M a 1 cap X z w1 (HM.out.ext aS.out) (HU.out.ext aS.out)).mono ?_;rintro e w2 ⟨a2,X2,rfl,mo,aJ⟩
 have pM:Hid (CU M w2 (z 0^1) a2 (tz z 1) (tz z 1)):=⟨iR z 1,X2,z,mo,λi=>by
  rw[El,Int.pow_succ,Int.pow_zero,Int.one_mul];unfold aP cz
  by_cases h:i=0
  ·subst h;rfl
  ·rw[ah (by omega),ah h]⟩
 have eD:=ae (JH.out.ext aJ);have aZ:=ae (aS.out.trans aJ);clear mo aJ JH aS;generalize tz z 1=m2 at*;go_wp2
 go_loopw [1,5,6] (λnv rv sv wr=>∃(n e b:Nat)(ar:Option Addr)(nr cr:Nat)(aq:Option Addr)(ns cs:Nat),e+b*n=N/\(1<=b/\b<=N+1)/\nv=.int .i64 (n:Int)/\rv=.slice ar nr cr/\sv=.slice aq ns cs/\Hid (CU M wr (z 0^e) ar nr cr)/\Hid (CU M wr (z 0^b) aq ns cs)/\Hid (Ext w wr)) (λnv _ _ _=>(intOf nv).toNat)
 case atStart=>exact⟨N,0,1,a1,1,1,a2,m2,m2,by omega,⟨by omega,by omega⟩,rfl,rfl,rfl,eD,pM,aZ⟩
 case round=>
  clear eD pM aZ;obtain⟨n,e,b,ar,nr,cr,aq,ns,cs,FB,hb,rfl,rfl,rfl,HP,HS,HE⟩:=hrel
  by_cases jg:n=0
  ·subst jg
   have jS:¬((0:Int)<((0:Nat):Int)):=by omega
   obtain rfl:e=N:=by omega
   have HF:Hid (∃a' n' c',Ending.returned (.slice ar nr cr)=.returned (.slice a' n' c')/\CU M wr (z 0^e) a' n' c'/\Ext w wr):=⟨_,_,_,rfl,HP.out,HE.out⟩;clear HP HS HE;go_wp2;go_ret;exact HF.out
  ·have Xe:(0:Int)<(n:Int):=by omega
   have Ew:Hid (e+b*n=N):=FB;have hbn:b<=b*n:=Nat.le_mul_of_pos_right b (by omega);have Xc:n<=b*n:=Nat.le_mul_of_pos_left n (by omega)
   have hn8:n<8:=by omega
   have Wx:b<=N:=by omega
   have heN:e<=N:=by omega
   have hand:=qs4 n hn8;have hb1:=hb.1;clear hbn Xc FB hb;obtain⟨m,hm⟩:∃m,m=n/2:=⟨_,rfl⟩
   have RI:(n:Int)/2=(m:Int):=by omega
   by_cases Bt:n%2=1
   ·have hz:(bits .and .i64 (n:Int) 1==0)=false:=by rw[hand,Bt];decide
    have iP:n=2*m+1:=by omega
    have dF:Hid (e+b+2*b*m=N):=by
     have h1:=Ew.out;show _=_;rw[iP,Nat.mul_add,Nat.mul_one, <-Nat.mul_assoc,Nat.mul_comm b 2]at h1;omega
    have hbm:0<m->2*b<=N:=λh=>by
     have:=dF.out;have:=Nat.le_mul_of_pos_right (2*b) h;omega
    have qD2:e+b<=N:=by have:=dF.out;omega
    clear hand hm iP Bt;go_wp2_with (fail);refine(CU.mul (A:=20000000001) (HM.out.ext HE.out) HP.out HS.out (HD.out e (by omega)) (HD.out b (by omega)) (by omega)).mono ?_;rintro e_ w3 ⟨a3,n3,c3,rfl,h3,bg⟩
    have Mg:Hid (CU M w3 (z 0^(e+b)) a3 n3 c3):=by rw[Int.pow_add];exact h3
    have yB:=ae (HS.out.ext bg);have dM:=ae (HE.out.trans bg);clear h3 bg HP HS HE
    by_cases rA:m=0
    ·have hmz:¬(0:Int)<(m:Int):=by omega
     have lT:Hid (e+b+b*m=N):=by
      have:=dF.out;rw[rA,Nat.mul_zero]at this;show _=_;rw[rA,Nat.mul_zero];exact this
     clear rA;go_wp2
     go_roundw
     case rel=>exact⟨m,e+b,b,a3,n3,c3,aq,ns,cs,lT.out,⟨by omega,by omega⟩,by go_num,rfl,rfl,Mg,yB,dM⟩
     case measure=>simp[intOf];omega
    ·have hmz:(0:Int)<(m:Int):=by omega
     have QP:=hbm (by omega);clear rA hbm;go_wp2_with (fail);refine(CU.mul (A:=20000000001) (HM.out.ext dM.out) yB.out yB.out (HD.out b (by omega)) (HD.out b (by omega)) (by omega)).mono ?_;rintro e_ w4 ⟨a4,n4,c4,rfl,h4,bB⟩
     have Mj:Hid (CU M w4 (z 0^(2*b)) a4 n4 c4):=by rw[Nat.two_mul,Int.pow_add];exact h4
     have Gt:=ae (Mg.out.ext bB);have eX:=ae (dM.out.trans bB);clear h4 bB Mg yB dM;go_wp2
     go_roundw
     case rel=>exact⟨m,e+b,2*b,a3,n3,c3,a4,n4,c4,dF.out,⟨by omega,by omega⟩,by go_num,rfl,rfl,Gt,Mj,eX⟩
     case measure=>simp[intOf];omega
   ·have hz:(bits .and .i64 (n:Int) 1==0)=true:=by rw[hand,show n%2=0 by omega];decide
    have iP:n=2*m:=by omega
    have hmp:0<m:=by omega
    have dF:Hid (e+2*b*m=N):=by
     have h1:=Ew.out;show _=_;rw[iP, <-Nat.mul_assoc,Nat.mul_comm b 2]at h1;exact h1
    have QP:2*b<=N:=by
     have:=dF.out;have:=Nat.le_mul_of_pos_right (2*b) hmp;omega
    have hmz:(0:Int)<(m:Int):=by omega
    clear hand hm iP Bt hmp;go_wp2_with (fail);refine(CU.mul (A:=20000000001) (HM.out.ext HE.out) HS.out HS.out (HD.out b (by omega)) (HD.out b (by omega)) (by omega)).mono ?_;rintro e_ w4 ⟨a4,n4,c4,rfl,h4,bB⟩
    have Mj:Hid (CU M w4 (z 0^(2*b)) a4 n4 c4):=by rw[Nat.two_mul,Int.pow_add];exact h4
    have Gt:=ae (HP.out.ext bB);have eX:=ae (HE.out.trans bB);clear h4 bB HP HS HE;go_wp2
    go_roundw
    case rel=>exact⟨m,e,2*b,ar,nr,cr,a4,n4,c4,dF.out,⟨by omega,by omega⟩,by go_num,rfl,rfl,Gt,Mj,eX⟩
    case measure=>simp[intOf];omega
theorem YF(M:Nat->Prop)(x:IE)(p:Int)(N A:Nat)(w:World)(hM:Mb M w)(h:IX M w x p)(hN:N<8)(hA:aH p.natAbs<=A)(Ny:A<=1000000000):
 Calls Tryz.prog 142 #[.agg #[.bool x.b,.slice x.a x.n x.p],.int .i64 (N:Int)] w (lg M w (p^N)):=by
 have aV:Ext w ((w.alloc (.cells #[.bool x.b,.slice x.a x.n x.p] 30)).alloc (.cells zI 30)):=((aA w).alloc _).alloc _;have dm:=aG.bq (w.alloc (.cells #[.bool x.b,.slice x.a x.n x.p] 30)) zI 30 2 rfl;simp only[World.size_alloc]at dm;have dD:Mb (Mx M w.heap.size (w.heap.size+2)) ((w.alloc (.cells #[.bool x.b,.slice x.a x.n x.p] 30)).alloc (.cells zI 30)):=Mx.mb hM (by simp;omega) (by simp);have hx:=(h.more (M':=Mx M w.heap.size (w.heap.size+2)) (Mx.more (aI _))).ext aV;have kM:=(aG.bq w #[.bool x.b,.slice x.a x.n x.p] 30 2 rfl).alloc (.cells zI 30);obtain⟨x0,x1⟩:=lJ kM;have IJ:=kM.lt;generalize hW:(w.alloc (.cells #[.bool x.b,.slice x.a x.n x.p] 30)).alloc (.cells zI 30)=W at*;have aT:=(aA W).alloc (.cells #[.bool x.b,.slice x.a x.n x.p] 30);have bQ:=aG.bq W #[.bool x.b,.slice x.a x.n x.p] 30 2 rfl
 have hR:bC (Mx M w.heap.size (w.heap.size+2)) (W.alloc (.cells #[.bool x.b,.slice x.a x.n x.p] 30)) (some ⟨W.heap.size,0,none⟩) 1 1 (λ_=>x) (λ_=>p):=
  ⟨by decide,aI _,by decide,λe=>(by cases e),λi hi=>by
   obtain rfl:i=0:=by omega
   exact⟨W.heap.size,0,rfl,bQ.lt,λhm=>by have:=dD _ hm;omega,bQ.cell (i:=0) (by omega),bQ.cell (i:=1) (by omega),hx.ext aT⟩⟩
 have CP:=ae (qCr _ _ 1 (λ_=>x) (λ_=>p) N A _ (dD.ext aT) hR hN hA Ny);have HW:=ae hW;have HB:=ae (dm.ext aT);have HE:=ae (aV.trans aT);have HM:=ae (dD.ext aT);clear hW aV dm dD hx kM aT bQ hR h hM
 go_enter Tryz.func142,Tryz.ntmps142
 go_upto_region 1 with(fail)
 rw[HW.out];clear HW;go_wp2_with (fail);refine CP.out.mono ?_;rintro e w2 ⟨a',n',c',rfl,⟨Br,X',z',hu,hz⟩,aJ⟩
 have hl:wX z' n'=p^N:=by
  have h0:=hz 0;unfold aP cz at h0;rw[ai rfl]at h0;unfold wX
  by_cases hn:n'=0
  ·subst hn;rw[ah (Nat.lt_irrefl 0)]at h0;rw[<-h0];rfl
  ·obtain rfl:n'=1:=by omega
   rw[ai (by omega)]at h0
   by_cases hz0:z' 0=0
   ·have ht:tz z' 1=0:=by unfold tz;rw[ai hz0];rfl
    rw[ai ht, <-h0,hz0]
   ·have ht:tz z' 1=1:=LH (by omega) hz0;rw[ah (by omega),ht];exact h0
 have CL:=ae (YG _ a' n' c' X' z' w2 (HM.out.ext aJ) hu);rw[hl]at CL;have eG:=ae (HB.out.ext aJ);have aZ:=ae (HE.out.trans aJ);clear hu hz aJ hl CP HB HE HM x0 x1;go_wp2_with (fail);refine CL.out.mono ?_;rintro e w3 ⟨y,rfl,hy,bg⟩;obtain⟨⟨q0,q1,f0,f1⟩,⟨r0,r1⟩,bD,eO⟩:=l6 (M':=Mx M w.heap.size (w.heap.size+2)) (w:=w) (.bool y.b) (.slice y.a y.n y.p) (eG.out.ext bg) (Mx.at (by omega)) (by omega) (aZ.out.trans bg);have HF:Hid (lg M w (p^N) (.returned (.agg #[.bool y.b,.slice y.a y.n y.p])) _):=⟨y,rfl,(hy.kp bD).more Mx.less,eO⟩;have hlt:=(eG.out.ext bg).lt;simp only[arr]at q0 q1;clear bD eO hy bg CL eG aZ;go_wp2;exact bu (v:=.agg #[.bool y.b,.slice y.a y.n y.p]) (by simp[results,Tryz.results142,go_sem,r0,r1]) rfl HF.out
end Go.Proofs.YtmcfpnmoklnhoaaGreat
