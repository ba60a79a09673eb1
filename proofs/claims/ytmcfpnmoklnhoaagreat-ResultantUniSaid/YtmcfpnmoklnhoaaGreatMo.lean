/- Mo -/
import Derived.Test.YtmcfpnmoklnhoaaGreatMa
import Derived.Deep.RegionHeld3
set_option linter.unusedVariables false
set_option maxRecDepth 100000
set_option maxHeartbeats 400000000
set_option linter.unusedSimpArgs false
namespace Go.Proofs.YtmcfpnmoklnhoaaGreat
open Go.RowKit
def dw(neg:Bool)(x:Nat):Int:=if neg then-(x:Int)else x
def dQ(M:Nat->Prop)(w:World)(c0 c1:Value)(z:Int):Prop:=∃(neg:Bool)(x:Nat),c0=.bool neg/\gP M w c1 x/\z=dw neg x
def ek(M:Nat->Prop)(w:World)(c0 c1:Value)(z:Int):Prop:=iX M w c1 z.natAbs/\c0=.bool (decide (z<0))
theorem uJ(neg:Bool)(x:Nat):(dw neg x).natAbs=x:=by unfold dw;split<;>omega
theorem qqe(neg:Bool)(x:Nat):decide (dw neg x<0)=(neg&&decide (0<x)):=by
 unfold dw;cases neg<;>simp<;>omega
theorem gP.form{M:Nat->Prop}{w:World}{v:Value}{x:Nat}(h:gP M w v x):∃a n cap,v=.slice a n cap:=by
 obtain⟨n,d,hr,_⟩:=h;obtain⟨a,cap,rfl⟩:=lM hr;exact⟨_,_,_,rfl⟩
section
variable{M M':Nat->Prop}{w w':World}{c0 c1:Value}{z:Int}
theorem dQ.kp(h:dQ M w c0 c1 z)(he:Kp M w w'):dQ M w' c0 c1 z:=by
 obtain⟨neg,x,h0,h1,h2⟩:=h;exact⟨neg,x,h0,h1.kp he,h2⟩
theorem ek.kp(h:ek M w c0 c1 z)(he:Kp M w w'):ek M w' c0 c1 z:=⟨h.1.kp he,h.2⟩
theorem dQ.ext(h:dQ M w c0 c1 z)(he:Ext w w'):dQ M w' c0 c1 z:=h.kp (Kp.kV he)
theorem ek.ext(h:ek M w c0 c1 z)(he:Ext w w'):ek M w' c0 c1 z:=h.kp (Kp.kV he)
theorem dQ.more(h:dQ M w c0 c1 z)(hm:∀g,M' g->M g\/w.heap.size<=g):dQ M' w c0 c1 z:=by
 obtain⟨neg,x,h0,h1,h2⟩:=h;exact⟨neg,x,h0,h1.more hm,h2⟩
theorem ek.more(h:ek M w c0 c1 z)(hm:∀g,M' g->M g\/w.heap.size<=g):ek M' w c0 c1 z:=⟨h.1.more hm,h.2⟩
theorem ek.fB(h:ek M w c0 c1 z):dQ M w c0 c1 z:=by
 refine⟨_,_,h.2,h.1.fB,?_⟩;unfold dw
 by_cases hz:z<0
 ·simp[hz];omega
 ·simp[hz];omega
theorem dQ.form(h:dQ M w c0 c1 z):∃b a n cap,c0=.bool b/\c1=.slice a n cap:=by
 obtain⟨neg,x,h0,h1,h2⟩:=h;obtain⟨a,n,cap,rfl⟩:=h1.form;exact⟨_,_,_,_,h0,rfl⟩
theorem ek.form(h:ek M w c0 c1 z):∃b a n cap,c0=.bool b/\c1=.slice a n cap:=h.fB.form
end
theorem ek.zero(M:Nat->Prop)(w:World):ek M w (.bool false) (.slice none 0 0) 0:=⟨iX.nil M w,rfl⟩
theorem SA{M:Nat->Prop}(neg:Bool)(v:Value)(x:Nat)(w:World)(h:iX M w v x):
 Calls Tryz.prog 122 #[.bool neg,v] w λe w'=>∃c0,e=.returned (.agg #[c0,v])/\ek M w' c0 v (dw neg x)/\Ext w w':=by
 obtain⟨n,d,hr,hx,hc⟩:=h
 have HN:Hid (ek M w (.bool (neg&&decide (0<n))) v (dw neg x)):=by
  refine⟨by rw[uJ];exact⟨n,d,hr,hx,hc⟩,?_⟩;rw[qqe]
  have h0:(0<n)↔(0<x):=by
   have h1:=VT d n hr.2.1 hc;rw[hx]at h1;have h2:= @qjp x;omega
  simp[h0]
 obtain⟨a,cap,rfl⟩:=lM hr;clear hr hx hc
 by_cases h0:0<n
 ·have hb:(neg&&decide (0<n))=neg:=by simp[h0]
  rw[hb]at HN;clear hb;cases neg
  ·go_enter Tryz.func122,Tryz.ntmps122
   go_wp2;exact bu (v:=.agg #[.bool false,.slice a n cap]) (by simp[results,Tryz.results122,go_sem]) rfl ⟨_,rfl,HN.out.ext ((aA _).alloc _),(aA _).alloc _⟩
  ·go_enter Tryz.func122,Tryz.ntmps122
   go_wp2;exact bu (v:=.agg #[.bool true,.slice a n cap]) (by simp[results,Tryz.results122,go_sem]) rfl ⟨_,rfl,HN.out.ext ((aA _).alloc _),(aA _).alloc _⟩
 ·have AU:n=0:=by omega
  subst AU
  have hb:(neg&&decide (0<0))=false:=by simp
  rw[hb]at HN;clear hb h0;cases neg
  ·go_enter Tryz.func122,Tryz.ntmps122
   go_wp2;exact bu (v:=.agg #[.bool false,.slice a 0 cap]) (by simp[results,Tryz.results122,go_sem]) rfl ⟨_,rfl,HN.out.ext ((aA _).alloc _),(aA _).alloc _⟩
  ·go_enter Tryz.func122,Tryz.ntmps122
   go_wp2;exact bu (v:=.agg #[.bool false,.slice a 0 cap]) (by simp[results,Tryz.results122,go_sem]) rfl ⟨_,rfl,HN.out.ext ((aA _).alloc _),(aA _).alloc _⟩
theorem l6{M':Nat->Prop}{w W:World}{g:Nat}{t:TypeId}{f:Nat->Value}(A B:Value)(hB:aG W g t 2 f)(hg:M' g)(hw:w.heap.size<=g)(he:Ext w W):
 (W.cell? ⟨g,0,none⟩=some (f 0)/\W.cell? ⟨g,1,none⟩=some (f 1)/\W.frozen? ⟨g,0,none⟩=false/\W.frozen? ⟨g,1,none⟩=false)/\
 (((W.setCell ⟨g,0,none⟩ A).setCell ⟨g,1,none⟩ B).cell? ⟨g,0,none⟩=some A/\((W.setCell ⟨g,0,none⟩ A).setCell ⟨g,1,none⟩ B).cell? ⟨g,1,none⟩=some B)/\
 Kp M' W ((W.setCell ⟨g,0,none⟩ A).setCell ⟨g,1,none⟩ B)/\Ext w ((W.setCell ⟨g,0,none⟩ A).setCell ⟨g,1,none⟩ B):=by
 have jM:=(hB.set 0 A).set 1 B;refine⟨⟨hB.cell (by omega),hB.cell (by omega),hB.frozen 0,hB.frozen 1⟩,⟨?_,?_⟩,(Kp.set _ _ hg _).trans (Kp.set _ _ hg _),(he.set hw _).set hw _⟩
 ·rw[jM.cell (i:=0) (by omega)];simp[jr]
 ·rw[jM.cell (i:=1) (by omega)];simp[jr]
theorem Ot{M:Nat->Prop}(neg:Bool)(v:Value)(x:Nat)(w:World)(hM:Mb M w)(h:gP M w v x):
 Calls Tryz.prog 149 #[.bool neg,v] w λe w'=>∃c0 c1,e=.returned (.agg #[c0,c1])/\ek M w' c0 c1 (dw neg x)/\Ext w w':=by
 have jQ:Mb (Mx M w.heap.size (w.heap.size+1)) (w.alloc (.cells #[.bool false,.slice none 0 0] 30)):=Mx.mb hM (by simp) (by simp);have h1:=(h.more (M':=Mx M w.heap.size (w.heap.size+1)) (Mx.more (aI _))).ext ((aA w).alloc (.cells #[.bool false,.slice none 0 0] 30));have hB:=aG.bq w #[.bool false,.slice none 0 0] 30 2 rfl
 go_enter Tryz.func149,Tryz.ntmps149
 go_wp2_with (fail);refine(FW v x _ jQ h1).mono ?_;rintro e w1 ⟨u,rfl,hu,az⟩;go_wp2_with (fail);refine(SA neg u x _ hu).mono ?_;rintro e w2 ⟨c0,rfl,hc,aJ⟩;obtain⟨b,a,n,cap,rfl,rfl⟩:=hc.form;have he:=az.trans aJ;obtain⟨⟨q0,q1,f0,f1⟩,⟨r0,r1⟩,hk,hf⟩:=l6 (M':=Mx M w.heap.size (w.heap.size+1)) (w:=w) (.bool b) (.slice a n cap) (hB.ext he) (Mx.at (by simp)) (aI _) (((aA w).alloc _).trans he);have iC:=(hc.kp hk).more (M':=M) Mx.less;clear hB az aJ he hk;go_wp2;exact bu (v:=.agg #[.bool b,.slice a n cap]) (by simp[results,Tryz.results149,go_sem,r0,r1]) rfl ⟨_,_,rfl,iC,hf⟩
theorem Ou{M:Nat->Prop}(c0 c1:Value)(z:Int)(w:World)(hM:Mb M w)(h:dQ M w c0 c1 z):
 Calls Tryz.prog 101 #[.agg #[c0,c1]] w λe w'=>∃d0 d1,e=.returned (.agg #[d0,d1])/\ek M w' d0 d1 z/\Ext w w':=by
 obtain⟨neg,x,rfl,hx,rfl⟩:=h;have jQ:Mb (Mx M w.heap.size (w.heap.size+2)) ((w.alloc (.cells #[.bool neg,c1] 30)).alloc (.cells #[.bool false,.slice none 0 0] 30)):=Mx.mb hM (by simp;omega) (by simp);have gY:=(hx.more (M':=Mx M w.heap.size (w.heap.size+2)) (Mx.more (aI _))).ext (((aA w).alloc (.cells #[.bool neg,c1] 30)).alloc (.cells #[.bool false,.slice none 0 0] 30));have hB:=aG.bq (w.alloc (.cells #[.bool neg,c1] 30)) #[.bool false,.slice none 0 0] 30 2 rfl;obtain⟨a1,n1,xH,rfl⟩:=hx.form
 go_enter Tryz.func101,Tryz.ntmps101
 go_wp2_with (fail);refine(Ot neg _ x _ jQ gY).mono ?_;rintro e w1 ⟨d0,d1,rfl,hc,he⟩;obtain⟨b,a,n,cap,rfl,rfl⟩:=hc.form;simp only[World.size_alloc]at hB;obtain⟨⟨q0,q1,f0,f1⟩,⟨r0,r1⟩,hk,hf⟩:=l6 (M':=Mx M w.heap.size (w.heap.size+2)) (w:=w) (.bool b) (.slice a n cap) (hB.ext he) (Mx.at (by omega)) (by omega) ((((aA w).alloc _).alloc _).trans he);have iC:=(hc.kp hk).more (M':=M) Mx.less;clear hB he hk;go_wp2;exact bu (v:=.agg #[.bool b,.slice a n cap]) (by simp[results,Tryz.results101,go_sem,r0,r1]) rfl ⟨_,_,rfl,iC,hf⟩
theorem IU{M:Nat->Prop}(c0 c1:Value)(z:Int)(w:World)(h:dQ M w c0 c1 z):
 Calls Tryz.prog 28 #[.agg #[c0,c1]] w λe w'=>e=.returned (.int .i64 z.sign)/\Ext w w':=by
 obtain⟨neg,x,rfl,hx,rfl⟩:=h;have gY:=hx.ext ((aA w).alloc (.cells #[.bool neg,c1] 30));obtain⟨a1,n1,xH,rfl⟩:=hx.form
 by_cases h0:x=0
 ·have hs:(dw neg x).sign=0:=by subst h0;cases neg<;>rfl
  have HS:=ae hs
  have hd:decide (x=0)=true:=by simp[h0]
  clear hs h0
  go_enter Tryz.func28,Tryz.ntmps28
  go_wp2_with (fail);refine(Le _ x _ gY).mono ?_;rintro e w1 ⟨rfl,rfl⟩;go_wp2;go_ret;exact⟨by rw[HS.out];rfl,(aA w).alloc _⟩
 ·have hd:decide (x=0)=false:=by simp[h0]
  cases neg
  ·have hs:(dw false x).sign=1:=by unfold dw;simp;omega
   have HS:=ae hs;clear hs h0
   go_enter Tryz.func28,Tryz.ntmps28
   go_wp2_with (fail);refine(Le _ x _ gY).mono ?_;rintro e w1 ⟨rfl,rfl⟩;go_wp2;go_ret;exact⟨by rw[HS.out];rfl,(aA w).alloc _⟩
  ·have hs:(dw true x).sign= -1:=by unfold dw;simp;omega
   have HS:=ae hs;clear hs h0
   go_enter Tryz.func28,Tryz.ntmps28
   go_wp2_with (fail);refine(Le _ x _ gY).mono ?_;rintro e w1 ⟨rfl,rfl⟩;go_wp2;go_ret;exact⟨by rw[HS.out];rfl,(aA w).alloc _⟩
def jL(a b:Int):Int:=if a<b then-1 else if b<a then 1 else 0
theorem qtE(x y:Nat):mG y x=jL (dw true x) (dw true y):=by
 unfold mG jL dw;simp only[if_true,Int.neg_lt_neg_iff,Int.ofNat_lt]
theorem qtD(x y:Nat):mG x y=jL (dw false x) (dw false y):=by
 unfold mG jL dw;simp only[Bool.false_eq_true,if_false,Int.ofNat_lt]
theorem qql{a b:Int}(h:a.sign<b.sign):a<b:=by
 rcases Int.lt_trichotomy a 0 with ha|ha|ha<;>rcases Int.lt_trichotomy b 0 with hb|hb|hb<;>simp[Int.sign_eq_neg_one_of_neg,Int.sign_eq_one_of_pos,ha,hb]at h<;>omega
theorem Ni{a b:Int}(h:a<b):jL a b= -1:=by unfold jL;rw[ai h]
theorem Nh{a b:Int}(h:b<a):jL a b=1:=by unfold jL;rw[ah (by omega),ai h]
theorem qqg{b:Bool}{x:Nat}(h:(dw b x).sign<0):b=true:=by
 cases b
 ·exfalso
  have h2:0<=dw false x:=by unfold dw;simp
  have:=Int.sign_nonneg_iff.2 h2;omega
 ·rfl
theorem qqh{b:Bool}{x:Nat}(h:0<=(dw b x).sign):dw b x=dw false x:=by
 cases b
 ·rfl
 ·have:=Int.sign_nonneg_iff.1 h;unfold dw at*;simp at*;omega
theorem kc{a b:World}(h:Ext a b){g o:Nat}{v:Value}(hc:a.cell? ⟨g,o,none⟩=some v):b.cell? ⟨g,o,none⟩=some v:=by
 rw[h.cell (oF a ⟨g,o,none⟩ hc)];exact hc
theorem ks{w:World}{g k b o:Nat}{u v:Value}(hne:b≠g)(hc:w.cell? ⟨b,o,none⟩=some v):(w.setCell ⟨g,k,none⟩ u).cell? ⟨b,o,none⟩=some v:=by
 rw[World.cell?_of_block (w:=w) (Below.heap_setCell w ⟨g,k,none⟩ u b hne)];exact hc
theorem V5{W a b:World}(h0:Ext W a)(h:Ext a b){g o:Nat}{v:Value}(hg:g<W.heap.size)(hc:a.cell? ⟨g,o,none⟩=some v):b.cell? ⟨g,o,none⟩=some v:=by
 rw[h.cell (dH hg h0.size)];exact hc
theorem qyw{M:Nat->Prop}(c0 c1 d0 d1:Value)(y z:Int)(w:World)(h:dQ M w c0 c1 y)(h':dQ M w d0 d1 z):
 Calls Tryz.prog 80 #[.agg #[c0,c1],.agg #[d0,d1]] w λe w'=>e=.returned (.int .i64 (jL y z))/\Ext w w':=by
 obtain⟨b1,a1,n1,p1,rfl,rfl⟩:=h.form;obtain⟨b2,a2,n2,p2,rfl,rfl⟩:=h'.form;have E0:Hid (Ext w ((w.alloc (.cells #[.bool b1,.slice a1 n1 p1] 30)).alloc (.cells #[.bool b2,.slice a2 n2 p2] 30))):=((aA w).alloc _).alloc _
 go_enter Tryz.func80,Tryz.ntmps80
 go_upto_region 1 with(fail)
 go_cut [5,6] (λs5 s6 wx=>s5=.int .i64 y.sign/\s6=.int .i64 z.sign/\Hid (Ext ((w.alloc (.cells #[.bool b1,.slice a1 n1 p1] 30)).alloc (.cells #[.bool b2,.slice a2 n2 p2] 30)) wx))
 case first=>
  go_region_held3 (λw'=>Ext ((w.alloc (.cells #[.bool b1,.slice a1 n1 p1] 30)).alloc (.cells #[.bool b2,.slice a2 n2 p2] 30)) w'/\w'.cell? ⟨w.heap.size,0,none⟩=some (.bool b1)/\w'.cell? ⟨w.heap.size,1,none⟩=some (.slice a1 n1 p1)/\w'.cell? ⟨w.heap.size+1,0,none⟩=some (.bool b2)/\w'.cell? ⟨w.heap.size+1,1,none⟩=some (.slice a2 n2 p2))
   (first|(go_split_ands;exact⟨Ext.trans (by assumption) az,V5 (by assumption) az (by simp;try omega) (by assumption),V5 (by assumption) az (by simp;try omega) (by assumption),V5 (by assumption) az (by simp;try omega) (by assumption),V5 (by assumption) az (by simp;try omega) (by assumption)⟩)|(exact⟨(aA _).drew,by simp[go_sem],by simp[go_sem],by simp[go_sem],by simp[go_sem]⟩)|go_keep)
   (first|(go_at_call_of 28 (Value.agg #[.bool b1,.slice a1 n1 p1]);refine(IU _ _ y _ (h.ext ?_)).mono ?_;(go_split_ands;exact E0.out.trans (by assumption));rintro e w1 ⟨rfl,az⟩)|(go_at_call_of 28 (Value.agg #[.bool b2,.slice a2 n2 p2]);refine(IU _ _ z _ (h'.ext ?_)).mono ?_;(go_split_ands;exact E0.out.trans (by assumption));rintro e w1 ⟨rfl,az⟩))
  all_goals(go_wp2_with fail;go_meet;go_split_ands;exact⟨rfl,rfl,by show Ext _ _;assumption⟩)
 case rest=>
  obtain⟨rfl,rfl,hx⟩:=hcut;have he:=hx.out;have e1:=h.ext (E0.out.trans he);have e2:=h'.ext (E0.out.trans he);obtain⟨gW,KJ⟩:=ER he;have iC:=E0.out.trans he;obtain⟨qFG,x1,kT,gY,rfl⟩:=e1;obtain⟨qFH,x2,mg,qd,rfl⟩:=e2;simp only[Value.bool.injEq]at kT mg;subst kT mg;clear hx h h' E0;have S1:=uJ b1 x1;have S2:=uJ b2 x2;rcases Int.lt_trichotomy (dw b1 x1).sign (dw b2 x2).sign with hl|wP|hg
  ·have HC:Hid (jL (dw b1 x1) (dw b2 x2)= -1):=Ni (qql hl);clear S1 S2;go_wp2;go_ret;exact⟨by rw[HC.out];rfl,iC⟩
  ·have l1:(dw b1 x1).sign<=(dw b2 x2).sign:=by omega
   have l2:(dw b2 x2).sign<=(dw b1 x1).sign:=by omega
   clear wP
   by_cases Im:(dw b1 x1).sign<0
   ·have HC:Hid (mG x2 x1=jL (dw b1 x1) (dw b2 x2)):=by
     show _=_;rw[qqg Im,qqg (x:=x2) (b:=b2) (by omega)];exact qtE x1 x2
    clear S1 S2;go_wp2_with (fail);refine(Ld _ _ x2 x1 _ qd gY).mono ?_;rintro e w1 ⟨rfl,az⟩;go_wp2;go_ret;exact⟨by rw[<-HC.out];rfl,iC.trans az⟩
   ·have HC:Hid (mG x1 x2=jL (dw b1 x1) (dw b2 x2)):=by
     show _=_;rw[qqh (b:=b1) (x:=x1) (by omega),qqh (b:=b2) (x:=x2) (by omega)];exact qtD x1 x2
    clear S1 S2;go_wp2_with (fail);refine(Ld _ _ x1 x2 _ gY qd).mono ?_;rintro e w1 ⟨rfl,az⟩;go_wp2;go_ret;exact⟨by rw[<-HC.out];rfl,iC.trans az⟩
  ·have HC:Hid (jL (dw b1 x1) (dw b2 x2)=1):=Nh (qql hg)
   have Rn:¬(dw b1 x1).sign<(dw b2 x2).sign:=by omega
   clear S1 S2;go_wp2;go_ret;exact⟨by rw[HC.out];rfl,iC⟩
theorem qdX{M:Nat->Prop}(c0 c1 d0 d1:Value)(y z:Int)(w:World)(h:dQ M w c0 c1 y)(h':dQ M w d0 d1 z):
 Calls Tryz.prog 25 #[.agg #[c0,c1],.agg #[d0,d1]] w λe w'=>e=.returned (.bool (decide (y=z)))/\Ext w w':=by
 obtain⟨b1,a1,n1,p1,rfl,rfl⟩:=h.form;obtain⟨b2,a2,n2,p2,rfl,rfl⟩:=h'.form;have hE:Ext w ((w.alloc (.cells #[.bool b1,.slice a1 n1 p1] 30)).alloc (.cells #[.bool b2,.slice a2 n2 p2] 30)):=((aA w).alloc _).alloc _;have e1:=h.ext hE;have e2:=h'.ext hE
 have HC:Hid ((jL y z==0)=decide (y=z)):=by
  show _=_;unfold jL
  by_cases h1:y<z
  ·simp[h1];omega
  ·by_cases h2:z<y
   ·simp[h1,h2];omega
   ·simp[h1,h2];omega
 go_enter Tryz.func25,Tryz.ntmps25
 go_wp2_with (fail);refine(qyw _ _ _ _ y z _ e1 e2).mono ?_;rintro e w1 ⟨rfl,az⟩;go_wp2;go_ret;exact⟨by rw[<-HC.out];rfl,hE.trans az⟩
theorem qdW{M:Nat->Prop}(c0 c1 d0 d1:Value)(y z:Int)(w:World)(hM:Mb M w)(h:dQ M w c0 c1 y)(h':dQ M w d0 d1 z)(hL:aH (y.natAbs+z.natAbs)<=1099511627776):
 Calls Tryz.prog 124 #[.agg #[c0,c1],.agg #[d0,d1]] w λe w'=>∃e0 e1,e=.returned (.agg #[e0,e1])/\ek M w' e0 e1 (y+z)/\Ext w w':=by
 obtain⟨b1,x1,rfl,gY,rfl⟩:=h;obtain⟨b2,x2,rfl,qd,rfl⟩:=h';obtain⟨a1,n1,p1,rfl⟩:=gY.form;obtain⟨a2,n2,p2,rfl⟩:=qd.form;rw[uJ,uJ]at hL;have hE:Ext w (((w.alloc (.cells #[.bool b1,.slice a1 n1 p1] 30)).alloc (.cells #[.bool b2,.slice a2 n2 p2] 30)).alloc (.cells #[.bool false,.slice none 0 0] 30)):=(((aA w).alloc _).alloc _).alloc _;have jQ:Mb (Mx M w.heap.size (w.heap.size+3)) (((w.alloc (.cells #[.bool b1,.slice a1 n1 p1] 30)).alloc (.cells #[.bool b2,.slice a2 n2 p2] 30)).alloc (.cells #[.bool false,.slice none 0 0] 30)):=Mx.mb hM (by simp;omega) (by simp);have e1:=(gY.more (M':=Mx M w.heap.size (w.heap.size+3)) (Mx.more (aI _))).ext hE;have e2:=(qd.more (M':=Mx M w.heap.size (w.heap.size+3)) (Mx.more (aI _))).ext hE;have hB:=aG.bq ((w.alloc (.cells #[.bool b1,.slice a1 n1 p1] 30)).alloc (.cells #[.bool b2,.slice a2 n2 p2] 30)) #[.bool false,.slice none 0 0] 30 2 rfl;simp only[World.size_alloc]at hB
 by_cases NR:b1=b2
 ·subst NR
  have HS:Hid (dw b1 (x1+x2)=dw b1 x1+dw b1 x2):=by show _=_;unfold dw;cases b1<;>simp<;>omega
  go_enter Tryz.func124,Tryz.ntmps124
  go_upto_region 2 with(fail)
  go_region_held3 (λw'=>w'.cell? ⟨w.heap.size,0,none⟩=some (.bool b1)/\w'.cell? ⟨w.heap.size,1,none⟩=some (.slice a1 n1 p1)/\w'.cell? ⟨w.heap.size+1,1,none⟩=some (.slice a2 n2 p2))
   (first|(((go_split_ands;(repeat' apply And.intro))<;>(first|exact kc az (by assumption)|((repeat(refine ks (by omega) ?_));assumption)));done)|go_keep)
   (first|(go_at_call 160;refine(XW _ _ x1 x2 _ (jQ.ext (aA _).drew) (e1.ext (aA _).drew) (e2.ext (aA _).drew) hL).mono ?_;rintro e w1 ⟨u,rfl,hu,az⟩;have Rj:=az)|(go_at_call 122;refine(SA b1 _ _ _ hu).mono ?_;rintro e w2 ⟨d0,rfl,hc,az⟩;obtain⟨b,a,n,cap,rfl,rfl⟩:=hc.form;obtain⟨⟨q0,q1,f0,f1⟩,⟨r0,r1⟩,hk,hf⟩:=l6 (M':=Mx M w.heap.size (w.heap.size+3)) (w:=w) (.bool b) (.slice a n cap) (hB.ext ((((aA _).drew).trans Rj).trans az)) (Mx.at (by omega)) (by omega) (hE.trans ((((aA _).drew).trans Rj).trans az))))
  have iC:=(hc.kp hk).more (M':=M) Mx.less;rw[HS.out]at iC;clear hB hk;go_wp2;exact bu (v:=.agg #[.bool b,.slice a n cap]) (by simp[results,Tryz.results124,go_sem,r0,r1]) rfl ⟨_,_,rfl,iC,hf⟩
 ·have qDL:(b1==b2)=false:=by cases b1<;>cases b2<;>simp_all
  rcases Nat.lt_or_ge x1 x2 with hlt|jS
  ·have HS:Hid (dw b2 (x2-x1)=dw b1 x1+dw b2 x2):=by show _=_;unfold dw;cases b1<;>cases b2<;>simp_all<;>omega
   have zm:¬(0<=mG x1 x2):=by rw[VG hlt];omega
   clear NR
   go_enter Tryz.func124,Tryz.ntmps124
   go_wp2_with (fail);refine(Ld _ _ x1 x2 _ e1 e2).mono ?_;rintro e w1 ⟨rfl,az⟩;obtain⟨k1,k2⟩:=ER az;go_wp2_with (fail);refine(qd8 _ _ x2 x1 _ (jQ.ext az) (e2.ext az) (e1.ext az) (by omega)).mono ?_;rintro e w2 ⟨u,rfl,hu,aJ⟩;have tL:=az.trans aJ;clear k1 k2;obtain⟨k1,k2⟩:=ER tL;go_wp2_with (fail);refine(SA b2 _ _ _ hu).mono ?_;rintro e w3 ⟨d0,rfl,hc,bg⟩;obtain⟨b,a,n,cap,rfl,rfl⟩:=hc.form;have Ri:=tL.trans bg;clear k1 k2;obtain⟨⟨q0,q1,f0,f1⟩,⟨r0,r1⟩,hk,hf⟩:=l6 (M':=Mx M w.heap.size (w.heap.size+3)) (w:=w) (.bool b) (.slice a n cap) (hB.ext Ri) (Mx.at (by omega)) (by omega) (hE.trans Ri);have iC:=(hc.kp hk).more (M':=M) Mx.less;rw[HS.out]at iC;clear hB hk;go_wp2;exact bu (v:=.agg #[.bool b,.slice a n cap]) (by simp[results,Tryz.results124,go_sem,r0,r1]) rfl ⟨_,_,rfl,iC,hf⟩
  ·have HS:Hid (dw b1 (x1-x2)=dw b1 x1+dw b2 x2):=by show _=_;unfold dw;cases b1<;>cases b2<;>simp_all<;>omega
   have zm:0<=mG x1 x2:=by unfold mG;rw[ah (by omega)];split<;>omega
   clear NR
   go_enter Tryz.func124,Tryz.ntmps124
   go_wp2_with (fail);refine(Ld _ _ x1 x2 _ e1 e2).mono ?_;rintro e w1 ⟨rfl,az⟩;obtain⟨k1,k2⟩:=ER az;go_wp2_with (fail);refine(qd8 _ _ x1 x2 _ (jQ.ext az) (e1.ext az) (e2.ext az) (by omega)).mono ?_;rintro e w2 ⟨u,rfl,hu,aJ⟩;have tL:=az.trans aJ;clear k1 k2;obtain⟨k1,k2⟩:=ER tL;go_wp2_with (fail);refine(SA b1 _ _ _ hu).mono ?_;rintro e w3 ⟨d0,rfl,hc,bg⟩;obtain⟨b,a,n,cap,rfl,rfl⟩:=hc.form;have Ri:=tL.trans bg;clear k1 k2;obtain⟨⟨q0,q1,f0,f1⟩,⟨r0,r1⟩,hk,hf⟩:=l6 (M':=Mx M w.heap.size (w.heap.size+3)) (w:=w) (.bool b) (.slice a n cap) (hB.ext Ri) (Mx.at (by omega)) (by omega) (hE.trans Ri);have iC:=(hc.kp hk).more (M':=M) Mx.less;rw[HS.out]at iC;clear hB hk;go_wp2;exact bu (v:=.agg #[.bool b,.slice a n cap]) (by simp[results,Tryz.results124,go_sem,r0,r1]) rfl ⟨_,_,rfl,iC,hf⟩
theorem qBh(b1 b2:Bool)(x1 x2:Nat):dw (b1 !=b2) (x1*x2)=dw b1 x1*dw b2 x2:=by
 unfold dw;cases b1<;>cases b2<;>simp[Int.natCast_mul,Int.neg_mul,Int.mul_neg]
theorem qnR{M:Nat->Prop}(c0 c1 d0 d1:Value)(y z:Int)(w:World)(hM:Mb M w)(h:dQ M w c0 c1 y)(h':dQ M w d0 d1 z)(hL:aH y.natAbs+aH z.natAbs<=1099511627776):
 Calls Tryz.prog 65 #[.agg #[c0,c1],.agg #[d0,d1]] w λe w'=>∃e0 e1,e=.returned (.agg #[e0,e1])/\ek M w' e0 e1 (y*z)/\Ext w w':=by
 obtain⟨b1,x1,rfl,gY,rfl⟩:=h;obtain⟨b2,x2,rfl,qd,rfl⟩:=h';obtain⟨a1,n1,p1,rfl⟩:=gY.form;obtain⟨a2,n2,p2,rfl⟩:=qd.form;rw[uJ,uJ]at hL;have hE:Ext w (((w.alloc (.cells #[.bool b1,.slice a1 n1 p1] 30)).alloc (.cells #[.bool b2,.slice a2 n2 p2] 30)).alloc (.cells #[.bool false,.slice none 0 0] 30)):=(((aA w).alloc _).alloc _).alloc _;have jQ:Mb (Mx M w.heap.size (w.heap.size+3)) (((w.alloc (.cells #[.bool b1,.slice a1 n1 p1] 30)).alloc (.cells #[.bool b2,.slice a2 n2 p2] 30)).alloc (.cells #[.bool false,.slice none 0 0] 30)):=Mx.mb hM (by simp;omega) (by simp);have e1:=(gY.more (M':=Mx M w.heap.size (w.heap.size+3)) (Mx.more (aI _))).ext hE;have e2:=(qd.more (M':=Mx M w.heap.size (w.heap.size+3)) (Mx.more (aI _))).ext hE;have hB:=aG.bq ((w.alloc (.cells #[.bool b1,.slice a1 n1 p1] 30)).alloc (.cells #[.bool b2,.slice a2 n2 p2] 30)) #[.bool false,.slice none 0 0] 30 2 rfl;simp only[World.size_alloc]at hB;have HS:Hid (dw (b1 !=b2) (x1*x2)=dw b1 x1*dw b2 x2):=qBh b1 b2 x1 x2
 go_enter Tryz.func65,Tryz.ntmps65
 go_upto_region 1 with(fail)
 go_region_held3 (λw'=>w'.cell? ⟨w.heap.size,0,none⟩=some (.bool b1)/\w'.cell? ⟨w.heap.size,1,none⟩=some (.slice a1 n1 p1)/\w'.cell? ⟨w.heap.size+1,0,none⟩=some (.bool b2)/\w'.cell? ⟨w.heap.size+1,1,none⟩=some (.slice a2 n2 p2))
  (first|(((go_split_ands;(repeat' apply And.intro))<;>(first|exact kc az (by assumption)|((repeat(refine ks (by omega) ?_));assumption)));done)|go_keep)
  (first|(go_at_call 123;refine(qzo _ _ x1 x2 _ (jQ.ext (aA _).drew) (e1.ext (aA _).drew) (e2.ext (aA _).drew) hL).mono ?_;rintro e w1 ⟨u,rfl,hu,az⟩;have Rj:=az)|(go_at_call 122;refine(SA (b1 !=b2) _ _ _ hu).mono ?_;rintro e w2 ⟨d0,rfl,hc,az⟩;obtain⟨b,a,n,cap,rfl,rfl⟩:=hc.form;obtain⟨⟨q0,q1,f0,f1⟩,⟨r0,r1⟩,hk,hf⟩:=l6 (M':=Mx M w.heap.size (w.heap.size+3)) (w:=w) (.bool b) (.slice a n cap) (hB.ext ((((aA _).drew).trans Rj).trans az)) (Mx.at (by omega)) (by omega) (hE.trans ((((aA _).drew).trans Rj).trans az))))
 have iC:=(hc.kp hk).more (M':=M) Mx.less;rw[HS.out]at iC;clear hB hk;go_wp2;exact bu (v:=.agg #[.bool b,.slice a n cap]) (by simp[results,Tryz.results65,go_sem,r0,r1]) rfl ⟨_,_,rfl,iC,hf⟩
theorem IQ{M:Nat->Prop}(z:Int)(w:World)(hM:Mb M w)(h1: -9223372036854775808<=z)(h2:z<=9223372036854775807):
 Calls Tryz.prog 22 #[.int .i64 z] w λe w'=>∃e0 e1,e=.returned (.agg #[e0,e1])/\ek M w' e0 e1 z/\Ext w w':=by
 have jQ:Mb (Mx M w.heap.size (w.heap.size+1)) (w.alloc (.cells #[.bool false,.slice none 0 0] 30)):=Mx.mb hM (by simp) (by simp);have hB:=aG.bq w #[.bool false,.slice none 0 0] 30 2 rfl;have hE:Ext w (w.alloc (.cells #[.bool false,.slice none 0 0] 30)):=(aA w).alloc _
 by_cases hz:z<0
 ·go_enter Tryz.func22,Tryz.ntmps22
  go_wp2_with (fail);rw[show IntKind.u64.wrap (-IntKind.u64.wrap z)=((z.natAbs:Nat):Int)from by rw[IntKind.wrap_u64,IntKind.wrap_u64];omega];refine(XX z.natAbs _ jQ (by omega)).mono ?_;rintro e w1 ⟨u,rfl,hu,az⟩;obtain⟨a,n,cap,rfl⟩:=hu.fB.form;obtain⟨⟨q0,q1,f0,f1⟩,⟨r0,r1⟩,hk,hf⟩:=l6 (M':=Mx M w.heap.size (w.heap.size+1)) (w:=w) (.bool true) (.slice a n cap) (hB.ext az) (Mx.at (by omega)) (by omega) (hE.trans az);have hc:ek _ w1 (.bool true) (.slice a n cap) z:=⟨hu,by simp[hz]⟩;have iC:=(hc.kp hk).more (M':=M) Mx.less;clear hB hk hc;go_wp2;exact bu (v:=.agg #[.bool true,.slice a n cap]) (by simp[results,Tryz.results22,go_sem,r0,r1]) rfl ⟨_,_,rfl,iC,hf⟩
 ·obtain⟨x,rfl⟩:∃x:Nat,z=x:=⟨z.toNat,by omega⟩
  have hd:decide ((x:Int)<0)=false:=by simp
  go_enter Tryz.func22,Tryz.ntmps22
  go_wp2_with (fail);refine(XX x _ jQ (by omega)).mono ?_;rintro e w1 ⟨u,rfl,hu,az⟩;obtain⟨a,n,cap,rfl⟩:=hu.fB.form;obtain⟨⟨q0,q1,f0,f1⟩,⟨r0,r1⟩,hk,hf⟩:=l6 (M':=Mx M w.heap.size (w.heap.size+1)) (w:=w) (.bool false) (.slice a n cap) (hB.ext az) (Mx.at (by omega)) (by omega) (hE.trans az);have hc:ek _ w1 (.bool false) (.slice a n cap) (x:Int):=⟨hu,by rw[hd]⟩;have iC:=(hc.kp hk).more (M':=M) Mx.less;clear hB hk hc;go_wp2;exact bu (v:=.agg #[.bool false,.slice a n cap]) (by simp[results,Tryz.results22,go_sem,r0,r1]) rfl ⟨_,_,rfl,iC,hf⟩
def qif(M:Nat->Prop)(w:World)(v:Value)(n:Nat)(z:Nat->Int):Prop:=
 n<=1099511627776/\((v=.slice none 0 0/\n=0)\/∃(b off cap:Nat)(c0 c1:Nat->Value),v=.slice (some ⟨b,off,none⟩) n cap/\n<=cap/\cap<=maxLen/\b<w.heap.size/\
  ∀i,i<n->w.cell? ⟨b,off+i*2,none⟩=some (c0 i)/\w.cell? ⟨b,off+i*2+1,none⟩=some (c1 i)/\dQ M w (c0 i) (c1 i) (z i))
def Ca(z:Nat->Int):Nat->Int
 |0=>0
 |n+1=>Ca z n+z n
def zZ(z:Nat->Int):Nat->Nat
 |0=>0
 |n+1=>zZ z n+(z n).natAbs
theorem qDa(z:Nat->Int)(n:Nat):(Ca z n).natAbs<=zZ z n:=by
 induction n with
 |zero=>simp[Ca,zZ]
 |succ n ih=>simp only[Ca,zZ];omega
theorem qC7(z:Nat->Int){m n:Nat}(h:m<=n):zZ z m<=zZ z n:=by
 induction n with
 |zero=>have:m=0:=by omega
        subst this;exact aI _
 |succ n ih=>
  by_cases hm:m=n+1
  ·subst hm;exact aI _
  ·have:=ih (by omega);simp only[zZ];omega
theorem qyy{M:Nat->Prop}(v:Value)(n:Nat)(z:Nat->Int)(w:World)(hM:Mb M w)(h:qif M w v n z)(hL:aH (zZ z n)<=1099511627776):
 Calls Tryz.prog 145 #[v] w λe w'=>∃e0 e1,e=.returned (.agg #[e0,e1])/\ek M w' e0 e1 (Ca z n)/\Ext w w':=by
 have hE:Ext w ((w.alloc (.cells #[.bool false,.slice none 0 0] 30)).alloc (.cells #[.bool false,.slice none 0 0] 30)):=((aA w).alloc _).alloc _;obtain⟨gH,h⟩:=h;have HL:=ae hL;clear hL;rcases h with⟨rfl,rfl⟩|⟨b,off,cap,c0,c1,rfl,Hz,hm,hb,Re⟩
 ·go_enter Tryz.func145,Tryz.ntmps145
  go_wp2;refine wp_loop_rounds 1 ?_;rw[rounds_succ];go_wp2;exact bu (v:=.agg #[.bool false,.slice none 0 0]) (by simp[results,Tryz.results145,go_sem]) rfl ⟨_,_,rfl,ek.zero _ _,by first|exact hE|exact(hE.set (by simp) _).set (by simp) _⟩
 ·have HC:=ae Re;clear Re;unfold maxLen at hm;have bL:=(aG.bq w #[.bool false,.slice none 0 0] 30 2 rfl).alloc (.cells #[.bool false,.slice none 0 0] 30);have dm:=aG.bq (w.alloc (.cells #[.bool false,.slice none 0 0] 30)) #[.bool false,.slice none 0 0] 30 2 rfl;simp only[World.size_alloc]at dm
  go_enter Tryz.func145,Tryz.ntmps145
  go_wp2
  go_loopw [9] (λi wr=>∃(k:Nat)(b:Bool)(a:Option Addr)(q p:Nat),k<=n/\i=.int .i64 k/\aG wr w.heap.size 30 2 (arr #[.bool false,.slice none 0 0])/\aG wr (w.heap.size+1) 30 2 (arr #[.bool b,.slice a q p])/\ek (Mx M w.heap.size (w.heap.size+2)) wr (.bool b) (.slice a q p) (Ca z k)/\Ext w wr) (λi _=>n-(intOf i).toNat)
  case atStart=>exact⟨0,_,_,_,_,bK _,rfl,bL,dm,ek.zero _ _,hE⟩
  case round=>
   clear bL dm;obtain⟨k,b2,a2,q2,p2,hk,rfl,bL,dm,hI,dL⟩:=hrel;have t0:=dm.cell (i:=0) (by omega);have t1:=dm.cell (i:=1) (by omega);simp only[arr]at t0 t1;have t2:=dm.frozen 0;have t3:=dm.frozen 1;have l1:=dm.lt
   by_cases hlt:k<n
   ·obtain⟨g0,g1,g2⟩:=HC.out k hlt;obtain⟨b3,a3,q3,p3,h30,h31⟩:=g2.form;rw[h30]at g0 g2;rw[h31]at g1 g2
    have e0:wr.cell? ⟨b,off+k*2,none⟩=some (.bool b3):=by rw[dL.cell hb];exact g0
    have e1:wr.cell? ⟨b,off+k*2+1,none⟩=some (.slice a3 q3 p3):=by rw[dL.cell hb];exact g1
    clear g0 g1 h30 h31;go_wp2_with (fail);have Du:Ext wr (wr.alloc (.cells #[.bool b3,.slice a3 q3 p3] 30)):=(aA wr).alloc _;have NG:Mb (Mx M w.heap.size (w.heap.size+2)) (wr.alloc (.cells #[.bool b3,.slice a3 q3 p3] 30)):=Mx.mb hM (aR dL.size Du.size) (by simp;omega);have Hf:=(g2.more (M':=Mx M w.heap.size (w.heap.size+2)) (Mx.more (aI _))).ext (dL.trans Du)
    have rz:aH ((Ca z k).natAbs+(z k).natAbs)<=1099511627776:=by
     refine aR (jB ?_) HL.out;have h1:=qDa z k;have h2:=qC7 z (show k+1<=n by omega);simp only[zZ]at h2;omega
    have HI:=ae (hI.ext Du).fB;refine(qdW _ _ _ _ (Ca z k) (z k) _ NG HI.out Hf rz).mono ?_;rintro e w2 ⟨d0,d1,rfl,hc,az⟩;obtain⟨b4,a4,n4,Qq,rfl,rfl⟩:=hc.form;have He:=(dL.trans Du).trans az;have qkf:=(bL.ext Du).ext az;have qbU:=(dm.ext Du).ext az;obtain⟨⟨q0,q1,f0,f1⟩,⟨r0,r1⟩,bD,hf⟩:=l6 (M':=Mx M w.heap.size (w.heap.size+2)) (w:=w) (.bool b4) (.slice a4 n4 Qq) qbU (Mx.at (by omega)) (by omega) He;have iC:=hc.kp bD
    have qvP:=((qbU.set 0 (.bool b4)).set 1 (.slice a4 n4 Qq)).congr (f':=arr #[.bool b4,.slice a4 n4 Qq]) (by
     intro i hi
     have:i=0\/i=1:=by omega
     rcases this with rfl|rfl<;>simp[jr,arr])
    have qvO:=(qkf.vT (p:=⟨w.heap.size+1,0,none⟩) (by simp) (.bool b4)).vT (p:=⟨w.heap.size+1,1,none⟩) (by simp) (.slice a4 n4 Qq);clear qkf qbU bD hc HI Hf rz NG Du hI bL dm r0 r1;go_wp2
    go_roundw
    case rel=>exact⟨k+1,b4,a4,n4,Qq,by omega,by go_num,qvO,qvP,iC,hf⟩
    case measure=>simp[intOf];omega
   ·have:k=n:=by omega
    subst this;obtain⟨⟨q0,q1,f0,f1⟩,⟨r0,r1⟩,bD,hf⟩:=l6 (M':=Mx M w.heap.size (w.heap.size+2)) (w:=w) (.bool b2) (.slice a2 q2 p2) bL (Mx.at (by omega)) (by omega) dL;have iC:=(hI.kp bD).more (M':=M) Mx.less;clear bL dm bD hI;go_wp2;exact bu (v:=.agg #[.bool b2,.slice a2 q2 p2]) (by simp[results,Tryz.results145,go_sem,r0,r1]) rfl ⟨_,_,rfl,iC,hf⟩
end Go.Proofs.YtmcfpnmoklnhoaaGreat
