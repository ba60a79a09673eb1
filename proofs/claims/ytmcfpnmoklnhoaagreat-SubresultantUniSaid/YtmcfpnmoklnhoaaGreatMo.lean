/- Mo -/
import Derived.Test.YtmcfpnmoklnhoaaGreatMa
import Derived.Deep.RegionHeld3
set_option linter.unusedVariables false
set_option maxRecDepth 100000
set_option maxHeartbeats 400000000
set_option linter.unusedSimpArgs false
namespace Go.Proofs.YtmcfpnmoklnhoaaGreat
open Go.RowKit
def bP(neg:Bool)(x:Nat):Int:=if neg then-(x:Int)else x
def dB(M:Nat->Prop)(w:World)(c0 c1:Value)(z:Int):Prop:=∃(neg:Bool)(x:Nat),c0=.bool neg/\fA M w c1 x/\z=bP neg x
def dJ(M:Nat->Prop)(w:World)(c0 c1:Value)(z:Int):Prop:=gT M w c1 z.natAbs/\c0=.bool (decide (z<0))
theorem tu(neg:Bool)(x:Nat):(bP neg x).natAbs=x:=by unfold bP;split<;>omega
theorem qn5(neg:Bool)(x:Nat):decide (bP neg x<0)=(neg&&decide (0<x)):=by
 unfold bP;cases neg<;>simp<;>omega
theorem fA.form{M:Nat->Prop}{w:World}{v:Value}{x:Nat}(h:fA M w v x):∃a n cap,v=.slice a n cap:=by
 obtain⟨n,d,hr,_⟩:=h;obtain⟨a,cap,rfl⟩:=kE hr;exact⟨_,_,_,rfl⟩
section
variable{M M':Nat->Prop}{w w':World}{c0 c1:Value}{z:Int}
theorem dB.kp(h:dB M w c0 c1 z)(he:Kp M w w'):dB M w' c0 c1 z:=by
 obtain⟨neg,x,h0,h1,h2⟩:=h;exact⟨neg,x,h0,h1.kp he,h2⟩
theorem dJ.kp(h:dJ M w c0 c1 z)(he:Kp M w w'):dJ M w' c0 c1 z:=⟨h.1.kp he,h.2⟩
theorem dB.ext(h:dB M w c0 c1 z)(he:Ext w w'):dB M w' c0 c1 z:=h.kp (Kp.jC he)
theorem dJ.ext(h:dJ M w c0 c1 z)(he:Ext w w'):dJ M w' c0 c1 z:=h.kp (Kp.jC he)
theorem dB.more(h:dB M w c0 c1 z)(hm:∀g,M' g->M g\/w.heap.size<=g):dB M' w c0 c1 z:=by
 obtain⟨neg,x,h0,h1,h2⟩:=h;exact⟨neg,x,h0,h1.more hm,h2⟩
theorem dJ.more(h:dJ M w c0 c1 z)(hm:∀g,M' g->M g\/w.heap.size<=g):dJ M' w c0 c1 z:=⟨h.1.more hm,h.2⟩
theorem dJ.eH(h:dJ M w c0 c1 z):dB M w c0 c1 z:=by
 refine⟨_,_,h.2,h.1.eH,?_⟩;unfold bP
 by_cases hz:z<0
 ·simp[hz];omega
 ·simp[hz];omega
theorem dB.form(h:dB M w c0 c1 z):∃b a n cap,c0=.bool b/\c1=.slice a n cap:=by
 obtain⟨neg,x,h0,h1,h2⟩:=h;obtain⟨a,n,cap,rfl⟩:=h1.form;exact⟨_,_,_,_,h0,rfl⟩
theorem dJ.form(h:dJ M w c0 c1 z):∃b a n cap,c0=.bool b/\c1=.slice a n cap:=h.eH.form
end
theorem dJ.zero(M:Nat->Prop)(w:World):dJ M w (.bool false) (.slice none 0 0) 0:=⟨gT.nil M w,rfl⟩
theorem QI{M:Nat->Prop}(neg:Bool)(v:Value)(x:Nat)(w:World)(h:gT M w v x):
 Calls Tryz.prog 122 #[.bool neg,v] w λe w'=>∃c0,e=.returned (.agg #[c0,v])/\dJ M w' c0 v (bP neg x)/\Ext w w':=by
 obtain⟨n,d,hr,hx,hc⟩:=h
 have HN:Hid (dJ M w (.bool (neg&&decide (0<n))) v (bP neg x)):=by
  refine⟨by rw[tu];exact⟨n,d,hr,hx,hc⟩,?_⟩;rw[qn5]
  have h0:(0<n)↔(0<x):=by
   have h1:=Ug d n hr.2.1 hc;rw[hx]at h1;have h2:= @qhz x;omega
  simp[h0]
 obtain⟨a,cap,rfl⟩:=kE hr;clear hr hx hc
 by_cases h0:0<n
 ·have hb:(neg&&decide (0<n))=neg:=by simp[h0]
  rw[hb]at HN;clear hb;cases neg
  ·go_enter Tryz.func122,Tryz.ntmps122
   go_wp2;exact bodyPost_ret (v:=.agg #[.bool false,.slice a n cap]) (by simp[results,Tryz.results122,go_sem]) rfl ⟨_,rfl,HN.out.ext ((Ext.refl _).alloc _),(Ext.refl _).alloc _⟩
  ·go_enter Tryz.func122,Tryz.ntmps122
   go_wp2;exact bodyPost_ret (v:=.agg #[.bool true,.slice a n cap]) (by simp[results,Tryz.results122,go_sem]) rfl ⟨_,rfl,HN.out.ext ((Ext.refl _).alloc _),(Ext.refl _).alloc _⟩
 ·have zh:n=0:=by omega
  subst zh
  have hb:(neg&&decide (0<0))=false:=by simp
  rw[hb]at HN;clear hb h0;cases neg
  ·go_enter Tryz.func122,Tryz.ntmps122
   go_wp2;exact bodyPost_ret (v:=.agg #[.bool false,.slice a 0 cap]) (by simp[results,Tryz.results122,go_sem]) rfl ⟨_,rfl,HN.out.ext ((Ext.refl _).alloc _),(Ext.refl _).alloc _⟩
  ·go_enter Tryz.func122,Tryz.ntmps122
   go_wp2;exact bodyPost_ret (v:=.agg #[.bool false,.slice a 0 cap]) (by simp[results,Tryz.results122,go_sem]) rfl ⟨_,rfl,HN.out.ext ((Ext.refl _).alloc _),(Ext.refl _).alloc _⟩
theorem nL{M':Nat->Prop}{w W:World}{g:Nat}{t:TypeId}{f:Nat->Value}(A B:Value)(hB:ak W g t 2 f)(hg:M' g)(hw:w.heap.size<=g)(he:Ext w W):
 (W.cell? ⟨g,0,none⟩=some (f 0)/\W.cell? ⟨g,1,none⟩=some (f 1)/\W.frozen? ⟨g,0,none⟩=false/\W.frozen? ⟨g,1,none⟩=false)/\
 (((W.setCell ⟨g,0,none⟩ A).setCell ⟨g,1,none⟩ B).cell? ⟨g,0,none⟩=some A/\((W.setCell ⟨g,0,none⟩ A).setCell ⟨g,1,none⟩ B).cell? ⟨g,1,none⟩=some B)/\
 Kp M' W ((W.setCell ⟨g,0,none⟩ A).setCell ⟨g,1,none⟩ B)/\Ext w ((W.setCell ⟨g,0,none⟩ A).setCell ⟨g,1,none⟩ B):=by
 have jK:=(hB.set 0 A).set 1 B;refine⟨⟨hB.cell (by omega),hB.cell (by omega),hB.frozen 0,hB.frozen 1⟩,⟨?_,?_⟩,(Kp.set _ _ hg _).trans (Kp.set _ _ hg _),(he.set hw _).set hw _⟩
 ·rw[jK.cell (i:=0) (by omega)];simp[iK]
 ·rw[jK.cell (i:=1) (by omega)];simp[iK]
theorem Mv{M:Nat->Prop}(neg:Bool)(v:Value)(x:Nat)(w:World)(hM:Mb M w)(h:fA M w v x):
 Calls Tryz.prog 149 #[.bool neg,v] w λe w'=>∃c0 c1,e=.returned (.agg #[c0,c1])/\dJ M w' c0 c1 (bP neg x)/\Ext w w':=by
 have lg:Mb (Mx M w.heap.size (w.heap.size+1)) (w.alloc (.cells #[.bool false,.slice none 0 0] 30)):=Mx.mb hM (by simp) (by simp);have h1:=(h.more (M':=Mx M w.heap.size (w.heap.size+1)) (Mx.more (Nat.le_refl _))).ext ((Ext.refl w).alloc (.cells #[.bool false,.slice none 0 0] 30));have hB:=ak.bf w #[.bool false,.slice none 0 0] 30 2 rfl
 go_enter Tryz.func149,Tryz.ntmps149
 go_wp2_with (fail);refine(EM v x _ lg h1).mono ?_;rintro e w1 ⟨u,rfl,hu,af⟩;go_wp2_with (fail);refine(QI neg u x _ hu).mono ?_;rintro e w2 ⟨c0,rfl,hc,aA⟩;obtain⟨b,a,n,cap,rfl,rfl⟩:=hc.form;have he:=af.trans aA;obtain⟨⟨q0,q1,f0,f1⟩,⟨r0,r1⟩,hk,hf⟩:=nL (M':=Mx M w.heap.size (w.heap.size+1)) (w:=w) (.bool b) (.slice a n cap) (hB.ext he) (Mx.at (by simp)) (Nat.le_refl _) (((Ext.refl w).alloc _).trans he);have gM:=(hc.kp hk).more (M':=M) Mx.less;clear hB af aA he hk;go_wp2;exact bodyPost_ret (v:=.agg #[.bool b,.slice a n cap]) (by simp[results,Tryz.results149,go_sem,r0,r1]) rfl ⟨_,_,rfl,gM,hf⟩
theorem QH{M:Nat->Prop}(c0 c1:Value)(z:Int)(w:World)(hM:Mb M w)(h:dB M w c0 c1 z):
 Calls Tryz.prog 101 #[.agg #[c0,c1]] w λe w'=>∃d0 d1,e=.returned (.agg #[d0,d1])/\dJ M w' d0 d1 z/\Ext w w':=by
 obtain⟨neg,x,rfl,hx,rfl⟩:=h;have lg:Mb (Mx M w.heap.size (w.heap.size+2)) ((w.alloc (.cells #[.bool neg,c1] 30)).alloc (.cells #[.bool false,.slice none 0 0] 30)):=Mx.mb hM (by simp;omega) (by simp);have fG:=(hx.more (M':=Mx M w.heap.size (w.heap.size+2)) (Mx.more (Nat.le_refl _))).ext (((Ext.refl w).alloc (.cells #[.bool neg,c1] 30)).alloc (.cells #[.bool false,.slice none 0 0] 30));have hB:=ak.bf (w.alloc (.cells #[.bool neg,c1] 30)) #[.bool false,.slice none 0 0] 30 2 rfl;obtain⟨a1,n1,uj,rfl⟩:=hx.form
 go_enter Tryz.func101,Tryz.ntmps101
 go_wp2_with (fail);refine(Mv neg _ x _ lg fG).mono ?_;rintro e w1 ⟨d0,d1,rfl,hc,he⟩;obtain⟨b,a,n,cap,rfl,rfl⟩:=hc.form;simp only[World.size_alloc]at hB;obtain⟨⟨q0,q1,f0,f1⟩,⟨r0,r1⟩,hk,hf⟩:=nL (M':=Mx M w.heap.size (w.heap.size+2)) (w:=w) (.bool b) (.slice a n cap) (hB.ext he) (Mx.at (by omega)) (by omega) ((((Ext.refl w).alloc _).alloc _).trans he);have gM:=(hc.kp hk).more (M':=M) Mx.less;clear hB he hk;go_wp2;exact bodyPost_ret (v:=.agg #[.bool b,.slice a n cap]) (by simp[results,Tryz.results101,go_sem,r0,r1]) rfl ⟨_,_,rfl,gM,hf⟩
theorem Mw{M:Nat->Prop}(c0 c1:Value)(z:Int)(w:World)(h:dB M w c0 c1 z):
 Calls Tryz.prog 28 #[.agg #[c0,c1]] w λe w'=>e=.returned (.int .i64 z.sign)/\Ext w w':=by
 obtain⟨neg,x,rfl,hx,rfl⟩:=h;have fG:=hx.ext ((Ext.refl w).alloc (.cells #[.bool neg,c1] 30));obtain⟨a1,n1,uj,rfl⟩:=hx.form
 by_cases h0:x=0
 ·have hs:(bP neg x).sign=0:=by subst h0;cases neg<;>rfl
  have HS:=Lib.hid hs
  have hd:decide (x=0)=true:=by simp[h0]
  clear hs h0
  go_enter Tryz.func28,Tryz.ntmps28
  go_wp2_with (fail);refine(JJ _ x _ fG).mono ?_;rintro e w1 ⟨rfl,rfl⟩;go_wp2;go_ret;exact⟨by rw[HS.out];rfl,(Ext.refl w).alloc _⟩
 ·have hd:decide (x=0)=false:=by simp[h0]
  cases neg
  ·have hs:(bP false x).sign=1:=by unfold bP;simp;omega
   have HS:=Lib.hid hs;clear hs h0
   go_enter Tryz.func28,Tryz.ntmps28
   go_wp2_with (fail);refine(JJ _ x _ fG).mono ?_;rintro e w1 ⟨rfl,rfl⟩;go_wp2;go_ret;exact⟨by rw[HS.out];rfl,(Ext.refl w).alloc _⟩
  ·have hs:(bP true x).sign= -1:=by unfold bP;simp;omega
   have HS:=Lib.hid hs;clear hs h0
   go_enter Tryz.func28,Tryz.ntmps28
   go_wp2_with (fail);refine(JJ _ x _ fG).mono ?_;rintro e w1 ⟨rfl,rfl⟩;go_wp2;go_ret;exact⟨by rw[HS.out];rfl,(Ext.refl w).alloc _⟩
def iX(a b:Int):Int:=if a<b then-1 else if b<a then 1 else 0
theorem qrs(x y:Nat):kZ y x=iX (bP true x) (bP true y):=by
 unfold kZ iX bP;simp only[if_true,Int.neg_lt_neg_iff,Int.ofNat_lt]
theorem qrr(x y:Nat):kZ x y=iX (bP false x) (bP false y):=by
 unfold kZ iX bP;simp only[Bool.false_eq_true,if_false,Int.ofNat_lt]
theorem qob{a b:Int}(h:a.sign<b.sign):a<b:=by
 rcases Int.lt_trichotomy a 0 with ha|ha|ha<;>rcases Int.lt_trichotomy b 0 with hb|hb|hb<;>simp[Int.sign_eq_neg_one_of_neg,Int.sign_eq_one_of_pos,ha,hb]at h<;>omega
theorem La{a b:Int}(h:a<b):iX a b= -1:=by unfold iX;rw[if_pos h]
theorem K9{a b:Int}(h:b<a):iX a b=1:=by unfold iX;rw[if_neg (by omega),if_pos h]
theorem qn7{b:Bool}{x:Nat}(h:(bP b x).sign<0):b=true:=by
 cases b
 ·exfalso
  have h2:0<=bP false x:=by unfold bP;simp
  have:=Int.sign_nonneg_iff.2 h2;omega
 ·rfl
theorem qn8{b:Bool}{x:Nat}(h:0<=(bP b x).sign):bP b x=bP false x:=by
 cases b
 ·rfl
 ·have:=Int.sign_nonneg_iff.1 h;unfold bP at*;simp at*;omega
theorem kc{a b:World}(h:Ext a b){g o:Nat}{v:Value}(hc:a.cell? ⟨g,o,none⟩=some v):b.cell? ⟨g,o,none⟩=some v:=by
 rw[h.cell (World.block_lt_of_cell? a ⟨g,o,none⟩ hc)];exact hc
theorem ks{w:World}{g k b o:Nat}{u v:Value}(hne:b≠g)(hc:w.cell? ⟨b,o,none⟩=some v):(w.setCell ⟨g,k,none⟩ u).cell? ⟨b,o,none⟩=some v:=by
 rw[World.cell?_of_block (w:=w) (Below.heap_setCell w ⟨g,k,none⟩ u b hne)];exact hc
theorem Um{W a b:World}(h0:Ext W a)(h:Ext a b){g o:Nat}{v:Value}(hg:g<W.heap.size)(hc:a.cell? ⟨g,o,none⟩=some v):b.cell? ⟨g,o,none⟩=some v:=by
 rw[h.cell (Nat.lt_of_lt_of_le hg h0.size)];exact hc
theorem qvX{M:Nat->Prop}(c0 c1 d0 d1:Value)(y z:Int)(w:World)(h:dB M w c0 c1 y)(h':dB M w d0 d1 z):
 Calls Tryz.prog 80 #[.agg #[c0,c1],.agg #[d0,d1]] w λe w'=>e=.returned (.int .i64 (iX y z))/\Ext w w':=by
 obtain⟨b1,a1,n1,p1,rfl,rfl⟩:=h.form;obtain⟨b2,a2,n2,p2,rfl,rfl⟩:=h'.form;have E0:Hid (Ext w ((w.alloc (.cells #[.bool b1,.slice a1 n1 p1] 30)).alloc (.cells #[.bool b2,.slice a2 n2 p2] 30))):=((Ext.refl w).alloc _).alloc _
 go_enter Tryz.func80,Tryz.ntmps80
 go_upto_region 1 with(fail)
 go_cut [5,6] (λs5 s6 wx=>s5=.int .i64 y.sign/\s6=.int .i64 z.sign/\Hid (Ext ((w.alloc (.cells #[.bool b1,.slice a1 n1 p1] 30)).alloc (.cells #[.bool b2,.slice a2 n2 p2] 30)) wx))
 case first=>
  go_region_held3 (λw'=>Ext ((w.alloc (.cells #[.bool b1,.slice a1 n1 p1] 30)).alloc (.cells #[.bool b2,.slice a2 n2 p2] 30)) w'/\w'.cell? ⟨w.heap.size,0,none⟩=some (.bool b1)/\w'.cell? ⟨w.heap.size,1,none⟩=some (.slice a1 n1 p1)/\w'.cell? ⟨w.heap.size+1,0,none⟩=some (.bool b2)/\w'.cell? ⟨w.heap.size+1,1,none⟩=some (.slice a2 n2 p2))
   (first|(go_split_ands;exact⟨Ext.trans (by assumption) af,Um (by assumption) af (by simp;try omega) (by assumption),Um (by assumption) af (by simp;try omega) (by assumption),Um (by assumption) af (by simp;try omega) (by assumption),Um (by assumption) af (by simp;try omega) (by assumption)⟩)|(exact⟨(Ext.refl _).drew,by simp[go_sem],by simp[go_sem],by simp[go_sem],by simp[go_sem]⟩)|go_keep)
   (first|(go_at_call_of 28 (Value.agg #[.bool b1,.slice a1 n1 p1]);refine(Mw _ _ y _ (h.ext ?_)).mono ?_;(go_split_ands;exact E0.out.trans (by assumption));rintro e w1 ⟨rfl,af⟩)|(go_at_call_of 28 (Value.agg #[.bool b2,.slice a2 n2 p2]);refine(Mw _ _ z _ (h'.ext ?_)).mono ?_;(go_split_ands;exact E0.out.trans (by assumption));rintro e w1 ⟨rfl,af⟩))
  all_goals(go_wp2_with fail;go_meet;go_split_ands;exact⟨rfl,rfl,by show Ext _ _;assumption⟩)
 case rest=>
  obtain⟨rfl,rfl,hx⟩:=hcut;have he:=hx.out;have e1:=h.ext (E0.out.trans he);have e2:=h'.ext (E0.out.trans he);obtain⟨fD,Ji⟩:=DR he;have gM:=E0.out.trans he;obtain⟨qC6,x1,mJ,fG,rfl⟩:=e1;obtain⟨qC7,x2,lu,oK,rfl⟩:=e2;simp only[Value.bool.injEq]at mJ lu;subst mJ lu;clear hx h h' E0;have S1:=tu b1 x1;have S2:=tu b2 x2;rcases Int.lt_trichotomy (bP b1 x1).sign (bP b2 x2).sign with hl|Jg|hg
  ·have HC:Hid (iX (bP b1 x1) (bP b2 x2)= -1):=La (qob hl);clear S1 S2;go_wp2;go_ret;exact⟨by rw[HC.out];rfl,gM⟩
  ·have l1:(bP b1 x1).sign<=(bP b2 x2).sign:=by omega
   have l2:(bP b2 x2).sign<=(bP b1 x1).sign:=by omega
   clear Jg
   by_cases Jo:(bP b1 x1).sign<0
   ·have HC:Hid (kZ x2 x1=iX (bP b1 x1) (bP b2 x2)):=by
     show _=_;rw[qn7 Jo,qn7 (x:=x2) (b:=b2) (by omega)];exact qrs x1 x2
    clear S1 S2;go_wp2_with (fail);refine(JI _ _ x2 x1 _ oK fG).mono ?_;rintro e w1 ⟨rfl,af⟩;go_wp2;go_ret;exact⟨by rw[<-HC.out];rfl,gM.trans af⟩
   ·have HC:Hid (kZ x1 x2=iX (bP b1 x1) (bP b2 x2)):=by
     show _=_;rw[qn8 (b:=b1) (x:=x1) (by omega),qn8 (b:=b2) (x:=x2) (by omega)];exact qrr x1 x2
    clear S1 S2;go_wp2_with (fail);refine(JI _ _ x1 x2 _ fG oK).mono ?_;rintro e w1 ⟨rfl,af⟩;go_wp2;go_ret;exact⟨by rw[<-HC.out];rfl,gM.trans af⟩
  ·have HC:Hid (iX (bP b1 x1) (bP b2 x2)=1):=K9 (qob hg)
   have PO:¬(bP b1 x1).sign<(bP b2 x2).sign:=by omega
   clear S1 S2;go_wp2;go_ret;exact⟨by rw[HC.out];rfl,gM⟩
theorem qlX{M:Nat->Prop}(c0 c1 d0 d1:Value)(y z:Int)(w:World)(h:dB M w c0 c1 y)(h':dB M w d0 d1 z):
 Calls Tryz.prog 25 #[.agg #[c0,c1],.agg #[d0,d1]] w λe w'=>e=.returned (.bool (decide (y=z)))/\Ext w w':=by
 obtain⟨b1,a1,n1,p1,rfl,rfl⟩:=h.form;obtain⟨b2,a2,n2,p2,rfl,rfl⟩:=h'.form;have hE:Ext w ((w.alloc (.cells #[.bool b1,.slice a1 n1 p1] 30)).alloc (.cells #[.bool b2,.slice a2 n2 p2] 30)):=((Ext.refl w).alloc _).alloc _;have e1:=h.ext hE;have e2:=h'.ext hE
 have HC:Hid ((iX y z==0)=decide (y=z)):=by
  show _=_;unfold iX
  by_cases h1:y<z
  ·simp[h1];omega
  ·by_cases h2:z<y
   ·simp[h1,h2];omega
   ·simp[h1,h2];omega
 go_enter Tryz.func25,Tryz.ntmps25
 go_wp2_with (fail);refine(qvX _ _ _ _ y z _ e1 e2).mono ?_;rintro e w1 ⟨rfl,af⟩;go_wp2;go_ret;exact⟨by rw[<-HC.out];rfl,hE.trans af⟩
theorem qcB{M:Nat->Prop}(c0 c1 d0 d1:Value)(y z:Int)(w:World)(hM:Mb M w)(h:dB M w c0 c1 y)(h':dB M w d0 d1 z)(hL:az (y.natAbs+z.natAbs)<=1099511627776):
 Calls Tryz.prog 124 #[.agg #[c0,c1],.agg #[d0,d1]] w λe w'=>∃e0 e1,e=.returned (.agg #[e0,e1])/\dJ M w' e0 e1 (y+z)/\Ext w w':=by
 obtain⟨b1,x1,rfl,fG,rfl⟩:=h;obtain⟨b2,x2,rfl,oK,rfl⟩:=h';obtain⟨a1,n1,p1,rfl⟩:=fG.form;obtain⟨a2,n2,p2,rfl⟩:=oK.form;rw[tu,tu]at hL;have hE:Ext w (((w.alloc (.cells #[.bool b1,.slice a1 n1 p1] 30)).alloc (.cells #[.bool b2,.slice a2 n2 p2] 30)).alloc (.cells #[.bool false,.slice none 0 0] 30)):=(((Ext.refl w).alloc _).alloc _).alloc _;have lg:Mb (Mx M w.heap.size (w.heap.size+3)) (((w.alloc (.cells #[.bool b1,.slice a1 n1 p1] 30)).alloc (.cells #[.bool b2,.slice a2 n2 p2] 30)).alloc (.cells #[.bool false,.slice none 0 0] 30)):=Mx.mb hM (by simp;omega) (by simp);have e1:=(fG.more (M':=Mx M w.heap.size (w.heap.size+3)) (Mx.more (Nat.le_refl _))).ext hE;have e2:=(oK.more (M':=Mx M w.heap.size (w.heap.size+3)) (Mx.more (Nat.le_refl _))).ext hE;have hB:=ak.bf ((w.alloc (.cells #[.bool b1,.slice a1 n1 p1] 30)).alloc (.cells #[.bool b2,.slice a2 n2 p2] 30)) #[.bool false,.slice none 0 0] 30 2 rfl;simp only[World.size_alloc]at hB
 by_cases LP:b1=b2
 ·subst LP
  have HS:Hid (bP b1 (x1+x2)=bP b1 x1+bP b1 x2):=by show _=_;unfold bP;cases b1<;>simp<;>omega
  go_enter Tryz.func124,Tryz.ntmps124
  go_upto_region 2 with(fail)
  go_region_held3 (λw'=>w'.cell? ⟨w.heap.size,0,none⟩=some (.bool b1)/\w'.cell? ⟨w.heap.size,1,none⟩=some (.slice a1 n1 p1)/\w'.cell? ⟨w.heap.size+1,1,none⟩=some (.slice a2 n2 p2))
   (first|(((go_split_ands;(repeat' apply And.intro))<;>(first|exact kc af (by assumption)|((repeat(refine ks (by omega) ?_));assumption)));done)|go_keep)
   (first|(go_at_call 160;refine(VF _ _ x1 x2 _ (lg.ext (Ext.refl _).drew) (e1.ext (Ext.refl _).drew) (e2.ext (Ext.refl _).drew) hL).mono ?_;rintro e w1 ⟨u,rfl,hu,af⟩;have PH:=af)|(go_at_call 122;refine(QI b1 _ _ _ hu).mono ?_;rintro e w2 ⟨d0,rfl,hc,af⟩;obtain⟨b,a,n,cap,rfl,rfl⟩:=hc.form;obtain⟨⟨q0,q1,f0,f1⟩,⟨r0,r1⟩,hk,hf⟩:=nL (M':=Mx M w.heap.size (w.heap.size+3)) (w:=w) (.bool b) (.slice a n cap) (hB.ext ((((Ext.refl _).drew).trans PH).trans af)) (Mx.at (by omega)) (by omega) (hE.trans ((((Ext.refl _).drew).trans PH).trans af))))
  have gM:=(hc.kp hk).more (M':=M) Mx.less;rw[HS.out]at gM;clear hB hk;go_wp2;exact bodyPost_ret (v:=.agg #[.bool b,.slice a n cap]) (by simp[results,Tryz.results124,go_sem,r0,r1]) rfl ⟨_,_,rfl,gM,hf⟩
 ·have qBc:(b1==b2)=false:=by cases b1<;>cases b2<;>simp_all
  rcases Nat.lt_or_ge x1 x2 with hlt|iZ
  ·have HS:Hid (bP b2 (x2-x1)=bP b1 x1+bP b2 x2):=by show _=_;unfold bP;cases b1<;>cases b2<;>simp_all<;>omega
   have wH:¬(0<=kZ x1 x2):=by rw[TZ hlt];omega
   clear LP
   go_enter Tryz.func124,Tryz.ntmps124
   go_wp2_with (fail);refine(JI _ _ x1 x2 _ e1 e2).mono ?_;rintro e w1 ⟨rfl,af⟩;obtain⟨k1,k2⟩:=DR af;go_wp2_with (fail);refine(qcN _ _ x2 x1 _ (lg.ext af) (e2.ext af) (e1.ext af) (by omega)).mono ?_;rintro e w2 ⟨u,rfl,hu,aA⟩;have El:=af.trans aA;clear k1 k2;obtain⟨k1,k2⟩:=DR El;go_wp2_with (fail);refine(QI b2 _ _ _ hu).mono ?_;rintro e w3 ⟨d0,rfl,hc,aT⟩;obtain⟨b,a,n,cap,rfl,rfl⟩:=hc.form;have PG:=El.trans aT;clear k1 k2;obtain⟨⟨q0,q1,f0,f1⟩,⟨r0,r1⟩,hk,hf⟩:=nL (M':=Mx M w.heap.size (w.heap.size+3)) (w:=w) (.bool b) (.slice a n cap) (hB.ext PG) (Mx.at (by omega)) (by omega) (hE.trans PG);have gM:=(hc.kp hk).more (M':=M) Mx.less;rw[HS.out]at gM;clear hB hk;go_wp2;exact bodyPost_ret (v:=.agg #[.bool b,.slice a n cap]) (by simp[results,Tryz.results124,go_sem,r0,r1]) rfl ⟨_,_,rfl,gM,hf⟩
  ·have HS:Hid (bP b1 (x1-x2)=bP b1 x1+bP b2 x2):=by show _=_;unfold bP;cases b1<;>cases b2<;>simp_all<;>omega
   have wH:0<=kZ x1 x2:=by unfold kZ;rw[if_neg (by omega)];split<;>omega
   clear LP
   go_enter Tryz.func124,Tryz.ntmps124
   go_wp2_with (fail);refine(JI _ _ x1 x2 _ e1 e2).mono ?_;rintro e w1 ⟨rfl,af⟩;obtain⟨k1,k2⟩:=DR af;go_wp2_with (fail);refine(qcN _ _ x1 x2 _ (lg.ext af) (e1.ext af) (e2.ext af) (by omega)).mono ?_;rintro e w2 ⟨u,rfl,hu,aA⟩;have El:=af.trans aA;clear k1 k2;obtain⟨k1,k2⟩:=DR El;go_wp2_with (fail);refine(QI b1 _ _ _ hu).mono ?_;rintro e w3 ⟨d0,rfl,hc,aT⟩;obtain⟨b,a,n,cap,rfl,rfl⟩:=hc.form;have PG:=El.trans aT;clear k1 k2;obtain⟨⟨q0,q1,f0,f1⟩,⟨r0,r1⟩,hk,hf⟩:=nL (M':=Mx M w.heap.size (w.heap.size+3)) (w:=w) (.bool b) (.slice a n cap) (hB.ext PG) (Mx.at (by omega)) (by omega) (hE.trans PG);have gM:=(hc.kp hk).more (M':=M) Mx.less;rw[HS.out]at gM;clear hB hk;go_wp2;exact bodyPost_ret (v:=.agg #[.bool b,.slice a n cap]) (by simp[results,Tryz.results124,go_sem,r0,r1]) rfl ⟨_,_,rfl,gM,hf⟩
theorem qyK(b1 b2:Bool)(x1 x2:Nat):bP (b1 !=b2) (x1*x2)=bP b1 x1*bP b2 x2:=by
 unfold bP;cases b1<;>cases b2<;>simp[Int.natCast_mul,Int.neg_mul,Int.mul_neg]
theorem qlU{M:Nat->Prop}(c0 c1 d0 d1:Value)(y z:Int)(w:World)(hM:Mb M w)(h:dB M w c0 c1 y)(h':dB M w d0 d1 z)(hL:az y.natAbs+az z.natAbs<=1099511627776):
 Calls Tryz.prog 65 #[.agg #[c0,c1],.agg #[d0,d1]] w λe w'=>∃e0 e1,e=.returned (.agg #[e0,e1])/\dJ M w' e0 e1 (y*z)/\Ext w w':=by
 obtain⟨b1,x1,rfl,fG,rfl⟩:=h;obtain⟨b2,x2,rfl,oK,rfl⟩:=h';obtain⟨a1,n1,p1,rfl⟩:=fG.form;obtain⟨a2,n2,p2,rfl⟩:=oK.form;rw[tu,tu]at hL;have hE:Ext w (((w.alloc (.cells #[.bool b1,.slice a1 n1 p1] 30)).alloc (.cells #[.bool b2,.slice a2 n2 p2] 30)).alloc (.cells #[.bool false,.slice none 0 0] 30)):=(((Ext.refl w).alloc _).alloc _).alloc _;have lg:Mb (Mx M w.heap.size (w.heap.size+3)) (((w.alloc (.cells #[.bool b1,.slice a1 n1 p1] 30)).alloc (.cells #[.bool b2,.slice a2 n2 p2] 30)).alloc (.cells #[.bool false,.slice none 0 0] 30)):=Mx.mb hM (by simp;omega) (by simp);have e1:=(fG.more (M':=Mx M w.heap.size (w.heap.size+3)) (Mx.more (Nat.le_refl _))).ext hE;have e2:=(oK.more (M':=Mx M w.heap.size (w.heap.size+3)) (Mx.more (Nat.le_refl _))).ext hE;have hB:=ak.bf ((w.alloc (.cells #[.bool b1,.slice a1 n1 p1] 30)).alloc (.cells #[.bool b2,.slice a2 n2 p2] 30)) #[.bool false,.slice none 0 0] 30 2 rfl;simp only[World.size_alloc]at hB;have HS:Hid (bP (b1 !=b2) (x1*x2)=bP b1 x1*bP b2 x2):=qyK b1 b2 x1 x2
 go_enter Tryz.func65,Tryz.ntmps65
 go_upto_region 1 with(fail)
 go_region_held3 (λw'=>w'.cell? ⟨w.heap.size,0,none⟩=some (.bool b1)/\w'.cell? ⟨w.heap.size,1,none⟩=some (.slice a1 n1 p1)/\w'.cell? ⟨w.heap.size+1,0,none⟩=some (.bool b2)/\w'.cell? ⟨w.heap.size+1,1,none⟩=some (.slice a2 n2 p2))
  (first|(((go_split_ands;(repeat' apply And.intro))<;>(first|exact kc af (by assumption)|((repeat(refine ks (by omega) ?_));assumption)));done)|go_keep)
  (first|(go_at_call 123;refine(qwU _ _ x1 x2 _ (lg.ext (Ext.refl _).drew) (e1.ext (Ext.refl _).drew) (e2.ext (Ext.refl _).drew) hL).mono ?_;rintro e w1 ⟨u,rfl,hu,af⟩;have PH:=af)|(go_at_call 122;refine(QI (b1 !=b2) _ _ _ hu).mono ?_;rintro e w2 ⟨d0,rfl,hc,af⟩;obtain⟨b,a,n,cap,rfl,rfl⟩:=hc.form;obtain⟨⟨q0,q1,f0,f1⟩,⟨r0,r1⟩,hk,hf⟩:=nL (M':=Mx M w.heap.size (w.heap.size+3)) (w:=w) (.bool b) (.slice a n cap) (hB.ext ((((Ext.refl _).drew).trans PH).trans af)) (Mx.at (by omega)) (by omega) (hE.trans ((((Ext.refl _).drew).trans PH).trans af))))
 have gM:=(hc.kp hk).more (M':=M) Mx.less;rw[HS.out]at gM;clear hB hk;go_wp2;exact bodyPost_ret (v:=.agg #[.bool b,.slice a n cap]) (by simp[results,Tryz.results65,go_sem,r0,r1]) rfl ⟨_,_,rfl,gM,hf⟩
theorem Jz{M:Nat->Prop}(z:Int)(w:World)(hM:Mb M w)(h1: -9223372036854775808<=z)(h2:z<=9223372036854775807):
 Calls Tryz.prog 22 #[.int .i64 z] w λe w'=>∃e0 e1,e=.returned (.agg #[e0,e1])/\dJ M w' e0 e1 z/\Ext w w':=by
 have lg:Mb (Mx M w.heap.size (w.heap.size+1)) (w.alloc (.cells #[.bool false,.slice none 0 0] 30)):=Mx.mb hM (by simp) (by simp);have hB:=ak.bf w #[.bool false,.slice none 0 0] 30 2 rfl;have hE:Ext w (w.alloc (.cells #[.bool false,.slice none 0 0] 30)):=(Ext.refl w).alloc _
 by_cases hz:z<0
 ·go_enter Tryz.func22,Tryz.ntmps22
  go_wp2_with (fail);rw[show IntKind.u64.wrap (-IntKind.u64.wrap z)=((z.natAbs:Nat):Int)from by rw[IntKind.wrap_u64,IntKind.wrap_u64];omega];refine(VG z.natAbs _ lg (by omega)).mono ?_;rintro e w1 ⟨u,rfl,hu,af⟩;obtain⟨a,n,cap,rfl⟩:=hu.eH.form;obtain⟨⟨q0,q1,f0,f1⟩,⟨r0,r1⟩,hk,hf⟩:=nL (M':=Mx M w.heap.size (w.heap.size+1)) (w:=w) (.bool true) (.slice a n cap) (hB.ext af) (Mx.at (by omega)) (by omega) (hE.trans af);have hc:dJ _ w1 (.bool true) (.slice a n cap) z:=⟨hu,by simp[hz]⟩;have gM:=(hc.kp hk).more (M':=M) Mx.less;clear hB hk hc;go_wp2;exact bodyPost_ret (v:=.agg #[.bool true,.slice a n cap]) (by simp[results,Tryz.results22,go_sem,r0,r1]) rfl ⟨_,_,rfl,gM,hf⟩
 ·obtain⟨x,rfl⟩:∃x:Nat,z=x:=⟨z.toNat,by omega⟩
  have hd:decide ((x:Int)<0)=false:=by simp
  go_enter Tryz.func22,Tryz.ntmps22
  go_wp2_with (fail);refine(VG x _ lg (by omega)).mono ?_;rintro e w1 ⟨u,rfl,hu,af⟩;obtain⟨a,n,cap,rfl⟩:=hu.eH.form;obtain⟨⟨q0,q1,f0,f1⟩,⟨r0,r1⟩,hk,hf⟩:=nL (M':=Mx M w.heap.size (w.heap.size+1)) (w:=w) (.bool false) (.slice a n cap) (hB.ext af) (Mx.at (by omega)) (by omega) (hE.trans af);have hc:dJ _ w1 (.bool false) (.slice a n cap) (x:Int):=⟨hu,by rw[hd]⟩;have gM:=(hc.kp hk).more (M':=M) Mx.less;clear hB hk hc;go_wp2;exact bodyPost_ret (v:=.agg #[.bool false,.slice a n cap]) (by simp[results,Tryz.results22,go_sem,r0,r1]) rfl ⟨_,_,rfl,gM,hf⟩
def qgk(M:Nat->Prop)(w:World)(v:Value)(n:Nat)(z:Nat->Int):Prop:=
 n<=1099511627776/\((v=.slice none 0 0/\n=0)\/∃(b off cap:Nat)(c0 c1:Nat->Value),v=.slice (some ⟨b,off,none⟩) n cap/\n<=cap/\cap<=maxLen/\b<w.heap.size/\
  ∀i,i<n->w.cell? ⟨b,off+i*2,none⟩=some (c0 i)/\w.cell? ⟨b,off+i*2+1,none⟩=some (c1 i)/\dB M w (c0 i) (c1 i) (z i))
def AB(z:Nat->Int):Nat->Int
 |0=>0
 |n+1=>AB z n+z n
def yE(z:Nat->Int):Nat->Nat
 |0=>0
 |n+1=>yE z n+(z n).natAbs
theorem qAB(z:Nat->Int)(n:Nat):(AB z n).natAbs<=yE z n:=by
 induction n with
 |zero=>simp[AB,yE]
 |succ n ih=>simp only[AB,yE];omega
theorem qAy(z:Nat->Int){m n:Nat}(h:m<=n):yE z m<=yE z n:=by
 induction n with
 |zero=>have:m=0:=by omega
        subst this;exact Nat.le_refl _
 |succ n ih=>
  by_cases hm:m=n+1
  ·subst hm;exact Nat.le_refl _
  ·have:=ih (by omega);simp only[yE];omega
theorem qv0{M:Nat->Prop}(v:Value)(n:Nat)(z:Nat->Int)(w:World)(hM:Mb M w)(h:qgk M w v n z)(hL:az (yE z n)<=1099511627776):
 Calls Tryz.prog 145 #[v] w λe w'=>∃e0 e1,e=.returned (.agg #[e0,e1])/\dJ M w' e0 e1 (AB z n)/\Ext w w':=by
 have hE:Ext w ((w.alloc (.cells #[.bool false,.slice none 0 0] 30)).alloc (.cells #[.bool false,.slice none 0 0] 30)):=((Ext.refl w).alloc _).alloc _;obtain⟨eu,h⟩:=h;have HL:=Lib.hid hL;clear hL;rcases h with⟨rfl,rfl⟩|⟨b,off,cap,c0,c1,rfl,BU,hm,hb,Py⟩
 ·go_enter Tryz.func145,Tryz.ntmps145
  go_wp2;refine wp_loop_rounds 1 ?_;rw[rounds_succ];go_wp2;exact bodyPost_ret (v:=.agg #[.bool false,.slice none 0 0]) (by simp[results,Tryz.results145,go_sem]) rfl ⟨_,_,rfl,dJ.zero _ _,by first|exact hE|exact(hE.set (by simp) _).set (by simp) _⟩
 ·have HC:=Lib.hid Py;clear Py;unfold maxLen at hm;have bO:=(ak.bf w #[.bool false,.slice none 0 0] 30 2 rfl).alloc (.cells #[.bool false,.slice none 0 0] 30);have bM:=ak.bf (w.alloc (.cells #[.bool false,.slice none 0 0] 30)) #[.bool false,.slice none 0 0] 30 2 rfl;simp only[World.size_alloc]at bM
  go_enter Tryz.func145,Tryz.ntmps145
  go_wp2
  go_loopw [9] (λi wr=>∃(k:Nat)(b:Bool)(a:Option Addr)(q p:Nat),k<=n/\i=.int .i64 k/\ak wr w.heap.size 30 2 (arr #[.bool false,.slice none 0 0])/\ak wr (w.heap.size+1) 30 2 (arr #[.bool b,.slice a q p])/\dJ (Mx M w.heap.size (w.heap.size+2)) wr (.bool b) (.slice a q p) (AB z k)/\Ext w wr) (λi _=>n-(intOf i).toNat)
  case atStart=>exact⟨0,_,_,_,_,Nat.zero_le _,rfl,bO,bM,dJ.zero _ _,hE⟩
  case round=>
   clear bO bM;obtain⟨k,b2,a2,q2,p2,hk,rfl,bO,bM,hI,bW⟩:=hrel;have t0:=bM.cell (i:=0) (by omega);have t1:=bM.cell (i:=1) (by omega);simp only[arr]at t0 t1;have t2:=bM.frozen 0;have t3:=bM.frozen 1;have l1:=bM.lt
   by_cases hlt:k<n
   ·obtain⟨g0,g1,g2⟩:=HC.out k hlt;obtain⟨b3,a3,q3,p3,h30,h31⟩:=g2.form;rw[h30]at g0 g2;rw[h31]at g1 g2
    have e0:wr.cell? ⟨b,off+k*2,none⟩=some (.bool b3):=by rw[bW.cell hb];exact g0
    have e1:wr.cell? ⟨b,off+k*2+1,none⟩=some (.slice a3 q3 p3):=by rw[bW.cell hb];exact g1
    clear g0 g1 h30 h31;go_wp2_with (fail);have BK:Ext wr (wr.alloc (.cells #[.bool b3,.slice a3 q3 p3] 30)):=(Ext.refl wr).alloc _;have LC:Mb (Mx M w.heap.size (w.heap.size+2)) (wr.alloc (.cells #[.bool b3,.slice a3 q3 p3] 30)):=Mx.mb hM (Nat.le_trans bW.size BK.size) (by simp;omega);have F3:=(g2.more (M':=Mx M w.heap.size (w.heap.size+2)) (Mx.more (Nat.le_refl _))).ext (bW.trans BK)
    have qw:az ((AB z k).natAbs+(z k).natAbs)<=1099511627776:=by
     refine Nat.le_trans (ji ?_) HL.out;have h1:=qAB z k;have h2:=qAy z (show k+1<=n by omega);simp only[yE]at h2;omega
    have HI:=Lib.hid (hI.ext BK).eH;refine(qcB _ _ _ _ (AB z k) (z k) _ LC HI.out F3 qw).mono ?_;rintro e w2 ⟨d0,d1,rfl,hc,af⟩;obtain⟨b4,a4,n4,OH,rfl,rfl⟩:=hc.form;have FZ:=(bW.trans BK).trans af;have qim:=(bO.ext BK).ext af;have qaD:=(bM.ext BK).ext af;obtain⟨⟨q0,q1,f0,f1⟩,⟨r0,r1⟩,aZ,hf⟩:=nL (M':=Mx M w.heap.size (w.heap.size+2)) (w:=w) (.bool b4) (.slice a4 n4 OH) qaD (Mx.at (by omega)) (by omega) FZ;have gM:=hc.kp aZ
    have qto:=((qaD.set 0 (.bool b4)).set 1 (.slice a4 n4 OH)).congr (f':=arr #[.bool b4,.slice a4 n4 OH]) (by
     intro i hi
     have:i=0\/i=1:=by omega
     rcases this with rfl|rfl<;>simp[iK,arr])
    have qtn:=(qim.uI (p:=⟨w.heap.size+1,0,none⟩) (by simp) (.bool b4)).uI (p:=⟨w.heap.size+1,1,none⟩) (by simp) (.slice a4 n4 OH);clear qim qaD aZ hc HI F3 qw LC BK hI bO bM r0 r1;go_wp2
    go_roundw
    case rel=>exact⟨k+1,b4,a4,n4,OH,by omega,by go_num,qtn,qto,gM,hf⟩
    case measure=>simp[intOf];omega
   ·have:k=n:=by omega
    subst this;obtain⟨⟨q0,q1,f0,f1⟩,⟨r0,r1⟩,aZ,hf⟩:=nL (M':=Mx M w.heap.size (w.heap.size+2)) (w:=w) (.bool b2) (.slice a2 q2 p2) bO (Mx.at (by omega)) (by omega) bW;have gM:=(hI.kp aZ).more (M':=M) Mx.less;clear bO bM aZ hI;go_wp2;exact bodyPost_ret (v:=.agg #[.bool b2,.slice a2 q2 p2]) (by simp[results,Tryz.results145,go_sem,r0,r1]) rfl ⟨_,_,rfl,gM,hf⟩
end Go.Proofs.YtmcfpnmoklnhoaaGreat
