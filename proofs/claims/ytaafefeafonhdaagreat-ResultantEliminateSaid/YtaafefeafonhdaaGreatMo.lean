/- Mo -/
import Derived.Test.YtaafefeafonhdaaGreatMa
import Derived.Deep.AppendLies
import Derived.Sort.Grow
import Derived.Deep.DrawnRows
set_option linter.unusedVariables false
set_option maxRecDepth 100000
set_option maxHeartbeats 400000000
set_option linter.unusedSimpArgs false
namespace Go.Proofs.YtaafefeafonhdaaGreat
open Go.RowKit
def bO(neg:Bool)(x:Nat):Int:=if neg then-(x:Int)else x
def dh(M:Nat->Prop)(w:World)(c0 c1:Value)(z:Int):Prop:=∃(neg:Bool)(x:Nat),c0=.bool neg/\fC M w c1 x/\z=bO neg x
def dH(M:Nat->Prop)(w:World)(c0 c1:Value)(z:Int):Prop:=ic M w c1 z.natAbs/\c0=.bool (decide (z<0))
theorem vB(neg:Bool)(x:Nat):(bO neg x).natAbs=x:=by unfold bO;split<;>omega
theorem qq0(neg:Bool)(x:Nat):decide (bO neg x<0)=(neg&&decide (0<x)):=by
 unfold bO;cases neg<;>simp<;>omega
theorem fC.form{M:Nat->Prop}{w:World}{v:Value}{x:Nat}(h:fC M w v x):∃a n cap,v=.slice a n cap:=by
 obtain⟨n,d,hr,_⟩:=h;obtain⟨a,cap,rfl⟩:=kW hr;exact⟨_,_,_,rfl⟩
section
variable{M M':Nat->Prop}{w w':World}{c0 c1:Value}{z:Int}
theorem dh.kp(h:dh M w c0 c1 z)(he:Kp M w w'):dh M w' c0 c1 z:=by
 obtain⟨neg,x,h0,h1,h2⟩:=h;exact⟨neg,x,h0,h1.kp he,h2⟩
theorem dH.kp(h:dH M w c0 c1 z)(he:Kp M w w'):dH M w' c0 c1 z:=⟨h.1.kp he,h.2⟩
theorem dh.ext(h:dh M w c0 c1 z)(he:Ext w w'):dh M w' c0 c1 z:=h.kp (Kp.gZ he)
theorem dH.ext(h:dH M w c0 c1 z)(he:Ext w w'):dH M w' c0 c1 z:=h.kp (Kp.gZ he)
theorem dh.more(h:dh M w c0 c1 z)(hm:∀g,M' g->M g\/w.heap.size<=g):dh M' w c0 c1 z:=by
 obtain⟨neg,x,h0,h1,h2⟩:=h;exact⟨neg,x,h0,h1.more hm,h2⟩
theorem dH.more(h:dH M w c0 c1 z)(hm:∀g,M' g->M g\/w.heap.size<=g):dH M' w c0 c1 z:=⟨h.1.more hm,h.2⟩
theorem dH.dB(h:dH M w c0 c1 z):dh M w c0 c1 z:=by
 refine⟨_,_,h.2,h.1.dB,?_⟩;unfold bO
 by_cases hz:z<0
 ·simp[hz];omega
 ·simp[hz];omega
theorem dh.form(h:dh M w c0 c1 z):∃b a n cap,c0=.bool b/\c1=.slice a n cap:=by
 obtain⟨neg,x,h0,h1,h2⟩:=h;obtain⟨a,n,cap,rfl⟩:=h1.form;exact⟨_,_,_,_,h0,rfl⟩
theorem dH.form(h:dH M w c0 c1 z):∃b a n cap,c0=.bool b/\c1=.slice a n cap:=h.dB.form
end
theorem dH.zero(M:Nat->Prop)(w:World):dH M w (.bool false) (.slice none 0 0) 0:=⟨ic.nil M w,rfl⟩
theorem SK{M:Nat->Prop}(neg:Bool)(v:Value)(x:Nat)(w:World)(h:ic M w v x):
 Calls Tryz.prog 110 #[.bool neg,v] w λe w'=>∃c0,e=.returned (.agg #[c0,v])/\dH M w' c0 v (bO neg x)/\Ext w w':=by
 obtain⟨n,d,hr,hx,hc⟩:=h
 have HN:Hid (dH M w (.bool (neg&&decide (0<n))) v (bO neg x)):=by
  refine⟨by rw[vB];exact⟨n,d,hr,hx,hc⟩,?_⟩;rw[qq0]
  have h0:(0<n)↔(0<x):=by
   have h1:=VC d n hr.2.1 hc;rw[hx]at h1;have h2:= @qjL x;omega
  simp[h0]
 obtain⟨a,cap,rfl⟩:=kW hr;clear hr hx hc
 by_cases h0:0<n
 ·have hb:(neg&&decide (0<n))=neg:=by simp[h0]
  rw[hb]at HN;clear hb;cases neg
  ·go_enter Tryz.func110,Tryz.ntmps110
   go_wp2;exact aV (v:=.agg #[.bool false,.slice a n cap]) (by simp[results,Tryz.results110,go_sem]) rfl ⟨_,rfl,HN.out.ext ((ai _).alloc _),(ai _).alloc _⟩
  ·go_enter Tryz.func110,Tryz.ntmps110
   go_wp2;exact aV (v:=.agg #[.bool true,.slice a n cap]) (by simp[results,Tryz.results110,go_sem]) rfl ⟨_,rfl,HN.out.ext ((ai _).alloc _),(ai _).alloc _⟩
 ·have oK:n=0:=by omega
  subst oK
  have hb:(neg&&decide (0<0))=false:=by simp
  rw[hb]at HN;clear hb h0;cases neg
  ·go_enter Tryz.func110,Tryz.ntmps110
   go_wp2;exact aV (v:=.agg #[.bool false,.slice a 0 cap]) (by simp[results,Tryz.results110,go_sem]) rfl ⟨_,rfl,HN.out.ext ((ai _).alloc _),(ai _).alloc _⟩
  ·go_enter Tryz.func110,Tryz.ntmps110
   go_wp2;exact aV (v:=.agg #[.bool false,.slice a 0 cap]) (by simp[results,Tryz.results110,go_sem]) rfl ⟨_,rfl,HN.out.ext ((ai _).alloc _),(ai _).alloc _⟩
theorem mD{M':Nat->Prop}{w W:World}{g:Nat}{t:TypeId}{f:Nat->Value}(A B:Value)(hB:au W g t 2 f)(hg:M' g)(hw:w.heap.size<=g)(he:Ext w W):
 (W.cell? ⟨g,0,none⟩=some (f 0)/\W.cell? ⟨g,1,none⟩=some (f 1)/\W.frozen? ⟨g,0,none⟩=false/\W.frozen? ⟨g,1,none⟩=false)/\
 (((W.setCell ⟨g,0,none⟩ A).setCell ⟨g,1,none⟩ B).cell? ⟨g,0,none⟩=some A/\((W.setCell ⟨g,0,none⟩ A).setCell ⟨g,1,none⟩ B).cell? ⟨g,1,none⟩=some B)/\
 Kp M' W ((W.setCell ⟨g,0,none⟩ A).setCell ⟨g,1,none⟩ B)/\Ext w ((W.setCell ⟨g,0,none⟩ A).setCell ⟨g,1,none⟩ B):=by
 have eG:=(hB.set 0 A).set 1 B;refine⟨⟨hB.cell (by omega),hB.cell (by omega),hB.frozen 0,hB.frozen 1⟩,⟨?_,?_⟩,(Kp.set _ _ hg _).trans (Kp.set _ _ hg _),(he.set hw _).set hw _⟩
 ·rw[eG.cell (i:=0) (by omega)];simp[fG]
 ·rw[eG.cell (i:=1) (by omega)];simp[fG]
theorem Ov{M:Nat->Prop}(neg:Bool)(v:Value)(x:Nat)(w:World)(hM:Mb M w)(h:fC M w v x):
 Calls Tryz.prog 87 #[.bool neg,v] w λe w'=>∃c0 c1,e=.returned (.agg #[c0,c1])/\dH M w' c0 c1 (bO neg x)/\Ext w w':=by
 have kG:Mb (Mx M w.heap.size (w.heap.size+1)) (w.alloc (.cells #[.bool false,.slice none 0 0] 30)):=Mx.mb hM (by simp) (by simp);have h1:=(h.more (M':=Mx M w.heap.size (w.heap.size+1)) (Mx.more (aA _))).ext ((ai w).alloc (.cells #[.bool false,.slice none 0 0] 30));have hB:=au.aO w #[.bool false,.slice none 0 0] 30 2 rfl
 go_enter Tryz.func87,Tryz.ntmps87
 go_wp2_with (fail);refine(Fv v x _ kG h1).mono ?_;rintro e w1 ⟨u,rfl,hu,ah⟩;go_wp2_with (fail);refine(SK neg u x _ hu).mono ?_;rintro e w2 ⟨c0,rfl,hc,az⟩;obtain⟨b,a,n,cap,rfl,rfl⟩:=hc.form;have he:=ah.trans az;obtain⟨⟨q0,q1,f0,f1⟩,⟨r0,r1⟩,hk,hf⟩:=mD (M':=Mx M w.heap.size (w.heap.size+1)) (w:=w) (.bool b) (.slice a n cap) (hB.ext he) (Mx.at (by simp)) (aA _) (((ai w).alloc _).trans he);have gV:=(hc.kp hk).more (M':=M) Mx.less;clear hB ah az he hk;go_wp2;exact aV (v:=.agg #[.bool b,.slice a n cap]) (by simp[results,Tryz.results87,go_sem,r0,r1]) rfl ⟨_,_,rfl,gV,hf⟩
theorem La{M:Nat->Prop}(c0 c1:Value)(z:Int)(w:World)(hM:Mb M w)(h:dh M w c0 c1 z):
 Calls Tryz.prog 44 #[.agg #[c0,c1]] w λe w'=>∃d0 d1,e=.returned (.agg #[d0,d1])/\dH M w' d0 d1 z/\Ext w w':=by
 obtain⟨neg,x,rfl,hx,rfl⟩:=h;have kG:Mb (Mx M w.heap.size (w.heap.size+2)) ((w.alloc (.cells #[.bool neg,c1] 30)).alloc (.cells #[.bool false,.slice none 0 0] 30)):=Mx.mb hM (by simp;omega) (by simp);have fo:=(hx.more (M':=Mx M w.heap.size (w.heap.size+2)) (Mx.more (aA _))).ext (((ai w).alloc (.cells #[.bool neg,c1] 30)).alloc (.cells #[.bool false,.slice none 0 0] 30));have hB:=au.aO (w.alloc (.cells #[.bool neg,c1] 30)) #[.bool false,.slice none 0 0] 30 2 rfl;obtain⟨a1,n1,xA,rfl⟩:=hx.form
 go_enter Tryz.func44,Tryz.ntmps44
 go_wp2_with (fail);refine(Ov neg _ x _ kG fo).mono ?_;rintro e w1 ⟨d0,d1,rfl,hc,he⟩;obtain⟨b,a,n,cap,rfl,rfl⟩:=hc.form;simp only[World.size_alloc]at hB;obtain⟨⟨q0,q1,f0,f1⟩,⟨r0,r1⟩,hk,hf⟩:=mD (M':=Mx M w.heap.size (w.heap.size+2)) (w:=w) (.bool b) (.slice a n cap) (hB.ext he) (Mx.at (by omega)) (by omega) ((((ai w).alloc _).alloc _).trans he);have gV:=(hc.kp hk).more (M':=M) Mx.less;clear hB he hk;go_wp2;exact aV (v:=.agg #[.bool b,.slice a n cap]) (by simp[results,Tryz.results44,go_sem,r0,r1]) rfl ⟨_,_,rfl,gV,hf⟩
theorem Lb{M:Nat->Prop}(c0 c1:Value)(z:Int)(w:World)(h:dh M w c0 c1 z):
 Calls Tryz.prog 61 #[.agg #[c0,c1]] w λe w'=>e=.returned (.int .i64 z.sign)/\Ext w w':=by
 obtain⟨neg,x,rfl,hx,rfl⟩:=h;have fo:=hx.ext ((ai w).alloc (.cells #[.bool neg,c1] 30));obtain⟨a1,n1,xA,rfl⟩:=hx.form
 by_cases h0:x=0
 ·have hs:(bO neg x).sign=0:=by subst h0;cases neg<;>rfl
  have HS:=ae hs
  have hd:decide (x=0)=true:=by simp[h0]
  clear hs h0
  go_enter Tryz.func61,Tryz.ntmps61
  go_wp2_with (fail);refine(Il _ x _ fo).mono ?_;rintro e w1 ⟨rfl,rfl⟩;go_wp2;go_ret;exact⟨by rw[HS.out];rfl,(ai w).alloc _⟩
 ·have hd:decide (x=0)=false:=by simp[h0]
  cases neg
  ·have hs:(bO false x).sign=1:=by unfold bO;simp;omega
   have HS:=ae hs;clear hs h0
   go_enter Tryz.func61,Tryz.ntmps61
   go_wp2_with (fail);refine(Il _ x _ fo).mono ?_;rintro e w1 ⟨rfl,rfl⟩;go_wp2;go_ret;exact⟨by rw[HS.out];rfl,(ai w).alloc _⟩
  ·have hs:(bO true x).sign= -1:=by unfold bO;simp;omega
   have HS:=ae hs;clear hs h0
   go_enter Tryz.func61,Tryz.ntmps61
   go_wp2_with (fail);refine(Il _ x _ fo).mono ?_;rintro e w1 ⟨rfl,rfl⟩;go_wp2;go_ret;exact⟨by rw[HS.out];rfl,(ai w).alloc _⟩
def iI(a b:Int):Int:=if a<b then-1 else if b<a then 1 else 0
theorem quz(x y:Nat):lJ y x=iI (bO true x) (bO true y):=by
 unfold lJ iI bO;simp only[if_true,Int.neg_lt_neg_iff,Int.ofNat_lt]
theorem quy(x y:Nat):lJ x y=iI (bO false x) (bO false y):=by
 unfold lJ iI bO;simp only[Bool.false_eq_true,if_false,Int.ofNat_lt]
theorem qq5{a b:Int}(h:a.sign<b.sign):a<b:=by
 rcases Int.lt_trichotomy a 0 with ha|ha|ha<;>rcases Int.lt_trichotomy b 0 with hb|hb|hb<;>simp[Int.sign_eq_neg_one_of_neg,Int.sign_eq_one_of_pos,ha,hb]at h<;>omega
theorem Nc{a b:Int}(h:a<b):iI a b= -1:=by unfold iI;rw[av h]
theorem Nb{a b:Int}(h:b<a):iI a b=1:=by unfold iI;rw[aj (by omega),av h]
theorem qq1{b:Bool}{x:Nat}(h:(bO b x).sign<0):b=true:=by
 cases b
 ·exfalso
  have h2:0<=bO false x:=by unfold bO;simp
  have:=Int.sign_nonneg_iff.2 h2;omega
 ·rfl
theorem qq2{b:Bool}{x:Nat}(h:0<=(bO b x).sign):bO b x=bO false x:=by
 cases b
 ·rfl
 ·have:=Int.sign_nonneg_iff.1 h;unfold bO at*;simp at*;omega
theorem kc{a b:World}(h:Ext a b){g o:Nat}{v:Value}(hc:a.cell? ⟨g,o,none⟩=some v):b.cell? ⟨g,o,none⟩=some v:=by
 rw[h.cell (dM a ⟨g,o,none⟩ hc)];exact hc
theorem ks{w:World}{g k b o:Nat}{u v:Value}(hne:b≠g)(hc:w.cell? ⟨b,o,none⟩=some v):(w.setCell ⟨g,k,none⟩ u).cell? ⟨b,o,none⟩=some v:=by
 rw[World.cell?_of_block (w:=w) (Below.heap_setCell w ⟨g,k,none⟩ u b hne)];exact hc
theorem VI{W a b:World}(h0:Ext W a)(h:Ext a b){g o:Nat}{v:Value}(hg:g<W.heap.size)(hc:a.cell? ⟨g,o,none⟩=some v):b.cell? ⟨g,o,none⟩=some v:=by
 rw[h.cell (bB hg h0.size)];exact hc
theorem qoH{M:Nat->Prop}(c0 c1 d0 d1:Value)(y z:Int)(w:World)(h:dh M w c0 c1 y)(h':dh M w d0 d1 z):
 Calls Tryz.prog 70 #[.agg #[c0,c1],.agg #[d0,d1]] w λe w'=>e=.returned (.int .i64 (iI y z))/\Ext w w':=by
 obtain⟨b1,a1,n1,p1,rfl,rfl⟩:=h.form;obtain⟨b2,a2,n2,p2,rfl,rfl⟩:=h'.form;have E0:Hid (Ext w ((w.alloc (.cells #[.bool b1,.slice a1 n1 p1] 30)).alloc (.cells #[.bool b2,.slice a2 n2 p2] 30))):=((ai w).alloc _).alloc _
 go_enter Tryz.func70,Tryz.ntmps70
 go_upto_region 1 with(fail)
 go_cut [5,6] (λs5 s6 wx=>s5=.int .i64 y.sign/\s6=.int .i64 z.sign/\Hid (Ext ((w.alloc (.cells #[.bool b1,.slice a1 n1 p1] 30)).alloc (.cells #[.bool b2,.slice a2 n2 p2] 30)) wx))
 case first=>
  go_region_held3 (λw'=>Ext ((w.alloc (.cells #[.bool b1,.slice a1 n1 p1] 30)).alloc (.cells #[.bool b2,.slice a2 n2 p2] 30)) w'/\w'.cell? ⟨w.heap.size,0,none⟩=some (.bool b1)/\w'.cell? ⟨w.heap.size,1,none⟩=some (.slice a1 n1 p1)/\w'.cell? ⟨w.heap.size+1,0,none⟩=some (.bool b2)/\w'.cell? ⟨w.heap.size+1,1,none⟩=some (.slice a2 n2 p2))
   (first|(go_split_ands;exact⟨Ext.trans (by assumption) ah,VI (by assumption) ah (by simp;try omega) (by assumption),VI (by assumption) ah (by simp;try omega) (by assumption),VI (by assumption) ah (by simp;try omega) (by assumption),VI (by assumption) ah (by simp;try omega) (by assumption)⟩)|(exact⟨(ai _).drew,by simp[go_sem],by simp[go_sem],by simp[go_sem],by simp[go_sem]⟩)|go_keep)
   (first|(go_at_call_of 61 (Value.agg #[.bool b1,.slice a1 n1 p1]);refine(Lb _ _ y _ (h.ext ?_)).mono ?_;(go_split_ands;exact E0.out.trans (by assumption));rintro e w1 ⟨rfl,ah⟩)|(go_at_call_of 61 (Value.agg #[.bool b2,.slice a2 n2 p2]);refine(Lb _ _ z _ (h'.ext ?_)).mono ?_;(go_split_ands;exact E0.out.trans (by assumption));rintro e w1 ⟨rfl,ah⟩))
  all_goals(go_wp2_with fail;go_meet;go_split_ands;exact⟨rfl,rfl,by show Ext _ _;assumption⟩)
 case rest=>
  obtain⟨rfl,rfl,hx⟩:=hcut;have he:=hx.out;have e1:=h.ext (E0.out.trans he);have e2:=h'.ext (E0.out.trans he);obtain⟨ig,KA⟩:=ED he;have gV:=E0.out.trans he;obtain⟨qHy,x1,AY,fo,rfl⟩:=e1;obtain⟨qHz,x2,mI,sI,rfl⟩:=e2;simp only[Value.bool.injEq]at AY mI;subst AY mI;clear hx h h' E0;have S1:=vB b1 x1;have S2:=vB b2 x2;rcases Int.lt_trichotomy (bO b1 x1).sign (bO b2 x2).sign with hl|Ky|hg
  ·have HC:Hid (iI (bO b1 x1) (bO b2 x2)= -1):=Nc (qq5 hl);clear S1 S2;go_wp2;go_ret;exact⟨by rw[HC.out];rfl,gV⟩
  ·have l1:(bO b1 x1).sign<=(bO b2 x2).sign:=by omega
   have l2:(bO b2 x2).sign<=(bO b1 x1).sign:=by omega
   clear Ky
   by_cases qyG:(bO b1 x1).sign<0
   ·have HC:Hid (lJ x2 x1=iI (bO b1 x1) (bO b2 x2)):=by
     show _=_;rw[qq1 qyG,qq1 (x:=x2) (b:=b2) (by omega)];exact quz x1 x2
    clear S1 S2;go_wp2_with (fail);refine(Lh _ _ x2 x1 _ sI fo).mono ?_;rintro e w1 ⟨rfl,ah⟩;go_wp2;go_ret;exact⟨by rw[<-HC.out];rfl,gV.trans ah⟩
   ·have HC:Hid (lJ x1 x2=iI (bO b1 x1) (bO b2 x2)):=by
     show _=_;rw[qq2 (b:=b1) (x:=x1) (by omega),qq2 (b:=b2) (x:=x2) (by omega)];exact quy x1 x2
    clear S1 S2;go_wp2_with (fail);refine(Lh _ _ x1 x2 _ fo sI).mono ?_;rintro e w1 ⟨rfl,ah⟩;go_wp2;go_ret;exact⟨by rw[<-HC.out];rfl,gV.trans ah⟩
  ·have HC:Hid (iI (bO b1 x1) (bO b2 x2)=1):=Nb (qq5 hg)
   have NW:¬(bO b1 x1).sign<(bO b2 x2).sign:=by omega
   clear S1 S2;go_wp2;go_ret;exact⟨by rw[HC.out];rfl,gV⟩
theorem qeQ{M:Nat->Prop}(c0 c1 d0 d1:Value)(y z:Int)(w:World)(h:dh M w c0 c1 y)(h':dh M w d0 d1 z):
 Calls Tryz.prog 28 #[.agg #[c0,c1],.agg #[d0,d1]] w λe w'=>e=.returned (.bool (decide (y=z)))/\Ext w w':=by
 obtain⟨b1,a1,n1,p1,rfl,rfl⟩:=h.form;obtain⟨b2,a2,n2,p2,rfl,rfl⟩:=h'.form;have hE:Ext w ((w.alloc (.cells #[.bool b1,.slice a1 n1 p1] 30)).alloc (.cells #[.bool b2,.slice a2 n2 p2] 30)):=((ai w).alloc _).alloc _;have e1:=h.ext hE;have e2:=h'.ext hE
 have HC:Hid ((iI y z==0)=decide (y=z)):=by
  show _=_;unfold iI
  by_cases h1:y<z
  ·simp[h1];omega
  ·by_cases h2:z<y
   ·simp[h1,h2];omega
   ·simp[h1,h2];omega
 go_enter Tryz.func28,Tryz.ntmps28
 go_wp2_with (fail);refine(qoH _ _ _ _ y z _ e1 e2).mono ?_;rintro e w1 ⟨rfl,ah⟩;go_wp2;go_ret;exact⟨by rw[<-HC.out];rfl,hE.trans ah⟩
theorem qeP{M:Nat->Prop}(c0 c1 d0 d1:Value)(y z:Int)(w:World)(hM:Mb M w)(h:dh M w c0 c1 y)(h':dh M w d0 d1 z)(hL:aF (y.natAbs+z.natAbs)<=1099511627776):
 Calls Tryz.prog 79 #[.agg #[c0,c1],.agg #[d0,d1]] w λe w'=>∃e0 e1,e=.returned (.agg #[e0,e1])/\dH M w' e0 e1 (y+z)/\Ext w w':=by
 obtain⟨b1,x1,rfl,fo,rfl⟩:=h;obtain⟨b2,x2,rfl,sI,rfl⟩:=h';obtain⟨a1,n1,p1,rfl⟩:=fo.form;obtain⟨a2,n2,p2,rfl⟩:=sI.form;rw[vB,vB]at hL;have hE:Ext w (((w.alloc (.cells #[.bool b1,.slice a1 n1 p1] 30)).alloc (.cells #[.bool b2,.slice a2 n2 p2] 30)).alloc (.cells #[.bool false,.slice none 0 0] 30)):=(((ai w).alloc _).alloc _).alloc _;have kG:Mb (Mx M w.heap.size (w.heap.size+3)) (((w.alloc (.cells #[.bool b1,.slice a1 n1 p1] 30)).alloc (.cells #[.bool b2,.slice a2 n2 p2] 30)).alloc (.cells #[.bool false,.slice none 0 0] 30)):=Mx.mb hM (by simp;omega) (by simp);have e1:=(fo.more (M':=Mx M w.heap.size (w.heap.size+3)) (Mx.more (aA _))).ext hE;have e2:=(sI.more (M':=Mx M w.heap.size (w.heap.size+3)) (Mx.more (aA _))).ext hE;have hB:=au.aO ((w.alloc (.cells #[.bool b1,.slice a1 n1 p1] 30)).alloc (.cells #[.bool b2,.slice a2 n2 p2] 30)) #[.bool false,.slice none 0 0] 30 2 rfl;simp only[World.size_alloc]at hB
 by_cases Dc:b1=b2
 ·subst Dc
  have HS:Hid (bO b1 (x1+x2)=bO b1 x1+bO b1 x2):=by show _=_;unfold bO;cases b1<;>simp<;>omega
  go_enter Tryz.func79,Tryz.ntmps79
  go_upto_region 2 with(fail)
  go_region_held3 (λw'=>w'.cell? ⟨w.heap.size,0,none⟩=some (.bool b1)/\w'.cell? ⟨w.heap.size,1,none⟩=some (.slice a1 n1 p1)/\w'.cell? ⟨w.heap.size+1,1,none⟩=some (.slice a2 n2 p2))
   (first|(((go_split_ands;(repeat' apply And.intro))<;>(first|exact kc ah (by assumption)|((repeat(refine ks (by omega) ?_));assumption)));done)|go_keep)
   (first|(go_at_call 112;refine(XK _ _ x1 x2 _ (kG.ext (ai _).drew) (e1.ext (ai _).drew) (e2.ext (ai _).drew) hL).mono ?_;rintro e w1 ⟨u,rfl,hu,ah⟩;have RI:=ah)|(go_at_call 110;refine(SK b1 _ _ _ hu).mono ?_;rintro e w2 ⟨d0,rfl,hc,ah⟩;obtain⟨b,a,n,cap,rfl,rfl⟩:=hc.form;obtain⟨⟨q0,q1,f0,f1⟩,⟨r0,r1⟩,hk,hf⟩:=mD (M':=Mx M w.heap.size (w.heap.size+3)) (w:=w) (.bool b) (.slice a n cap) (hB.ext ((((ai _).drew).trans RI).trans ah)) (Mx.at (by omega)) (by omega) (hE.trans ((((ai _).drew).trans RI).trans ah))))
  have gV:=(hc.kp hk).more (M':=M) Mx.less;rw[HS.out]at gV;clear hB hk;go_wp2;exact aV (v:=.agg #[.bool b,.slice a n cap]) (by simp[results,Tryz.results79,go_sem,r0,r1]) rfl ⟨_,_,rfl,gV,hf⟩
 ·have qFE:(b1==b2)=false:=by cases b1<;>cases b2<;>simp_all
  rcases Nat.lt_or_ge x1 x2 with hlt|jy
  ·have HS:Hid (bO b2 (x2-x1)=bO b1 x1+bO b2 x2):=by show _=_;unfold bO;cases b1<;>cases b2<;>simp_all<;>omega
   have NR:¬(0<=lJ x1 x2):=by rw[Vv hlt];omega
   clear Dc
   go_enter Tryz.func79,Tryz.ntmps79
   go_wp2_with (fail);refine(Lh _ _ x1 x2 _ e1 e2).mono ?_;rintro e w1 ⟨rfl,ah⟩;obtain⟨k1,k2⟩:=ED ah;go_wp2_with (fail);refine(qe8 _ _ x2 x1 _ (kG.ext ah) (e2.ext ah) (e1.ext ah) (by omega)).mono ?_;rintro e w2 ⟨u,rfl,hu,az⟩;have RG:=ah.trans az;clear k1 k2;obtain⟨k1,k2⟩:=ED RG;go_wp2_with (fail);refine(SK b2 _ _ _ hu).mono ?_;rintro e w3 ⟨d0,rfl,hc,aN⟩;obtain⟨b,a,n,cap,rfl,rfl⟩:=hc.form;have RH:=RG.trans aN;clear k1 k2;obtain⟨⟨q0,q1,f0,f1⟩,⟨r0,r1⟩,hk,hf⟩:=mD (M':=Mx M w.heap.size (w.heap.size+3)) (w:=w) (.bool b) (.slice a n cap) (hB.ext RH) (Mx.at (by omega)) (by omega) (hE.trans RH);have gV:=(hc.kp hk).more (M':=M) Mx.less;rw[HS.out]at gV;clear hB hk;go_wp2;exact aV (v:=.agg #[.bool b,.slice a n cap]) (by simp[results,Tryz.results79,go_sem,r0,r1]) rfl ⟨_,_,rfl,gV,hf⟩
  ·have HS:Hid (bO b1 (x1-x2)=bO b1 x1+bO b2 x2):=by show _=_;unfold bO;cases b1<;>cases b2<;>simp_all<;>omega
   have NR:0<=lJ x1 x2:=by unfold lJ;rw[aj (by omega)];split<;>omega
   clear Dc
   go_enter Tryz.func79,Tryz.ntmps79
   go_wp2_with (fail);refine(Lh _ _ x1 x2 _ e1 e2).mono ?_;rintro e w1 ⟨rfl,ah⟩;obtain⟨k1,k2⟩:=ED ah;go_wp2_with (fail);refine(qe8 _ _ x1 x2 _ (kG.ext ah) (e1.ext ah) (e2.ext ah) (by omega)).mono ?_;rintro e w2 ⟨u,rfl,hu,az⟩;have RG:=ah.trans az;clear k1 k2;obtain⟨k1,k2⟩:=ED RG;go_wp2_with (fail);refine(SK b1 _ _ _ hu).mono ?_;rintro e w3 ⟨d0,rfl,hc,aN⟩;obtain⟨b,a,n,cap,rfl,rfl⟩:=hc.form;have RH:=RG.trans aN;clear k1 k2;obtain⟨⟨q0,q1,f0,f1⟩,⟨r0,r1⟩,hk,hf⟩:=mD (M':=Mx M w.heap.size (w.heap.size+3)) (w:=w) (.bool b) (.slice a n cap) (hB.ext RH) (Mx.at (by omega)) (by omega) (hE.trans RH);have gV:=(hc.kp hk).more (M':=M) Mx.less;rw[HS.out]at gV;clear hB hk;go_wp2;exact aV (v:=.agg #[.bool b,.slice a n cap]) (by simp[results,Tryz.results79,go_sem,r0,r1]) rfl ⟨_,_,rfl,gV,hf⟩
theorem qC1(b1 b2:Bool)(x1 x2:Nat):bO (b1 !=b2) (x1*x2)=bO b1 x1*bO b2 x2:=by
 unfold bO;cases b1<;>cases b2<;>simp[Int.natCast_mul,Int.neg_mul,Int.mul_neg]
theorem Ow{M:Nat->Prop}(c0 c1 d0 d1:Value)(y z:Int)(w:World)(hM:Mb M w)(h:dh M w c0 c1 y)(h':dh M w d0 d1 z)(hL:aF y.natAbs+aF z.natAbs<=1099511627776):
 Calls Tryz.prog 78 #[.agg #[c0,c1],.agg #[d0,d1]] w λe w'=>∃e0 e1,e=.returned (.agg #[e0,e1])/\dH M w' e0 e1 (y*z)/\Ext w w':=by
 obtain⟨b1,x1,rfl,fo,rfl⟩:=h;obtain⟨b2,x2,rfl,sI,rfl⟩:=h';obtain⟨a1,n1,p1,rfl⟩:=fo.form;obtain⟨a2,n2,p2,rfl⟩:=sI.form;rw[vB,vB]at hL;have hE:Ext w (((w.alloc (.cells #[.bool b1,.slice a1 n1 p1] 30)).alloc (.cells #[.bool b2,.slice a2 n2 p2] 30)).alloc (.cells #[.bool false,.slice none 0 0] 30)):=(((ai w).alloc _).alloc _).alloc _;have kG:Mb (Mx M w.heap.size (w.heap.size+3)) (((w.alloc (.cells #[.bool b1,.slice a1 n1 p1] 30)).alloc (.cells #[.bool b2,.slice a2 n2 p2] 30)).alloc (.cells #[.bool false,.slice none 0 0] 30)):=Mx.mb hM (by simp;omega) (by simp);have e1:=(fo.more (M':=Mx M w.heap.size (w.heap.size+3)) (Mx.more (aA _))).ext hE;have e2:=(sI.more (M':=Mx M w.heap.size (w.heap.size+3)) (Mx.more (aA _))).ext hE;have hB:=au.aO ((w.alloc (.cells #[.bool b1,.slice a1 n1 p1] 30)).alloc (.cells #[.bool b2,.slice a2 n2 p2] 30)) #[.bool false,.slice none 0 0] 30 2 rfl;simp only[World.size_alloc]at hB;have HS:Hid (bO (b1 !=b2) (x1*x2)=bO b1 x1*bO b2 x2):=qC1 b1 b2 x1 x2
 go_enter Tryz.func78,Tryz.ntmps78
 go_upto_region 1 with(fail)
 go_region_held3 (λw'=>w'.cell? ⟨w.heap.size,0,none⟩=some (.bool b1)/\w'.cell? ⟨w.heap.size,1,none⟩=some (.slice a1 n1 p1)/\w'.cell? ⟨w.heap.size+1,0,none⟩=some (.bool b2)/\w'.cell? ⟨w.heap.size+1,1,none⟩=some (.slice a2 n2 p2))
  (first|(((go_split_ands;(repeat' apply And.intro))<;>(first|exact kc ah (by assumption)|((repeat(refine ks (by omega) ?_));assumption)));done)|go_keep)
  (first|(go_at_call 111;refine(qAI _ _ x1 x2 _ (kG.ext (ai _).drew) (e1.ext (ai _).drew) (e2.ext (ai _).drew) hL).mono ?_;rintro e w1 ⟨u,rfl,hu,ah⟩;have RI:=ah)|(go_at_call 110;refine(SK (b1 !=b2) _ _ _ hu).mono ?_;rintro e w2 ⟨d0,rfl,hc,ah⟩;obtain⟨b,a,n,cap,rfl,rfl⟩:=hc.form;obtain⟨⟨q0,q1,f0,f1⟩,⟨r0,r1⟩,hk,hf⟩:=mD (M':=Mx M w.heap.size (w.heap.size+3)) (w:=w) (.bool b) (.slice a n cap) (hB.ext ((((ai _).drew).trans RI).trans ah)) (Mx.at (by omega)) (by omega) (hE.trans ((((ai _).drew).trans RI).trans ah))))
 have gV:=(hc.kp hk).more (M':=M) Mx.less;rw[HS.out]at gV;clear hB hk;go_wp2;exact aV (v:=.agg #[.bool b,.slice a n cap]) (by simp[results,Tryz.results78,go_sem,r0,r1]) rfl ⟨_,_,rfl,gV,hf⟩
theorem DD{M:Nat->Prop}(z:Int)(w:World)(hM:Mb M w)(h1: -9223372036854775808<=z)(h2:z<=9223372036854775807):
 Calls Tryz.prog 27 #[.int .i64 z] w λe w'=>∃e0 e1,e=.returned (.agg #[e0,e1])/\dH M w' e0 e1 z/\Ext w w':=by
 have kG:Mb (Mx M w.heap.size (w.heap.size+1)) (w.alloc (.cells #[.bool false,.slice none 0 0] 30)):=Mx.mb hM (by simp) (by simp);have hB:=au.aO w #[.bool false,.slice none 0 0] 30 2 rfl;have hE:Ext w (w.alloc (.cells #[.bool false,.slice none 0 0] 30)):=(ai w).alloc _
 by_cases hz:z<0
 ·go_enter Tryz.func27,Tryz.ntmps27
  go_wp2_with (fail);rw[show IntKind.u64.wrap (-IntKind.u64.wrap z)=((z.natAbs:Nat):Int)from by rw[IntKind.wrap_u64,IntKind.wrap_u64];omega];refine(Tk z.natAbs _ kG (by omega)).mono ?_;rintro e w1 ⟨u,rfl,hu,ah⟩;obtain⟨a,n,cap,rfl⟩:=hu.dB.form;obtain⟨⟨q0,q1,f0,f1⟩,⟨r0,r1⟩,hk,hf⟩:=mD (M':=Mx M w.heap.size (w.heap.size+1)) (w:=w) (.bool true) (.slice a n cap) (hB.ext ah) (Mx.at (by omega)) (by omega) (hE.trans ah);have hc:dH _ w1 (.bool true) (.slice a n cap) z:=⟨hu,by simp[hz]⟩;have gV:=(hc.kp hk).more (M':=M) Mx.less;clear hB hk hc;go_wp2;exact aV (v:=.agg #[.bool true,.slice a n cap]) (by simp[results,Tryz.results27,go_sem,r0,r1]) rfl ⟨_,_,rfl,gV,hf⟩
 ·obtain⟨x,rfl⟩:∃x:Nat,z=x:=⟨z.toNat,by omega⟩
  have hd:decide ((x:Int)<0)=false:=by simp
  go_enter Tryz.func27,Tryz.ntmps27
  go_wp2_with (fail);refine(Tk x _ kG (by omega)).mono ?_;rintro e w1 ⟨u,rfl,hu,ah⟩;obtain⟨a,n,cap,rfl⟩:=hu.dB.form;obtain⟨⟨q0,q1,f0,f1⟩,⟨r0,r1⟩,hk,hf⟩:=mD (M':=Mx M w.heap.size (w.heap.size+1)) (w:=w) (.bool false) (.slice a n cap) (hB.ext ah) (Mx.at (by omega)) (by omega) (hE.trans ah);have hc:dH _ w1 (.bool false) (.slice a n cap) (x:Int):=⟨hu,by rw[hd]⟩;have gV:=(hc.kp hk).more (M':=M) Mx.less;clear hB hk hc;go_wp2;exact aV (v:=.agg #[.bool false,.slice a n cap]) (by simp[results,Tryz.results27,go_sem,r0,r1]) rfl ⟨_,_,rfl,gV,hf⟩
def qiJ(M:Nat->Prop)(w:World)(v:Value)(n:Nat)(z:Nat->Int):Prop:=
 n<=1099511627776/\((v=.slice none 0 0/\n=0)\/∃(b off cap:Nat)(c0 c1:Nat->Value),v=.slice (some ⟨b,off,none⟩) n cap/\n<=cap/\cap<=maxLen/\b<w.heap.size/\
  ∀i,i<n->w.cell? ⟨b,off+i*2,none⟩=some (c0 i)/\w.cell? ⟨b,off+i*2+1,none⟩=some (c1 i)/\dh M w (c0 i) (c1 i) (z i))
def BC(z:Nat->Int):Nat->Int
 |0=>0
 |n+1=>BC z n+z n
def zK(z:Nat->Int):Nat->Nat
 |0=>0
 |n+1=>zK z n+(z n).natAbs
theorem qE1(z:Nat->Int)(n:Nat):(BC z n).natAbs<=zK z n:=by
 induction n with
 |zero=>simp[BC,zK]
 |succ n ih=>simp only[BC,zK];omega
theorem qEZ(z:Nat->Int){m n:Nat}(h:m<=n):zK z m<=zK z n:=by
 induction n with
 |zero=>have:m=0:=by omega
        subst this;exact aA _
 |succ n ih=>
  by_cases hm:m=n+1
  ·subst hm;exact aA _
  ·have:=ih (by omega);simp only[zK];omega
theorem qzK{M:Nat->Prop}(v:Value)(n:Nat)(z:Nat->Int)(w:World)(hM:Mb M w)(h:qiJ M w v n z)(hL:aF (zK z n)<=1099511627776):
 Calls Tryz.prog 80 #[v] w λe w'=>∃e0 e1,e=.returned (.agg #[e0,e1])/\dH M w' e0 e1 (BC z n)/\Ext w w':=by
 have hE:Ext w ((w.alloc (.cells #[.bool false,.slice none 0 0] 30)).alloc (.cells #[.bool false,.slice none 0 0] 30)):=((ai w).alloc _).alloc _;obtain⟨dY,h⟩:=h;have HL:=ae hL;clear hL;rcases h with⟨rfl,rfl⟩|⟨b,off,cap,c0,c1,rfl,xL,hm,hb,Df⟩
 ·go_enter Tryz.func80,Tryz.ntmps80
  go_wp2;refine wp_loop_rounds 1 ?_;rw[rounds_succ];go_wp2;exact aV (v:=.agg #[.bool false,.slice none 0 0]) (by simp[results,Tryz.results80,go_sem]) rfl ⟨_,_,rfl,dH.zero _ _,by first|exact hE|exact(hE.set (by simp) _).set (by simp) _⟩
 ·have HC:=ae Df;clear Df;unfold maxLen at hm;have aW:=(au.aO w #[.bool false,.slice none 0 0] 30 2 rfl).alloc (.cells #[.bool false,.slice none 0 0] 30);have bA:=au.aO (w.alloc (.cells #[.bool false,.slice none 0 0] 30)) #[.bool false,.slice none 0 0] 30 2 rfl;simp only[World.size_alloc]at bA
  go_enter Tryz.func80,Tryz.ntmps80
  go_wp2
  go_loopw [9] (λi wr=>∃(k:Nat)(b:Bool)(a:Option Addr)(q p:Nat),k<=n/\i=.int .i64 k/\au wr w.heap.size 30 2 (arr #[.bool false,.slice none 0 0])/\au wr (w.heap.size+1) 30 2 (arr #[.bool b,.slice a q p])/\dH (Mx M w.heap.size (w.heap.size+2)) wr (.bool b) (.slice a q p) (BC z k)/\Ext w wr) (λi _=>n-(intOf i).toNat)
  case atStart=>exact⟨0,_,_,_,_,bu _,rfl,aW,bA,dH.zero _ _,hE⟩
  case round=>
   clear aW bA;obtain⟨k,b2,a2,q2,p2,hk,rfl,aW,bA,hI,bT⟩:=hrel;have t0:=bA.cell (i:=0) (by omega);have t1:=bA.cell (i:=1) (by omega);simp only[arr]at t0 t1;have t2:=bA.frozen 0;have t3:=bA.frozen 1;have l1:=bA.lt
   by_cases hlt:k<n
   ·obtain⟨g0,g1,g2⟩:=HC.out k hlt;obtain⟨b3,a3,q3,p3,h30,h31⟩:=g2.form;rw[h30]at g0 g2;rw[h31]at g1 g2
    have e0:wr.cell? ⟨b,off+k*2,none⟩=some (.bool b3):=by rw[bT.cell hb];exact g0
    have e1:wr.cell? ⟨b,off+k*2+1,none⟩=some (.slice a3 q3 p3):=by rw[bT.cell hb];exact g1
    clear g0 g1 h30 h31;go_wp2_with (fail);have CW:Ext wr (wr.alloc (.cells #[.bool b3,.slice a3 q3 p3] 30)):=(ai wr).alloc _;have ND:Mb (Mx M w.heap.size (w.heap.size+2)) (wr.alloc (.cells #[.bool b3,.slice a3 q3 p3] 30)):=Mx.mb hM (aK bT.size CW.size) (by simp;omega);have vS:=(g2.more (M':=Mx M w.heap.size (w.heap.size+2)) (Mx.more (aA _))).ext (bT.trans CW)
    have GQ:aF ((BC z k).natAbs+(z k).natAbs)<=1099511627776:=by
     refine aK (fu ?_) HL.out;have h1:=qE1 z k;have h2:=qEZ z (show k+1<=n by omega);simp only[zK]at h2;omega
    have HI:=ae (hI.ext CW).dB;refine(qeP _ _ _ _ (BC z k) (z k) _ ND HI.out vS GQ).mono ?_;rintro e w2 ⟨d0,d1,rfl,hc,ah⟩;obtain⟨b4,a4,n4,QI,rfl,rfl⟩:=hc.form;have Gz:=(bT.trans CW).trans ah;have qky:=(aW.ext CW).ext ah;have qcd:=(bA.ext CW).ext ah;obtain⟨⟨q0,q1,f0,f1⟩,⟨r0,r1⟩,aT,hf⟩:=mD (M':=Mx M w.heap.size (w.heap.size+2)) (w:=w) (.bool b4) (.slice a4 n4 QI) qcd (Mx.at (by omega)) (by omega) Gz;have gV:=hc.kp aT
    have qwV:=((qcd.set 0 (.bool b4)).set 1 (.slice a4 n4 QI)).congr (f':=arr #[.bool b4,.slice a4 n4 QI]) (by
     intro i hi
     have:i=0\/i=1:=by omega
     rcases this with rfl|rfl<;>simp[fG,arr])
    have qwU:=(qky.kM (p:=⟨w.heap.size+1,0,none⟩) (by simp) (.bool b4)).kM (p:=⟨w.heap.size+1,1,none⟩) (by simp) (.slice a4 n4 QI);clear qky qcd aT hc HI vS GQ ND CW hI aW bA r0 r1;go_wp2
    go_roundw
    case rel=>exact⟨k+1,b4,a4,n4,QI,by omega,by go_num,qwU,qwV,gV,hf⟩
    case measure=>simp[intOf];omega
   ·have:k=n:=by omega
    subst this;obtain⟨⟨q0,q1,f0,f1⟩,⟨r0,r1⟩,aT,hf⟩:=mD (M':=Mx M w.heap.size (w.heap.size+2)) (w:=w) (.bool b2) (.slice a2 q2 p2) aW (Mx.at (by omega)) (by omega) bT;have gV:=(hI.kp aT).more (M':=M) Mx.less;clear aW bA aT hI;go_wp2;exact aV (v:=.agg #[.bool b2,.slice a2 q2 p2]) (by simp[results,Tryz.results80,go_sem,r0,r1]) rfl ⟨_,_,rfl,gV,hf⟩
def Own(w:World)(base:Nat)(E:TypeId)(k:Nat)(v:Value)(n:Nat)(f:Nat->Value):Prop:=
 (v=.slice none 0 0/\n=0)\/∃(g cap:Nat)(F:Nat->Value),v=.slice (some ⟨g,0,none⟩) n cap/\base<=g/\au w g E (cap*k) F/\n<=cap/\cap<=maxLen/\∀j,j<n*k->F j=f j
def rJ(f:Nat->Value)(N:Nat):List Value:=(List.range N).map f
theorem FC(f:Nat->Value)(N j:Nat)(h:j<N):(rJ f N)[j]?=some (f j):=by
 unfold rJ;rw[List.getElem?_map,List.getElem?_range h];rfl
theorem xY(f:Nat->Value)(N:Nat):(rJ f N).length=N:=by simp[rJ]
def app(f:Nat->Value)(N:Nat)(s:Nat->Value):Nat->Value:=λj=>if j<N then f j else s (j-N)
theorem qfD(f s:Nat->Value)(N k:Nat):rJ f N++rJ s k=rJ (app f N s) (N+k):=by
 apply List.ext_getElem?;intro i
 by_cases h1:i<N
 ·rw[List.getElem?_append_left (by simpa[xY]using h1),FC _ _ _ h1,FC _ _ _ (by omega)];unfold app;rw[av h1]
 ·rw[List.getElem?_append_right (by simpa[xY]using h1),xY]
  by_cases h2:i<N+k
  ·rw[FC _ _ _ (by omega),FC _ _ _ h2];unfold app;rw[aj h1]
  ·rw[List.getElem?_eq_none (by simp[xY];omega),List.getElem?_eq_none (by simp[xY];omega)]
theorem Own.qfY{w:World}{base:Nat}{E:TypeId}{k:Nat}{v:Value}{n:Nat}{f:Nat->Value}(h:Own w base E k v n f):w.ownsRow base E k v n (rJ f (n*k)):=by
 refine⟨xY _ _,?_⟩;rcases h with⟨rfl,rfl⟩|⟨g,cap,F,rfl,hb,⟨cur,hg,hs,hc⟩,hn,hm,hf⟩
 ·exact .inl ⟨rfl,rfl⟩
 ·refine .inr ⟨g,cap,cur,rfl,hb,hg,hn,hm,hs,?_⟩;apply List.ext_getElem?;intro i;have Dm:n*k<=cap*k:=fq _ hn
  by_cases h1:i<n*k
  ·rw[List.getElem?_take,av h1,FC _ _ _ h1];have:=hc i (by omega);rw[<-Array.getElem?_toList]at this;rw[this,hf i h1]
  ·rw[List.getElem?_eq_none (by simp;omega),List.getElem?_eq_none (by simp[xY];omega)]
theorem Own.ofRow{w:World}{base:Nat}{E:TypeId}{k g cap:Nat}{n:Nat}{f:Nat->Value}(h:w.ownsRow base E k (.slice (some ⟨g,0,none⟩) n cap) n (rJ f (n*k))):Own w base E k (.slice (some ⟨g,0,none⟩) n cap) n f:=by
 rcases h.2 with⟨h',_⟩|⟨g',cap',cur,h',hb,hg,hn,hm,hs,qeA⟩
 ·simp at h'
 ·simp only[Value.slice.injEq,Option.some.injEq,Addr.mk.injEq,and_true,true_and]at h';obtain⟨rfl,rfl⟩:=h';have Dm:n*k<=cap*k:=fq _ hn;refine .inr ⟨g,cap,λj=>cur.getD j undef,rfl,hb,⟨cur,hg,hs,λi hi=>?_⟩,hn,hm,λj hj=>?_⟩
  ·show cur[i]?=some (cur.getD i undef);rw[Array.getD_eq_getD_getElem?];simp[hs,hi]
  ·have h1:(cur.toList.take (n*k))[j]?=some (f j):=by rw[qeA,FC _ _ _ hj]
   rw[List.getElem?_take,av hj,Array.getElem?_toList]at h1;show cur.getD j undef=f j;rw[Array.getD_eq_getD_getElem?,h1];rfl
theorem Own.of_heap{w w':World}{base:Nat}{E:TypeId}{k:Nat}{v:Value}{n:Nat}{f:Nat->Value}(h:Own w base E k v n f)(he:∀g,v.ownBlock=some g->w'.heap[g]?=w.heap[g]?):Own w' base E k v n f:=by
 rcases h with h|⟨g,cap,F,rfl,hb,hB,r⟩
 ·exact .inl h
 ·exact .inr ⟨g,cap,F,rfl,hb,hB.of_heap (he g rfl),r⟩
theorem Own.lt{w:World}{base:Nat}{E:TypeId}{k:Nat}{v:Value}{n:Nat}{f:Nat->Value}(h:Own w base E k v n f):∀g,v.ownBlock=some g->base<=g/\g<w.heap.size:=by
 rcases h with⟨rfl,_⟩|⟨g,cap,F,rfl,hb,hB,_⟩
 ·intro g hg;simp[Value.ownBlock]at hg
 ·intro g' hg;simp[Value.ownBlock]at hg;subst hg;exact⟨hb,hB.lt⟩
theorem Own.ext{w w':World}{base:Nat}{E:TypeId}{k:Nat}{v:Value}{n:Nat}{f:Nat->Value}(h:Own w base E k v n f)(he:Ext w w'):Own w' base E k v n f:=h.of_heap λg hg=>he.heap (h.lt g hg).2
theorem Own.congr{w:World}{base:Nat}{E:TypeId}{k:Nat}{v:Value}{n:Nat}{f f':Nat->Value}(h:Own w base E k v n f)(hf:∀j,j<n*k->f j=f' j):Own w base E k v n f':=by
 rcases h with h|⟨g,cap,F,rfl,hb,hB,h1,h2,h3⟩
 ·exact .inl h
 ·exact .inr ⟨g,cap,F,rfl,hb,hB,h1,h2,λj hj=>(h3 j hj).trans (hf j hj)⟩
theorem Own.nil(w:World)(base:Nat)(E:TypeId)(k:Nat)(f:Nat->Value):Own w base E k (.slice none 0 0) 0 f:=.inl ⟨rfl,rfl⟩
theorem Own.form{w:World}{base:Nat}{E:TypeId}{k:Nat}{v:Value}{n:Nat}{f:Nat->Value}(h:Own w base E k v n f):∃a cap,v=.slice a n cap:=by
 rcases h with⟨rfl,rfl⟩|⟨g,cap,F,rfl,_⟩
 ·exact⟨_,_,rfl⟩
 ·exact⟨_,_,rfl⟩
theorem Own.some{w:World}{base:Nat}{E:TypeId}{k:Nat}{v:Value}{n:Nat}{f:Nat->Value}(h:Own w base E k v n f)(h0:0<n):∃(g cap:Nat)(F:Nat->Value),v=.slice (some ⟨g,0,none⟩) n cap/\base<=g/\au w g E (cap*k) F/\n<=cap/\cap<=maxLen/\∀j,j<n*k->F j=f j:=by
 rcases h with⟨_,rfl⟩|h
 ·omega
 ·exact h
theorem yj{P:Program}(w:World){ops:Array Oper}{rest:List Oper}{o:Oper}{a:Act}{Q:Exit->Act->World->Prop}(jc:o.guard=none)(s x:Operand)(t:TypeId)
 (ho:o.op=.call {callee:=.builtin .append,args:= #[s,x],argTypes:= #[t,t]})
 (base:Nat) (e:TypeId) (i:TypeInfo) (z:Value) (k bytes:Nat) (ht:P.underlying t=some (.slice e)) (hi:P.info? e=some i) (hz:i.zero=some z)
 (qeu:i.size=k) (vZ:i.bytes=bytes) (Ih:z.cells.size=k) (hsz:0<k)
 (v:Value) (n:Nat) (f:Nat->Value) (hs:a.eval s=v) (hown:Own w base e k v n f)
 (q:Nat) (tq:TypeId) (c:Nat) (src:Nat->Value) (hx:a.eval x=.slice (some ⟨q,0,none⟩) 1 c) (hB:au w q tq k src) (h1:∀j,j<k->(src j).oneCell'=true)
 (J6:n+1<=maxLen) (qdB:(n+1)*bytes<=140737488355328) (hbase:base<=w.heap.size)
 (h:∀g cap w',Own w' base e k (.slice (some ⟨g,0,none⟩) (n+1) cap) (n+1) (app f (n*k) src)->w.grownBy w' v.ownBlock->(v.ownBlock=some g\/w.heap.size<=g)->g<w'.heap.size->wpList P ops Q rest (a.put o.dst (.slice (some ⟨g,0,none⟩) (n+1) cap)) w'):
 wpList P ops Q (o::rest) a w:=by
 refine wpList_append_lies w jc s x t ho base e i z k bytes ht hi hz qeu vZ Ih hsz v n (rJ f (n*k)) hs hown.qfY ⟨q,0,none⟩ 1 c (rJ src k) hx (by rw[xY];omega) ?_ ?_ (by omega) J6 qdB hbase w.heap.size rfl ?_
 ·intro j u hu
  have hj:j<k:=by
   have:=(List.getElem?_eq_some_iff.1 hu).1;simpa[xY]using this
  rw[FC _ _ _ hj]at hu;cases hu;rw[Cn,Nat.zero_add];exact hB.cell hj
 ·intro u hu;simp only[rJ,List.mem_map,List.mem_range]at hu;obtain⟨j,hj,rfl⟩:=hu;exact h1 j hj
 ·intro g cap w' ho hg hat hlt;rw[qfD,show n*k+k=(n+1)*k from by rw[Nat.add_mul,Nat.one_mul]]at ho;exact h g cap w' (Own.ofRow ho) hg (hat.imp id (λe=>by omega)) hlt
theorem TH{P:Program}(w:World){ops:Array Oper}{o:Oper}{a:Act}{K:Act->World->Prop}{Q:Exit->Act->World->Prop}{E:Prop}(jc:o.guard=none)(s x:Operand)(t:TypeId)
 (ho:o.op=.call {callee:=.builtin .append,args:= #[s,x],argTypes:= #[t,t]})
 (base:Nat) (e:TypeId) (i:TypeInfo) (z:Value) (k bytes:Nat) (ht:P.underlying t=some (.slice e)) (hi:P.info? e=some i) (hz:i.zero=some z)
 (qeu:i.size=k) (vZ:i.bytes=bytes) (Ih:z.cells.size=k) (hsz:0<k)
 (v:Value) (n:Nat) (f:Nat->Value) (hs:a.eval s=v) (hown:Own w base e k v n f)
 (q:Nat) (tq:TypeId) (c:Nat) (src:Nat->Value) (hx:a.eval x=.slice (some ⟨q,0,none⟩) 1 c) (hB:au w q tq k src) (h1:∀j,j<k->(src j).oneCell'=true)
 (J6:n+1<=maxLen) (qdB:(n+1)*bytes<=140737488355328) (hbase:base<=w.heap.size)
 (h:∀g cap w',Own w' base e k (.slice (some ⟨g,0,none⟩) (n+1) cap) (n+1) (app f (n*k) src)->w.grownBy w' v.ownBlock->(v.ownBlock=some g\/w.heap.size<=g)->g<w'.heap.size->K (a.put o.dst (.slice (some ⟨g,0,none⟩) (n+1) cap)) w'):
 if Region.wanted o (yielded ops a.tmps)=true then Oper.wp P o a w K Q else E:=by
 refine step_append_lies w jc s x t ho base e i z k bytes ht hi hz qeu vZ Ih hsz v n (rJ f (n*k)) hs hown.qfY ⟨q,0,none⟩ 1 c (rJ src k) hx (by rw[xY];omega) ?_ ?_ (by omega) J6 qdB hbase w.heap.size rfl ?_
 ·intro j u hu
  have hj:j<k:=by
   have:=(List.getElem?_eq_some_iff.1 hu).1;simpa[xY]using this
  rw[FC _ _ _ hj]at hu;cases hu;rw[Cn,Nat.zero_add];exact hB.cell hj
 ·intro u hu;simp only[rJ,List.mem_map,List.mem_range]at hu;obtain⟨j,hj,rfl⟩:=hu;exact h1 j hj
 ·intro g cap w' ho hg hat hlt;rw[qfD,show n*k+k=(n+1)*k from by rw[Nat.add_mul,Nat.one_mul]]at ho;exact h g cap w' (Own.ofRow ho) hg (hat.imp id (λe=>by omega)) hlt
theorem au.made{w:World}{base g n:Nat}{e:TypeId}{k:Nat}{zs:Array Value}(h:w.ownsRow base e k (.slice (some ⟨g,0,none⟩) n n) n (madeCells zs (n*k)).toList)(hz:zs.size=k)(hk:0<k):au w g e (n*k) (λj=>arr zs (j%k)):=by
 refine au.qpS h _ λi hi=>?_;have hm:i%k<k:=Nat.mod_lt _ hk;subst hz;simp[madeCells,hi,arr,Array.getD_eq_getD_getElem?,hm]
end Go.Proofs.YtaafefeafonhdaaGreat
namespace Go.Proofs.YtaafefeafonhdaaGreat
structure Mo where
 a:Int
 b:Int
 c:Int
 d:Int
deriving DecidableEq
abbrev Tm:=Int × Mo
def Mo.lt(x y:Mo):Prop:=x.d<y.d\/(x.d=y.d/\(x.c<y.c\/(x.c=y.c/\(x.b<y.b\/(x.b=y.b/\x.a<y.a)))))
instance(x y:Mo):Decidable (Mo.lt x y):=by unfold Mo.lt;infer_instance
theorem Mo.ext'{x y:Mo}(h1:x.a=y.a)(h2:x.b=y.b)(h3:x.c=y.c)(h4:x.d=y.d):x=y:=by
 cases x;cases y;simp_all
theorem Mo.lt_irrefl(x:Mo):¬Mo.lt x x:=by unfold Mo.lt;omega
theorem Mo.lt_trans{x y z:Mo}(h1:Mo.lt x y)(h2:Mo.lt y z):Mo.lt x z:=by unfold Mo.lt at*;omega
theorem Mo.Oz(x y:Mo):Mo.lt x y\/x=y\/Mo.lt y x:=by
 by_cases h:x=y
 ·exact .inr (.inl h)
 ·have h2:¬(x.a=y.a/\x.b=y.b/\x.c=y.c/\x.d=y.d):=λ⟨a,b,c,d⟩=>h (Mo.ext' a b c d);unfold Mo.lt;omega
theorem Mo.Ii{x y:Mo}(h:Mo.lt x y):x≠y:=λe=>Mo.lt_irrefl y (e ▸ h)
theorem Mo.lt_asymm{x y:Mo}(h:Mo.lt x y):¬Mo.lt y x:=λk=>Mo.lt_irrefl x (Mo.lt_trans h k)
def nL(x y:Mo):Int:=if Mo.lt x y then-1 else if Mo.lt y x then 1 else 0
theorem qju(x y:Mo):nL x y=0↔x=y:=by
 unfold nL;rcases Mo.Oz x y with h|h|h
 ·rw[av h];exact⟨λe=>by omega,λe=>absurd e (Mo.Ii h)⟩
 ·subst h;rw[aj (Mo.lt_irrefl x),aj (Mo.lt_irrefl x)];simp
 ·rw[aj (Mo.lt_asymm h),av h];exact⟨λe=>by omega,λe=>absurd e.symm (Mo.Ii h)⟩
theorem QL(x y:Mo):nL x y<0↔Mo.lt x y:=by
 unfold nL
 by_cases h:Mo.lt x y
 ·rw[av h];simp[h]
 ·rw[aj h];split<;>simp[h]
def Mo.nn(m:Mo):Bool:=decide (0<=m.a)&&decide (0<=m.b)&&decide (0<=m.c)&&decide (0<=m.d)
theorem Mo.uZ(m:Mo):m.nn=true↔0<=m.a/\0<=m.b/\0<=m.c/\0<=m.d:=by
 unfold Mo.nn;simp[and_assoc]
def aH:List Tm->Mo->Int
 |[],_=>0
 |t::l,m=>(if t.2=m then t.1 else 0)+aH l m
def mK(l:List Tm)(m:Mo):Int:=if m.nn then aH l m else 0
def aB:List Tm->Nat
 |[]=>0
 |t::l=>t.1.natAbs+aB l
theorem iJ(l r:List Tm)(m:Mo):aH (l++r) m=aH l m+aH r m:=by
 induction l with
 |nil=>simp[aH]
 |cons t l ih=>simp only[List.cons_append,aH,ih];omega
theorem kK(l r:List Tm):aB (l++r)=aB l+aB r:=by
 induction l with
 |nil=>simp[aB]
 |cons t l ih=>simp only[List.cons_append,aB,ih];omega
theorem rY{l:List Tm}{m:Mo}(h:∀t∈l,t.2≠m):aH l m=0:=by
 induction l with
 |nil=>rfl
 |cons t l ih=>
  simp only[aH];rw[aj (h t (List.mem_cons_self ..)),ih λt ht=>h t (List.mem_cons_of_mem _ ht)];omega
theorem qbw{l r:List Tm}(h:l.Perm r)(m:Mo):aH l m=aH r m:=by
 induction h with
 |nil=>rfl
 |cons t _ ih=>simp only[aH,ih]
 |swap s t l=>simp only[aH];omega
 |trans _ _ ih1 ih2=>rw[ih1,ih2]
theorem quC(l:List Tm)(m:Mo):(aH l m).natAbs<=aB l:=by
 induction l with
 |nil=>simp[aH,aB]
 |cons t l ih=>simp only[aH,aB];split<;>omega
theorem qfd{l:List Tm}{t:Tm}(h:t∈l):t.1.natAbs<=aB l:=by
 induction l with
 |nil=>cases h
 |cons s l ih=>
  simp only[aB];rcases List.mem_cons.1 h with rfl|h
  ·omega
  ·have:=ih h;omega
def Canon(l:List Tm):Prop:=l.Pairwise (λs t=>Mo.lt t.2 s.2)/\∀t∈l,t.1≠0/\t.2.nn=true
theorem Canon.nil:Canon []:=⟨List.Pairwise.nil,λ_ h=>by cases h⟩
theorem Canon.tail{t:Tm}{l:List Tm}(h:Canon (t::l)):Canon l:=⟨(List.pairwise_cons.1 h.1).2,λs hs=>h.2 s (List.mem_cons_of_mem _ hs)⟩
theorem Canon.head{t:Tm}{l:List Tm}(h:Canon (t::l)):∀s∈l,Mo.lt s.2 t.2:=(List.pairwise_cons.1 h.1).1
theorem Canon.EE{t:Tm}{l:List Tm}(h:Canon (t::l)):aH (t::l) t.2=t.1:=by
 simp only[aH,if_true];rw[rY λs hs=>Mo.Ii (h.head s hs)];omega
theorem Canon.qbx{l:List Tm}{m:Mo}(hm:∀t∈l,Mo.lt t.2 m):aH l m=0:=rY λt ht=>Mo.Ii (hm t ht)
theorem Canon.ext{l r:List Tm}(hl:Canon l)(hr:Canon r)(h:∀m,aH l m=aH r m):l=r:=by
 induction l generalizing r with
 |nil=>
  cases r with
  |nil=>rfl
  |cons s r=>
   exfalso;have:=h s.2;rw[hr.EE]at this;exact(hr.2 s (List.mem_cons_self ..)).1 this.symm
 |cons t l ih=>
  cases r with
  |nil=>
   exfalso;have:=h t.2;rw[hl.EE]at this;exact(hl.2 t (List.mem_cons_self ..)).1 this
  |cons s r=>
   have hm:t.2=s.2:=by
    rcases Mo.Oz t.2 s.2 with h1|h1|h1
    ·exfalso;have h2:=h s.2;rw[hr.EE,Canon.qbx (l:=t::l)]at h2
     ·exact(hr.2 s (List.mem_cons_self ..)).1 h2.symm
     ·intro q hq;rcases List.mem_cons.1 hq with rfl|hq
      ·exact h1
      ·exact Mo.lt_trans (hl.head q hq) h1
    ·exact h1
    ·exfalso;have h2:=h t.2;rw[hl.EE,Canon.qbx (l:=s::r)]at h2
     ·exact(hl.2 t (List.mem_cons_self ..)).1 h2
     ·intro q hq;rcases List.mem_cons.1 hq with rfl|hq
      ·exact h1
      ·exact Mo.lt_trans (hr.head q hq) h1
   have hc:t.1=s.1:=by
    have h2:=h t.2;rw[hl.EE,hm,hr.EE]at h2;exact h2
   have ht:t=s:=Prod.ext hc hm;subst ht;rw[ih hl.tail hr.tail λm=>by have:=h m;simp only[aH]at this;omega]
def ins(c:Int)(m:Mo):List Tm->List Tm
 |[]=>if c=0 then[]else[(c,m)]
 |t::r=>if t.2=m then(if t.1+c=0 then r else(t.1+c,m)::r)else if Mo.lt t.2 m then(if c=0 then t::r else(c,m)::t::r)else t::ins c m r
theorem qoG{c:Int}{m:Mo}{l:List Tm}{t:Tm}(h:t∈ins c m l):t.2=m\/t∈l:=by
 induction l with
 |nil=>
  simp only[ins]at h;split at h
  ·cases h
  ·simp at h;subst h;exact .inl rfl
 |cons s r ih=>
  simp only[ins]at h
  split at h
  ·split at h
   ·exact .inr (List.mem_cons_of_mem _ h)
   ·rcases List.mem_cons.1 h with rfl|h
    ·exact .inl rfl
    ·exact .inr (List.mem_cons_of_mem _ h)
  ·split at h
   ·split at h
    ·exact .inr h
    ·rcases List.mem_cons.1 h with rfl|h
     ·exact .inl rfl
     ·exact .inr h
   ·rcases List.mem_cons.1 h with rfl|h
    ·exact .inr (List.mem_cons_self ..)
    ·exact(ih h).imp id (List.mem_cons_of_mem _)
theorem qzA{c:Int}{m:Mo}{l:List Tm}(hm:m.nn=true)(h:Canon l):Canon (ins c m l):=by
 induction l with
 |nil=>
  simp only[ins];split
  ·exact Canon.nil
  ·rename_i h0;exact⟨List.pairwise_singleton _ _,λt ht=>by simp at ht;subst ht;exact⟨h0,hm⟩⟩
 |cons s r ih=>
  simp only[ins]
  split
  ·rename_i h1
   split
   ·exact h.tail
   ·rename_i h2;refine⟨List.pairwise_cons.2 ⟨λt ht=>by have:=h.head t ht;rw[h1]at this;exact this,h.tail.1⟩,λt ht=>?_⟩;rcases List.mem_cons.1 ht with rfl|ht
    ·exact⟨h2,hm⟩
    ·exact h.tail.2 t ht
  ·rename_i h1
   split
   ·rename_i h2
    split
    ·exact h
    ·rename_i h3;refine⟨List.pairwise_cons.2 ⟨λt ht=>?_,h.1⟩,λt ht=>?_⟩
     ·rcases List.mem_cons.1 ht with rfl|ht
      ·exact h2
      ·exact Mo.lt_trans (h.head t ht) h2
     ·rcases List.mem_cons.1 ht with rfl|ht
      ·exact⟨h3,hm⟩
      ·exact h.2 t ht
   ·rename_i h2
    have h3:Mo.lt m s.2:=by
     rcases Mo.Oz s.2 m with k|k|k
     ·exact absurd k h2
     ·exact absurd k h1
     ·exact k
    have hi:=ih h.tail;refine⟨List.pairwise_cons.2 ⟨λt ht=>?_,hi.1⟩,λt ht=>?_⟩
    ·rcases qoG ht with k|k
     ·rw[k];exact h3
     ·exact h.head t k
    ·rcases List.mem_cons.1 ht with rfl|ht
     ·exact h.2 t (List.mem_cons_self ..)
     ·exact hi.2 t ht
theorem qzB(c:Int)(m:Mo)(l:List Tm)(q:Mo):aH (ins c m l) q=(if m=q then c else 0)+aH l q:=by
 induction l with
 |nil=>
  simp only[ins];split
  ·rename_i h;subst h;simp[aH]
  ·simp[aH]
 |cons s r ih=>
  simp only[ins]
  split
  ·rename_i h1;subst h1
   split
   ·simp only[aH];split<;>omega
   ·simp only[aH];split<;>omega
  ·split
   ·split
    ·rename_i h;subst h;simp
    ·simp only[aH]
   ·simp only[aH,ih];omega
def norm:List Tm->List Tm
 |[]=>[]
 |t::l=>if t.2.nn then ins t.1 t.2 (norm l)else norm l
theorem o7(l:List Tm):Canon (norm l):=by
 induction l with
 |nil=>exact Canon.nil
 |cons t l ih=>
  simp only[norm];split
  ·rename_i h;exact qzA h ih
  ·exact ih
theorem Lp(l:List Tm)(m:Mo):aH (norm l) m=mK l m:=by
 induction l with
 |nil=>simp[norm,aH,mK]
 |cons t l ih=>
  simp only[norm]
  split
  ·rename_i h;rw[qzB,ih];unfold mK
   by_cases h2:t.2=m
   ·subst h2;simp[h,aH]
   ·simp only[aH];rw[aj h2];split<;>omega
  ·rename_i h;rw[ih];unfold mK
   by_cases h2:t.2=m
   ·subst h2;simp[h]
   ·simp only[aH];rw[aj h2];split<;>omega
theorem norm_eq{l r:List Tm}(hr:Canon r)(h:∀m,aH r m=mK l m):r=norm l:=hr.ext (o7 l) λm=>by rw[h,Lp]
theorem Canon.mK{l:List Tm}(h:Canon l)(m:Mo):mK l m=aH l m:=by
 unfold Go.Proofs.YtaafefeafonhdaaGreat.mK
 split
 ·rfl
 ·rename_i hm;rw[rY];intro t ht e;have:=(h.2 t ht).2;rw[e]at this;exact hm this
theorem qpC{l:List Tm}(h:Canon l):norm l=l:=(norm_eq h λm=>(h.mK m).symm).symm
theorem qpB(l:List Tm):norm (norm l)=norm l:=qpC (o7 l)
theorem qAT{l r:List Tm}(h:∀m,m.nn=true->aH l m=aH r m):norm l=norm r:=
 norm_eq (o7 l) λm=>by rw[Lp];unfold mK;split<;>simp_all
theorem qpy(l:List Tm)(m:Mo)(hm:m.nn=true):aH (norm l) m=aH l m:=by rw[Lp];unfold mK;rw[av hm]
theorem qAU{l r:List Tm}(h:norm l=norm r)(m:Mo)(hm:m.nn=true):aH l m=aH r m:=by
 rw[<-qpy l m hm, <-qpy r m hm,h]
theorem qzD(c:Int)(m:Mo)(l:List Tm):aB (ins c m l)<=c.natAbs+aB l:=by
 induction l with
 |nil=>simp only[ins];split<;>simp[aB]
 |cons s r ih=>
  simp only[ins]
  split
  ·split<;>simp only[aB]<;>omega
  ·split
   ·split<;>simp only[aB]<;>omega
   ·simp only[aB];omega
theorem Lr(l:List Tm):aB (norm l)<=aB l:=by
 induction l with
 |nil=>exact aA _
 |cons t l ih=>
  simp only[norm,aB];split
  ·exact aK (qzD _ _ _) (by omega)
  ·omega
theorem qpA{l:List Tm}{t:Tm}(h:t∈norm l):∃s∈l,s.2=t.2:=by
 induction l with
 |nil=>cases h
 |cons s l ih=>
  simp only[norm]at h
  split at h
  ·rcases qoG h with h|h
   ·exact⟨s,List.mem_cons_self ..,h.symm⟩
   ·obtain⟨q,hq,e⟩:=ih h;exact⟨q,List.mem_cons_of_mem _ hq,e⟩
  ·obtain⟨q,hq,e⟩:=ih h;exact⟨q,List.mem_cons_of_mem _ hq,e⟩
theorem qua{st r:List Tm}(hd:st.Pairwise (λs t=>s.2≠t.2))(hn:∀t∈st,t.2.nn=true)(hp:r.Perm (st.filter λt=>decide (t.1≠0)))(hs:r.Pairwise (λs t=>¬Mo.lt s.2 t.2)):
 Canon r/\∀m,aH r m=aH st m:=by
 have og:r.Pairwise (λs t=>s.2≠t.2):=(hp.symm.pairwise_iff (λh=>Ne.symm h)).1 (hd.filter _);refine⟨⟨?_,λt ht=>?_⟩,λm=>?_⟩
 ·refine(hs.and og).imp ?_;rintro s t ⟨h1,h2⟩;rcases Mo.Oz s.2 t.2 with k|k|k
  ·exact absurd k h1
  ·exact absurd k h2
  ·exact k
 ·have:=(hp.mem_iff).1 ht;simp only[List.mem_filter,decide_eq_true_eq]at this;exact⟨this.2,hn t this.1⟩
 ·rw[qbw hp];clear hp hs og hd hn
  induction st with
  |nil=>rfl
  |cons t l ih=>
   simp only[List.filter_cons]
   split
   ·simp only[aH,ih]
   ·rename_i h0
    have:t.1=0:=by simpa using h0
    simp only[aH,ih,this];split<;>omega
end Go.Proofs.YtaafefeafonhdaaGreat
namespace Go.Proofs.YtaafefeafonhdaaGreat
open Go.RowKit
abbrev moA(m:Mo):Array Value:= #[.int .i64 m.a,.int .i64 m.b,.int .i64 m.c,.int .i64 m.d]
abbrev jZ(m:Mo):Value:=.agg #[.int .i64 m.a,.int .i64 m.b,.int .i64 m.c,.int .i64 m.d]
theorem Iu{P:Program}{f:FuncId}{args:Array Value}{w:World}{n:Nat}{v:Value}
 (h:Calls P f args (w.drewN n) λe w'=>e=.returned v/\w.drewN n=w'):Calls P f args (w.drewN n) λe w''=>e=.returned v/\∃m,w''=w.drewN m:=
 h.mono λ_ _⟨he,hm⟩=>⟨he,n,hm.symm⟩
theorem Ox(x:Int)(w:World):Calls Tryz.prog 154 #[.int .i64 x] w λe w'=>e=.returned (.bool false)/\w=w':=by
 have h:(x !=x)=false:=by simp
 go_enter Tryz.func154,Tryz.ntmps154
 go_wp2;go_ret;exact⟨rfl,rfl⟩
theorem Gq(x y:Int)(w:World):Calls Tryz.prog 130 #[.int .i64 x,.int .i64 y] w λe w'=>e=.returned (.int .i64 (iI x y))/\w=w':=by
 rcases Int.lt_trichotomy x y with h|h|h
 ·have H:Hid (iI x y= -1):=Nc h
  go_enter Tryz.func130,Tryz.ntmps130
  go_wp2_with (fail);refine(Ox x _).mono ?_;rintro e w' ⟨rfl,rfl⟩;go_wp2_with (fail);refine(Ox y _).mono ?_;rintro e w' ⟨rfl,rfl⟩;go_wp2;go_ret;exact⟨by rw[H.out];rfl,rfl⟩
 ·subst h
  have H:Hid (iI x x=0):=by show _=_;unfold iI;rw[aj (by omega),aj (by omega)]
  have l1:¬x<x:=by omega
  go_enter Tryz.func130,Tryz.ntmps130
  go_wp2_with (fail);refine(Ox x _).mono ?_;rintro e w' ⟨rfl,rfl⟩;go_wp2_with (fail);refine(Ox x _).mono ?_;rintro e w' ⟨rfl,rfl⟩;go_wp2;go_ret;exact⟨by rw[H.out];rfl,rfl⟩
 ·have H:Hid (iI x y=1):=Nb h
  have l1:¬x<y:=by omega
  go_enter Tryz.func130,Tryz.ntmps130
  go_wp2_with (fail);refine(Ox x _).mono ?_;rintro e w' ⟨rfl,rfl⟩;go_wp2_with (fail);refine(Ox y _).mono ?_;rintro e w' ⟨rfl,rfl⟩;go_wp2;go_ret;exact⟨by rw[H.out];rfl,rfl⟩
theorem qfS(m:Mo)(w:World):Calls Tryz.prog 114 #[jZ m] w λe w'=>e=.returned (.bool (!m.nn))/\Ext w w':=by
 obtain⟨a,b,c,d⟩:=m;have hE:Hid (Ext w (w.alloc (.cells #[.int .i64 a,.int .i64 b,.int .i64 c,.int .i64 d] 76))):=(ai w).alloc _
 have i0:∀w,(Instr.index 76 (.agg #[.int .i64 a,.int .i64 b,.int .i64 c,.int .i64 d]) (.int .i64 0)).run Tryz.prog w=.ok (.int .i64 a) w:=λ_=>by kernel_rfl
 have i1:∀w,(Instr.index 76 (.agg #[.int .i64 a,.int .i64 b,.int .i64 c,.int .i64 d]) (.int .i64 1)).run Tryz.prog w=.ok (.int .i64 b) w:=λ_=>by kernel_rfl
 have i2:∀w,(Instr.index 76 (.agg #[.int .i64 a,.int .i64 b,.int .i64 c,.int .i64 d]) (.int .i64 2)).run Tryz.prog w=.ok (.int .i64 c) w:=λ_=>by kernel_rfl
 have i3:∀w,(Instr.index 76 (.agg #[.int .i64 a,.int .i64 b,.int .i64 c,.int .i64 d]) (.int .i64 3)).run Tryz.prog w=.ok (.int .i64 d) w:=λ_=>by kernel_rfl
 by_cases h0:a<0
 ·have H:Hid ((!Mo.nn ⟨a,b,c,d⟩)=true):=by show _=_;unfold Mo.nn;simp[show¬(0<=a)from by omega]
  go_enter Tryz.func114,Tryz.ntmps114
  go_wp2;refine wp_loop_rounds 1 ?_;rw[rounds_succ];go_wp2;go_ret;exact⟨by rw[H.out];rfl,hE.out⟩
 by_cases h1:b<0
 ·have H:Hid ((!Mo.nn ⟨a,b,c,d⟩)=true):=by show _=_;unfold Mo.nn;simp[show¬(0<=b)from by omega]
  go_enter Tryz.func114,Tryz.ntmps114
  go_wp2;refine wp_loop_rounds 2 ?_;rw[rounds_succ];go_wp2;rw[rounds_succ];go_wp2;go_ret;exact⟨by rw[H.out];rfl,hE.out⟩
 by_cases h2:c<0
 ·have H:Hid ((!Mo.nn ⟨a,b,c,d⟩)=true):=by show _=_;unfold Mo.nn;simp[show¬(0<=c)from by omega]
  go_enter Tryz.func114,Tryz.ntmps114
  go_wp2;refine wp_loop_rounds 3 ?_;rw[rounds_succ];go_wp2;rw[rounds_succ];go_wp2;rw[rounds_succ];go_wp2;go_ret;exact⟨by rw[H.out];rfl,hE.out⟩
 by_cases h3:d<0
 ·have H:Hid ((!Mo.nn ⟨a,b,c,d⟩)=true):=by show _=_;unfold Mo.nn;simp[show¬(0<=d)from by omega]
  go_enter Tryz.func114,Tryz.ntmps114
  go_wp2;refine wp_loop_rounds 4 ?_;rw[rounds_succ];go_wp2;rw[rounds_succ];go_wp2;rw[rounds_succ];go_wp2;rw[rounds_succ];go_wp2;go_ret;exact⟨by rw[H.out];rfl,hE.out⟩
 have H:Hid ((!Mo.nn ⟨a,b,c,d⟩)=false):=by show _=_;unfold Mo.nn;simp[show 0<=a from by omega,show 0<=b from by omega,show 0<=c from by omega,show 0<=d from by omega]
 go_enter Tryz.func114,Tryz.ntmps114
 go_wp2;refine wp_loop_rounds 5 ?_;rw[rounds_succ];go_wp2;rw[rounds_succ];go_wp2;rw[rounds_succ];go_wp2;rw[rounds_succ];go_wp2;rw[rounds_succ];go_wp2;go_ret;exact⟨by rw[H.out];rfl,hE.out⟩
theorem Vu{x y:Mo}(h:Mo.lt x y):nL x y= -1:=by unfold nL;rw[av h]
theorem Vt{x y:Mo}(h:Mo.lt y x):nL x y=1:=by unfold nL;rw[aj (Mo.lt_asymm h),av h]
theorem quv(x y:Mo)(h:x.d≠y.d):nL x y=iI x.d y.d:=by
 by_cases hlt:x.d<y.d
 ·rw[Vu (by unfold Mo.lt;omega),Nc hlt]
 ·rw[Vt (by unfold Mo.lt;omega),Nb (by omega)]
theorem quu(x y:Mo)(h0:x.d=y.d)(h:x.c≠y.c):nL x y=iI x.c y.c:=by
 by_cases hlt:x.c<y.c
 ·rw[Vu (by unfold Mo.lt;omega),Nc hlt]
 ·rw[Vt (by unfold Mo.lt;omega),Nb (by omega)]
theorem qut(x y:Mo)(h0:x.d=y.d)(h1:x.c=y.c)(h:x.b≠y.b):nL x y=iI x.b y.b:=by
 by_cases hlt:x.b<y.b
 ·rw[Vu (by unfold Mo.lt;omega),Nc hlt]
 ·rw[Vt (by unfold Mo.lt;omega),Nb (by omega)]
theorem qus(x y:Mo)(h0:x.d=y.d)(h1:x.c=y.c)(h2:x.b=y.b)(h:x.a≠y.a):nL x y=iI x.a y.a:=by
 by_cases hlt:x.a<y.a
 ·rw[Vu (by unfold Mo.lt;omega),Nc hlt]
 ·rw[Vt (by unfold Mo.lt;omega),Nb (by omega)]
theorem Vw{x y:Int}(h:x≠y):(iI x y !=0)=true:=by
 unfold iI
 by_cases h1:x<y
 ·rw[av h1];rfl
 ·rw[aj h1,av (by omega)];rfl
theorem QO(x:Int):iI x x=0:=by unfold iI;rw[aj (by omega),aj (by omega)]
def Qv(x y:Mo)(k:Nat):Prop:=(k<4->x.d=y.d)/\(k<3->x.c=y.c)/\(k<2->x.b=y.b)/\(k<1->x.a=y.a)
def Gr(w w':World):Prop:=∃q os,w'=Go.Sort.grow (w.drewN q) os
theorem Gr.refl(w:World):Gr w w:=⟨0,#[],by rw[Go.Sort.grow_empty];rfl⟩
theorem Gr.alloc{a w:World}(h:Gr a w)(o:Obj):Gr a (w.alloc o):=by
 obtain⟨q,os,rfl⟩:=h;exact⟨q,os++ #[o],by rw[Go.Sort.alloc_eq_grow,Go.Sort.grow_grow]⟩
theorem Gr.drewN{a w:World}(h:Gr a w)(n:Nat):Gr a (w.drewN n):=by
 obtain⟨q,os,rfl⟩:=h;exact⟨q+n,os,by rw[<-World.drewN_drewN];rfl⟩
theorem Gr.trans{a b c:World}(h:Gr a b)(k:Gr b c):Gr a c:=by
 obtain⟨q2,os2,rfl⟩:=k;obtain⟨q,os,h2⟩:=h.drewN q2;exact⟨q,os++os2,by rw[h2,Go.Sort.grow_grow]⟩
theorem Gr.ext{a b:World}(h:Gr a b):Ext a b:=by
 obtain⟨q,os,rfl⟩:=h;exact⟨rfl,rfl,rfl,by rw[Go.Sort.size_grow];exact Nat.le_add_right _ _,λk hk=>Go.Sort.heap_grow_old (a.drewN q) os hk⟩
theorem qre(x y:Mo)(w:World):Calls Tryz.prog 98 #[jZ x,jZ y] w λe w'=>e=.returned (.int .i64 (nL x y))/\Gr w w':=by
 have hE:Gr w ((w.alloc (.cells #[.int .i64 x.a,.int .i64 x.b,.int .i64 x.c,.int .i64 x.d] 76)).alloc (.cells #[.int .i64 y.a,.int .i64 y.b,.int .i64 y.c,.int .i64 y.d] 76)):=((Gr.refl w).alloc _).alloc _
 go_enter Tryz.func98,Tryz.ntmps98
 go_wp2
 go_loopw [5] (λi wr=>∃k:Nat,k<=4/\i=.int .i64 ((k:Int)-1)/\Qv x y k/\Hid (Gr ((w.alloc (.cells #[.int .i64 x.a,.int .i64 x.b,.int .i64 x.c,.int .i64 x.d] 76)).alloc (.cells #[.int .i64 y.a,.int .i64 y.b,.int .i64 y.c,.int .i64 y.d] 76)) wr)) (λi _=>((intOf i)+1).toNat)
 case atStart=>exact⟨4,aA _,rfl,⟨by omega,by omega,by omega,by omega⟩,Gr.refl _⟩
 case round=>
  obtain⟨k,hk,rfl,hq,he⟩:=hrel;obtain⟨ig,KA⟩:=ED he.out.ext;have HE:=ae (hE.trans he.out);clear hE
  match k,hk,hq with
  |0,_,hq=>
   have H:Hid (nL x y=0):=(qju x y).2 (Mo.ext' (hq.2.2.2 (by omega)) (hq.2.2.1 (by omega)) (hq.2.1 (by omega)) (hq.1 (by omega)));clear hq;go_wp2;go_ret;exact⟨by rw[H.out];rfl,HE.out⟩
  |1,_,hq=>
   have z0:((1:Nat):Int)-1=0:=by decide
   rw[z0]
   by_cases h:x.a=y.a
   ·have H:Hid (Qv x y 0):=⟨λ_=>hq.1 (by omega),λ_=>hq.2.1 (by omega),λ_=>hq.2.2.1 (by omega),λ_=>h⟩
    have hz:iI x.a y.a=0:=by rw[h,QO]
    have aR:∀W,Calls Tryz.prog 130 #[.int .i64 x.a,.int .i64 y.a] W λe w'=>e=.returned (.int .i64 0)/\W=w':=λW=>by have:=Gq x.a y.a W;rw[hz]at this;exact this
    have aJ:=ae aR;clear hq h hz aR z0;go_wp2
    go_quiet ((go_at_call 130;exact Iu (aJ.out _)))
    go_wp2
    go_roundw
    case rel=>exact⟨0,by omega,by go_num,H.out,by show Gr _ _;exact he.out.drewN _⟩
    case measure=>simp[intOf]
   ·have H:Hid (nL x y=iI x.a y.a):=qus x y (hq.1 (by omega)) (hq.2.1 (by omega)) (hq.2.2.1 (by omega)) h;have hz:=Vw h;clear hq h z0;go_wp2
    go_quiet ((go_at_call 130;exact Iu (Gq _ _ _)))
    go_wp2;go_ret;exact⟨by rw[H.out];rfl,HE.out.drewN _⟩
  |2,_,hq=>
   have z0:((2:Nat):Int)-1=1:=by decide
   rw[z0]
   by_cases h:x.b=y.b
   ·have H:Hid (Qv x y 1):=⟨λ_=>hq.1 (by omega),λ_=>hq.2.1 (by omega),λ_=>h,by omega⟩
    have hz:iI x.b y.b=0:=by rw[h,QO]
    have aR:∀W,Calls Tryz.prog 130 #[.int .i64 x.b,.int .i64 y.b] W λe w'=>e=.returned (.int .i64 0)/\W=w':=λW=>by have:=Gq x.b y.b W;rw[hz]at this;exact this
    have aJ:=ae aR;clear hq h hz aR z0;go_wp2
    go_quiet ((go_at_call 130;exact Iu (aJ.out _)))
    go_wp2
    go_roundw
    case rel=>exact⟨1,by omega,by go_num,H.out,by show Gr _ _;exact he.out.drewN _⟩
    case measure=>simp[intOf]
   ·have H:Hid (nL x y=iI x.b y.b):=qut x y (hq.1 (by omega)) (hq.2.1 (by omega)) h;have hz:=Vw h;clear hq h z0;go_wp2
    go_quiet ((go_at_call 130;exact Iu (Gq _ _ _)))
    go_wp2;go_ret;exact⟨by rw[H.out];rfl,HE.out.drewN _⟩
  |3,_,hq=>
   have z0:((3:Nat):Int)-1=2:=by decide
   rw[z0]
   by_cases h:x.c=y.c
   ·have H:Hid (Qv x y 2):=⟨λ_=>hq.1 (by omega),λ_=>h,by omega,by omega⟩
    have hz:iI x.c y.c=0:=by rw[h,QO]
    have aR:∀W,Calls Tryz.prog 130 #[.int .i64 x.c,.int .i64 y.c] W λe w'=>e=.returned (.int .i64 0)/\W=w':=λW=>by have:=Gq x.c y.c W;rw[hz]at this;exact this
    have aJ:=ae aR;clear hq h hz aR z0;go_wp2
    go_quiet ((go_at_call 130;exact Iu (aJ.out _)))
    go_wp2
    go_roundw
    case rel=>exact⟨2,by omega,by go_num,H.out,by show Gr _ _;exact he.out.drewN _⟩
    case measure=>simp[intOf]
   ·have H:Hid (nL x y=iI x.c y.c):=quu x y (hq.1 (by omega)) h;have hz:=Vw h;clear hq h z0;go_wp2
    go_quiet ((go_at_call 130;exact Iu (Gq _ _ _)))
    go_wp2;go_ret;exact⟨by rw[H.out];rfl,HE.out.drewN _⟩
  |4,_,hq=>
   have z0:((4:Nat):Int)-1=3:=by decide
   rw[z0]
   by_cases h:x.d=y.d
   ·have H:Hid (Qv x y 3):=⟨λ_=>h,by omega,by omega,by omega⟩
    have hz:iI x.d y.d=0:=by rw[h,QO]
    have aR:∀W,Calls Tryz.prog 130 #[.int .i64 x.d,.int .i64 y.d] W λe w'=>e=.returned (.int .i64 0)/\W=w':=λW=>by have:=Gq x.d y.d W;rw[hz]at this;exact this
    have aJ:=ae aR;clear hq h hz aR z0;go_wp2
    go_quiet ((go_at_call 130;exact Iu (aJ.out _)))
    go_wp2
    go_roundw
    case rel=>exact⟨3,by omega,by go_num,H.out,by show Gr _ _;exact he.out.drewN _⟩
    case measure=>simp[intOf]
   ·have H:Hid (nL x y=iI x.d y.d):=quv x y h;have hz:=Vw h;clear hq h z0;go_wp2
    go_quiet ((go_at_call 130;exact Iu (Gq _ _ _)))
    go_wp2;go_ret;exact⟨by rw[H.out];rfl,HE.out.drewN _⟩
theorem qDr(x y:Mo)(w:World):Calls Tryz.prog 98 #[jZ x,jZ y] w λe w'=>e=.returned (.int .i64 (nL x y))/\Ext w w':=
 (qre x y w).mono λ_ _⟨he,hg⟩=>⟨he,hg.ext⟩
theorem Tryz.qoE:(Tryz.prog.info? 3).map (λi=>(i.zero,i.size,i.bytes))=some (some (.int .i64 0),1,8):=by kernel_rfl
theorem qzI:Tryz.prog.cellsOf 3=1:=by kernel_rfl
theorem qzH(w:World):(isAgg 3).run Tryz.prog w=.ok false w:=by kernel_rfl
theorem qoI(cs:Array Value)(o:Nat)(x:Value)(w:World)(h:cs[o]?=some x):(part 3 cs o).run Tryz.prog w=.ok x w:=by
 simp only[part,Sem.run_bind,qzH,Result.andThen_ok];simp[h,go_sem]
theorem VF(xs ys:Array Value)(j:Nat)(is:List Nat)(a b:Int)(w:World)(hx:xs[j]?=some (.int .i64 a))(hy:ys[j]?=some (.int .i64 b)):
 (Op.eqItems 9999 3 1 xs ys (j::is)).run Tryz.prog w=if a=b then(Op.eqItems 9999 3 1 xs ys is).run Tryz.prog w else .ok false w:=by
 have e0:=run_equalIn_int (P:=Tryz.prog) w 9998 3 .i64 .i64 a b Tryz.underlying3;simp only[Op.eqItems,Sem.run_bind,Nat.mul_one];rw[qoI _ _ _ w hx,Result.andThen_ok,qoI _ _ _ w hy,Result.andThen_ok,e0,Result.andThen_ok]
 by_cases h:a=b
 ·simp[h]
 ·simp[h,go_sem]
theorem qbT(x y:Mo)(w:World):(Op.equal 76 (jZ x) (jZ y)).run Tryz.prog w=.ok (decide (x=y)) w:=by
 obtain⟨i0,hi,hz0,hz1,hz2⟩:=info_parts Tryz.qoE
 cases x with|mk xa xb xc xd=>cases y with|mk ya yb yc yd=>
 show(Op.equalIn (9999+1) 76 (.agg #[.int .i64 xa,.int .i64 xb,.int .i64 xc,.int .i64 xd]) (.agg #[.int .i64 ya,.int .i64 yb,.int .i64 yc,.int .i64 yd])).run Tryz.prog w=_;rw[run_equalIn_array w 9999 _ _ Tryz.underlying76 hi,qzI,show List.range 4=[0,1,2,3]from rfl];rw[VF _ _ 0 _ xa ya w rfl rfl,VF _ _ 1 _ xb yb w rfl rfl,VF _ _ 2 _ xc yc w rfl rfl,VF _ _ 3 _ xd yd w rfl rfl]
 by_cases h1:xa=ya<;>by_cases h2:xb=yb<;>by_cases h3:xc=yc<;>by_cases h4:xd=yd<;>simp[h1,h2,h3,h4,Op.eqItems,go_sem]
theorem qbr(em:Bool)(x:Mo)(w:World):(Instr.checkKey em 10000 76 (jZ x)).run Tryz.prog w=.ok () w:=by
 kernel_rfl
def q9(m:Nat->Mo)(i:Nat):MapEntry:={key:=jZ (m i),val:=.int .i64 i,born:=i}
def lh(m:Nat->Mo)(n:Nat):List MapEntry:=(List.range n).map (q9 m)
def oH(w:World)(r n:Nat)(m:Nat->Mo):Prop:=w.heap[r]?=some (.map (lh m n).toArray n)
theorem qkj(m:Nat->Mo)(k:Mo)(w:World)(l:Nat):∀(s:Nat)(hs:∀j,s<=j->j<s+l->m j≠k)(tl:List MapEntry),
 (Instr.findAsking 76 (jZ k) ((List.range' s l).map (q9 m)++tl) s).run Tryz.prog w=(Instr.findAsking 76 (jZ k) tl (s+l)).run Tryz.prog w:=by
 induction l with
 |zero=>intro s _ tl;simp
 |succ l ih=>
  intro s hs tl;rw[List.range'_succ,List.map_cons,List.cons_append];simp only[Instr.findAsking,Sem.run_bind];show((Op.equal 76 (jZ k) (jZ (m s))).run Tryz.prog w).andThen _=_;rw[qbT,Result.andThen_ok,decide_eq_false (λe=>hs s (aA _) (by omega) e.symm)];simp only[Bool.false_eq_true,if_false];rw[ih (s+1) (λj h1 h2=>hs j (by omega) (by omega)) tl,show s+1+l=s+(l+1)from by omega]
theorem qkk(m:Nat->Mo)(k:Mo)(w:World)(n:Nat)(h:∀j,j<n->m j≠k):(Instr.findAsking 76 (jZ k) (lh m n) 0).run Tryz.prog w=.ok none w:=by
 have:=qkj m k w n 0 (λj _ h2=>h j (by omega)) [];rw[List.append_nil, <-List.range_eq_range']at this;rw[show lh m n=(List.range n).map (q9 m)from rfl,this];simp[Instr.findAsking,go_sem]
theorem qwm(m:Nat->Mo)(k:Mo)(w:World)(n i:Nat)(hi:i<n)(hk:m i=k)(h:∀j,j<i->m j≠k):(Instr.findAsking 76 (jZ k) (lh m n) 0).run Tryz.prog w=.ok (some (i,.int .i64 i)) w:=by
 have qy2:lh m n=(List.range' 0 i).map (q9 m)++(q9 m i::(List.range' (i+1) (n-i-1)).map (q9 m)):=by
  unfold lh;rw[List.range_eq_range',show n=i+((n-i-1)+1)from by omega, <-List.range'_append_1,List.map_append,Nat.zero_add,List.range'_succ,List.map_cons];simp only[show i+(n-i-1+1)-i-1=n-i-1 from by omega]
 rw[qy2,qkj m k w i 0 (λj _ h2=>h j (by omega)) _,Nat.zero_add];simp only[Instr.findAsking,Sem.run_bind];show((Op.equal 76 (jZ k) (jZ (m i))).run Tryz.prog w).andThen _=_;rw[qbT,Result.andThen_ok,decide_eq_true hk.symm];simp[go_sem,q9]
theorem qb0(m:Nat->Mo)(k:Mo)(w:World)(n:Nat):(Instr.findKey 76 (jZ k) (lh m n)).run Tryz.prog w=(Instr.findAsking 76 (jZ k) (lh m n) 0).run Tryz.prog w:=by
 simp only[Instr.findKey,Sem.run_bind,run_underlying Tryz.underlying76,Result.andThen_ok]
 cases n with
 |zero=>simp[lh,Instr.findNow,Instr.findAsking,go_sem]
 |succ n=>
  have:lh m (n+1)=q9 m 0::(List.range' 1 n).map (q9 m):=by
   unfold lh;rw[List.range_eq_range',List.range'_succ,List.map_cons]
  rw[this];simp[Instr.findNow,Instr.sameNow,q9]
theorem qz9{w:World}{r n:Nat}{m:Nat->Mo}(h:oH w r n m)(k:Mo)(i:Nat)(hi:i<n)(hk:m i=k)(hj:∀j,j<i->m j≠k):
 (Instr.lookup 148 (.map (some r)) (jZ k) true).run Tryz.prog w=.ok (.tuple #[.int .i64 i,.bool true]) w:=by
 unfold oH at h;simp only[Instr.lookup,Sem.run_bind,run_underlying Tryz.underlying148,Result.andThen_ok]
 have hg:(getObj r).run Tryz.prog w=.ok (.map (lh m n).toArray n) w:=by simp[getObj,Sem.run,h]
 simp only[hg,Result.andThen_ok,Sem.run_bind,Sem.run_pure,qbr,qb0,qwm m k w n i hi hk hj,if_true]
theorem qAa{w:World}{r n:Nat}{m:Nat->Mo}(h:oH w r n m)(k:Mo)(hj:∀j,j<n->m j≠k):
 (Instr.lookup 148 (.map (some r)) (jZ k) true).run Tryz.prog w=.ok (.tuple #[.int .i64 0,.bool false]) w:=by
 unfold oH at h
 have hz:(zeroValue 3).run Tryz.prog w=.ok (.int .i64 0) w:=by kernel_rfl
 simp only[Instr.lookup,Sem.run_bind,run_underlying Tryz.underlying148,Result.andThen_ok]
 have hg:(getObj r).run Tryz.prog w=.ok (.map (lh m n).toArray n) w:=by simp[getObj,Sem.run,h]
 simp only[hg,Result.andThen_ok,Sem.run_bind,Sem.run_pure,qbr,qb0,qkk m k w n hj,hz,if_true]
def kX(m:Nat->Mo)(n:Nat)(k:Mo):Nat->Mo:=λi=>if i=n then k else m i
def World.Bw(w:World)(r:Nat)(o:Obj):World:={w with heap:=w.heap.setIfInBounds r o}
theorem qEs{w:World}{r n:Nat}{m:Nat->Mo}(h:oH w r n m)(k:Mo)(hj:∀j,j<n->m j≠k):
 (Instr.mapUpdate 148 (.map (some r)) (jZ k) (.int .i64 n)).run Tryz.prog w=.ok () (World.Bw w r (.map (lh (kX m n k) (n+1)).toArray (n+1))):=by
 have h':=h;unfold oH at h;simp only[Instr.mapUpdate,Sem.run_bind,run_underlying Tryz.underlying148,Result.andThen_ok]
 have hg:(getObj r).run Tryz.prog w=.ok (.map (lh m n).toArray n) w:=by simp[getObj,Sem.run,h]
 simp only[hg,Result.andThen_ok,Sem.run_bind,Sem.run_pure,qbr,qb0,qkk m k w n hj]
 have he:(lh m n).toArray.push {key:=jZ k,val:=.int .i64 n,born:=n}=(lh (kX m n k) (n+1)).toArray:=by
  unfold lh;rw[List.range_succ,List.map_append];simp only[List.push_toArray]
  congr 1
  congr 1
  ·apply List.map_congr_left;intro i hi
   have:i≠n:=by simp at hi;omega
   simp[q9,kX,this]
  ·simp[q9,kX]
 rw[he];simp[setObj,Sem.run,h,World.Bw]
theorem qAn{w:World}{r n:Nat}{m:Nat->Mo}(hr:r<w.heap.size):oH (World.Bw w r (.map (lh m n).toArray n)) r n m:=by
 unfold oH World.Bw;simp[hr]
theorem qfN(w:World)(r b:Nat)(o:Obj)(h:b≠r):(World.Bw w r o).heap[b]?=w.heap[b]?:=by
 unfold World.Bw;simp only[Array.getElem?_setIfInBounds];rw[aj (λe=>h e.symm)]
theorem qkp(w:World)(r:Nat)(o:Obj):w.grownBy (World.Bw w r o) (some r):=
 ⟨rfl,rfl,rfl,by simp[World.Bw],λk _ hk=>qfN w r k o (λe=>hk (by rw[e]))⟩
theorem oH.lt{w:World}{r n:Nat}{m:Nat->Mo}(h:oH w r n m):r<w.heap.size:=by
 unfold oH at h;exact(Array.getElem?_eq_some_iff.1 h).1
theorem oH.of_heap{w w':World}{r n:Nat}{m:Nat->Mo}(h:oH w r n m)(he:w'.heap[r]?=w.heap[r]?):oH w' r n m:=by unfold oH at*;rw[he];exact h
attribute [local go_sem ↓] Go.wp_at_zero Go.wp_at_succ
def lG(c0 c1:Nat->Value)(m:Nat->Mo):Nat->Value:=λj=>
 if j%6=0 then c0 (j/6)else if j%6=1 then c1 (j/6)else if j%6=2 then .int .i64 (m (j/6)).a else if j%6=3 then .int .i64 (m (j/6)).b else if j%6=4 then .int .i64 (m (j/6)).c else .int .i64 (m (j/6)).d
section
variable(c0 c1:Nat->Value)(m:Nat->Mo)(i:Nat)
theorem FJ:lG c0 c1 m (i*6)=c0 i:=by unfold lG;rw[show i*6%6=0 from by omega,show i*6/6=i from by omega];rfl
theorem FK:lG c0 c1 m (i*6+1)=c1 i:=by unfold lG;rw[show(i*6+1)%6=1 from by omega,show(i*6+1)/6=i from by omega];rfl
theorem OZ:lG c0 c1 m (i*6+2)=.int .i64 (m i).a:=by unfold lG;rw[show(i*6+2)%6=2 from by omega,show(i*6+2)/6=i from by omega];rfl
theorem O0:lG c0 c1 m (i*6+3)=.int .i64 (m i).b:=by unfold lG;rw[show(i*6+3)%6=3 from by omega,show(i*6+3)/6=i from by omega];rfl
theorem O1:lG c0 c1 m (i*6+4)=.int .i64 (m i).c:=by unfold lG;rw[show(i*6+4)%6=4 from by omega,show(i*6+4)/6=i from by omega];rfl
theorem O3:lG c0 c1 m (i*6+5)=.int .i64 (m i).d:=by unfold lG;rw[show(i*6+5)%6=5 from by omega,show(i*6+5)/6=i from by omega];rfl
end
def GM(M:Nat->Prop)(g r:Nat)(tv:Value):Nat->Prop:=λb=>M b\/b=g\/b=r\/tv.ownBlock=some b
def qg(M:Nat->Prop)(base:Nat)(w:World)(g n:Nat)(z:Nat->Int)(m:Nat->Mo):Prop:=
 ∃(r:Nat)(tv:Value)(c0 c1:Nat->Value),au w g 150 2 (arr #[.map (some r),tv])/\base<=g/\base<=r/\r≠g/\tv.ownBlock≠some g/\tv.ownBlock≠some r/\oH w r n m/\
  Own w base 78 6 tv n (lG c0 c1 m)/\(∀i,i<n->dH (GM M g r tv) w (c0 i) (c1 i) (z i))/\n<=1099511627776
theorem qg.ext{M:Nat->Prop}{base:Nat}{w w':World}{g n:Nat}{z:Nat->Int}{m:Nat->Mo}(h:qg M base w g n z m)(he:Ext w w'):qg M base w' g n z m:=by
 obtain⟨r,tv,c0,c1,h1,h2,h3,h4,h5,h6,h7,h8,h9,Q6⟩:=h;exact⟨r,tv,c0,c1,h1.ext he,h2,h3,h4,h5,h6,h7.of_heap (he.heap h7.lt),h8.ext he,λi hi=>(h9 i hi).ext he,Q6⟩
theorem qg.lt{M:Nat->Prop}{base:Nat}{w:World}{g n:Nat}{z:Nat->Int}{m:Nat->Mo}(h:qg M base w g n z m):base<=g/\g<w.heap.size:=by
 obtain⟨r,tv,c0,c1,h1,h2,_⟩:=h;exact⟨h2,h1.lt⟩
def sV(w:World)(g b:Nat):Prop:=b=g\/w.cell? ⟨g,0,none⟩=some (.map (some b))\/∃v:Value,w.cell? ⟨g,1,none⟩=some v/\v.ownBlock=some b
def Fr(g:Nat)(w w':World):Prop:=w.heap.size<=w'.heap.size/\(∀b,b<w.heap.size->¬sV w g b->w'.heap[b]?=w.heap[b]?)/\(∀b,sV w' g b->sV w g b\/w.heap.size<=b)/\w'.cell? ⟨g,0,none⟩=w.cell? ⟨g,0,none⟩
theorem sV.ext{w w':World}(he:Ext w w'){g b:Nat}(hg:g<w.heap.size)(h:sV w' g b):sV w g b:=by
 unfold sV at*;rw[he.cell hg,he.cell hg]at h;exact h
theorem Fr.gZ{g:Nat}{w w':World}(hg:g<w.heap.size)(he:Ext w w'):Fr g w w':=⟨he.size,λb hb _=>he.heap hb,λ_ h=>.inl (h.ext he hg),he.cell hg⟩
theorem Fr.trans{g:Nat}{a b c:World}(h:Fr g a b)(k:Fr g b c):Fr g a c:=by
 refine⟨aK h.1 k.1,λq hq hn=>?_,λq hq=>?_,k.2.2.2.trans h.2.2.2⟩
 ·rw[k.2.1 q (bB hq h.1) (λhb=>(h.2.2.1 q hb).elim hn (by omega)),h.2.1 q hq hn]
 ·rcases k.2.2.1 q hq with h1|h1
  ·exact h.2.2.1 q h1
  ·right;have:=h.1;omega
theorem au.yL{w:World}{g:Nat}{t:TypeId}{r:Nat}{tv:Value}(h:au w g t 2 (arr #[.map (some r),tv]))(b:Nat):sV w g b↔b=g\/b=r\/tv.ownBlock=some b:=by
 unfold sV;rw[h.cell (i:=0) (by omega),h.cell (i:=1) (by omega)];simp only[arr,Option.some.injEq];constructor
 ·rintro(h|h|⟨v,h1,h2⟩)
  ·exact .inl h
  ·simp at h;exact .inr (.inl h.symm)
  ·simp at h1;subst h1;exact .inr (.inr h2)
 ·rintro(h|h|h)
  ·exact .inl h
  ·subst h;exact .inr (.inl (by simp))
  ·exact .inr (.inr ⟨tv,by simp,h⟩)
theorem qg.yL{M:Nat->Prop}{base:Nat}{w:World}{g n:Nat}{z:Nat->Int}{m:Nat->Mo}(h:qg M base w g n z m){b:Nat}(hb:sV w g b):base<=b/\b<w.heap.size:=by
 obtain⟨r,tv,c0,c1,h1,h2,h3,h4,h5,h6,h7,h8,h9,Q6⟩:=h;rcases(h1.yL b).1 hb with rfl|rfl|hb
 ·exact⟨h2,h1.lt⟩
 ·exact⟨h3,h7.lt⟩
 ·exact h8.lt b hb
theorem Fr.hit{g tb o1 o2:Nat}{w w2:World}{u v:Value}(he:Ext w w2)(hg:g<w.heap.size)(hne:g≠tb)(hb:sV w g tb):Fr g w ((w2.setCell ⟨tb,o1,none⟩ u).setCell ⟨tb,o2,none⟩ v):=by
 have hc:∀o,((w2.setCell ⟨tb,o1,none⟩ u).setCell ⟨tb,o2,none⟩ v).cell? ⟨g,o,none⟩=w.cell? ⟨g,o,none⟩:=λo=>by
  rw[<-he.cell hg];refine World.cell?_of_block ?_;show _=w2.heap[g]?;rw[Below.heap_setCell _ _ _ _ hne,Below.heap_setCell _ _ _ _ hne]
 refine⟨by simpa[World.setCell]using he.size,λb hb' hn=>?_,λb hb'=>?_,hc 0⟩
 ·have EZ:b≠tb:=λe=>hn (e ▸ hb);rw[Below.heap_setCell _ _ _ _ EZ,Below.heap_setCell _ _ _ _ EZ,he.heap hb']
 ·left;unfold sV at*;rw[hc,hc]at hb';exact hb'
theorem QZ{w w':World}(h:Ext w w'){B:Nat}(hB:B<=w.heap.size):Below B w w':=Below.mono h hB
theorem qwA(M:Nat->Prop)(base g:Nat)(k:Mo)(d0 d1:Value)(c:Int)(w:World)(hI:dh M w d0 d1 c)(hn:k.nn=false):
 Calls Tryz.prog 85 #[.pointer (some ⟨g,0,none⟩),jZ k,.agg #[d0,d1]] w λe w'=>e=.returned (.tuple #[])/\Ext w w':=by
 obtain⟨b1,a1,n1,p1,rfl,rfl⟩:=hI.form
 have jH:(!k.nn)=true:=by simp[hn]
 have aR:=λW=>qfS k W;rw[jH]at aR;have aJ:=ae aR;clear aR jH hn;have hE:Hid (Ext w ((w.alloc (.cells #[.int .i64 k.a,.int .i64 k.b,.int .i64 k.c,.int .i64 k.d] 76)).alloc (.cells #[.bool b1,.slice a1 n1 p1] 30))):=((ai w).alloc _).alloc _
 go_enter Tryz.func85,Tryz.ntmps85
 go_wp2_with (fail);refine(aJ.out _).mono ?_;rintro e w1 ⟨rfl,ah⟩;go_wp2;refine aV (results_none rfl _ _ _) rfl ?_;exact⟨rfl,hE.out.trans ah⟩
def rO(c:Nat->Value)(i:Nat)(u:Value):Nat->Value:=λj=>if j=i then u else c j
theorem qrp(c0 c1:Nat->Value)(m:Nat->Mo)(i:Nat)(u v:Value)(j:Nat):fG (fG (lG c0 c1 m) (i*6) u) (i*6+1) v j=lG (rO c0 i u) (rO c1 i v) m j:=by
 unfold fG lG rO
 by_cases h1:j=i*6+1
 ·subst h1;rw[av rfl,show(i*6+1)%6=1 from by omega,show(i*6+1)/6=i from by omega];simp
 ·rw[aj h1]
  by_cases h2:j=i*6
  ·subst h2;rw[av rfl,show(i*6)%6=0 from by omega,show(i*6)/6=i from by omega];simp
  ·rw[aj h2]
   by_cases h3:j%6=0
   ·rw[av h3,av h3,aj (by omega)]
   ·rw[aj h3,aj h3]
    by_cases h4:j%6=1
    ·rw[av h4,av h4,aj (by omega)]
    ·rw[aj h4,aj h4]
theorem qwL{M:Nat->Prop}{base:Nat}{w1 w2:World}{g n r tb cap i:Nat}{z:Nat->Int}{m:Nat->Mo}{F c0 c1:Nat->Value}{c:Int}{u v:Value}
 (hB:au w1 g 150 2 (arr #[.map (some r),.slice (some ⟨tb,0,none⟩) n cap])) (oP:base<=g) (GR:base<=r) (Dq:r≠g) (Bd:Value.ownBlock (.slice (some ⟨tb,0,none⟩) n cap)≠some g) (Be:Value.ownBlock (.slice (some ⟨tb,0,none⟩) n cap)≠some r)
 (su:oH w1 r n m) (EZ:base<=tb) (jf:au w1 tb 78 (cap*6) F) (Ho:n<=cap) (eu:cap<=maxLen) (hF:∀j,j<n*6->F j=lG c0 c1 m j)
 (hC:∀i,i<n->dH (GM M g r (.slice (some ⟨tb,0,none⟩) n cap)) w1 (c0 i) (c1 i) (z i)) (dY:n<=1099511627776) (hi:i<n) (he:Ext w1 w2) (hc:dH (GM M g r (.slice (some ⟨tb,0,none⟩) n cap)) w2 u v (z i+c)):
 qg M base ((w2.setCell ⟨tb,i*6,none⟩ u).setCell ⟨tb,i*6+1,none⟩ v) g n (λj=>if j=i then z j+c else z j) m:=by
 have xP:g≠tb:=λe=>Bd (by rw[e];rfl);have jB:r≠tb:=λe=>Be (by rw[e];rfl);have aT:Kp (GM M g r (.slice (some ⟨tb,0,none⟩) n cap)) w2 ((w2.setCell ⟨tb,i*6,none⟩ u).setCell ⟨tb,i*6+1,none⟩ v):=(Kp.set _ _ (.inr (.inr (.inr rfl))) _).trans (Kp.set _ _ (.inr (.inr (.inr rfl))) _);refine⟨r,.slice (some ⟨tb,0,none⟩) n cap,rO c0 i u,rO c1 i v,((hB.ext he).kM xP _).kM xP _,oP,GR,Dq,Bd,Be,?_,.inr ⟨tb,cap,_,rfl,EZ,(((jf.ext he).set (i*6) u).set (i*6+1) v),Ho,eu,λj hj=>?_⟩,λj hj=>?_,dY⟩
 ·refine(su.of_heap (he.heap su.lt)).of_heap ?_;rw[Below.heap_setCell _ _ _ _ jB,Below.heap_setCell _ _ _ _ jB]
 ·rw[<-qrp];unfold fG
  by_cases h1:j=i*6+1
  ·rw[av h1,av h1]
  ·rw[aj h1,aj h1]
   by_cases h2:j=i*6
   ·rw[av h2,av h2]
   ·rw[aj h2,aj h2,hF j hj]
 ·by_cases iR:j=i
  ·subst iR;simp only[rO,if_true];exact hc.kp aT
  ·simp only[rO,aj iR];exact((hC j hj).ext he).kp aT
theorem qwy(M:Nat->Prop)(base g n:Nat)(z:Nat->Int)(m:Nat->Mo)(k:Mo)(d0 d1:Value)(c:Int)(w:World)(hM:Mb M w)(hI:dh M w d0 d1 c)(hG:qg M base w g n z m)(CY:dh (λb=>M b\/sV w g b) w d0 d1 c)
 (hn:k.nn=true) (i:Nat) (hi:i<n) (hk:m i=k) (hj:∀j,j<i->m j≠k) (hL:aF ((z i).natAbs+c.natAbs)<=1099511627776):
 Calls Tryz.prog 85 #[.pointer (some ⟨g,0,none⟩),jZ k,.agg #[d0,d1]] w λe w'=>e=.returned (.tuple #[])/\qg M base w' g n (λj=>if j=i then z j+c else z j) m/\Below base w w'/\Fr g w w':=by
 obtain⟨b1,a1,n1,p1,rfl,rfl⟩:=hI.form
 have jH:(!k.nn)=false:=by simp[hn]
 have aR:=λW=>qfS k W;rw[jH]at aR;have aJ:=ae aR;clear aR jH hn;have hE:Hid (Ext w ((w.alloc (.cells #[.int .i64 k.a,.int .i64 k.b,.int .i64 k.c,.int .i64 k.d] 76)).alloc (.cells #[.bool b1,.slice a1 n1 p1] 30))):=((ai w).alloc _).alloc _;have HK:=ae hk;have HJ:=ae hj;clear hk hj
 have gD:base<=w.heap.size:=by have:=hG.lt;omega
 go_enter Tryz.func85,Tryz.ntmps85
 go_wp2_with (fail);refine(aJ.out _).mono ?_;rintro e w1 ⟨rfl,ah⟩;have Ak:=hG.ext (hE.out.trans ah);have Kc:=CY.ext (hE.out.trans ah);obtain⟨ig,KA⟩:=ED ah
 have B4:w1.cell? ⟨w.heap.size,0,none⟩=some (.int .i64 k.a)/\w1.cell? ⟨w.heap.size,1,none⟩=some (.int .i64 k.b)/\w1.cell? ⟨w.heap.size,2,none⟩=some (.int .i64 k.c)/\w1.cell? ⟨w.heap.size,3,none⟩=some (.int .i64 k.d)/\w1.cell? ⟨w.heap.size+1,0,none⟩=some (.bool b1)/\w1.cell? ⟨w.heap.size+1,1,none⟩=some (.slice a1 n1 p1):=by
  refine⟨?_,?_,?_,?_,?_,?_⟩<;>(rw[ig _ _ (by simp;try omega)];simp[go_sem])
 obtain⟨x0,x1,x2,x3,y0,y1⟩:=B4;clear ig KA;obtain⟨r,tv,c0,c1,hB,oP,GR,Dq,Bd,Be,su,hO,hC,dY⟩:=Ak;obtain⟨tb,cap,F,rfl,EZ,jf,Ho,eu,hF⟩:=hO.some (by omega);have wU:Hid (∀b,b=g\/b=r\/Value.ownBlock (.slice (some ⟨tb,0,none⟩) n cap)=some b->sV w g b):=λb hb=>((hB.yL b).2 hb).ext (hE.out.trans ah) hG.lt.2;have gP:=hG.lt.2
 have hlk:∀nq,(Instr.lookup 148 (.map (some r)) (.agg #[.int .i64 k.a,.int .i64 k.b,.int .i64 k.c,.int .i64 k.d]) true).run Tryz.prog (w1.drewN nq)=.ok (.tuple #[.int .i64 i,.bool true]) (w1.drewN nq):=λnq=>
  qz9 (w:=w1.drewN nq) (by exact su) k i hi HK.out HJ.out
 have g0:=hB.cell (i:=0) (by omega);have g1:=hB.cell (i:=1) (by omega);simp only[arr]at g0 g1;obtain⟨b2,a2,n2,p2,e20,e21⟩:=(hC i hi).form
 have t0:w1.cell? ⟨tb,i*6,none⟩=some (.bool b2):=by rw[jf.cell (by omega),hF _ (by omega),FJ,e20]
 have t1:w1.cell? ⟨tb,i*6+1,none⟩=some (.slice a2 n2 p2):=by rw[jf.cell (by omega),hF _ (by omega),FK,e21]
 have l0:(0:Int)<=(i:Int):=jE _
 have l1:(i:Int)<(n:Int):=by omega
 go_wp2
 go_quiet (fail)
 go_wp2
 have kH:Mb (GM M g r (.slice (some ⟨tb,0,none⟩) n cap)) w1:=by
  intro b hb;rcases hb with hb|rfl|rfl|hb
  ·exact(hM.ext (hE.out.trans ah)) b hb
  ·exact hB.lt
  ·exact su.lt
  ·simp only[Value.ownBlock,Option.some.injEq]at hb;subst hb;exact jf.lt
 have vS:dh (GM M g r (.slice (some ⟨tb,0,none⟩) n cap)) w1 (.bool b1) (.slice a1 n1 p1) c:=Kc.more (by
  intro b hb;rcases hb with hb|rfl|rfl|hb
  ·exact .inl (.inl hb)
  ·exact .inl (.inr (wU.out _ (.inl rfl)))
  ·exact .inl (.inr (wU.out _ (.inr (.inl rfl))))
  ·exact .inl (.inr (wU.out _ (.inr (.inr hb)))))
 have hCi:=(hC i hi).dB;rw[e20,e21]at hCi;have HCi:=ae hCi;have wX:=ae vS;have FX:=ae kH;have HC:=ae hC;clear hCi vS kH hC hlk
 go_region_with (go_at_call 79;refine(qeP (M:=GM M g r (.slice (some ⟨tb,0,none⟩) n cap)) _ _ _ _ (z i) c _ ?_ ?_ ?_ hL).mono ?_;(exact FX.out.ext ((ai _).drewN _));(exact HCi.out.ext ((ai _).drewN _));(exact wX.out.ext ((ai _).drewN _));rintro e w2 ⟨f0,f1,rfl,hc,az⟩;obtain⟨b5,a5,n5,p5,rfl,rfl⟩:=hc.form;have aN:=((ai w1).drewN _).trans az;have q0:=kc aN t0;have q1:=kc aN t1;have q2:=kc aN g1;have q3:=(jf.ext aN).frozen (i*6);have q4:=(jf.ext aN).frozen (i*6+1))
 all_goals
  go_wp2;refine aV (results_none rfl _ _ _) rfl ?_;refine⟨rfl,qwL hB oP GR Dq Bd Be su EZ jf Ho eu hF HC.out dY hi aN hc,?_⟩;exact⟨((QZ ((hE.out.trans ah).trans aN) gD).setCell EZ _).setCell EZ _,Fr.hit ((hE.out.trans ah).trans aN) gP (λe=>Bd (by rw[e];rfl)) (wU.out _ (.inr (.inr rfl)))⟩
end Go.Proofs.YtaafefeafonhdaaGreat
namespace Go.Proofs.YtaafefeafonhdaaGreat
open Go.RowKit
attribute [local go_sem ↓] Go.wp_at_zero Go.wp_at_succ
theorem Le{w:World}{r b o:Nat}{x:Obj}{v:Value}(hne:b≠r)(hc:w.cell? ⟨b,o,none⟩=some v):(World.Bw w r x).cell? ⟨b,o,none⟩=some v:=by
 rw[World.cell?_of_block (w:=w) (qfN w r b x hne)];exact hc
theorem qDJ{P:Program}{ops:Array Oper}{o:Oper}{a:Act}{w:World}{K:Act->World->Prop}{Q:Exit->Act->World->Prop}{E:Prop}(jc:o.guard=none)(f:FuncId)(args:Array Operand)(Yl:Array TypeId)
 (ho:o.op=.call {callee:=.value (.func f),args:=args,argTypes:=Yl}) (NQ:∀vs w,(callFunc f vs).run P w=.ok (.enter f vs) w) (vs:Array Value) (hv:args.map a.eval=vs) {R:Ending->World->Prop} (hR:Calls P f vs w R)
 (h:∀e w',R e w'->∃v,e=.returned v/\K (a.put o.dst v) w'):if Region.wanted o (yielded ops a.tmps)=true then Oper.wp P o a w K Q else E:=by
 have hw:Region.wanted o (yielded ops a.tmps)=true:=by simp[Region.wanted,jc]
 rw[av hw];unfold Oper.wp
 have hrun:(execOp a.eval o).run P w=.ok (.enter f vs) w:=by
  simp only[execOp,ho,resolve,hv,Sem.run_bind];show((Deferred.ofValue (.func (.func f) #[] #[]) vs).run P w).andThen _=_;simp[Deferred.ofValue,invoke,NQ,go_sem]
 rw[hrun,Oper.upon_enter];refine hR.mono λe w' hr=>?_;obtain⟨v,rfl,hk⟩:=h e w' hr;exact hk
theorem qDK{P:Program}{ops:Array Oper}{o:Oper}{a:Act}{w:World}{K:Act->World->Prop}{Q:Exit->Act->World->Prop}{E:Prop}(jc:o.guard=none)(f:FuncId)(x:Operand)(Yl:Array TypeId)
 (ho:o.op=.call {callee:=.value (.func f),args:= #[x],argTypes:=Yl}) (NQ:∀vs w,(callFunc f vs).run P w=.ok (.enter f vs) w) (v:Value) (hv:a.eval x=v) {R:Ending->World->Prop} (hR:Calls P f #[v] w R)
 (h:∀e w',R e w'->∃v,e=.returned v/\K (a.put o.dst v) w'):if Region.wanted o (yielded ops a.tmps)=true then Oper.wp P o a w K Q else E:=
 qDJ jc f #[x] Yl ho NQ #[v] (by simp[hv]) hR h
theorem quf(vs:Array Value)(w:World):(callFunc 44 vs).run Tryz.prog w=.ok (.enter 44 vs) w:=by kernel_rfl
theorem Tryz.qeN:(Tryz.prog.info? 78).map (λi=>(i.zero,i.size,i.bytes))=some (some (.agg #[.bool false,.slice none 0 0,.int .i64 0,.int .i64 0,.int .i64 0,.int .i64 0]),6,64):=by kernel_rfl
theorem qro(c0 c1:Nat->Value)(m:Nat->Mo)(n:Nat)(k:Mo)(u v:Value)(j:Nat)(hj:j<(n+1)*6):
 app (lG c0 c1 m) (n*6) (arr #[u,v,.int .i64 k.a,.int .i64 k.b,.int .i64 k.c,.int .i64 k.d]) j=lG (rO c0 n u) (rO c1 n v) (kX m n k) j:=by
 unfold app
 by_cases h:j<n*6
 ·rw[av h];unfold lG rO kX;rw[aj (show¬j/6=n by omega),aj (show¬j/6=n by omega),aj (show¬j/6=n by omega)]
 ·rw[aj h];obtain⟨i,rfl⟩:∃i,j=n*6+i:=⟨j-n*6,by omega⟩
  have hi:i<6:=by omega
  rw[show n*6+i-n*6=i from by omega]
  match i,hi with
  |0,_=>rw[Nat.add_zero,FJ];simp[rO,arr]
  |1,_=>rw[FK];simp[rO,arr]
  |2,_=>rw[OZ];simp[kX,arr]
  |3,_=>rw[O0];simp[kX,arr]
  |4,_=>rw[O1];simp[kX,arr]
  |5,_=>rw[O3];simp[kX,arr]
theorem qwM{M:Nat->Prop}{base:Nat}{wc W w5:World}{g n r gg cap:Nat}{tv:Value}{z:Nat->Int}{m:Nat->Mo}{c0 c1:Nat->Value}{c:Int}{u v:Value}{k:Mo}
 (vR:au w5 g 150 2 (arr #[.map (some r),tv])) (oP:base<=g) (GR:base<=r) (Dq:r≠g) (Bd:tv.ownBlock≠some g) (Be:tv.ownBlock≠some r)
 (su:oH wc r (n+1) (kX m n k)) (gP:g<wc.heap.size) (hC:∀i,i<n->dH (GM M g r tv) wc (c0 i) (c1 i) (z i)) (hc:dH (GM M g r tv) W u v c) (he:Ext wc W)
 (ed:Own w5 base 78 6 (.slice (some ⟨gg,0,none⟩) (n+1) cap) (n+1) (app (lG c0 c1 m) (n*6) (arr #[u,v,.int .i64 k.a,.int .i64 k.b,.int .i64 k.c,.int .i64 k.d])))
 (bK:W.grownBy w5 tv.ownBlock) (hat:tv.ownBlock=some gg\/W.heap.size<=gg) (dY:n+1<=1099511627776):
 qg M base (w5.setCell ⟨g,1,none⟩ (.slice (some ⟨gg,0,none⟩) (n+1) cap)) g (n+1) (λj=>if j=n then c else z j) (kX m n k):=by
 have hrl:r<wc.heap.size:=su.lt;have Su:=he.size
 have xP:gg≠g:=λe=>by
  rcases hat with h|h
  ·exact Bd (by rw[h,e])
  ·omega
 have jB:gg≠r:=λe=>by
  rcases hat with h|h
  ·exact Be (by rw[h,e])
  ·omega
 have key:∀{x y:Value}{q:Int},dH (GM M g r tv) W x y q->dH (GM M g r (.slice (some ⟨gg,0,none⟩) (n+1) cap)) (w5.setCell ⟨g,1,none⟩ (.slice (some ⟨gg,0,none⟩) (n+1) cap)) x y q:=by
  intro x y q hq
  have h1:=hq.more (M':=λb=>GM M g r tv b\/b=gg) (by
   rintro b (hb|rfl)
   ·exact .inl hb
   ·rcases hat with h|h
    ·exact .inl (.inr (.inr (.inr h)))
    ·exact .inr h)
  have h2:=h1.kp (w':=w5) (Kp.grown bK (λb hb=>.inl (.inr (.inr (.inr hb)))));have h3:=h2.kp (Kp.set _ w5 (p:=⟨g,1,none⟩) (.inl (.inr (.inl rfl))) (.slice (some ⟨gg,0,none⟩) (n+1) cap));refine h3.more (λb hb=>.inl ?_);rcases hb with hb|hb|hb|hb
  ·exact .inl (.inl hb)
  ·exact .inl (.inr (.inl hb))
  ·exact .inl (.inr (.inr (.inl hb)))
  ·simp only[Value.ownBlock,Option.some.injEq]at hb;exact .inr hb.symm
 refine⟨r,.slice (some ⟨gg,0,none⟩) (n+1) cap,rO c0 n u,rO c1 n v,(vR.set 1 _).congr (λi hi=>?_),oP,GR,Dq,by simpa[Value.ownBlock]using xP,by simpa[Value.ownBlock]using jB,?_,(ed.of_heap (λb hb=>?_)).congr (λj hj=>qro c0 c1 m n k u v j hj),λi hi=>?_,dY⟩
 ·have:i=0\/i=1:=by omega
  rcases this with rfl|rfl<;>simp[fG,arr]
 ·refine((su.of_heap (he.heap hrl)).of_heap (bK.block r (by omega) (Ne.symm Be))).of_heap ?_;exact Below.heap_setCell _ _ _ _ Dq
 ·simp only[Value.ownBlock,Option.some.injEq]at hb;subst hb;exact Below.heap_setCell _ _ _ _ xP
 ·by_cases wC:i=n
  ·subst wC;simp only[rO,if_true];exact key hc
  ·simp only[rO,aj wC];exact key ((hC i (by omega)).ext he)
theorem Fr.new{g r gg k cap:Nat}{t t':TypeId}{tv:Value}{w w1 wc W w5:World}(he:Ext w w1)(iM:w1.grownBy wc (some r))(Dj:Ext wc W)(bK:W.grownBy w5 tv.ownBlock)(hB:au w g t 2 (arr #[.map (some r),tv]))(vR:au w5 g t' 2 (arr #[.map (some r),tv]))
 (hat:tv.ownBlock=some gg\/W.heap.size<=gg):Fr g w (w5.setCell ⟨g,1,none⟩ (.slice (some ⟨gg,0,none⟩) k cap)):=by
 have hs:=he.size;have mJ:=iM.size;have hsW:=Dj.size;have KX:=bK.size
 have pJ:au (w5.setCell ⟨g,1,none⟩ (.slice (some ⟨gg,0,none⟩) k cap)) g t' 2 (arr #[.map (some r),.slice (some ⟨gg,0,none⟩) k cap]):=(vR.set 1 _).congr (λi hi=>by
  have:i=0\/i=1:=by omega
  rcases this with rfl|rfl<;>simp[fG,arr])
 refine⟨by simp[World.setCell];omega,λb hb hn=>?_,λb hb=>?_,by rw[pJ.cell (i:=0) (by omega),hB.cell (i:=0) (by omega)];rfl⟩
 ·have oW:=λh=>hn ((hB.yL b).2 h);rw[Below.heap_setCell _ _ _ _ (λe=>oW (.inl e)),bK.block b (by omega) (λe=>oW (.inr (.inr e.symm))),Dj.heap (by omega),iM.block b (by omega) (λe=>oW (.inr (.inl (by cases e;rfl)))),he.heap hb]
 ·rcases(pJ.yL b).1 hb with h|h|h
  ·exact .inl ((hB.yL b).2 (.inl h))
  ·exact .inl ((hB.yL b).2 (.inr (.inl h)))
  ·simp only[Value.ownBlock,Option.some.injEq]at h;subst h;rcases hat with h|h
   ·exact .inl ((hB.yL _).2 (.inr (.inr h)))
   ·right;omega
theorem qwB(M:Nat->Prop)(base g n:Nat)(z:Nat->Int)(m:Nat->Mo)(k:Mo)(d0 d1:Value)(c:Int)(w:World)(hM:Mb M w)(hI:dh M w d0 d1 c)(hG:qg M base w g n z m)(CY:dh (λb=>M b\/sV w g b) w d0 d1 c)
 (hn:k.nn=true) (hj:∀j,j<n->m j≠k) (qyA:n+1<=1099511627776):
 Calls Tryz.prog 85 #[.pointer (some ⟨g,0,none⟩),jZ k,.agg #[d0,d1]] w λe w'=>e=.returned (.tuple #[])/\qg M base w' g (n+1) (λj=>if j=n then c else z j) (kX m n k)/\Below base w w'/\Fr g w w':=by
 obtain⟨i0,hi,hz0,hz1,hz2⟩:=info_parts Tryz.qeN;obtain⟨b1,a1,n1,p1,rfl,rfl⟩:=hI.form
 have jH:(!k.nn)=false:=by simp[hn]
 have aR:=λW=>qfS k W;rw[jH]at aR;have aJ:=ae aR;clear aR jH hn;have hE:Hid (Ext w ((w.alloc (.cells #[.int .i64 k.a,.int .i64 k.b,.int .i64 k.c,.int .i64 k.d] 76)).alloc (.cells #[.bool b1,.slice a1 n1 p1] 30))):=((ai w).alloc _).alloc _;have HJ:=ae hj;clear hj
 have gD:base<=w.heap.size:=by have:=hG.lt;omega
 go_enter Tryz.func85,Tryz.ntmps85
 go_wp2_with (fail);refine(aJ.out _).mono ?_;rintro e w1 ⟨rfl,ah⟩;have Ak:=hG.ext (hE.out.trans ah);have Kc:=CY.ext (hE.out.trans ah);obtain⟨ig,KA⟩:=ED ah
 have B4:w1.cell? ⟨w.heap.size,0,none⟩=some (.int .i64 k.a)/\w1.cell? ⟨w.heap.size,1,none⟩=some (.int .i64 k.b)/\w1.cell? ⟨w.heap.size,2,none⟩=some (.int .i64 k.c)/\w1.cell? ⟨w.heap.size,3,none⟩=some (.int .i64 k.d)/\w1.cell? ⟨w.heap.size+1,0,none⟩=some (.bool b1)/\w1.cell? ⟨w.heap.size+1,1,none⟩=some (.slice a1 n1 p1):=by
  refine⟨?_,?_,?_,?_,?_,?_⟩<;>(rw[ig _ _ (by simp;try omega)];simp[go_sem])
 obtain⟨x0,x1,x2,x3,y0,y1⟩:=B4;clear ig KA
 have dI:w.heap.size+2<=w1.heap.size:=by have:=ah.size;simp at this;omega
 have hrw:∀r0,r0<w.heap.size->r0≠w.heap.size/\r0≠w.heap.size+1:=λr0 h=>by omega
 have qyV:∀r0 n0 m0,oH w1 r0 n0 m0->True:=λ_ _ _ _=>trivial;clear qyV hrw;obtain⟨r,tv,c0,c1,aW,oP,GR,Dq,Bd,Be,qcP,hO0,hC0,dY⟩:=hG;have rE:r<w.heap.size:=qcP.lt;have wB:g<w.heap.size:=aW.lt;have htv:∀b,tv.ownBlock=some b->b<w.heap.size:=λb hb=>(hO0.lt b hb).2;have Gz:=hE.out.trans ah;have dO:=ae aW;have bM:=ae Gz;have hB:=aW.ext Gz;have su:=qcP.of_heap (Gz.heap rE);have hO:=hO0.ext Gz;have HC:Hid (∀i,i<n->dH (GM M g r tv) w1 (c0 i) (c1 i) (z i)):=λi hi=>(hC0 i hi).ext Gz;clear Ak aW qcP hO0 hC0;obtain⟨ta,tc,rfl⟩:=hO.form
 have hlk:∀nq,(Instr.lookup 148 (.map (some r)) (.agg #[.int .i64 k.a,.int .i64 k.b,.int .i64 k.c,.int .i64 k.d]) true).run Tryz.prog (w1.drewN nq)=.ok (.tuple #[.int .i64 0,.bool false]) (w1.drewN nq):=λnq=>
  qAa (w:=w1.drewN nq) (by exact su) k HJ.out
 have g0:=hB.cell (i:=0) (by omega);have g1:=hB.cell (i:=1) (by omega);simp only[arr]at g0 g1;go_wp2
 go_quiet (fail)
 go_wp2
 have hup:∀nq,(Instr.mapUpdate 148 (.map (some r)) (.agg #[.int .i64 k.a,.int .i64 k.b,.int .i64 k.c,.int .i64 k.d]) (.int .i64 n)).run Tryz.prog (w1.drewN nq)=.ok () (World.Bw (w1.drewN nq) r (.map (lh (kX m n k) (n+1)).toArray (n+1))):=λnq=>
  qEs (w:=w1.drewN nq) (by exact su) k HJ.out
 clear hlk
 go_cut [] (λwx=>Hid (∃nq,wx=World.Bw (w1.drewN nq) r (.map (lh (kX m n k) (n+1)).toArray (n+1))))
 case first=>
  go_region_held3 (λw'=>w'.cell? ⟨g,0,none⟩=some (.map (some r))/\w'.cell? ⟨g,1,none⟩=some (.slice ta n tc)/\w'.cell? ⟨w.heap.size,0,none⟩=some (.int .i64 k.a)/\w'.cell? ⟨w.heap.size,1,none⟩=some (.int .i64 k.b)/\w'.cell? ⟨w.heap.size,2,none⟩=some (.int .i64 k.c)/\w'.cell? ⟨w.heap.size,3,none⟩=some (.int .i64 k.d))
   (first|(((go_split_ands;(repeat' apply And.intro))<;>(exact Le (by omega) (by assumption)));done)|go_keep)
   (fail)
  all_goals(go_wp2_with fail;go_meet;exact⟨_,rfl⟩)
 case rest=>
  obtain⟨Ip,jW⟩:=hcut.out
  have iM:w1.grownBy wc (some r):=by
   rw[jW];exact Q5 (((ai w1).drewN Ip).grownBy _) (qkp _ _ _)
  have qxg:oH wc r (n+1) (kX m n k):=by rw[jW];exact qAn su.lt
  have eG:=hB.grown iM (by simpa using Dq.symm);have hO3:Own wc base 78 6 (.slice ta n tc) n (lG c0 c1 m):=hO.of_heap λb hb=>iM.block b (hO.lt b hb).2 (λe=>Be (by rw[hb];exact e));have G9:Kp (GM M g r (.slice ta n tc)) w1 wc:=Kp.grown iM (λq hq=>by cases hq;exact .inr (.inr (.inl rfl)));have zO:Hid (∀i,i<n->dH (GM M g r (.slice ta n tc)) wc (c0 i) (c1 i) (z i)):=λi hi=>(HC.out i hi).kp G9
  have hI3:dh (GM M g r (.slice ta n tc)) wc (.bool b1) (.slice a1 n1 p1) c:=(Kc.more (by
   intro b hb;rcases hb with hb|rfl|rfl|hb
   ·exact .inl (.inl hb)
   ·exact .inl (.inr ((dO.out.yL _).2 (.inl rfl)))
   ·exact .inl (.inr ((dO.out.yL _).2 (.inr (.inl rfl))))
   ·exact .inl (.inr ((dO.out.yL _).2 (.inr (.inr hb)))))).kp G9
  have kH:Mb (GM M g r (.slice ta n tc)) wc:=by
   intro b hb;have mJ:=iM.size;rcases hb with hb|rfl|rfl|hb
   ·have:=hM b hb;omega
   ·omega
   ·omega
   ·have:=htv b hb;omega
  have qxv:Below base w wc:=((QZ Gz gD).trans (QZ ((ai w1).drewN Ip) (by omega))).trans (by rw[jW];exact⟨rfl,rfl,rfl,(qkp _ _ _).size,λq hq=>qfN _ _ _ _ (by omega)⟩);have e0:=Le (x:=(.map (lh (kX m n k) (n+1)).toArray (n+1))) (r:=r) (w:=w1.drewN Ip) (b:=w.heap.size) (by omega) (by exact x0);have e1:=Le (x:=(.map (lh (kX m n k) (n+1)).toArray (n+1))) (r:=r) (w:=w1.drewN Ip) (b:=w.heap.size) (by omega) (by exact x1);have e2:=Le (x:=(.map (lh (kX m n k) (n+1)).toArray (n+1))) (r:=r) (w:=w1.drewN Ip) (b:=w.heap.size) (by omega) (by exact x2);have e3:=Le (x:=(.map (lh (kX m n k) (n+1)).toArray (n+1))) (r:=r) (w:=w1.drewN Ip) (b:=w.heap.size) (by omega) (by exact x3);have e4:=Le (x:=(.map (lh (kX m n k) (n+1)).toArray (n+1))) (r:=r) (w:=w1.drewN Ip) (b:=w.heap.size+1) (by omega) (by exact y0);have e5:=Le (x:=(.map (lh (kX m n k) (n+1)).toArray (n+1))) (r:=r) (w:=w1.drewN Ip) (b:=w.heap.size+1) (by omega) (by exact y1);rw[<-jW]at e0 e1 e2 e3 e4 e5;have e6:=eG.cell (i:=1) (by omega);simp only[arr]at e6
  have mJ:w.heap.size+2<=wc.heap.size:=by have:=iM.size;omega
  have R8:∀(b5:Bool)(a5:Option Addr)(n5 p5:Nat)(j:Nat),j<6->(arr #[.bool b5,.slice a5 n5 p5,.int .i64 k.a,.int .i64 k.b,.int .i64 k.c,.int .i64 k.d] j).oneCell'=true:=by
   intro b5 a5 n5 p5 j hj
   match j,hj with
   |0,_=>rfl
   |1,_=>rfl
   |2,_=>rfl
   |3,_=>rfl
   |4,_=>rfl
   |5,_=>rfl
  have mi:=ae R8;clear R8;have Us:=ae hI3;have FX:=ae kH;have pz:=ae iM;clear jW hcut hup g0 g1 x0 x1 x2 x3 y0 y1 hB su hO HC Kc G9 iM ah hI3 kH;go_wp2
  go_region_law (first|(refine TH _ (by rfl) (.tmp 51) (.tmp 56) _ (by rfl) base 78 i0 _ 6 64 Tryz.underlying36 hi hz0 hz1 hz2 rfl (by omega) (.slice ta n tc) n (lG c0 c1 m) (by rfl) jg w4.heap.size 78 1 (arr #[.bool b5,.slice a5 n5 p5,.int .i64 k.a,.int .i64 k.b,.int .i64 k.c,.int .i64 k.d]) (by rfl) dW (mi.out b5 a5 n5 p5) (by unfold maxLen;omega) (by omega) ql9 ?_;intro gg cap w5 ed bK hat hlt;have vR:=((eG.ext aN).alloc (.cells #[.bool b5,.slice a5 n5 p5,.int .i64 k.a,.int .i64 k.b,.int .i64 k.c,.int .i64 k.d] 78)).grown bK (Ne.symm Bd);have q7:=vR.cell (i:=1) (by omega);have q8:=vR.frozen 1)|(refine qDK (by rfl) 44 _ _ (by rfl) quf (.agg #[.bool b1,.slice a1 n1 p1]) (by rfl) (La (M:=GM M g r (.slice ta n tc)) _ _ c _ (FX.out.ext (ai _).drew) (Us.out.ext (ai _).drew)) ?_;rintro e w4 ⟨f0,f1,rfl,hc,bg⟩;refine⟨_,rfl,?_⟩;obtain⟨b5,a5,n5,p5,rfl,rfl⟩:=hc.form;have aN:=((ai wc).drew).trans bg;have q0:=kc aN e0;have q1:=kc aN e1;have q2:=kc aN e2;have q3:=kc aN e3;have q6:=kc aN e6;have dW:=au.aO w4 #[.bool b5,.slice a5 n5 p5,.int .i64 k.a,.int .i64 k.b,.int .i64 k.c,.int .i64 k.d] 78 6 rfl;have jg:=(hO3.ext aN).ext ((ai w4).alloc (.cells #[.bool b5,.slice a5 n5 p5,.int .i64 k.a,.int .i64 k.b,.int .i64 k.c,.int .i64 k.d] 78));have KW:=aN.size;have lg4:g<w4.heap.size:=(by omega);have ql9:base<=(w4.alloc (.cells #[.bool b5,.slice a5 n5 p5,.int .i64 k.a,.int .i64 k.b,.int .i64 k.c,.int .i64 k.d] 78)).heap.size:=(by simp;omega)))
  all_goals
   go_end0
   refine⟨rfl,qwM vR oP GR Dq Bd Be qxg (by omega) zO.out (hc.ext ((ai w4).alloc _)) (aN.trans ((ai w4).alloc _)) ed bK hat qyA,?_⟩;have oO:=qxv.trans (QZ (aN.trans ((ai w4).alloc (.cells #[.bool b5,.slice a5 n5 p5,.int .i64 k.a,.int .i64 k.b,.int .i64 k.c,.int .i64 k.d] 78))) (by omega));exact⟨(oO.grown bK ql9 (λq hq=>(hO3.lt q hq).1)).setCell oP _,Fr.new bM.out pz.out (aN.trans ((ai w4).alloc _)) bK dO.out vR hat⟩
end Go.Proofs.YtaafefeafonhdaaGreat
