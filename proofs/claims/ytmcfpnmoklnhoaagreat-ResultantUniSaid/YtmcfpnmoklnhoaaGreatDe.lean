/- De -/
import Derived.Test.YtmcfpnmoklnhoaaGreatDa
import Derived.Test.YtmcfpnmoklnhoaaGreatNr
import Derived.Test.YtmcfpnmoklnhoaaGreatMi
import Derived.Test.YtmcfpnmoklnhoaaGreatMq
import Derived.Scope
import Derived.Test.YtmcfpnmoklnhoaaGreatMu
set_option linter.unusedVariables false
set_option maxRecDepth 100000
set_option maxHeartbeats 400000000
set_option linter.unusedSimpArgs false
namespace Go.Proofs.YtmcfpnmoklnhoaaGreat
open Go.RowKit
structure SE where
 a:Option Addr
 n:Nat
 p:Nat
 l:List Tm
instance:Inhabited SE:=⟨⟨none,0,0,[]⟩⟩
def sv(x:SE):Value:=.slice x.a x.n x.p
def sx(x:Nat->SE):Nat->Value:=λi=>sv (x i)
theorem Tryz.qFt:(Tryz.prog.info? 71).map (λi=>(i.zero,i.size,i.bytes))=some (some (.slice none 0 0),1,24):=by kernel_rfl
def f23:List Tm:=[(1,⟨1,1,0,0⟩),(3,⟨0,0,0,0⟩)]
theorem Kids.kI{M:Nat->Prop}{w:World}{D g N:Nat}{P:Nat->List Tm}(h:Kids M w D g N P)(i:Nat)(hi:i<N):∃y:PE,jK w g (i*4) y/\aN M w D y (P i):=by
 obtain⟨f,hB,hc⟩:=h;obtain⟨x,e0,e1,e2,e3,hx,_⟩:=(hc i hi).pe;refine⟨x,⟨?_,?_,?_,?_⟩,hx⟩
 ·rw[hB.cell (by omega),e0]
 ·rw[hB.cell (by omega),e1]
 ·rw[hB.cell (by omega),e2]
 ·rw[hB.cell (by omega),e3]
theorem Kids.lt{M:Nat->Prop}{w:World}{D g N:Nat}{P:Nat->List Tm}(h:Kids M w D g N P):g<w.heap.size:=by
 obtain⟨f,hB,_⟩:=h;exact hB.lt
def Vp(g b:Nat)(z p:PE)(w:World):Prop:=jK w g 4 z/\P4 w b p
theorem Qr{k B:Nat}(h1:1<=k)(h4:k<=4){e:Int}{l:List Tm}(h:bH B l):bH B (ck k e l):=λm hm j=>by
 rw[oh h1 h4]at hm
 split at hm
 ·rename_i h0;have:=h _ hm j;rw[iH,eQ _ _ _ h1 h4]at this
  by_cases hj:j=k
  ·rw[hj,h0];omega
  ·rw[ah hj]at this;omega
 ·exact absurd rfl hm
theorem GU(k:Nat)(e:Int)(l:List Tm):aK (ck k e l)<=aK l:=by
 have:=qof (f:=Nf k e) (K:=1) (l:=l) λt _=>by
  unfold Nf;simp only;split<;>decide
 unfold ck;omega
theorem VP{k n B:Nat}{l:List Tm}(h:bE k l n)(hB:bH B l):n<=B:=by
 rcases h.2 with h0|⟨m,hm,hg⟩
 ·omega
 ·have:=hB m hm k;omega
theorem Kids.take{M M':Nat->Prop}{w:World}{D g N n:Nat}{P:Nat->List Tm}(h:Kids M w D g N P)(hm:∀g,M' g->M g\/w.heap.size<=g)(hg:¬M' g)(hn:n<=N)(hN:N<=1099511627776):eY M' w D (.slice (some ⟨g,0,none⟩) n N) n P:=
 ⟨by omega,.inr ⟨g,0,N,rfl,hn,by unfold maxLen;omega,⟨h.lt,hg⟩,λi hi=>h.bN hm i (by omega)⟩⟩
def Vf(l:List Tm)(L:Int)(s:List Tm):Prop:=(af l []/\s=[])\/(¬af l []/\¬(1<=L/\L<=4)/\s=l)\/(¬af l []/\∃K n:Nat,L=K/\1<=K/\K<=4/\bE K l n/\s=ck K (n:Int) l)
def Vl(M:Nat->Prop)(w:World)(R:List Tm->Prop)(e:Ending)(w':World):Prop:=∃(v:PE)(s:List Tm),e=.returned (.agg (ak v))/\aN M w' 4 v s/\R s/\Ext w w'
theorem dO.ld{M:Nat->Prop}{w w':World}{s:List Tm}{e:Ending}{R:List Tm->Prop}(h:dO M w 4 s e w')(hR:R s):Vl M w R e w':=by
 obtain⟨y,h1,h2,h3⟩:=h;exact⟨y,s,h1,h2,hR,h3⟩
theorem qze(M:Nat->Prop)(x:PE)(l:List Tm)(L:Int)(B:Nat)(w:World)(hM:Mb M w)(h:PI M w x l)(hB:bH B l)(kL:(B+1)^4<=1099511627776)(dJ:B+1<=1073741824)(hR:aH (aK l)<=1099511627776):Calls Tryz.prog 117 #[.agg (ak x),.int .i64 L] w (Vl M w (Vf l L)):=by
 obtain⟨aV,ky,bL,dD⟩:=Kb hM x;have CC:=ae (XT _ x l L B _ dD ((h.more (M':=Mx M w.heap.size (w.heap.size+2)) (Mx.more (aI _))).ext aV) hB kL dJ hR);have HE:=ae aV;have HB:=ae bL;have HM:=ae hM;obtain⟨x0,x1,x2,x3⟩:=ky;have KP:Hid (∀K n:Nat,bE K l n->n<=B):=λK n hd=>VP hd hB;have eG:=ae dJ;clear aV bL dD hM h hB kL hR dJ
 go_enter Tryz.func117,Tryz.ntmps117
 go_wp2_with (fail);refine CC.out.mono ?_;rintro e w1 ⟨hr,az⟩;have aS:=ae (HE.out.trans az);have dm:=HB.out.ext az;clear az CC x0 x1 x2 x3 HB HE;rcases hr with⟨hz,rfl⟩|⟨hz,hl,g,rfl,hg,hk⟩|⟨hz,K,n,g,rfl,Fe,fo,rfl,hg,hd,hk⟩
 ·obtain⟨⟨q0,q1,q2,q3⟩,⟨f0,f1,f2,f3⟩,⟨r0,r1,r2,r3⟩,HF⟩:=iF (M:=M) (M':=Mx M w.heap.size (w.heap.size+2)) (w:=w) (L:=4) (l:=[]) (y:=PE.z) dm (Mx.at (by omega)) (by omega) aS.out (CR.zero _ _ 4) Mx.sub;simp only[PE.z]at r0 r1 r2 r3;have dI:=ae (HF.out.ld (R:=Vf l L) (.inl ⟨hz,rfl⟩));clear HF dm hz;go_wp2;exact bu (v:=.agg (ak PE.z)) (by simp[results,Tryz.results117,go_sem,r0,r1,r2,r3,PE.z]) rfl dI.out
 ·obtain⟨y,⟨c0,c1,c2,c3⟩,hy⟩:=hk.kI 0 (by omega);have fA:=hk.lt;rw[Nat.zero_mul]at c0 c1 c2 c3;simp only[Nat.zero_add]at c1 c2 c3;obtain⟨⟨q0,q1,q2,q3⟩,⟨f0,f1,f2,f3⟩,⟨r0,r1,r2,r3⟩,HF⟩:=iF (M:=M) (w:=w) (L:=4) (l:=l) (y:=y) dm (Mx.at (by omega)) (by omega) aS.out (hy.more (M':=Mx M w.heap.size (w.heap.size+2)) λb hb=>.inl (.inl hb)) Mx.sub;have dI:=ae (HF.out.ld (R:=Vf l L) (.inr (.inl ⟨hz,hl,rfl⟩)));clear HF dm hz hl hk hy
  have yf:IntKind.i64.wrap 0=0:=by decide
  go_wp2;exact bu (v:=.agg (ak y)) (by simp[results,Tryz.results117,go_sem,r0,r1,r2,r3]) rfl dI.out
 ·obtain⟨y,⟨c0,c1,c2,c3⟩,hy⟩:=hk.kI n (by omega);have fA:=hk.lt
  have Oc:(n:Int)+1<=1099511627776:=by have:=KP.out K n hd;have:=eG.out;omega
  have jg:(0:Int)<=(n:Int):=iw _
  have hne:((n:Int)+1==0)=false:=by simp;omega
  have hw:IntKind.i64.wrap ((n:Int)+1-1)=(n:Int):=by rw[IntKind.wrap_i64];omega
  obtain⟨⟨q0,q1,q2,q3⟩,⟨f0,f1,f2,f3⟩,⟨r0,r1,r2,r3⟩,HF⟩:=iF (M:=M) (w:=w) (L:=4) (l:=ck K (n:Int) l) (y:=y) dm (Mx.at (by omega)) (by omega) aS.out (hy.more (M':=Mx M w.heap.size (w.heap.size+2)) λb hb=>.inl (.inl hb)) Mx.sub;have dI:=ae (HF.out.ld (R:=Vf l K) (.inr (.inr ⟨hz,K,n,rfl,Fe,fo,hd,rfl⟩)));clear HF dm hz hk hy hd KP eG;go_wp2;exact bu (v:=.agg (ak y)) (by simp[results,Tryz.results117,go_sem,r0,r1,r2,r3]) rfl dI.out
theorem Kg{k:Nat}{l:List Tm}(hl:NN l):∃n,bE k l n:=by
 have hs:=ow hl
 by_cases hn:norm l=[]
 ·refine⟨0,λm hm=>absurd ?_ hm,.inl rfl⟩;rw[<-hs m,hn];rfl
 obtain⟨e,he,hx⟩:=XR k (Df l);refine⟨e,λm hm=>?_,.inr ?_⟩
 ·rw[<-hs m]at hm;obtain⟨s,kC,e2⟩:∃s∈norm l,s.2=m:=eF λgW=>hm (rQ λt ht e=>gW ⟨t,ht,e⟩);rw[<-e2];exact he s kC
 ·obtain⟨s,kC,e2⟩:=hx.resolve_left hn;exact⟨s.2,by rw[<-hs s.2];exact Ke (sF l) kC,e2⟩
theorem Qz{k n:Nat}{l:List Tm}(hl:NN l)(hz:¬af l [])(h:bE k l n):∃m,aL l m≠0/\m.get k=n:=by
 rcases h.2 with h0|h0
 ·obtain⟨m,hm⟩:=OD hz;refine⟨m,hm,?_⟩;have h1:=h.1 m hm
  have h2:m.nn=true:=by
   cases hc:m.nn with
   |true=>rfl
   |false=>exact absurd (hl m hc) hm
  have h3:=wZ h2 k;omega
 ·exact h0
theorem VR{k:Nat}(h1:1<=k)(h4:k<=4){q s:List Tm}(hq:NN q)(hs:NN s)(zq:¬af q [])(zs:¬af s []){a b:Nat}(ha:bE k q a)(hb:bE k s b):bE k (aF q s) (a+b):=by
 have sq:=ow hq;have ss:=ow hs;have hp:af (aF (norm q) (norm s)) (aF q s):=sq.aF ss
 have hle:∀{l:List Tm}{n:Nat},NN l->bE k l n->∀t∈norm l,t.2.get k<=(n:Int):=λ{l n} hl hd t ht=>hd.1 t.2 (by
  rw[<-ow hl t.2];exact Ke (sF l) ht)
 refine⟨λm hm=>?_,.inr ?_⟩
 ·rw[<-hp m]at hm;obtain⟨m1,g1,g2⟩:=Qu (Qp (sF q)) hm;rw[sq m1]at g1;rw[ss]at g2;have e1:=ha.1 m1 g1;have e2:=hb.1 _ g2;rw[sZ]at e2;omega
 ·obtain⟨m1,g1,e1⟩:=Qz hq zq ha;obtain⟨m2,g2,e2⟩:=Qz hs zs hb;rw[<-sq m1]at g1;rw[<-ss m2]at g2;have c1:=ET h1 h4 g1;have c2:=ET h1 h4 g2;rw[e1]at c1;rw[e2]at c2;have h6:=VB h1 h4 (e:=(a:Int)) (e':=(b:Int)) (hle hs hb) (norm q) (hle hq ha);have h7:=nV (fK h1 h4 (xe (Df q))) (fK h1 h4 (xe (Df s))) c1 c2;rw[<-h6]at h7;obtain⟨m,hm,hg⟩:=VA h1 h4 h7;exact⟨m,by rw[<-hp m];exact hm,by omega⟩
theorem G5{k a b:Nat}{l:List Tm}(hl:NN l)(hz:¬af l [])(ha:bE k l a)(hb:bE k l b):a=b:=by
 obtain⟨m,h1,h2⟩:=Qz hl hz ha;obtain⟨m',h3,h4⟩:=Qz hl hz hb;have e1:=hb.1 m h1;have e2:=ha.1 m' h3;omega
end Go.Proofs.YtmcfpnmoklnhoaaGreat
namespace Go.Proofs.YtmcfpnmoklnhoaaGreat
open Go.ChangeShapes Go.WideShapes Go.ChangeAt Go.RowKit Go.Deep
section
end
end Go.Proofs.YtmcfpnmoklnhoaaGreat
namespace Go.Proofs.YtmcfpnmoklnhoaaGreat
open Go.RowKit
theorem qBK(m k:Mo):Mo.add (Mo.sub m k) k=m:=((Mo.add_eq _ _ _).2 rfl)
theorem qiZ{K:Nat}(h1:1<=K)(h4:K<=4)(l:List Tm)(m:Mo):∀n:Nat,aL (aQ K n λi=>ck K (i:Int) l) m=if 0<=m.get K/\m.get K<(n:Int)then aL l m else 0
 |0=>by rw[ah (by omega)];rfl
 |n+1=>by
  rw[gT,iZ,qiZ h1 h4 l m n,rP,oh h1 h4,qBK,sZ,eQ K K _ h1 h4,ai rfl]
  by_cases ha:0<=m.get K/\m.get K<(n:Int)
  ·rw[ai ha,ah (by omega),ai (by omega)];omega
  ·rw[ah ha]
   by_cases hb:m.get K=(n:Int)
   ·rw[ai (by omega),ai (by omega)];omega
   ·rw[ah (by omega),ah (by omega)];omega
section
variable{P:Program}{ops:Array Oper}{Q:Exit->Act->World->Prop}{md:Region.Mode}{S:World->Prop}{last:Nat}
theorem qCF(i j k:Nat){oi oj ok:Oper}{fuel:Nat}{listed:Array Bool}{a:Act}{w:World}(hr:Region.ready md ops listed=[i,j,k])(hi:ops[i]?=some oi)(hj:ops[j]?=some oj)(hk:ops[k]?=some ok)
 (h:∀K':Act->World->Prop,Shut (∀a w,(i≠last->S w)->oD P md ops Q S last fuel (listed.setIfInBounds i true) a w->K' a w)->if Region.wanted oi (yielded ops a.tmps)=true then Oper.wp P oi a w K' Q else K' (a.put oi.dst undef) w)
 (h':∀K':Act->World->Prop,Shut (∀a w,(j≠last->S w)->oD P md ops Q S last fuel (listed.setIfInBounds j true) a w->K' a w)->if Region.wanted oj (yielded ops a.tmps)=true then Oper.wp P oj a w K' Q else K' (a.put oj.dst undef) w)
 (h'':∀K':Act->World->Prop,Shut (∀a w,(k≠last->S w)->oD P md ops Q S last fuel (listed.setIfInBounds k true) a w->K' a w)->if Region.wanted ok (yielded ops a.tmps)=true then Oper.wp P ok a w K' Q else K' (a.put ok.dst undef) w):oD P md ops Q S last (fuel+1) listed a w:=by
 refine⟨λh0=>(by rw[h0]at hr;cases hr),λq hq=>?_⟩;rw[hr]at hq;simp only[List.mem_cons,List.not_mem_nil,or_false]at hq;rcases hq with rfl|rfl|rfl
 ·exact wpOp_step hi λK' hK=>h K' λa w h1 h2=>hK a w ⟨h1,h2⟩
 ·exact wpOp_step hj λK' hK=>h' K' λa w h1 h2=>hK a w ⟨h1,h2⟩
 ·exact wpOp_step hk λK' hK=>h'' K' λa w h1 h2=>hK a w ⟨h1,h2⟩
end
def M7(A B:Option Nat):Nat->Prop:=λg=>A=some g\/B=some g
structure S7(wd wk:World)(A B:Option Nat):Prop where
 e:Ext wd wk
 a:∀g,A=some g->aG wk g 33 4 (arr zA)/\wd.heap.size<=g
 b:∀g,B=some g->aG wk g 33 4 (arr zA)/\wd.heap.size<=g
 ne:∀g,A=some g->B≠some g
theorem S7.lt{wd wk:World}{A B:Option Nat}(h:S7 wd wk A B)(g:Nat)(hg:M7 A B g):wd.heap.size<=g/\g<wk.heap.size:=by
 rcases hg with hg|hg
 ·exact⟨(h.a g hg).2,(h.a g hg).1.lt⟩
 ·exact⟨(h.b g hg).2,(h.b g hg).1.lt⟩
theorem S7.mb{wd wk:World}{A B:Option Nat}(h:S7 wd wk A B):Mb (M7 A B) wk:=λg hg=>(h.lt g hg).2
theorem S7.start(wd:World):S7 wd wd none none:=⟨aA _,(λg h=>by cases h),(λg h=>by cases h),λg h=>by cases h⟩
theorem S7.call{wd wk w':World}{A B:Option Nat}(h:S7 wd wk A B)(d:Ext wk w'):S7 wd w' A B:=⟨h.e.trans d,λg hg=>⟨(h.a g hg).1.ext d,(h.a g hg).2⟩,λg hg=>⟨(h.b g hg).1.ext d,(h.b g hg).2⟩,h.ne⟩
theorem S7.old{wd wk:World}{A B:Option Nat}{x:PE}{l:List Tm}(h:S7 wd wk A B)(hx:aN M0 wd 4 x l):aN (M7 A B) wk 4 x l:=(hx.more (M':=M7 A B) (λg hg=>.inr (h.lt g hg).1)).ext h.e
theorem S7.ve{wd wk:World}{B:Option Nat}(h:S7 wd wk none B):S7 wd (wk.alloc (.cells zA 33)) (some wk.heap.size) B:=by
 have d:Ext wk (wk.alloc (.cells zA 33)):=(aA wk).alloc _;refine⟨h.e.trans d,λg hg=>?_,λg hg=>⟨(h.b g hg).1.ext d,(h.b g hg).2⟩,λg hg hb=>?_⟩
 ·cases hg;exact⟨aG.bq wk zA 33 4 rfl,h.e.size⟩
 ·cases hg;have:=(h.b _ hb).1.lt;omega
theorem S7.mK{wd wk:World}{B:Option Nat}{x:PE}{l:List Tm}(_:S7 wd wk none B)(hx:aN (M7 none B) wk 4 x l):aN (M7 (some wk.heap.size) B) (wk.alloc (.cells zA 33)) 4 x l:=by
 refine(hx.more (M':=M7 (some wk.heap.size) B) λg hg=>?_).ext ((aA wk).alloc _);rcases hg with hg|hg
 ·cases hg;exact .inr (aI _)
 ·exact .inl (.inr hg)
def Z4(w:World)(g:Nat):Prop:=w.cell? ⟨g,0,none⟩=some (.int .i64 0)/\w.cell? ⟨g,1,none⟩=some (.bool false)/\w.cell? ⟨g,2,none⟩=some (.slice none 0 0)/\w.cell? ⟨g,3,none⟩=some (.slice none 0 0)
def LM(w:World)(g:Nat):Prop:=w.frozen? ⟨g,0,none⟩=false/\w.frozen? ⟨g,1,none⟩=false/\w.frozen? ⟨g,2,none⟩=false/\w.frozen? ⟨g,3,none⟩=false
theorem aG.z4{w:World}{g:Nat}(h:aG w g 33 4 (arr zA)):Z4 w g:=⟨h.cell (i:=0) (by omega),h.cell (i:=1) (by omega),h.cell (i:=2) (by omega),h.cell (i:=3) (by omega)⟩
theorem aG.Nu{w:World}{g:Nat}{t:TypeId}{n:Nat}{f:Nat->Value}(h:aG w g t n f):LM w g:=⟨h.frozen 0,h.frozen 1,h.frozen 2,h.frozen 3⟩
theorem Ka{w:World}{g:Nat}{t:TypeId}{f:Nat->Value}(h:aG w g t 4 f)(x:PE):aG (aM w g 0 (.int .i64 x.lv) (.bool x.b) (.slice x.a x.n x.p) (.slice x.ka x.kn x.kp)) g t 4 (arr (ak x)):=
 (h.aM 0 (.int .i64 x.lv) (.bool x.b) (.slice x.a x.n x.p) (.slice x.ka x.kn x.kp)).congr λi hi=>match i,hi with
  |0,_=>F4 f 0 _ _ _ _
  |1,_=>F5 f 0 _ _ _ _
  |2,_=>F6 f 0 _ _ _ _
  |3,_=>F7 f 0 _ _ _ _
structure qil(wd W:World)(a:Nat)(x:PE)(l:List Tm):Prop where
 e:Ext wd W
 p:P4 W a x
 x:aN M0 W 4 x l
theorem S7.BQ{wd wk:World}{a:Nat}{x:PE}{l:List Tm}(h:S7 wd wk (some a) none)(hx:aN (M7 (some a) none) wk 4 x l):
 ∃W1,W1=aM wk a 0 (.int .i64 x.lv) (.bool x.b) (.slice x.a x.n x.p) (.slice x.ka x.kn x.kp)/\Z4 wk a/\LM wk a/\qil wd W1 a x l:=by
 obtain⟨hB,hw⟩:=h.a a rfl;refine⟨_,rfl,hB.z4,hB.Nu,h.e.aM hw _ _ _ _ _,(Ka hB x).p4,(hx.kp (Kp.aM (.inl rfl) _ _ _ _ _)).more λg hg=>hg.elim⟩
theorem qt7{B:Nat}{l:List Tm}(h:bH B l)(z:Int):bH B (aF l [(z,Mo.zero)]):=bH.dh (l:=smul z l) (λm hm k=>h m (λe=>hm (by rw[iM,e];exact Int.mul_zero _)) k) (af.symm ((I7 l (z,Mo.zero)).trans (by rw[FZ];exact af.refl _)))
def jc(K:Nat)(l:List Tm)(i:Nat):List Tm:=aF (ck K (((i+1:Nat):Int)) l) [(((i+1:Nat):Int),Mo.zero)]
def TZ(l:List Tm)(L:Int)(s:List Tm):Prop:=((af l []\/¬(1<=L/\L<=4))/\s=[])\/(¬af l []/\∃K n:Nat,L=K/\1<=K/\K<=4/\bE K l n/\s=aQ K n (jc K l))
theorem quK{K A:Nat}{l:List Tm}(h:aH (aK l)<=A)(i:Nat)(hi:i<4294967295):aH (aK (jc K l i))<=A+1:=by
 unfold jc;rw[zL];have h1:=pQ (aK (ck K (((i+1:Nat):Int)) l)) (aK [(((i+1:Nat):Int),Mo.zero)]);have h2:=jB (GU K (((i+1:Nat):Int)) l)
 have h3:aH (aK [(((i+1:Nat):Int),Mo.zero)])<=1:=by
  rw[lZ];show(((i+1:Nat):Int)).natAbs+0<4294967296^1;omega
 omega
def MV(g o:Nat)(y:PE)(w:World):Prop:=jK w g o y/\g<w.heap.size
theorem MV.ext{g o:Nat}{y:PE}{w w':World}(h:MV g o y w)(he:Ext w w'):MV g o y w':=⟨h.1.ext h.2 he,dH h.2 he.size⟩
theorem qol(M:Nat->Prop)(x:PE)(l:List Tm)(L:Int)(B:Nat)(w:World)(hM:Mb M w)(h:PI M w x l)(hB:bH B l)(jV:(B+1)*(B+1)^4<=1099511627776)(dJ:B+1<=100000)(hR:aH (aK l)<=90):Calls Tryz.prog 115 #[.agg (ak x),.int .i64 L] w (Vl M w (TZ l L)):=by
 obtain⟨aV,ky,bL,dD⟩:=Kb hM x;have kL:(B+1)^4<=1099511627776:=aR (Nat.le_mul_of_pos_left _ (Nat.succ_pos B)) jV;have CC:=ae (XT _ x l L B _ dD ((h.more (M':=Mx M w.heap.size (w.heap.size+2)) (Mx.more (aI _))).ext aV) hB kL (by omega) (by omega));have vZ:=ae (λW=>Tc L W);have HE:=ae aV;have HB:=ae bL;have HM:=ae dD;obtain⟨x0,x1,x2,x3⟩:=ky;have KP:Hid (∀K n:Nat,bE K l n->n<=B):=λK n hd=>VP hd hB;have eG:=ae dJ;have nZ:=ae hB;have oQ:=ae jV;have HR:=ae hR;clear aV dD hM h hB kL hR dJ jV
 by_cases qL:¬(1<=L/\L<=4)
 ·have RD:gm L=false:=by unfold gm;simp only[decide_eq_false_iff_not];exact qL
  rw[RD]at vZ;have dI:Hid (Vl M w (TZ l L) (.returned (.agg (ak PE.z))) ((w.alloc (.cells (ak x) 33)).alloc (.cells zA 33))):=⟨PE.z,[],rfl,CR.zero _ _ 4,.inl ⟨.inr qL,rfl⟩,HE.out⟩;clear bL qL RD CC
  go_enter Tryz.func115,Tryz.ntmps115
  go_wp2_with (fail);refine(vZ.out _).mono ?_;rintro e w1 ⟨rfl,rfl⟩;clear vZ;go_wp2;exact bu (v:=.agg (ak PE.z)) (by simp[results,Tryz.results115,go_sem,PE.z]) rfl dI.out
 have RD:gm L=true:=by unfold gm;simp only[decide_eq_true_eq];exact Decidable.not_not.1 qL
 rw[RD]at vZ;have qrY:=ae (Decidable.not_not.1 qL);clear qL RD bL
 go_enter Tryz.func115,Tryz.ntmps115
 go_wp2_with (fail);refine(vZ.out _).mono ?_;rintro e w1 ⟨rfl,rfl⟩;clear vZ;go_wp2_with (fail);refine CC.out.mono ?_;rintro e w1 ⟨hr,az⟩;have aS:=ae (HE.out.trans az);have dF:=ae (HB.out.ext az);have kH:=ae (HM.out.ext az);clear az CC x0 x1 x2 x3 HB HE;rcases hr with⟨hz,rfl⟩|⟨hz,hl,_⟩|⟨hz,J,n,g,rfl,Fe,fo,rfl,hg,hd,hk⟩
 ·obtain⟨⟨q0,q1,q2,q3⟩,⟨f0,f1,f2,f3⟩,⟨r0,r1,r2,r3⟩,HF⟩:=iF (M:=M) (M':=Mx M w.heap.size (w.heap.size+2)) (w:=w) (L:=4) (l:=[]) (y:=PE.z) dF.out (Mx.at (by omega)) (by omega) aS.out (CR.zero _ _ 4) Mx.sub;simp only[PE.z]at r0 r1 r2 r3;have dI:=ae (HF.out.ld (R:=TZ l L) (.inl ⟨.inl hz,rfl⟩));clear HF dF hz;go_wp2;exact bu (v:=.agg (ak PE.z)) (by simp[results,Tryz.results115,go_sem,r0,r1,r2,r3,PE.z]) rfl dI.out
 ·exact absurd qrY.out hl
 ·have fA:=hk.lt;have qmN:=KP.out J n hd
  have Oc:(n:Int)+1<=100000:=by have:=eG.out;omega
  have jg:(0:Int)<=(n:Int):=iw _
  have hne:((n:Int)+1==0)=false:=by simp;omega
  have Bo:w.heap.size+2<=g:=by simpa using hg
  have HZ:=ae hz;have HD:=ae hd;have HK:=ae (And.intro Fe fo)
  have HKI:Hid (Kids (λb=>Mx M w.heap.size (w.heap.size+2) b\/b=g) w1 4 g (n+1) (λi=>if i<0 then jc J l i else ck J (i:Int) l)):=hk.congr λi _=>by rw[ah (by omega)];exact af.refl _
  have qmO:Hid (n<=B):=qmN;clear hk hz hd KP Fe fo qmN;go_wp2
  go_loopw [6] (λiv wr=>∃q:Nat,q<=n/\iv=.int .i64 ((q:Int)+1)/\Hid (Kids (λb=>Mx M w.heap.size (w.heap.size+2) b\/b=g) wr 4 g (n+1) (λi=>if i<q then jc J l i else ck J (i:Int) l))/\Hid (Ext w wr)/\Hid (aG wr (w.heap.size+1) 33 4 (arr zA))/\w.heap.size+2<=wr.heap.size) (λiv _=>n+1-(intOf iv).toNat)
  case atStart=>exact⟨0,bK _,rfl,HKI,aS,dF,by omega⟩
  case round=>
   clear HKI aS dF;obtain⟨q,hq,rfl,JF,cZ,jJ,hsz⟩:=hrel
   by_cases hlt:q<n
   ·have DX:(q:Int)+1<(n:Int)+1:=by omega
    have vM:(0:Int)<=(q:Int):=iw _;have Ak:=ae hlt;obtain⟨y,hy4,hyx⟩:=JF.out.kI (q+1) (by omega);have Ib:=JF.out.lt
    have qnF:aN (λb=>Mx M w.heap.size (w.heap.size+2) b\/b=g) wr 4 y (ck J (((q+1:Nat):Int)) l):=by
     have:=hyx;rw[ah (by omega)]at this;exact this
    have HYX:=ae (qnF.ext (aA wr).drew);have hS:MV g ((q+1)*4) y wr.drew:=MV.ext ⟨hy4,Ib⟩ (aA wr).drew
    have Cm:Hid (Mb (λb=>Mx M w.heap.size (w.heap.size+2) b\/b=g) wr.drew):=λb hb=>by
     have:=(aA wr).drew.size;rcases hb with hb|rfl
     ·have h2:=HM.out b hb;simp only[World.size_alloc]at h2;omega
     ·omega
    have Ec:IntKind.i64.wrap ((q:Int)+1-1)=(q:Int):=by rw[IntKind.wrap_i64];omega
    have qgm:Hid (Ext w wr.drew):=cZ.out.trans (aA wr).drew;have qfY:Hid (aG wr.drew (w.heap.size+1) 33 4 (arr zA)):=jJ.out.ext (aA wr).drew;have kX:=ae (JF.out.ext (aA wr).drew);have Xj:w.heap.size+2<=wr.drew.heap.size:=aR hsz (aA wr).drew.size;have qmm:g<wr.drew.heap.size:=hS.2;clear hyx qnF hy4 JF cZ jJ hsz Ib
    go_upto_region 9 with(fail)
    refine gB (MV g ((q+1)*4) y) 11 (by kernel_rfl) hS (λhHeld=>?_);clear hS;generalize wr.drew=wd at*
    have hq1:(0:Int)<=(q:Int)+1:=by omega
    have qFf:IntKind.i64.wrap (q:Int)=(q:Int):=by rw[IntKind.wrap_i64];omega
    have hq2:(q:Int)<(n:Int)+1:=by omega
    have C9:Hid (∀(W:World)(ib:Bool)(ia:Option Addr)(il ip:Nat),Ext wd W->dQ (λb=>Mx M w.heap.size (w.heap.size+2) b\/b=g) W (.bool ib) (.slice ia il ip) ((q:Int)+1)->Calls Tryz.prog 74 #[.agg (ak y),.agg #[.bool ib,.slice ia il ip]] W (dO (λb=>Mx M w.heap.size (w.heap.size+2) b\/b=g) W 4 (jc J l q))):=λW ib ia il ip he hi=>by
     have h2:=jB (GU J (((q+1:Nat):Int)) l)
     have h3:aH ((q:Int)+1).natAbs<=1:=by
      rw[lZ];show((q:Int)+1).natAbs<4294967296^1;omega
     have h4:=HR.out;exact qeF (λb=>Mx M w.heap.size (w.heap.size+2) b\/b=g) y _ B ib ia il ip ((q:Int)+1) W (Cm.out.ext he) (HYX.out.ext he).pi hi (by omega) (Qr HK.out.1 HK.out.2 nZ.out) (by have:=eG.out;omega)
    (refine cB [0,1,2,3,4,5,6,7] ?_;(iterate 8 (refine bZ (v:=?_) ?_ ?_;rotate_left 1;(intro wS hSw;obtain⟨⟨S1,S2,S3,S4⟩,S5⟩:=hSw;go_simp;try with_reducible rfl);(try simp only[Act.put,aB,aC,aD])));refine cK ?_);((refine aO 8 ?_;intro K hK);go_simp;(refine(IQ (M:=λb=>Mx M w.heap.size (w.heap.size+2) b\/b=g) ((q:Int)+1) _ Cm.out (by omega) (by omega)).mono ?_);rintro e_ u1 ⟨e0,e1,rfl,hi,bM⟩;go_wp2_with (fail);(try clear ag);(have ag:=hHeld.ext bM);(refine hK.out _ _ (λ_=>ag) ?_);clear hK K;(try simp only[Act.put,aB,aC,aD]));obtain⟨ib,ia,il,ip,rfl,rfl⟩:=hi.form;((refine aO 9 ?_;intro K hK);go_simp;(refine(C9.out _ ib ia il ip (bM) hi.fB).mono ?_);rintro e_ u2 ⟨v,rfl,hv,fM⟩;go_wp2_with (fail);(try clear ag);(have ag:=hHeld.ext (bM.trans fM));(refine hK.out _ _ (λ_=>ag) ?_);clear hK K;(try simp only[Act.put,aB,aC,aD]));(refine cB [10] ?_;(iterate 1 (refine bZ (v:=?_) ?_ ?_;rotate_left 1;(intro wS hSw;obtain⟨⟨S1,S2,S3,S4⟩,S5⟩:=hSw;go_simp;try with_reducible rfl);(try simp only[Act.put,aB,aC,aD])));refine cK ?_);have bB:=bM.trans fM;have fo:=kX.out.ext bB;obtain⟨⟨_,k0⟩,⟨_,k1⟩,⟨_,k2⟩,⟨_,k3⟩,bA,nO⟩:=fo.at q (by omega);have fV:=bA (q*4);have fP:=bA (q*4+1);have iU:=bA (q*4+2);have p9:=bA (q*4+3)
    have lV:Hid (Kids (λb=>Mx M w.heap.size (w.heap.size+2) b\/b=g) (aM u2 g (q*4) (.int .i64 v.lv) (.bool v.b) (.slice v.a v.n v.p) (.slice v.ka v.kn v.kp)) 4 g (n+1) (λi=>if i<q+1 then jc J l i else ck J (i:Int) l)):=by
     refine(fo.set (.inr rfl) q (by omega) hv).congr λi _=>?_
     by_cases iq:i=q
     ·subst iq;rw[ai rfl,ai (by omega)];exact af.refl _
     ·rw[ah iq]
      by_cases h3:i<q
      ·rw[ai h3,ai (by omega)];exact af.refl _
      ·rw[ah h3,ah (by omega)];exact af.refl _
    have dV:Hid (Ext w (aM u2 g (q*4) (.int .i64 v.lv) (.bool v.b) (.slice v.a v.n v.p) (.slice v.ka v.kn v.kp))):=(qgm.out.trans bB).aM (by omega) _ _ _ _ _;have oQ:Hid (aG (aM u2 g (q*4) (.int .i64 v.lv) (.bool v.b) (.slice v.a v.n v.p) (.slice v.ka v.kn v.kp)) (w.heap.size+1) 33 4 (arr zA)):=(qfY.out.ext bB).of_heap (iI _ _ _ _ _ _ _ _ (by omega))
    have iG:Hid (w.heap.size+2<=(aM u2 g (q*4) (.int .i64 v.lv) (.bool v.b) (.slice v.a v.n v.p) (.slice v.ka v.kn v.kp)).heap.size):=by show _<=_;rw[nW];have:=bB.size;omega
    clear fo bA hv hi bM fM bB kX qgm qfY HYX Cm C9 hHeld ag;((refine aO 11 ?_;intro K hK);go_simp;(refine hK.out _ _ (λh=>absurd rfl h) ?_);clear hK K;refine dX ?_);go_wp2
    go_roundw
    case rel=>exact⟨q+1,Ak.out,by go_num,lV,dV,oQ,iG.out⟩
    case measure=>have:=Ak.out;simp[intOf];omega
   ·obtain rfl:q=n:=by omega
    have jS:¬(q:Int)+1<(q:Int)+1:=by omega
    have hw:IntKind.i64.wrap ((q:Int)+1-1)=(q:Int):=by rw[IntKind.wrap_i64];omega
    have WK:¬(Mx M w.heap.size (w.heap.size+2)) g:=λh=>by
     have h2:=HM.out _ h;simp only[World.size_alloc]at h2;omega
    have qK:=(JF.out.take (M':=Mx M w.heap.size (w.heap.size+2)) (n:=q) (λb hb=>.inl (.inl hb)) WK (by omega) (by omega)).congr (Q:=jc J l) (λi hi=>by rw[ai hi];exact af.refl _)
    have Cm:Hid (Mb (Mx M w.heap.size (w.heap.size+2)) wr):=λb hb=>by
     have h2:=HM.out b hb;simp only[World.size_alloc]at h2;omega
    have CJ:=ae (qom (L:=J) (S:=B) (A:=91) wr Cm.out qK HK.out.1 HK.out.2 (λi _=>qt7 (Qr HK.out.1 HK.out.2 nZ.out) _) (aR (eB _ (show q<=B+1 by have:=qmO.out;omega)) oQ.out) (by have:=eG.out;have:=qmO.out;omega) (λi hi=>quK HR.out i (by omega)) (by omega));have Ib:=JF.out.lt;clear qK WK JF Cm eG oQ nZ HR hlt;go_wp2_with (fail);refine CJ.out.mono ?_;rintro e w2 ⟨y,rfl,hy,aJ⟩;obtain⟨⟨q0,q1,q2,q3⟩,⟨f0,f1,f2,f3⟩,⟨r0,r1,r2,r3⟩,HF⟩:=iF (M:=M) (w:=w) (L:=4) (y:=y) (jJ.out.ext aJ) (Mx.at (by omega)) (by omega) (cZ.out.trans aJ) hy Mx.sub;have dI:=ae (HF.out.ld (R:=TZ l J) (.inr ⟨HZ.out,J,q,rfl,HK.out.1,HK.out.2,HD.out,rfl⟩));clear HF jJ hy aJ CJ cZ;go_wp2;exact bu (v:=.agg (ak y)) (by simp[results,Tryz.results115,go_sem,r0,r1,r2,r3]) rfl dI.out
end Go.Proofs.YtmcfpnmoklnhoaaGreat
