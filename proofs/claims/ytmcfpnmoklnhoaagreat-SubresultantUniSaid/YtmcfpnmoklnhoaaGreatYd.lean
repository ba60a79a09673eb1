/- Yd -/
import Derived.Test.YtmcfpnmoklnhoaaGreatYc
import Derived.RangeFuncNested
import Derived.RangeFuncLeaves
set_option linter.unusedVariables false
set_option maxRecDepth 100000
set_option maxHeartbeats 400000000
set_option linter.unusedSimpArgs false
namespace Go.Proofs.YtmcfpnmoklnhoaaGreat
open Go.RowKit
theorem qhf{α:Int}{l:List Tm}(nl:NN l):ae (ai (cst α) l) (smul α l):=vM (Ar (pK _) nl) (MZ nl) λx=>by
 rw[bQ x (pK _) nl,ze,show ev x (cst α)=α from qm x α]
theorem qhe{a:Int}(h:a≠0):¬ae (cst a) []:=λhs=>h (qrE (l:=cst a) (ae.refl _) (hs.trans Z9.symm))
theorem qs9{J:Nat}{F G F' G':List Tm}{α β:Int}{k:Nat}(nF:NN F)(nG:NN G)(VD:NN F')(JH:NN G')(hα:α≠0)(hβ:β≠0)(hF:ae (smul α F') F)(hG:ae (smul β G') G)(h:GK J F' G' k):GK J F G k:=by
 obtain⟨z,gz,dz⟩:=h;have vg:=(qhf (α:=α) VD).trans hF;have BL:=(qhf (α:=β) JH).trans hG;have bF:Bz J F G F':=⟨_,_,[],pK α,Un J α,qhe hα,qW 1,NN.nil,vg.trans ((JM F).symm.trans (by rw[show ai [] G=[]from rfl,List.append_nil];exact ae.refl _))⟩;have bG:Bz J F G G':=⟨_,[],_,pK β,Un J β,qhe hβ,NN.nil,qW 1,BL.trans ((JM G).symm.trans (by rw[show ai [] F=[]from rfl,List.nil_append];exact ae.refl _))⟩;obtain⟨c,u,v,nc,fc,zc,nu,nv,hb⟩:=gz.bz;refine⟨z,⟨gz.nz,gz.zz,jX.comb gz.nz VD VD nF gz.df gz.df (qW 1) (FR J) GZ (pK α) NN.nil ?_,jX.comb gz.nz JH JH nG gz.dg gz.dg (qW 1) (FR J) GZ (pK β) NN.nil ?_,Bz.comb nF nG VD JH gz.nz bF bG nc fc zc nu nv hb⟩,dz⟩
 ·exact(JM F).trans (vg.symm.trans (qgM _).symm)
 ·exact(JM G).trans (BL.symm.trans (qgM _).symm)
theorem GK.swap{J:Nat}{F G:List Tm}{k:Nat}(h:GK J F G k):GK J G F k:=by
 obtain⟨z,gz,dz⟩:=h;exact⟨z,gz.swap,dz⟩
theorem qoE{Jd:Nat}(j1:1<=Jd)(j4:Jd<=4){n:Nat}{z:Nat->Int}{c:Int}(h:∀i,i<n->c∣z i):ae (smul c (aP Jd (tz z n) λi=>(z i).tdiv c)) (aP Jd n z):=by
 refine ae.trans (λm=>?_) (qdD (L:=Jd) (z:=z) (n:=n));rw[iD]
 by_cases hm:∃i:Nat,i<tz z n/\m=xp Jd (i:Int)
 ·obtain⟨i,hi,rfl⟩:=hm;rw[DX (by omega) (by omega),DX (by omega) (by omega)];unfold aM;rw[if_pos hi,if_pos hi,Int.mul_tdiv_cancel' (h i (Nat.lt_of_lt_of_le hi (jr z n)))]
 ·have h0:∀y:Nat->Int,aB (aP Jd (tz z n) y) m=0:=λy=>Classical.byContradiction λhc=>hm (Ww (by omega) (by omega) hc);rw[h0,h0,Int.mul_zero]
theorem qdz{n k:Nat}{z:Nat->Int}{c:Int}(hc:c≠0)(h:∀i,i<n->c∣z i)(ht:tz z n=k+1):tz (λi=>(z i).tdiv c) (k+1)=k+1:=by
 have h1:=(Ho z n).resolve_left (by omega);rw[ht]at h1;refine M8 λh0=>h1 ?_
 have hk:k<n:=by have:=jr z n;omega
 have h2:(z k).tdiv c=0:=h0;obtain⟨q,hq⟩:=h k hk;rw[hq,Int.mul_tdiv_cancel_left _ hc]at h2;show z (k+1-1)=0;rw[Nat.add_sub_cancel,hq,h2,Int.mul_zero]
theorem qzN(M:Nat->Prop)(x y:eY)(w:World):
 Calls Tryz.prog 89 #[.slice x.a x.n x.p,.slice y.a y.n y.p] w λe w'=>∃ca cb,e=.returned (.func (.func 141) #[] #[.pointer (some ⟨ca,0,none⟩),.pointer (some ⟨cb,0,none⟩)])/\FH ca cb x y w'/\w.heap.size<=ca/\w.heap.size<=cb/\Ext w w':=by
 have ig:=(Ext.refl w).alloc (.cells #[.slice x.a x.n x.p] 23);have bM:=ak.Q3 w (.slice x.a x.n x.p) 23;have cZ:=ak.Q3 (w.alloc (.cells #[.slice x.a x.n x.p] 23)) (.slice y.a y.n y.p) 23;have jl:=ig.alloc (.cells #[.slice y.a y.n y.p] 23)
 have HF:Hid (∃ca cb,Ending.returned (.func (.func 141) #[] #[.pointer (some ⟨w.heap.size,0,none⟩),.pointer (some ⟨(w.alloc (.cells #[.slice x.a x.n x.p] 23)).heap.size,0,none⟩)])=.returned (.func (.func 141) #[] #[.pointer (some ⟨ca,0,none⟩),.pointer (some ⟨cb,0,none⟩)])/\FH ca cb x y ((w.alloc (.cells #[.slice x.a x.n x.p] 23)).alloc (.cells #[.slice y.a y.n y.p] 23))/\w.heap.size<=ca/\w.heap.size<=cb/\Ext w ((w.alloc (.cells #[.slice x.a x.n x.p] 23)).alloc (.cells #[.slice y.a y.n y.p] 23))):=
  ⟨_,_,rfl,⟨(bM.alloc _).cell (i:=0) (by omega),cZ.cell (i:=0) (by omega)⟩,Nat.le_refl _,ig.size,jl⟩
 clear ig bM cZ jl
 go_enter Tryz.func89,Tryz.ntmps89
 go_wp2;go_ret;have:=HF.out;simp only[World.size_alloc]at this;exact this
attribute [local go_sem] Oper.semAt_some
def qgD(Jd:Nat)(M:Nat->Prop)(w:World)(F G:List Tm)(e:Ending)(w':World):Prop:=∃(g:eY)(k:Nat),e=.returned (.slice g.a g.n g.p)/\g.ok M w'/\tz g.z g.n=k+1/\GK Jd F G k/\Ext w w'
def Xg(Jd:Nat)(M:Nat->Prop)(F G:List Tm)(D:Nat)(W0:World)(s6 s7:Value)(wx:World):Prop:=
 wx=W0/\∃(p q:eY)(m n:Nat),s6=.slice p.a p.n p.p/\s7=.slice q.a q.n q.p/\p.ok M W0/\q.ok M W0/\tz p.z p.n=m+1/\tz q.z q.n=n+1/\n<=m/\m<=6/\(∀i,i<p.n->az (p.z i).natAbs<=D)/\(∀i,i<q.n->az (q.z i).natAbs<=D)/\∀k,GK Jd (aP Jd p.n p.z) (aP Jd q.n q.z) k->GK Jd F G k
def VI(Q:Exit->Act->World->Prop):Exit->Act->World->Prop
 | .panic _,_,_=>False
 |e,a,w=>Q e a w
theorem VI.out{Q:Exit->Act->World->Prop}{e:Exit}{a:Act}{w:World}(h:VI Q e a w):Q e a w:=by
 cases e<;>first|exact h|exact h.elim
def KR(g8:Nat)(v:Value)(g5:Nat)(x:IE)(w:World):Prop:=w.cell? ⟨g8,0,none⟩=some v/\JC w g5 0 x/\g8<w.heap.size/\g5<w.heap.size
theorem KR.ext{g8:Nat}{v:Value}{g5:Nat}{x:IE}{w w':World}(h:KR g8 v g5 x w)(he:Ext w w'):KR g8 v g5 x w':=⟨by rw[he.cell h.2.2.1];exact h.1,h.2.1.ext h.2.2.2 he,Nat.lt_of_lt_of_le h.2.2.1 he.size,Nat.lt_of_lt_of_le h.2.2.2 he.size⟩
def DK(w7:World)(g8:Nat)(pre:List eY)(W:World):Prop:=Ext w7 W/\∃v,ak W g8 23 1 (λ_=>v)/\∀pre' x,pre=pre'++[x]->v=.slice x.a x.n x.p
theorem DK.same{w7:World}{g8 B:Nat}{s:List eY}{W W':World}(h:DK w7 g8 s W)(hs:Same B W W')(h7:w7.heap.size<=B)(h8:g8<B):DK w7 g8 s W':=by
 obtain⟨h1,v,h2,h3⟩:=h;exact⟨Below.trans h1 (hs.mono h7),v,h2.of_heap (hs.block g8 h8),h3⟩
theorem DK.last{w7:World}{g8:Nat}{pre:List eY}{x:eY}{W:World}(h:DK w7 g8 (pre++[x]) W):Ext w7 W/\ak W g8 23 1 (λ_=>.slice x.a x.n x.p):=by
 obtain⟨h1,v,h2,h3⟩:=h;obtain rfl:=h3 pre x rfl;exact⟨h1,h2⟩
theorem qzL(Jd:Nat)(j1:1<=Jd)(j4:Jd<=4)(M:Nat->Prop)(x y:eY)(m n D:Nat)(w:World)(hM:Mb M w)(hx:x.ok M w)(hy:y.ok M w)(tx:tz x.z x.n=m+1)(ty:tz y.z y.n=n+1)(hm:m<=6)(hn:n<=6)(Vi:x.n<=1000)(Vk:y.n<=1000)(O8:1<=D)(hD:D*15^7<=1000000000)(dx:∀i,i<x.n->az (x.z i).natAbs<=D)(dy:∀i,i<y.n->az (y.z i).natAbs<=D):
 Calls Tryz.prog 33 #[.slice x.a x.n x.p,.slice y.a y.n y.p] w (qgD Jd M w (aP Jd x.n x.z) (aP Jd y.n y.z)):=by
 have HM:=Lib.hid hM;have HX:=Lib.hid hx;have HY:=Lib.hid hy;have yR:=Lib.hid tx;have Bg:=Lib.hid ty
 have hd1:¬(((tz x.z x.n:Nat):Int)-1<0):=by omega
 have rM:¬(((tz y.z y.n:Nat):Int)-1<0):=by omega
 have HD:=Lib.hid hD;have CD:=Lib.hid (Na M x.a x.n x.p x.X x.z w hx);clear hM hx hy tx ty hD;refine callsIn_wide.1 (callsIn_of_wp_marks (F:=Fence.wide) (n:=3) Tryz.func33 rfl trivial ?_);refine wpIn_wide.2 ?_;simp only[Tryz.ntmps33,List.size_toArray,List.length_cons,List.length_nil,Nat.reduceAdd,Nat.reduceSub,Array.replicate_succ,Array.replicate_zero,List.push_toArray,List.append_toArray,List.nil_append,List.cons_append];go_wp2_with (fail);refine CD.out.mono ?_;rintro e w1 ⟨rfl,af⟩;have aL:=Lib.hid af;have Hu:=Lib.hid (Na M y.a y.n y.p y.X y.z w1 (bg.ext HY.out af));clear af CD;go_wp2_with (fail);refine Hu.out.mono ?_;rintro e w2 ⟨rfl,aA⟩;have aU:=Lib.hid (aL.out.trans aA);clear aA Hu aL
 go_upto_region 5 with(fail)
 have aN:=(Ext.refl w2).alloc (.cells #[.slice x.a x.n x.p,.slice y.a y.n y.p] 23);have bH:=ak.bf w2 #[.slice x.a x.n x.p,.slice y.a y.n y.p] 23 2 rfl
 have Pq:K3 M (w2.alloc (.cells #[.slice x.a x.n x.p,.slice y.a y.n y.p] 23)) w2.heap.size 0 2 (λj=>if j=0 then x.a else y.a) (λj=>if j=0 then x.n else y.n) (λj=>if j=0 then x.p else y.p) (λj=>if j=0 then x.X else y.X) (λj=>if j=0 then x.z else y.z):=
  ⟨bH.lt,λj hj=>by
   have h2:j=0\/j=1:=by omega
   rcases h2 with rfl|rfl
   ·exact⟨bH.cell (i:=0) (by omega),bg.ext HX.out (aU.out.trans aN)⟩
   ·exact⟨bH.cell (i:=1) (by omega),bg.ext HY.out (aU.out.trans aN)⟩⟩
 have CC:=Lib.hid (qoB M w2.heap.size 2 2 _ _ _ _ _ D _ (HM.out.ext (aU.out.trans aN)) Pq (by omega) (Nat.le_refl 2) (by omega) (λj hj=>by show(if j=0 then x.n else y.n)<=_;split<;>omega) (λj hj=>by
  show∀i,i<(if j=0 then x.n else y.n)->az ((if j=0 then x.z else y.z) i).natAbs<=D
  split
  ·exact dx
  ·exact dy) (by have:=HD.out;omega))
 have eP:=Lib.hid (aU.out.trans aN);clear aN bH Pq aU;go_wp2_with (fail);refine CC.out.mono ?_;rintro e w4 ⟨cx,c,rfl,UI,_,hcd,hcv,aW⟩
 have oM:Hid (c≠0):=λh0=>by
  have h1:=(Ho x.z x.n).resolve_left (by rw[yR.out];omega);have h2:=jr x.z x.n;rw[yR.out]at h1 h2;have h3:=hcv 0 (by omega) (m+1-1) (by show m+1-1<x.n;omega);rw[h0]at h3;exact h1 (Int.zero_dvd.1 h3)
 obtain⟨g5,kN⟩:∃g5,g5=w4.heap.size:=⟨_,rfl⟩;have aN:=(Ext.refl w4).alloc (.cells #[.bool cx.b,.slice cx.a cx.n cx.p] 30);have bH:=ak.bf w4 #[.bool cx.b,.slice cx.a cx.n cx.p] 30 2 rfl;rw[<-kN]at bH;obtain⟨W5,kL⟩:∃W5,w4.alloc (.cells #[.bool cx.b,.slice cx.a cx.n cx.p] 30)=W5:=⟨_,rfl⟩;rw[kL]at aN bH;have sG:=Lib.hid kL;have Fe:=Lib.hid kN;have eD:=Lib.hid (eP.out.trans (aW.trans aN));have vQ:=Lib.hid bH;have qpf:=Lib.hid (UI.ext aN);have AQ:=Lib.hid hcd
 have Qs:w.heap.size<=g5:=by have:=(eP.out.trans aW).size;omega
 have HWG:=Lib.hid Qs;have C6:=Lib.hid (qdA M x.a x.n x.p x.X x.z D W5 (HM.out.ext eD.out) (bg.ext HX.out eD.out) (by rw[yR.out];omega) (by omega) dx (by have:=HD.out;omega));clear kL kN aN bH UI hcd hcv aW Qs CC eP
 go_upto_region 6 with(fail)
 rw[sG.out, <-Fe.out];clear sG Fe;go_wp2_with (fail);refine C6.out.mono ?_;rintro e w6 ⟨c1,dR,hv1,a1,X1,rfl,hu1,fe⟩;have fw:=Lib.hid (eD.out.trans fe);have C7:=Lib.hid (qdA M y.a y.n y.p y.X y.z D w6 (HM.out.ext fw.out) (bg.ext HY.out fw.out) (by rw[Bg.out];omega) (by omega) dy (by have:=HD.out;omega));have Dx:=Lib.hid hu1;have Kb:=Lib.hid fe;have Oe:Hid (c1≠0/\∀i,i<x.n->c1∣x.z i):=⟨dR,hv1⟩;clear dR hv1 hu1 fe C6;go_wp2_with (fail);refine C7.out.mono ?_;rintro e w7 ⟨c2,dO,hv2,a2,X2,rfl,oJ,fE⟩;have iB:=Lib.hid (fw.out.trans fE);have Kc:=Lib.hid (Kb.out.trans fE);have SS:=Lib.hid (Dx.out.ext fE);have yS:=Lib.hid oJ;have yT:Hid (c2≠0/\∀i,i<y.n->c2∣y.z i):=⟨dO,hv2⟩;clear dO hv2 oJ fE C7 fw Dx Kb eD;rw[yR.out]at SS⊢;rw[Bg.out]at yS⊢;obtain⟨W8,vD⟩:∃W8,W8=w7:=⟨_,rfl⟩;clear hd1 rM
 go_upto_if 34 with(fail)
 clear vD
 go_cut [6,7]from 35 to 48 (Xg Jd M (aP Jd x.n x.z) (aP Jd y.n y.z) D w7)
 case first=>
  have b1:∀i,i<m+1->az ((x.z i).tdiv c1).natAbs<=D:=λi hi=>by
   rw[Int.natAbs_tdiv];exact Nat.le_trans (ji (Nat.div_le_self _ _)) (dx i (by have:=jr x.z x.n;rw[yR.out]at this;omega))
  have b2:∀i,i<n+1->az ((y.z i).tdiv c2).natAbs<=D:=λi hi=>by
   rw[Int.natAbs_tdiv];exact Nat.le_trans (ji (Nat.div_le_self _ _)) (dy i (by have:=jr y.z y.n;rw[Bg.out]at this;omega))
  have t1:=qdz Oe.out.1 Oe.out.2 yR.out;have t2:=qdz yT.out.1 yT.out.2 Bg.out
  have gk:∀k,GK Jd (aP Jd (m+1) λi=>(x.z i).tdiv c1) (aP Jd (n+1) λi=>(y.z i).tdiv c2) k->GK Jd (aP Jd x.n x.z) (aP Jd y.n y.z) k:=λk hk=>by
   have e1:=qoE j1 j4 Oe.out.2;have e2:=qoE j1 j4 yT.out.2;rw[yR.out]at e1;rw[Bg.out]at e2;exact qs9 (pM _ _ _) (pM _ _ _) (pM _ _ _) (pM _ _ _) Oe.out.1 yT.out.1 e1 e2 hk
  by_cases hlt:m<n
  ·have HF:Hid (Xg Jd M (aP Jd x.n x.z) (aP Jd y.n y.z) D w7 (.slice a2 (n+1) (n+1)) (.slice a1 (m+1) (m+1)) w7):=
    ⟨rfl,⟨a2,n+1,n+1,X2,λi=>(y.z i).tdiv c2⟩,⟨a1,m+1,m+1,X1,λi=>(x.z i).tdiv c1⟩,n,m,rfl,rfl,yS.out,SS.out,t2,t1,by omega,hn,b2,b1,λk hk=>gk k hk.swap⟩
   clear b1 b2 t1 t2 gk;go_wp2_with (fail)
   go_meet
   exact HF.out
  ·have HF:Hid (Xg Jd M (aP Jd x.n x.z) (aP Jd y.n y.z) D w7 (.slice a1 (m+1) (m+1)) (.slice a2 (n+1) (n+1)) w7):=
    ⟨rfl,⟨a1,m+1,m+1,X1,λi=>(x.z i).tdiv c1⟩,⟨a2,n+1,n+1,X2,λi=>(y.z i).tdiv c2⟩,m,n,rfl,rfl,SS.out,yS.out,t1,t2,by omega,hm,b1,b2,gk⟩
   clear b1 b2 t1 t2 gk;go_wp2_with (fail)
   go_meet
   exact HF.out
 case rest=>
  obtain⟨rfl,p,q,m',n',rfl,rfl,hp,hq,tp,tq,gY,yh,dp,dq,gk⟩:=hcut;have RY:=Lib.hid gk;obtain⟨g8,LY⟩:∃g8,g8=wc.heap.size:=⟨_,rfl⟩;have aN:=(Ext.refl wc).alloc (.cells #[.slice none 0 0] 23);have bH:=ak.Q3 wc (.slice none 0 0) 23;rw[<-LY]at bH;obtain⟨W9,mG⟩:∃W9,wc.alloc (.cells #[.slice none 0 0] 23)=W9:=⟨_,rfl⟩;rw[mG]at aN bH;have uT:=Lib.hid mG;have XN:=Lib.hid LY;have HP:=Lib.hid hp;have HQ:=Lib.hid hq;have YL:=Lib.hid tp;have Kv:=Lib.hid tq;have dW:=Lib.hid aN;have Xm:=Lib.hid bH;have HDP:=Lib.hid dp;have tO:=Lib.hid dq;have CR:=Lib.hid (qzN M p q W9);clear mG aN bH LY hp hq tp tq gk dp dq SS yS Oe yT dx dy;go_wp2_with (fail);rw[uT.out, <-XN.out];clear uT;refine CR.out.mono ?_;rintro e fU ⟨ca,cb,rfl,hS,hca,yf,Ca⟩
  have qBB:wc.heap.size<=g8:=by rw[XN.out];exact Nat.le_refl _
  have D5:=dW.out.trans Ca;have Gv:∀b,((M b\/b=g8)\/b=fU.heap.size)->M b\/wc.heap.size<=b:=λb h=>h.elim (λh=>h.imp id λe=>by omega) λe=>.inr (by have:=D5.size;omega);have hMc:Mb M wc:=HM.out.ext iB.out;have qi1:Mb (λb=>M b\/b=g8) fU:=mO (hMc.ext D5) (Nat.lt_of_lt_of_le Xm.out.lt Ca.size);have h8l:=Xm.out.lt
  have Oj:Hid (ZH (λb=>(M b\/b=g8)\/b=fU.heap.size) 2 Tryz.prog 141 #[.pointer (some ⟨ca,0,none⟩),.pointer (some ⟨cb,0,none⟩)] Bn (IB Jd (aP Jd p.n p.z) (aP Jd q.n q.z)) (KM Jd (aP Jd p.n p.z) (aP Jd q.n q.z)) fU):=by
   have mJ:∀b,W9.heap.size<=b->b<fU.heap.size->¬((M b\/b=g8)\/b=fU.heap.size):=λb hb gX h=>h.elim (λh=>h.elim (λh=>by have:=hMc b h;have:=dW.out.size;omega) λh=>by omega) λh=>by omega
   exact qym Jd j1 j4 _ fU ca cb p q m' n' D hS ⟨mJ ca hca (World.block_lt_of_cell? _ _ hS.1),mJ cb yf (World.block_lt_of_cell? _ _ hS.2)⟩ (bg.ext (bg.more HP.out Gv) D5) (bg.ext (bg.more HQ.out Gv) D5) YL.out Kv.out gY yh O8 HD.out HDP.out tO.out
  have qqe:=Lib.hid hS;have Kh:=Lib.hid qi1;have su:=Lib.hid D5;have Hz:=Lib.hid (Xm.out.ext Ca);clear hS hca yf Ca hMc D5 qi1 CR;have h7:wc.heap.size<=fU.heap.size:=su.out.size;have h8:g8<fU.heap.size:=Hz.out.lt;have R6:Hid (DK wc g8 [] fU):=⟨su.out,_,Hz.out,λpre' x h=>by simp at h⟩;go_wp2;refine(wpIn_wide (n:=3)).1 ?_;apply qz7 (n:=3) (by omega) (gf:=141) (lb:= #[.pointer (some ⟨ca,0,none⟩),.pointer (some ⟨cb,0,none⟩)]) rfl (enters_of Tryz.func141 (by kernel_rfl) rfl) Oj.out (Below.refl _ _) rfl (λb hb=>Kh.out b hb) (DK wc g8) (λs A B h hs=>h.same hs h7 h8) 1 (λx'=>{tmps:= #[.slice x.a x.n x.p,.slice y.a y.n y.p,undef,undef,.slice none 0 0,.pointer (some ⟨g5,0,none⟩),.slice p.a p.n p.p,.slice q.a q.n q.p,.pointer (some ⟨g8,0,none⟩),.slice x'.a x'.n x'.p,.bool (decide ((m:Int)<0)),.slice x.a x.n x.p,.int .i64 (m:Int),.bool (decide ((m:Int)<0)),undef,undef,.bool (decide ((n:Int)<0)),.slice y.a y.n y.p,.int .i64 (n:Int),.bool (decide ((n:Int)<0)),undef,undef,.slice x.a x.n x.p,.slice y.a y.n y.p,.slice (some ⟨w2.heap.size,0,none⟩) 2 2,.agg #[.bool cx.b,.slice cx.a cx.n cx.p],.slice x.a x.n x.p,.slice a1 (m+1) (m+1),.slice y.a y.n y.p,.slice a2 (n+1) (n+1),.slice a1 (m+1) (m+1),.int .i64 ((m:Int)+1),.slice a2 (n+1) (n+1),.int .i64 ((n:Int)+1),.bool (decide (m<n)),u35,u36,.slice p.a p.n p.p,.slice q.a q.n q.p,.func (.func 141) #[] #[.pointer (some ⟨ca,0,none⟩),.pointer (some ⟨cb,0,none⟩)],.slice x'.a x'.n x'.p,u41,u42,u43,u44,u45,u46,u47,u48],defers:=[]})
  case hassign=>
   intro lq x' W K hK
   gi_wp2
   exact hK
  case h0=>exact R6.out
  case hbody=>
   intro lq pre x' W hi hsz gJ gI;obtain⟨i1,v,i2,_⟩:=hi;have c0:=i2.cell (i:=0) (by omega);have f0:=i2.frozen 0;have g0:=i2.lt;have aZ:Kp (λb=>M b\/b=g8) W (W.setCell ⟨g8,0,none⟩ (.slice x'.a x'.n x'.p)):=Kp.set _ W (p:=⟨g8,0,none⟩) (.inr rfl) _;have Cc:Kp (XL (λb=>(M b\/b=g8)\/b=fU.heap.size) lq) W (W.setCell ⟨g8,0,none⟩ (.slice x'.a x'.n x'.p)):=Kp.set _ W (p:=⟨g8,0,none⟩) (.inl (.inl (.inr rfl))) _
   have hB':ak (W.setCell ⟨g8,0,none⟩ (.slice x'.a x'.n x'.p)) g8 23 1 (λ_=>.slice x'.a x'.n x'.p):=(i2.set 0 (.slice x'.a x'.n x'.p)).congr λi hi=>by
    obtain rfl:i=0:=by omega
    rfl
   have hE':Ext wc (W.setCell ⟨g8,0,none⟩ (.slice x'.a x'.n x'.p)):=i1.set (p:=⟨g8,0,none⟩) (by rw[XN.out];exact Nat.le_refl _) _;have tY:=Lib.hid aZ;have Rz:=Lib.hid hB';have RV:=Lib.hid hE';have CD:=Lib.hid (Na _ x'.a x'.n x'.p x'.X x'.z _ (bg.kp gJ Cc));clear aZ Cc hB' hE' gJ gI i1 i2
   by_cases hz:tz x'.z x'.n=1
   ·have hb:((((tz x'.z x'.n:Nat):Int)-1)==0)=true:=by rw[hz];rfl
    have HZ:=Lib.hid hz;clear hz
    gi_wp2_with (fail)
    refine⟨trivial,?_⟩;show CallsIn Fence.wide 0 Tryz.prog 23 _ _ _;refine callsIn_wide.2 (CD.out.mono ?_);rintro e wd ⟨rfl,jA⟩
    have HN:Hid (DK wc g8 (pre++[x']) wd):=⟨RV.out.trans jA,_,Rz.out.ext jA,λpre' y' h=>by
     have h2:=(List.append_inj' h rfl).2;simp only[List.cons.injEq,and_true]at h2
     rw[h2]⟩
    have kV:Hid (Kp (λb=>M b\/b=g8) W wd):=tY.out.trans (Kp.jC jA);clear CD jA tY Rz RV c0 f0 g0
    gi_wp2
    exact⟨rfl,HZ.out,kV.out,HN.out⟩
   ·have hb:((((tz x'.z x'.n:Nat):Int)-1)==0)=false:=by rw[beq_eq_false_iff_ne];omega
    have HZ:=Lib.hid hz;clear hz
    gi_wp2_with (fail)
    refine⟨trivial,?_⟩;show CallsIn Fence.wide 0 Tryz.prog 23 _ _ _;refine callsIn_wide.2 (CD.out.mono ?_);rintro e wd ⟨rfl,jA⟩
    have HN:Hid (DK wc g8 (pre++[x']) wd):=⟨RV.out.trans jA,_,Rz.out.ext jA,λpre' y' h=>by
     have h2:=(List.append_inj' h rfl).2;simp only[List.cons.injEq,and_true]at h2
     rw[h2]⟩
    have kV:Hid (Kp (λb=>M b\/b=g8) W wd):=tY.out.trans (Kp.jC jA);clear CD jA tY Rz RV c0 f0 g0
    gi_wp2
    exact⟨HZ.out,kV.out,HN.out⟩
  case' hstop=>
   intro pre x' W hsz hS gI gJ hi uu;have lK:Hid (IB Jd (aP Jd p.n p.z) (aP Jd q.n q.z) x'):=⟨0,hS.1,hS.2⟩;clear hS;apply wpIn_exit
  case' hdone=>
   intro pre x' W hsz hS gI gJ hi uu;have lK:=Lib.hid hS;clear hS
  all_goals
   obtain⟨i1,i2⟩:=hi.last;have hDl:fU.heap.size<W.heap.size:=(Array.getElem?_eq_some_iff.1 uu).1;have ED:W5.heap.size<=fU.heap.size:=Nat.le_trans Kc.out.size h7;have hww:w.heap.size<=fU.heap.size:=Nat.le_trans iB.out.size h7;have FY:=iB.out.trans i1;have kH:Hid (Mb (λb=>M b\/b=fU.heap.size) W):=mO (HM.out.ext FY) hDl;have mr:Hid (eY.ok (λb=>M b\/b=fU.heap.size) W x'):=bg.more gJ λb h=>.inl (h.imp .inl id);have qpa:Hid (IX (λb=>M b\/b=fU.heap.size) W cx c):=(qpf.out.more λb h=>h.imp id λe=>by omega).ext (Kc.out.trans i1);have jO:=(vQ.out.ext Kc.out).ext i1;have cO:=(Ext.refl W).drew;have hS:KR g8 (.slice x'.a x'.n x'.p) g5 cx W.drew:=KR.ext ⟨i2.cell (i:=0) (by omega),kY jO,i2.lt,jO.lt⟩ cO;have bL:=Lib.hid FY;have ic:=Lib.hid uu;have AY:=Lib.hid gI;have HWW:=Lib.hid hww;clear i1 i2 gJ hi uu gI jO FY ED hww;have qpu:=RY;clear h7 h8 R6 Oj Hz Kh qqe su RY
   go_upto_region 14 with(fail)
   refine Go.Code.wp_mono (λ_ _ _=>VI.out) ?_;refine Rw (KR g8 (.slice x'.a x'.n x'.p) g5 cx) 4 (by kernel_rfl) hS (λhHeld=>?_);clear hS;generalize W.drew=wd at*;have HMd:=Lib.hid (kH.out.ext cO);have Ol:Hid (eY.ok (λb=>M b\/b=fU.heap.size) wd x'):=bg.ext mr.out cO;have HCd:=Lib.hid (qpa.out.ext cO);have C1:=Lib.hid (λ(W':World)(he:Ext wd W')=>qdA (λb=>M b\/b=fU.heap.size) x'.a x'.n x'.p x'.X x'.z 1000000000 W' (HMd.out.ext he) (bg.ext Ol.out he) AY.out.2.1 (Nat.le_trans AY.out.1 (by decide)) AY.out.2.2 (by decide))
   ((refine pQ 0 (v:=?_) ?_ ?_;rotate_left 1;(intro wS hSw;obtain⟨S1,⟨S2,S3⟩,S4,S5⟩:=hSw;go_simp;try with_reducible rfl);(try simp only[Act.put,aD,aF,aG]));(refine pQ 2 (v:=?_) ?_ ?_;rotate_left 1;(intro wS hSw;obtain⟨S1,⟨S2,S3⟩,S4,S5⟩:=hSw;go_simp;try with_reducible rfl);(try simp only[Act.put,aD,aF,aG])))
   ((refine uJ 1 ?_;intro K hK);go_simp;(refine(C1.out _ (Ext.refl _)).mono ?_);rintro e_ u1 ⟨c3,oH,GJ,a3,X3,rfl,Qm,bN⟩;go_wp2_with (fail);(try clear ag);(have ag:=hHeld.ext bN);(refine hK.out _ _ (λ_ _=>ag) ?_);clear hK K;(try simp only[Act.put,aD,aF,aG]))
   have b3:∀i,i<tz x'.z x'.n->az ((x'.z i).tdiv c3).natAbs<=1000000000:=λi hi=>by
    rw[Int.natAbs_tdiv];exact Nat.le_trans (ji (Nat.div_le_self _ _)) (AY.out.2.2 i (Nat.lt_of_lt_of_le hi (jr _ _)))
   have C3:=Lib.hid (qzT (λb=>M b\/b=fU.heap.size) a3 _ _ X3 _ cx c 1000000000 D u1 (HMd.out.ext bN) Qm (HCd.out.ext bN) b3 AQ.out (by have:=HD.out;omega));have Io:Hid (c3≠0/\∀i,i<x'.n->c3∣x'.z i):=⟨oH,GJ⟩;clear Qm b3 oH GJ
   ((refine uJ 3 ?_;intro K hK);go_simp;(refine(C3.out).mono ?_);rintro e_ u2 ⟨a4,cp4,X4,rfl,Qn,iG⟩;go_wp2_with (fail);(try clear ag);(have ag:=hHeld.ext (bN.trans iG));(refine hK.out _ _ (λ_ _=>ag) ?_);clear hK K;(try simp only[Act.put,aD,aF,aG]))
   have fV:=Lib.hid (bL.out.trans (cO.trans (bN.trans iG)));have HD4:Hid (u2.heap[fU.heap.size]?=some (.deferred (some []))):=((cO.trans (bN.trans iG)).heap hDl).trans ic.out;have Fw:=Lib.hid Qn;clear Qn cO bN iG C1 C3 hHeld ag bL ic
   ((refine uJ 4 ?_;intro K hK);go_simp;(refine hK.out _ _ (λh=>absurd rfl h) ?_);clear hK K;refine Rs ?_)
   simp only[VI];go_wp2;obtain⟨k,hk,gk⟩:=lK.out;have pI:Kp (λb=>M b\/b=fU.heap.size) u2 (u2.putObj fU.heap.size (.deferred none)):=⟨by simp[World.putObj],λb _ hb=>World.putObj_heap_other λe=>hb (.inr e)⟩;have tk:=qdz Io.out.1 Io.out.2 hk;rw[hk]at Fw⊢;have te:tz (λi=>c*(x'.z i).tdiv c3) (k+1)=k+1:=(qoA oM.out (λi=>(x'.z i).tdiv c3) (k+1)).trans tk;rw[te]at Fw⊢;refine⟨by simp,.inl ⟨_,_,rfl,run_takeDeferred HD4.out,?_⟩⟩;refine⟨.slice a4 (k+1) cp4,by simp[results,Tryz.results33,go_sem],?_⟩;exact⟨⟨a4,k+1,cp4,X4,λi=>c*(x'.z i).tdiv c3⟩,k,rfl,bg.more (bg.kp Fw.out pI) (λb h=>.inl (.inl h)),te,qpu.out k gk,Below.trans fV.out (G8 _ HWW.out)⟩
end Go.Proofs.YtmcfpnmoklnhoaaGreat
