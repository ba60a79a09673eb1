/- Yd -/
import Derived.Test.YtmcfpnmoklnhoaaGreatYc
import Derived.RangeFuncNested
import Derived.RangeFuncLeaves
import Derived.Test.YtmcfpnmoklnhoaaGreatWa
set_option linter.unusedVariables false
set_option maxRecDepth 100000
set_option maxHeartbeats 400000000
set_option linter.unusedSimpArgs false
namespace Go.Proofs.YtmcfpnmoklnhoaaGreat
open Go.RowKit
theorem qi6{α:Int}{l:List Tm}(nl:NN l):af (aF (cst α) l) (smul α l):=tY (BO (mO _) nl) (OV nl) λx=>by
 rw[di x (mO _) nl,yS,show ev x (cst α)=α from nK x α]
theorem qi5{a:Int}(h:a≠0):¬af (cst a) []:=λhs=>h (Qv (l:=cst a) (af.refl _) (hs.trans GY.symm))
theorem qvA{J:Nat}{F G F' G':List Tm}{α β:Int}{k:Nat}(nF:NN F)(nG:NN G)(XU:NN F')(Lc:NN G')(hα:α≠0)(hβ:β≠0)(hF:af (smul α F') F)(hG:af (smul β G') G)(h:GK J F' G' k):GK J F G k:=by
 obtain⟨z,gz,dz⟩:=h;have tF:=(qi6 (α:=α) XU).trans hF;have Dw:=(qi6 (α:=β) Lc).trans hG;have bF:Bz J F G F':=⟨_,_,[],mO α,V6 J α,qi5 hα,oM 1,NN.nil,tF.trans ((Lh F).symm.trans (by rw[show aF [] G=[]from rfl,List.append_nil];exact af.refl _))⟩;have bG:Bz J F G G':=⟨_,[],_,mO β,V6 J β,qi5 hβ,NN.nil,oM 1,Dw.trans ((Lh G).symm.trans (by rw[show aF [] F=[]from rfl,List.nil_append];exact af.refl _))⟩;obtain⟨c,u,v,nc,fc,zc,nu,nv,hb⟩:=gz.bz;refine⟨z,⟨gz.nz,gz.zz,kZ.comb gz.nz XU XU nF gz.df gz.df (oM 1) (G6 J) I1 (mO α) NN.nil ?_,kZ.comb gz.nz Lc Lc nG gz.dg gz.dg (oM 1) (G6 J) I1 (mO β) NN.nil ?_,Bz.comb nF nG XU Lc gz.nz bF bG nc fc zc nu nv hb⟩,dz⟩
 ·exact(Lh F).trans (tF.symm.trans (qiG _).symm)
 ·exact(Lh G).trans (Dw.symm.trans (qiG _).symm)
theorem GK.swap{J:Nat}{F G:List Tm}{k:Nat}(h:GK J F G k):GK J G F k:=by
 obtain⟨z,gz,dz⟩:=h;exact⟨z,gz.swap,dz⟩
theorem qqR{Jd:Nat}(j1:1<=Jd)(j4:Jd<=4){n:Nat}{z:Nat->Int}{c:Int}(h:∀i,i<n->c∣z i):af (smul c (aU Jd (tz z n) λi=>(z i).tdiv c)) (aU Jd n z):=by
 refine af.trans (λm=>?_) (qe7 (L:=Jd) (z:=z) (n:=n));rw[iM]
 by_cases hm:∃i:Nat,i<tz z n/\m=xp Jd (i:Int)
 ·obtain⟨i,hi,rfl⟩:=hm;rw[EY (by omega) (by omega),EY (by omega) (by omega)];unfold aP;rw[ai hi,ai hi,Int.mul_tdiv_cancel' (h i (dH hi (iR z n)))]
 ·have h0:∀y:Nat->Int,aL (aU Jd (tz z n) y) m=0:=λy=>eF λhc=>hm (YH (by omega) (by omega) hc);rw[h0,h0,Int.mul_zero]
theorem qeZ{n k:Nat}{z:Nat->Int}{c:Int}(hc:c≠0)(h:∀i,i<n->c∣z i)(ht:tz z n=k+1):tz (λi=>(z i).tdiv c) (k+1)=k+1:=by
 have h1:=(Jl z n).resolve_left (by omega);rw[ht]at h1;refine OY λh0=>h1 ?_
 have hk:k<n:=by have:=iR z n;omega
 have h2:(z k).tdiv c=0:=h0;obtain⟨q,hq⟩:=h k hk;rw[hq,Int.mul_tdiv_cancel_left _ hc]at h2;show z (k+1-1)=0;rw[Nat.add_sub_cancel,hq,h2,Int.mul_zero]
theorem qCl(M:Nat->Prop)(x y:gD)(w:World):
 Calls Tryz.prog 89 #[.slice x.a x.n x.p,.slice y.a y.n y.p] w λe w'=>∃ca cb,e=.returned (.func (.func 141) #[] #[.pointer (some ⟨ca,0,none⟩),.pointer (some ⟨cb,0,none⟩)])/\GH ca cb x y w'/\w.heap.size<=ca/\w.heap.size<=cb/\Ext w w':=by
 have iN:=(aA w).alloc (.cells #[.slice x.a x.n x.p] 23);have dm:=aG.Tn w (.slice x.a x.n x.p) 23;have dJ:=aG.Tn (w.alloc (.cells #[.slice x.a x.n x.p] 23)) (.slice y.a y.n y.p) 23;have lK:=iN.alloc (.cells #[.slice y.a y.n y.p] 23)
 have HF:Hid (∃ca cb,Ending.returned (.func (.func 141) #[] #[.pointer (some ⟨w.heap.size,0,none⟩),.pointer (some ⟨(w.alloc (.cells #[.slice x.a x.n x.p] 23)).heap.size,0,none⟩)])=.returned (.func (.func 141) #[] #[.pointer (some ⟨ca,0,none⟩),.pointer (some ⟨cb,0,none⟩)])/\GH ca cb x y ((w.alloc (.cells #[.slice x.a x.n x.p] 23)).alloc (.cells #[.slice y.a y.n y.p] 23))/\w.heap.size<=ca/\w.heap.size<=cb/\Ext w ((w.alloc (.cells #[.slice x.a x.n x.p] 23)).alloc (.cells #[.slice y.a y.n y.p] 23))):=
  ⟨_,_,rfl,⟨(dm.alloc _).cell (i:=0) (by omega),dJ.cell (i:=0) (by omega)⟩,aI _,iN.size,lK⟩
 clear iN dm dJ lK
 go_enter Tryz.func89,Tryz.ntmps89
 go_wp2;go_ret;have:=HF.out;simp only[World.size_alloc]at this;exact this
attribute [local go_sem] Oper.semAt_some
def qsT(Jd:Nat)(M:Nat->Prop)(w:World)(F G:List Tm)(e:Ending)(w':World):Prop:=∃(g:gD)(k:Nat),e=.returned (.slice g.a g.n g.p)/\g.ok M w'/\tz g.z g.n=k+1/\GK Jd F G k/\Ext w w'
def Y7(Jd:Nat)(M:Nat->Prop)(F G:List Tm)(D:Nat)(W0:World)(s6 s7:Value)(wx:World):Prop:=
 wx=W0/\∃(p q:gD)(m n:Nat),s6=.slice p.a p.n p.p/\s7=.slice q.a q.n q.p/\p.ok M W0/\q.ok M W0/\tz p.z p.n=m+1/\tz q.z q.n=n+1/\n<=m/\m<=6/\(∀i,i<p.n->aH (p.z i).natAbs<=D)/\(∀i,i<q.n->aH (q.z i).natAbs<=D)/\∀k,GK Jd (aU Jd p.n p.z) (aU Jd q.n q.z) k->GK Jd F G k
def X5(Q:Exit->Act->World->Prop):Exit->Act->World->Prop
 | .panic _,_,_=>False
 |e,a,w=>Q e a w
theorem X5.out{Q:Exit->Act->World->Prop}{e:Exit}{a:Act}{w:World}(h:X5 Q e a w):Q e a w:=by
 cases e<;>first|exact h|exact h.elim
def MM(g8:Nat)(v:Value)(g5:Nat)(x:IE)(w:World):Prop:=w.cell? ⟨g8,0,none⟩=some v/\JC w g5 0 x/\g8<w.heap.size/\g5<w.heap.size
theorem MM.ext{g8:Nat}{v:Value}{g5:Nat}{x:IE}{w w':World}(h:MM g8 v g5 x w)(he:Ext w w'):MM g8 v g5 x w':=⟨by rw[he.cell h.2.2.1];exact h.1,h.2.1.ext h.2.2.2 he,dH h.2.2.1 he.size,dH h.2.2.2 he.size⟩
def EL(w7:World)(g8:Nat)(pre:List gD)(W:World):Prop:=Ext w7 W/\∃v,aG W g8 23 1 (λ_=>v)/\∀pre' x,pre=pre'++[x]->v=.slice x.a x.n x.p
theorem EL.same{w7:World}{g8 B:Nat}{s:List gD}{W W':World}(h:EL w7 g8 s W)(hs:Same B W W')(h7:w7.heap.size<=B)(h8:g8<B):EL w7 g8 s W':=by
 obtain⟨h1,v,h2,h3⟩:=h;exact⟨Below.trans h1 (hs.mono h7),v,h2.of_heap (hs.block g8 h8),h3⟩
theorem EL.last{w7:World}{g8:Nat}{pre:List gD}{x:gD}{W:World}(h:EL w7 g8 (pre++[x]) W):Ext w7 W/\aG W g8 23 1 (λ_=>.slice x.a x.n x.p):=by
 obtain⟨h1,v,h2,h3⟩:=h;obtain rfl:=h3 pre x rfl;exact⟨h1,h2⟩
theorem qCj(Jd:Nat)(j1:1<=Jd)(j4:Jd<=4)(M:Nat->Prop)(x y:gD)(m n D:Nat)(w:World)(hM:Mb M w)(hx:x.ok M w)(hy:y.ok M w)(tx:tz x.z x.n=m+1)(ty:tz y.z y.n=n+1)(hm:m<=6)(hn:n<=6)(KZ:x.n<=1000)(K4:y.n<=1000)(G8:1<=D)(hD:D*15^7<=1000000000)(dx:∀i,i<x.n->aH (x.z i).natAbs<=D)(dy:∀i,i<y.n->aH (y.z i).natAbs<=D):
 Calls Tryz.prog 33 #[.slice x.a x.n x.p,.slice y.a y.n y.p] w (qsT Jd M w (aU Jd x.n x.z) (aU Jd y.n y.z)):=by
 have HM:=ae hM;have HX:=ae hx;have HY:=ae hy;have Ap:=ae tx;have Cz:=ae ty
 have hd1:¬(((tz x.z x.n:Nat):Int)-1<0):=by omega
 have tK:¬(((tz y.z y.n:Nat):Int)-1<0):=by omega
 have HD:=ae hD;have CD:=ae (LJ M x.a x.n x.p x.X x.z w hx);clear hM hx hy tx ty hD;refine callsIn_wide.1 (callsIn_of_wp_marks (F:=Fence.wide) (n:=3) Tryz.func33 rfl trivial ?_);refine wpIn_wide.2 ?_;simp only[Tryz.ntmps33,List.size_toArray,List.length_cons,List.length_nil,Nat.reduceAdd,Nat.reduceSub,Array.replicate_succ,Array.replicate_zero,List.push_toArray,List.append_toArray,List.nil_append,List.cons_append];go_wp2_with (fail);refine CD.out.mono ?_;rintro e w1 ⟨rfl,az⟩;have aS:=ae az;have TY:=ae (LJ M y.a y.n y.p y.X y.z w1 (bC.ext HY.out az));clear az CD;go_wp2_with (fail);refine TY.out.mono ?_;rintro e w2 ⟨rfl,aJ⟩;have aZ:=ae (aS.out.trans aJ);clear aJ TY aS
 go_upto_region 5 with(fail)
 have aT:=(aA w2).alloc (.cells #[.slice x.a x.n x.p,.slice y.a y.n y.p] 23);have bQ:=aG.bq w2 #[.slice x.a x.n x.p,.slice y.a y.n y.p] 23 2 rfl
 have Ra:M5 M (w2.alloc (.cells #[.slice x.a x.n x.p,.slice y.a y.n y.p] 23)) w2.heap.size 0 2 (λj=>if j=0 then x.a else y.a) (λj=>if j=0 then x.n else y.n) (λj=>if j=0 then x.p else y.p) (λj=>if j=0 then x.X else y.X) (λj=>if j=0 then x.z else y.z):=
  ⟨bQ.lt,λj hj=>by
   have h2:j=0\/j=1:=by omega
   rcases h2 with rfl|rfl
   ·exact⟨bQ.cell (i:=0) (by omega),bC.ext HX.out (aZ.out.trans aT)⟩
   ·exact⟨bQ.cell (i:=1) (by omega),bC.ext HY.out (aZ.out.trans aT)⟩⟩
 have CC:=ae (qqO M w2.heap.size 2 2 _ _ _ _ _ D _ (HM.out.ext (aZ.out.trans aT)) Ra (by omega) (aI 2) (by omega) (λj hj=>by show(if j=0 then x.n else y.n)<=_;split<;>omega) (λj hj=>by
  show∀i,i<(if j=0 then x.n else y.n)->aH ((if j=0 then x.z else y.z) i).natAbs<=D
  split
  ·exact dx
  ·exact dy) (by have:=HD.out;omega))
 have dM:=ae (aZ.out.trans aT);clear aT bQ Ra aZ;go_wp2_with (fail);refine CC.out.mono ?_;rintro e w4 ⟨cx,c,rfl,Wz,_,hcd,hcv,bB⟩
 have qh:Hid (c≠0):=λh0=>by
  have h1:=(Jl x.z x.n).resolve_left (by rw[Ap.out];omega);have h2:=iR x.z x.n;rw[Ap.out]at h1 h2;have h3:=hcv 0 (by omega) (m+1-1) (by show m+1-1<x.n;omega);rw[h0]at h3;exact h1 (Int.zero_dvd.1 h3)
 obtain⟨g5,mH⟩:∃g5,g5=w4.heap.size:=⟨_,rfl⟩;have aT:=(aA w4).alloc (.cells #[.bool cx.b,.slice cx.a cx.n cx.p] 30);have bQ:=aG.bq w4 #[.bool cx.b,.slice cx.a cx.n cx.p] 30 2 rfl;rw[<-mH]at bQ;obtain⟨W5,mf⟩:∃W5,w4.alloc (.cells #[.bool cx.b,.slice cx.a cx.n cx.p] 30)=W5:=⟨_,rfl⟩;rw[mf]at aT bQ;have uj:=ae mf;have Gh:=ae mH;have dV:=ae (dM.out.trans (bB.trans aT));have oQ:=ae bQ;have qrt:=ae (Wz.ext aT);have Cf:=ae hcd
 have Sc:w.heap.size<=g5:=by have:=(dM.out.trans bB).size;omega
 have HWG:=ae Sc;have C6:=ae (qe2 M x.a x.n x.p x.X x.z D W5 (HM.out.ext dV.out) (bC.ext HX.out dV.out) (by rw[Ap.out];omega) (by omega) dx (by have:=HD.out;omega));clear mf mH aT bQ Wz hcd hcv bB Sc CC dM
 go_upto_region 6 with(fail)
 rw[uj.out, <-Gh.out];clear uj Gh;go_wp2_with (fail);refine C6.out.mono ?_;rintro e w6 ⟨c1,fF,hv1,a1,X1,rfl,hu1,fO⟩;have fT:=ae (dV.out.trans fO);have C7:=ae (qe2 M y.a y.n y.p y.X y.z D w6 (HM.out.ext fT.out) (bC.ext HY.out fT.out) (by rw[Cz.out];omega) (by omega) dy (by have:=HD.out;omega));have EI:=ae hu1;have LZ:=ae fO;have PZ:Hid (c1≠0/\∀i,i<x.n->c1∣x.z i):=⟨fF,hv1⟩;clear fF hv1 hu1 fO C6;go_wp2_with (fail);refine C7.out.mono ?_;rintro e w7 ⟨c2,fw,hv2,a2,X2,rfl,mo,gX⟩;have ni:=ae (fT.out.trans gX);have L6:=ae (LZ.out.trans gX);have U6:=ae (EI.out.ext gX);have Aq:=ae mo;have Ar:Hid (c2≠0/\∀i,i<y.n->c2∣y.z i):=⟨fw,hv2⟩;clear fw hv2 mo gX C7 fT EI LZ dV;rw[Ap.out]at U6⊢;rw[Cz.out]at Aq⊢;obtain⟨W8,Fs⟩:∃W8,W8=w7:=⟨_,rfl⟩;clear hd1 tK
 go_upto_if 34 with(fail)
 clear Fs
 go_cut [6,7]from 35 to 48 (Y7 Jd M (aU Jd x.n x.z) (aU Jd y.n y.z) D w7)
 case first=>
  have b1:∀i,i<m+1->aH ((x.z i).tdiv c1).natAbs<=D:=λi hi=>by
   rw[Int.natAbs_tdiv];exact aR (jB (Nat.div_le_self _ _)) (dx i (by have:=iR x.z x.n;rw[Ap.out]at this;omega))
  have b2:∀i,i<n+1->aH ((y.z i).tdiv c2).natAbs<=D:=λi hi=>by
   rw[Int.natAbs_tdiv];exact aR (jB (Nat.div_le_self _ _)) (dy i (by have:=iR y.z y.n;rw[Cz.out]at this;omega))
  have t1:=qeZ PZ.out.1 PZ.out.2 Ap.out;have t2:=qeZ Ar.out.1 Ar.out.2 Cz.out
  have gk:∀k,GK Jd (aU Jd (m+1) λi=>(x.z i).tdiv c1) (aU Jd (n+1) λi=>(y.z i).tdiv c2) k->GK Jd (aU Jd x.n x.z) (aU Jd y.n y.z) k:=λk hk=>by
   have e1:=qqR j1 j4 PZ.out.2;have e2:=qqR j1 j4 Ar.out.2;rw[Ap.out]at e1;rw[Cz.out]at e2;exact qvA (kE _ _ _) (kE _ _ _) (kE _ _ _) (kE _ _ _) PZ.out.1 Ar.out.1 e1 e2 hk
  by_cases hlt:m<n
  ·have HF:Hid (Y7 Jd M (aU Jd x.n x.z) (aU Jd y.n y.z) D w7 (.slice a2 (n+1) (n+1)) (.slice a1 (m+1) (m+1)) w7):=
    ⟨rfl,⟨a2,n+1,n+1,X2,λi=>(y.z i).tdiv c2⟩,⟨a1,m+1,m+1,X1,λi=>(x.z i).tdiv c1⟩,n,m,rfl,rfl,Aq.out,U6.out,t2,t1,by omega,hn,b2,b1,λk hk=>gk k hk.swap⟩
   clear b1 b2 t1 t2 gk;go_wp2_with (fail)
   go_meet
   exact HF.out
  ·have HF:Hid (Y7 Jd M (aU Jd x.n x.z) (aU Jd y.n y.z) D w7 (.slice a1 (m+1) (m+1)) (.slice a2 (n+1) (n+1)) w7):=
    ⟨rfl,⟨a1,m+1,m+1,X1,λi=>(x.z i).tdiv c1⟩,⟨a2,n+1,n+1,X2,λi=>(y.z i).tdiv c2⟩,m,n,rfl,rfl,U6.out,Aq.out,t1,t2,by omega,hm,b1,b2,gk⟩
   clear b1 b2 t1 t2 gk;go_wp2_with (fail)
   go_meet
   exact HF.out
 case rest=>
  obtain⟨rfl,p,q,m',n',rfl,rfl,hp,hq,tp,tq,iP,Oa,dp,dq,gk⟩:=hcut;have HGK:=ae gk;obtain⟨g8,NW⟩:∃g8,g8=wc.heap.size:=⟨_,rfl⟩;have aT:=(aA wc).alloc (.cells #[.slice none 0 0] 23);have bQ:=aG.Tn wc (.slice none 0 0) 23;rw[<-NW]at bQ;obtain⟨W9,rX⟩:∃W9,wc.alloc (.cells #[.slice none 0 0] 23)=W9:=⟨_,rfl⟩;rw[rX]at aT bQ;have Av:=ae rX;have ZA:=ae NW;have HP:=ae hp;have HQ:=ae hq;have HTP:=ae tp;have Mq:=ae tq;have fH:=ae aT;have Ze:=ae bQ;have HDP:=ae dp;have uP:=ae dq;have CR:=ae (qCl M p q W9);clear rX aT bQ NW hp hq tp tq gk dp dq U6 Aq PZ Ar dx dy;go_wp2_with (fail);rw[Av.out, <-ZA.out];clear Av;refine CR.out.mono ?_;rintro e iT ⟨ca,cb,rfl,hS,hca,zi,KH⟩
  have qEa:wc.heap.size<=g8:=by rw[ZA.out];exact aI _
  have Fa:=fH.out.trans KH;have Ik:∀b,((M b\/b=g8)\/b=iT.heap.size)->M b\/wc.heap.size<=b:=λb h=>h.elim (λh=>h.imp id λe=>by omega) λe=>.inr (by have:=Fa.size;omega);have hMc:Mb M wc:=HM.out.ext ni.out;have qkT:Mb (λb=>M b\/b=g8) iT:=pz (hMc.ext Fa) (dH Ze.out.lt KH.size);have h8l:=Ze.out.lt
  have Qb:Hid (qaW (λb=>(M b\/b=g8)\/b=iT.heap.size) 2 Tryz.prog 141 #[.pointer (some ⟨ca,0,none⟩),.pointer (some ⟨cb,0,none⟩)] Db (JZ Jd (aU Jd p.n p.z) (aU Jd q.n q.z)) (MI Jd (aU Jd p.n p.z) (aU Jd q.n q.z)) iT):=by
   have kT:∀b,W9.heap.size<=b->b<iT.heap.size->¬((M b\/b=g8)\/b=iT.heap.size):=λb hb jR h=>h.elim (λh=>h.elim (λh=>by have:=hMc b h;have:=fH.out.size;omega) λh=>by omega) λh=>by omega
   exact qAP Jd j1 j4 _ iT ca cb p q m' n' D hS ⟨kT ca hca (oF _ _ hS.1),kT cb zi (oF _ _ hS.2)⟩ (bC.ext (bC.more HP.out Ik) Fa) (bC.ext (bC.more HQ.out Ik) Fa) HTP.out Mq.out iP Oa G8 HD.out HDP.out uP.out
  have qss:=ae hS;have Ma:=ae qkT;have sN:=ae Fa;have Jt:=ae (Ze.out.ext KH);clear hS hca zi KH hMc Fa qkT CR;have h7:wc.heap.size<=iT.heap.size:=sN.out.size;have h8:g8<iT.heap.size:=Jt.out.lt;have Uu:Hid (EL wc g8 [] iT):=⟨sN.out,_,Jt.out,λpre' x h=>by simp at h⟩;go_wp2;refine(wpIn_wide (n:=3)).1 ?_;apply qCH (n:=3) (by omega) (gf:=141) (lb:= #[.pointer (some ⟨ca,0,none⟩),.pointer (some ⟨cb,0,none⟩)]) rfl (enters_of Tryz.func141 (by kernel_rfl) rfl) Qb.out (Below.refl _ _) rfl (λb hb=>Ma.out b hb) (EL wc g8) (λs A B h hs=>h.same hs h7 h8) 1 (λx'=>{tmps:= #[.slice x.a x.n x.p,.slice y.a y.n y.p,undef,undef,.slice none 0 0,.pointer (some ⟨g5,0,none⟩),.slice p.a p.n p.p,.slice q.a q.n q.p,.pointer (some ⟨g8,0,none⟩),.slice x'.a x'.n x'.p,.bool (decide ((m:Int)<0)),.slice x.a x.n x.p,.int .i64 (m:Int),.bool (decide ((m:Int)<0)),undef,undef,.bool (decide ((n:Int)<0)),.slice y.a y.n y.p,.int .i64 (n:Int),.bool (decide ((n:Int)<0)),undef,undef,.slice x.a x.n x.p,.slice y.a y.n y.p,.slice (some ⟨w2.heap.size,0,none⟩) 2 2,.agg #[.bool cx.b,.slice cx.a cx.n cx.p],.slice x.a x.n x.p,.slice a1 (m+1) (m+1),.slice y.a y.n y.p,.slice a2 (n+1) (n+1),.slice a1 (m+1) (m+1),.int .i64 ((m:Int)+1),.slice a2 (n+1) (n+1),.int .i64 ((n:Int)+1),.bool (decide (m<n)),u35,u36,.slice p.a p.n p.p,.slice q.a q.n q.p,.func (.func 141) #[] #[.pointer (some ⟨ca,0,none⟩),.pointer (some ⟨cb,0,none⟩)],.slice x'.a x'.n x'.p,u41,u42,u43,u44,u45,u46,u47,u48],defers:=[]})
  case hassign=>
   intro lq x' W K hK
   gi_wp2
   exact hK
  case h0=>exact Uu.out
  case hbody=>
   intro lq pre x' W hi hsz fZ iJ;obtain⟨i1,v,i2,_⟩:=hi;have c0:=i2.cell (i:=0) (by omega);have f0:=i2.frozen 0;have g0:=i2.lt;have bD:Kp (λb=>M b\/b=g8) W (W.setCell ⟨g8,0,none⟩ (.slice x'.a x'.n x'.p)):=Kp.set _ W (p:=⟨g8,0,none⟩) (.inr rfl) _;have DU:Kp (XL (λb=>(M b\/b=g8)\/b=iT.heap.size) lq) W (W.setCell ⟨g8,0,none⟩ (.slice x'.a x'.n x'.p)):=Kp.set _ W (p:=⟨g8,0,none⟩) (.inl (.inl (.inr rfl))) _
   have hB':aG (W.setCell ⟨g8,0,none⟩ (.slice x'.a x'.n x'.p)) g8 23 1 (λ_=>.slice x'.a x'.n x'.p):=(i2.set 0 (.slice x'.a x'.n x'.p)).congr λi hi=>by
    obtain rfl:i=0:=by omega
    rfl
   have hE':Ext wc (W.setCell ⟨g8,0,none⟩ (.slice x'.a x'.n x'.p)):=i1.set (p:=⟨g8,0,none⟩) (by rw[ZA.out];exact aI _) _;have Ai:=ae bD;have T9:=ae hB';have Uo:=ae hE';have CD:=ae (LJ _ x'.a x'.n x'.p x'.X x'.z _ (bC.kp fZ DU));clear bD DU hB' hE' fZ iJ i1 i2
   by_cases hz:tz x'.z x'.n=1
   ·have hb:((((tz x'.z x'.n:Nat):Int)-1)==0)=true:=by rw[hz];rfl
    have HZ:=ae hz;clear hz
    gi_wp2_with (fail)
    refine⟨trivial,?_⟩;show CallsIn Fence.wide 0 Tryz.prog 23 _ _ _;refine callsIn_wide.2 (CD.out.mono ?_);rintro e wd ⟨rfl,kz⟩
    have HN:Hid (EL wc g8 (pre++[x']) wd):=⟨Uo.out.trans kz,_,T9.out.ext kz,λpre' y' h=>by
     have h2:=(List.append_inj' h rfl).2;simp only[List.cons.injEq,and_true]at h2
     rw[h2]⟩
    have kX:Hid (Kp (λb=>M b\/b=g8) W wd):=Ai.out.trans (Kp.kV kz);clear CD kz Ai T9 Uo c0 f0 g0
    gi_wp2
    exact⟨rfl,HZ.out,kX.out,HN.out⟩
   ·have hb:((((tz x'.z x'.n:Nat):Int)-1)==0)=false:=by rw[beq_eq_false_iff_ne];omega
    have HZ:=ae hz;clear hz
    gi_wp2_with (fail)
    refine⟨trivial,?_⟩;show CallsIn Fence.wide 0 Tryz.prog 23 _ _ _;refine callsIn_wide.2 (CD.out.mono ?_);rintro e wd ⟨rfl,kz⟩
    have HN:Hid (EL wc g8 (pre++[x']) wd):=⟨Uo.out.trans kz,_,T9.out.ext kz,λpre' y' h=>by
     have h2:=(List.append_inj' h rfl).2;simp only[List.cons.injEq,and_true]at h2
     rw[h2]⟩
    have kX:Hid (Kp (λb=>M b\/b=g8) W wd):=Ai.out.trans (Kp.kV kz);clear CD kz Ai T9 Uo c0 f0 g0
    gi_wp2
    exact⟨HZ.out,kX.out,HN.out⟩
  case' hstop=>
   intro pre x' W hsz hS iJ fZ hi vE;have lG:Hid (JZ Jd (aU Jd p.n p.z) (aU Jd q.n q.z) x'):=⟨0,hS.1,hS.2⟩;clear hS;apply wpIn_exit
  case' hdone=>
   intro pre x' W hsz hS iJ fZ hi vE;have lG:=ae hS;clear hS
  all_goals
   obtain⟨i1,i2⟩:=hi.last;have hDl:iT.heap.size<W.heap.size:=(Array.getElem?_eq_some_iff.1 vE).1;have FN:W5.heap.size<=iT.heap.size:=aR L6.out.size h7;have Xw:w.heap.size<=iT.heap.size:=aR ni.out.size h7;have wM:=ni.out.trans i1;have lW:Hid (Mb (λb=>M b\/b=iT.heap.size) W):=pz (HM.out.ext wM) hDl;have mE:Hid (gD.ok (λb=>M b\/b=iT.heap.size) W x'):=bC.more fZ λb h=>.inl (h.imp .inl id);have qro:Hid (IX (λb=>M b\/b=iT.heap.size) W cx c):=(qrt.out.more λb h=>h.imp id λe=>by omega).ext (L6.out.trans i1);have jV:=(oQ.out.ext L6.out).ext i1;have bI:=(aA W).drew;have hS:MM g8 (.slice x'.a x'.n x'.p) g5 cx W.drew:=MM.ext ⟨i2.cell (i:=0) (by omega),lJ jV,i2.lt,jV.lt⟩ bI;have cZ:=ae wM;have jN:=ae vE;have Ck:=ae iJ;have HWW:=ae Xw;clear i1 i2 fZ hi vE iJ jV wM FN Xw;have qrH:=HGK;clear h7 h8 Uu Qb Jt Ma qss sN HGK
   go_upto_region 14 with(fail)
   refine Go.Code.wp_mono (λ_ _ _=>X5.out) ?_;refine TV (MM g8 (.slice x'.a x'.n x'.p) g5 cx) 4 (by kernel_rfl) hS (λhHeld=>?_);clear hS;generalize W.drew=wd at*;have Cn:=ae (lW.out.ext bI);have Az:Hid (gD.ok (λb=>M b\/b=iT.heap.size) wd x'):=bC.ext mE.out bI;have HCd:=ae (qro.out.ext bI);have C1:=ae (λ(W':World)(he:Ext wd W')=>qe2 (λb=>M b\/b=iT.heap.size) x'.a x'.n x'.p x'.X x'.z 1000000000 W' (Cn.out.ext he) (bC.ext Az.out he) Ck.out.2.1 (aR Ck.out.1 (by decide)) Ck.out.2.2 (by decide))
   ((refine qR 0 (v:=?_) ?_ ?_;rotate_left 1;(intro wS hSw;obtain⟨S1,⟨S2,S3⟩,S4,S5⟩:=hSw;go_simp;try with_reducible rfl);(try simp only[Act.put,aB,aC,aD]));(refine qR 2 (v:=?_) ?_ ?_;rotate_left 1;(intro wS hSw;obtain⟨S1,⟨S2,S3⟩,S4,S5⟩:=hSw;go_simp;try with_reducible rfl);(try simp only[Act.put,aB,aC,aD])))
   ((refine vX 1 ?_;intro K hK);go_simp;(refine(C1.out _ (aA _)).mono ?_);rintro e_ u1 ⟨c3,oI,IA,a3,X3,rfl,R7,bM⟩;go_wp2_with (fail);(try clear ag);(have ag:=hHeld.ext bM);(refine hK.out _ _ (λ_ _=>ag) ?_);clear hK K;(try simp only[Act.put,aB,aC,aD]))
   have b3:∀i,i<tz x'.z x'.n->aH ((x'.z i).tdiv c3).natAbs<=1000000000:=λi hi=>by
    rw[Int.natAbs_tdiv];exact aR (jB (Nat.div_le_self _ _)) (Ck.out.2.2 i (dH hi (iR _ _)))
   have C3:=ae (qCs (λb=>M b\/b=iT.heap.size) a3 _ _ X3 _ cx c 1000000000 D u1 (Cn.out.ext bM) R7 (HCd.out.ext bM) b3 Cf.out (by have:=HD.out;omega));have xB:Hid (c3≠0/\∀i,i<x'.n->c3∣x'.z i):=⟨oI,IA⟩;clear R7 b3 oI IA
   ((refine vX 3 ?_;intro K hK);go_simp;(refine(C3.out).mono ?_);rintro e_ u2 ⟨a4,cp4,X4,rfl,R8,fM⟩;go_wp2_with (fail);(try clear ag);(have ag:=hHeld.ext (bM.trans fM));(refine hK.out _ _ (λ_ _=>ag) ?_);clear hK K;(try simp only[Act.put,aB,aC,aD]))
   have eX:=ae (cZ.out.trans (bI.trans (bM.trans fM)));have HD4:Hid (u2.heap[iT.heap.size]?=some (.deferred (some []))):=((bI.trans (bM.trans fM)).heap hDl).trans jN.out;have Gx:=ae R8;clear R8 bI bM fM C1 C3 hHeld ag cZ jN
   ((refine vX 4 ?_;intro K hK);go_simp;(refine hK.out _ _ (λh=>absurd rfl h) ?_);clear hK K;refine TP ?_)
   simp only[X5];go_wp2;obtain⟨k,hk,gk⟩:=lG.out;have qH:Kp (λb=>M b\/b=iT.heap.size) u2 (u2.putObj iT.heap.size (.deferred none)):=⟨by simp[World.putObj],λb _ hb=>World.putObj_heap_other λe=>hb (.inr e)⟩;have tk:=qeZ xB.out.1 xB.out.2 hk;rw[hk]at Gx⊢;have te:tz (λi=>c*(x'.z i).tdiv c3) (k+1)=k+1:=(qqK qh.out (λi=>(x'.z i).tdiv c3) (k+1)).trans tk;rw[te]at Gx⊢;refine⟨by simp,.inl ⟨_,_,rfl,run_takeDeferred HD4.out,?_⟩⟩;refine⟨.slice a4 (k+1) cp4,by simp[results,Tryz.results33,go_sem],?_⟩;exact⟨⟨a4,k+1,cp4,X4,λi=>c*(x'.z i).tdiv c3⟩,k,rfl,bC.more (bC.kp Gx.out qH) (λb h=>.inl (.inl h)),te,qrH.out k gk,Below.trans eX.out (I8 _ HWW.out)⟩
end Go.Proofs.YtmcfpnmoklnhoaaGreat
namespace Go.Proofs.YtmcfpnmoklnhoaaGreat
open Go.RowKit
theorem lI.low{M:Nat->Prop}{w:World}{D:Nat}{l:List Tm}{E:Int}{e:Ending}{w':World}(h:lI M w (D+1) l E e w')(hD:D+1<=4):lI M w 4 l E e w':=by
 obtain⟨y,rfl,hy,he⟩:=h;exact⟨y,rfl,hy.up hD,he⟩
def BX(w:World)(g:Nat)(x:PE)(l:List Tm):Prop:=P4 w g x/\aN M0 w 4 x l
theorem BX.ext{w w':World}{g:Nat}{x:PE}{l:List Tm}(h:BX w g x l)(he:Ext w w'):BX w' g x l:=⟨h.1.ext he,h.2.ext he⟩
theorem qa3{w:World}{x:PE}{l:List Tm}(h:aN M0 w 4 x l):BX (w.alloc (.cells (ak x) 33)) w.heap.size x l:=⟨(aG.bq w (ak x) 33 4 rfl).p4,h.ext ((aA w).alloc _)⟩
end Go.Proofs.YtmcfpnmoklnhoaaGreat
