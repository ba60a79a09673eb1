/- Bh -/
import Derived.Test.YtmcfpnmoklnhoaaGreatBd
set_option linter.unusedVariables false
set_option maxRecDepth 100000
set_option maxHeartbeats 400000000
set_option linter.unusedSimpArgs false
namespace Go.Proofs.YtmcfpnmoklnhoaaGreat
open Go.RowKit
theorem Ab.ext{M:Nat->Prop}{w w':World}{L A:Nat}{l r:List Tm}{v:PE}{ok:Bool}(h:Ab M L l r A v ok w)(he:Ext w w'):Ab M L l r A v ok w':=⟨λho=>by
 obtain⟨q,h1,h2⟩:=h.1 ho
 exact⟨q,h1.ext he,h2⟩,h.2⟩
theorem Ab.kp{M:Nat->Prop}{w w':World}{L A:Nat}{l r:List Tm}{v:PE}{ok:Bool}(h:Ab M L l r A v ok w)(he:Kp M w w'):Ab M L l r A v ok w':=⟨λho=>by
 obtain⟨q,h1,h2⟩:=h.1 ho
 exact⟨q,h1.kp he,h2⟩,h.2⟩
theorem Ab.more{M M':Nat->Prop}{w:World}{L A:Nat}{l r:List Tm}{v:PE}{ok:Bool}(h:Ab M L l r A v ok w)(hm:∀g,M' g->M g\/w.heap.size<=g):Ab M' L l r A v ok w:=⟨λho=>by
 obtain⟨q,h1,h2⟩:=h.1 ho
 exact⟨q,h1.more hm,h2⟩,h.2⟩
def EN(s:Nat)(v3:Value)(g o:Nat)(d:PE)(b o2:Nat)(c:PE)(gc:Nat)(v:PE)(w:World):Prop:=w.cell? ⟨s,3,none⟩=some v3/\jK w g o d/\jK w b o2 c/\P4 w gc v
theorem EN.ext{s:Nat}{v3:Value}{g o:Nat}{d:PE}{b o2:Nat}{c:PE}{gc:Nat}{v:PE}{w w':World}(h:EN s v3 g o d b o2 c gc v w)(hs:s<w.heap.size)(hg:g<w.heap.size)(hb:b<w.heap.size)(uD:gc<w.heap.size)(he:Ext w w'):EN s v3 g o d b o2 c gc v w':=⟨by rw[he.cell hs];exact h.1,h.2.1.ext hg he,h.2.2.1.ext hb he,by
 have h4:=h.2.2.2;unfold P4 at h4⊢
 rw[he.cell uD,he.cell uD,he.cell uD,he.cell uD];exact h4⟩
theorem Kids.pre{M M':Nat->Prop}{w:World}{D g N c:Nat}{P:Nat->List Tm}(h:Kids M w D g c P)(hm:∀g,M' g->M g\/w.heap.size<=g)(hg:¬M' g)(hN:N<=1099511627776)(hc:N<=c)(iB:c<=maxLen):eY M' w D (.slice (some ⟨g,0,none⟩) N c) N P:=by
 have hlt:g<w.heap.size:=by
  obtain⟨f,hB,_⟩:=h;exact hB.lt
 exact⟨hN,.inr ⟨g,0,c,rfl,hc,iB,⟨hlt,hg⟩,λi hi=>h.bN hm i (by omega)⟩⟩
def Dc(s:Nat)(v3:Value)(g o:Nat)(d:PE)(b o2:Nat)(c:PE)(w:World):Prop:=w.cell? ⟨s,3,none⟩=some v3/\jK w g o d/\jK w b o2 c
theorem Dc.ext{s:Nat}{v3:Value}{g o:Nat}{d:PE}{b o2:Nat}{c:PE}{w w':World}(h:Dc s v3 g o d b o2 c w)(hs:s<w.heap.size)(hg:g<w.heap.size)(hb:b<w.heap.size)(he:Ext w w'):Dc s v3 g o d b o2 c w':=⟨by rw[he.cell hs];exact h.1,h.2.1.ext hg he,h.2.2.ext hb he⟩
def qfQ(M1:Nat->Prop)(W:World)(L:Nat)(l r:List Tm)(A:Nat)(s12 Tw:Value)(wx:World):Prop:=∃(g:Nat)(v:PE)(ok:Bool),s12=.pointer (some ⟨g,0,none⟩)/\Tw=.bool ok/\P4 wx g v/\g<wx.heap.size/\W.heap.size<=g/\Ab M1 L l r A v ok wx/\Ext W wx
theorem yK.mono{M:Nat->Prop}{w w':World}{L L' A A':Nat}{l r:List Tm}{e:Ending}(h:yK M w L l r A e w')(hL:L<=L')(hA:A<=A'):yK M w L' l r A' e w':=by
 obtain⟨v,ok,h1,⟨h2,h3⟩,h4⟩:=h;refine⟨v,ok,h1,⟨λho=>?_,h3⟩,h4⟩;obtain⟨q,q1,q2,q3⟩:=h2 ho;exact⟨q,q1.up hL,q2,aR q3 hA⟩
def qaR(w:World)(l:List Tm)(e:Ending)(w':World):Prop:=∃er:Int,e=.returned (.int .i64 er)/\((er=2/\af l [])\/(er=0/\¬af l []))/\Ext w w'
theorem qpx(M:Nat->Prop)(x:PE)(l:List Tm)(b off cap:Nat)(w:World)(hM:Mb M w)(hc:jK w b off x)(hb:b<w.heap.size)(h:PI M w x l):Calls Tryz.prog 59 #[.slice (some ⟨b,off,none⟩) 1 cap] w (qaR w l):=by
 have HC:=ae hc;have gK:=ae hM;have HP:=ae h;clear hc hM h
 go_enter Tryz.func59,Tryz.ntmps59
 go_wp2
 go_loopw [7] (λi wr=>∃k:Nat,k<=1/\i=.int .i64 k/\Hid (k=1->¬af l [])/\Hid (Ext w wr)) (λi _=>1-(intOf i).toNat)
 case atStart=>exact⟨0,bK _,rfl,λh=>absurd h (by decide),aA w⟩
 case round=>
  obtain⟨k,hk,rfl,HN,HE⟩:=hrel
  by_cases iO:k=0
  ·subst iO;obtain⟨c0,c1,c2,c3⟩:=HC.out.ext hb HE.out;have aT:=(aA wr).alloc (.cells (ak x) 33);have CZ:=ae (Jb M x l _ (gK.out.ext (HE.out.trans aT)) (HP.out.ext (HE.out.trans aT)));have fH:=ae (HE.out.trans aT);have jE:b<wr.heap.size:=dH hb HE.out.size;clear aT HE HN HC HP;go_wp2_with (fail);refine CZ.out.mono ?_;rintro e w1 ⟨bz,rfl,tJ,az⟩;have kF:=ae tJ;have aS:=ae (fH.out.trans az);clear tJ az CZ fH c0 c1 c2 c3
   cases bz with
   |true=>
    have HF:Hid (qaR w l (.returned (.int .i64 2)) w1):=⟨2,rfl,.inl ⟨rfl,kF.out.1 rfl⟩,aS.out⟩;go_wp2;exact bu (v:=.int .i64 2) (by simp[results,Tryz.results59,go_sem]) rfl HF.out
   |false=>
    have Gs:Hid (1=1->¬af l []):=λ_ hh=>by have:=kF.out.2 hh;cases this
    go_wp2
    go_roundw
    case rel=>exact⟨1,aI _,by go_num,λ_=>Gs.out trivial,aS⟩
    case measure=>(simp[intOf];try omega)
  ·obtain rfl:k=1:=by omega
   have HF:Hid (qaR w l (.returned (.int .i64 0)) wr):=⟨0,rfl,.inr ⟨rfl,HN.out rfl⟩,HE.out⟩;go_wp2;exact bu (v:=.int .i64 0) (by simp[results,Tryz.results59,go_sem]) rfl HF.out
theorem Ox{M:Nat->Prop}{w:World}(h:Mb M w)(o:Obj):Mb (λg=>M g\/g=w.heap.size) (w.alloc o):=λg hg=>hg.elim (λh1=>by have:=h g h1;simp;omega) (λh1=>by simp;omega)
def ML(M:Nat->Prop)(w:World)(l r:List Tm)(A:Nat)(e:Ending)(w':World):Prop:=∃(v:PE)(er:Int),e=.returned (.tuple #[.agg (ak v),.int .i64 er])/\((er=2/\af r []/\v=PE.z)\/(er=0/\¬af r []/\∃q,aN M w' 4 v q/\af (aF q r) l/\aH (aK q)<=A)\/(er=3/\v=PE.z/\¬af r []/\¬Dv r l))/\Ext w w'
theorem qAr(M:Nat->Prop)(l r:List Tm)(x y:PE)(A2:Nat)(w:World)(hM:Mb M w)(h:PI M w x l)(hy:PI M w y r)(hCE:∀(M':Nat->Prop)(a b:PE)(W':World),Mb M' W'->aN M' W' 4 a l->aN M' W' 4 b r->¬af r []->Calls Tryz.prog 67 #[.agg (ak a),.agg (ak b)] W' (yK M' W' 4 l r A2)):
 Calls Tryz.prog 14 #[.agg (ak x),.agg (ak y)] w (ML M w l r A2):=by
 obtain⟨aV,ky,vJ,bL,dD⟩:=yN hM x y;have h3:=(h.more (M':=Mx M w.heap.size (w.heap.size+3)) (Mx.more (aI _))).ext aV;have K3:=(hy.more (M':=Mx M w.heap.size (w.heap.size+3)) (Mx.more (aI _))).ext aV;obtain⟨x0,x1,x2,x3⟩:=ky;obtain⟨y0,y1,y2,y3⟩:=vJ
 have jT:w.heap.size+3=((((w.alloc (.cells (ak x) 33)).alloc (.cells (ak y) 33)).alloc (.cells zA 33))).heap.size:=by simp
 generalize hW:((w.alloc (.cells (ak x) 33)).alloc (.cells (ak y) 33)).alloc (.cells zA 33)=W at*;have HW:=ae hW;have HE:=ae aV;have HS:Hid (jU w.heap.size x y W):=⟨⟨x0,x1,x2,x3⟩,⟨y0,y1,y2,y3⟩⟩;have dY:=ae bL;have pK:=ae dD;have HX:=ae h3;have HY:=ae K3;have Er:=ae hCE;clear aV bL dD h hy hCE hW hM h3 K3
 go_enter Tryz.func14,Tryz.ntmps14
 go_upto_region 1 with(fail)
 rw[HW.out];go_wp2_with (fail);have l8:=(aA W).alloc (.cells (ak y) 33);have xM:=aG.bq W (ak y) 33 4 rfl;refine(qpx (Mx M w.heap.size (w.heap.size+3)) y r W.heap.size 0 1 _ (pK.out.ext l8) xM.p4 xM.lt (HY.out.ext l8)).mono ?_;rintro e w1 ⟨er,rfl,dL,az⟩;have aS:=ae (HE.out.trans (l8.trans az));have fU:=ae (HS.out.ext (l8.trans az));have dF:=ae (dY.out.ext (l8.trans az));have kH:=ae (pK.out.ext (l8.trans az));have lH:=ae (HX.out.ext (l8.trans az));have rJ:=ae (HY.out.ext (l8.trans az))
 have eU:w.heap.size+3<=w1.heap.size:=by have:=(l8.trans az).size;omega
 have iQ:w.heap.size+2<w1.heap.size:=by omega
 have hks:W.heap.size=w.heap.size+3:=jT.symm;clear jT x0 x1 x2 x3 y0 y1 y2 y3 HE HS dY HW az l8 xM HX HY pK;rcases dL with⟨rfl,hz⟩|⟨rfl,hz⟩
 ·obtain⟨⟨q0,q1,q2,q3⟩,⟨f0,f1,f2,f3⟩,⟨r0,r1,r2,r3⟩,HF⟩:=iF (M:=M) (M':=Mx M w.heap.size (w.heap.size+3)) (w:=w) (L:=0) (l:=[]) (y:=PE.z) dF.out (Mx.at (by omega)) (by omega) aS.out (CR.zero _ _ 0) Mx.sub;obtain⟨_,_,_,eO⟩:=HF;have dI:Hid (ML M w l r A2 (.returned (.tuple #[.agg (ak PE.z),.int .i64 2])) _):=⟨PE.z,2,rfl,.inl ⟨rfl,hz,rfl⟩,eO⟩;simp only[PE.z]at r0 r1 r2 r3;clear eO fU dF aS kH lH rJ Er;go_wp2;exact bu (v:=.tuple #[.agg (ak PE.z),.int .i64 2]) (by simp[results,Tryz.results14,go_sem,r0,r1,r2,r3,PE.z]) rfl dI.out
 ·have Cv:=ae hz;clear hz
  go_upto_region 4 with(fail)
  go_cut [7,8] (qfQ (Mx M w.heap.size (w.heap.size+3)) w1.drew 4 l r A2)
  case first=>
   have bI:Ext w1 w1.drew:=(aA w1).drew;have pM:Hid (jU w.heap.size x y w1.drew):=fU.out.ext bI;have CN1:Hid (∀(M':Nat->Prop)(W':World),Mb M' W'->(∀g,M' g->Mx M w.heap.size (w.heap.size+3) g\/w1.drew.heap.size<=g)->Ext w1.drew W'->Calls Tryz.prog 68 #[.agg (ak x)] W' (dO M' W' 4 l)):=λM' W' h1 h2 h3=>Jc M' x l W' h1 (((lH.out.ext bI).more h2).ext h3);have YS:Hid (∀(M':Nat->Prop)(W':World),Mb M' W'->(∀g,M' g->Mx M w.heap.size (w.heap.size+3) g\/w1.drew.heap.size<=g)->Ext w1.drew W'->Calls Tryz.prog 68 #[.agg (ak y)] W' (dO M' W' 4 r)):=λM' W' h1 h2 h3=>Jc M' y r W' h1 (((rJ.out.ext bI).more h2).ext h3);have yZ:Mb (Mx M w.heap.size (w.heap.size+3)) w1.drew:=kH.out.ext bI;refine gB (jU w.heap.size x y) 10 (by kernel_rfl) pM.out (λhHeld=>?_);clear fU dF aS kH lH rJ pM bI;generalize w1.drew=wd at*;(refine cB [0,2] ?_;(iterate 2 (refine bZ (v:=?_) ?_ ?_;rotate_left 1;(intro wS hSw;obtain⟨⟨S1,S2,S3,S4⟩,S5,S6,S7,S8⟩:=hSw;go_simp;try with_reducible rfl);(try simp only[Act.put,aB,aC,aD])));refine cK ?_);(refine pI 1 8 (oi:=?_) (oj:=?_) (by kernel_rfl) ?_ ?_ ?_ ?_;rotate_left 2;(simp only[fC,fD,fE];rfl);(simp only[fC,fD,fE];rfl);all_goals intro K hK)
   ·go_simp;refine(CN1.out (Mx M w.heap.size (w.heap.size+3)) wd (yZ.ext (aA wd)) (λg hg=>.inl hg) (aA wd)).mono ?_;rintro e v1 ⟨a,rfl,ha,d1⟩;go_wp2_with (fail);have e1:Ext wd v1:=((aA wd)).trans d1
    try clear ag
    have ag:=hHeld.ext e1;refine hK.out _ _ (λ_=>ag) ?_;clear hK K;(try simp only[Act.put,aB,aC,aD]);(refine pI 3 8 (oi:=?_) (oj:=?_) (by kernel_rfl) ?_ ?_ ?_ ?_;rotate_left 2;(simp only[fC,fD,fE];rfl);(simp only[fC,fD,fE];rfl);all_goals intro K hK)
    ·go_simp;refine(YS.out (Mx M w.heap.size (w.heap.size+3)) v1 (yZ.ext e1) (λg hg=>.inl hg) e1).mono ?_;rintro e v2 ⟨b,rfl,hb,d2⟩;go_wp2_with (fail);have e2:Ext wd v2:=(e1).trans d2
     try clear ag
     have ag:=hHeld.ext e2;refine hK.out _ _ (λ_=>ag) ?_;clear hK K;(try simp only[Act.put,aB,aC,aD]);(refine pI 4 8 (oi:=?_) (oj:=?_) (by kernel_rfl) ?_ ?_ ?_ ?_;rotate_left 2;(simp only[fC,fD,fE];rfl);(simp only[fC,fD,fE];rfl);all_goals intro K hK)
     ·go_simp;refine(Er.out (Mx M w.heap.size (w.heap.size+3)) a b v2 (yZ.ext e2) ((ha).ext d2) (hb) Cv.out).mono ?_;rintro e v3 ⟨v,ok,rfl,hR,d3⟩;go_wp2_with (fail);have e3:Ext wd v3:=(e2).trans d3
      try clear ag
      have ag:=hHeld.ext e3;refine hK.out _ _ (λ_=>ag) ?_;clear hK K;(try simp only[Act.put,aB,aC,aD]);(refine cB [5,6,7] ?_;(iterate 3 (refine bZ (v:=?_) ?_ ?_;rotate_left 1;(intro wS hSw;obtain⟨⟨S1,S2,S3,S4⟩,S5,S6,S7,S8⟩:=hSw;go_simp;try with_reducible rfl);(try simp only[Act.put,aB,aC,aD])));refine cK ?_);(refine aO 8 ?_;intro K hK);go_simp;have Dz:=ag.ext ((aA v3).alloc (.cells zA 33));have Bd:=ag.ext ((aA v3).alloc (.cells (ak v) 33));clear ag;refine hK.out _ _ (λ_=>Dz) ?_;clear hK K;(try simp only[Act.put,aB,aC,aD]);(refine aO 9 ?_;intro K hK);go_simp;refine hK.out _ _ (λ_=>Bd) ?_;clear hK K;(try simp only[Act.put,aB,aC,aD]);((refine aO 10 ?_;intro K hK);go_simp;(refine hK.out _ _ (λh=>absurd rfl h) ?_);clear hK K;refine dX ?_);go_wp2_with (fail)
      go_meet
      exact⟨v3.heap.size,v,ok,rfl,rfl,(aG.bq v3 (ak v) 33 4 rfl).p4,by simp,(e3).size,hR.ext ((aA v3).alloc _),(e3).alloc _⟩
     ·go_simp;have ea3:Ext v2 (v2.alloc (.cells zA 33)):=(aA _).alloc _;have Rc:=aG.bq v2 zA 33 4 rfl;have e3:Ext wd (v2.alloc (.cells zA 33)):=(e2).trans ea3
      try clear ag
      have ag:=hHeld.ext e3;refine hK.out _ _ (λ_=>ag) ?_;clear hK K;(try simp only[Act.put,aB,aC,aD]);(refine aO 4 ?_;intro K hK);go_simp;refine(Er.out (λg=>(Mx M w.heap.size (w.heap.size+3)) g\/g=v2.heap.size) a b (v2.alloc (.cells zA 33)) ((Ox (yZ.ext e2) (.cells zA 33)).ext (aA (v2.alloc (.cells zA 33)))) ((((ha).ext d2).more (M':=λg=>(Mx M w.heap.size (w.heap.size+3)) g\/g=v2.heap.size) (λg hg=>hg.imp id λ(h:g=v2.heap.size)=>Nat.le_of_eq h.symm)).ext ea3) (((hb).more (M':=λg=>(Mx M w.heap.size (w.heap.size+3)) g\/g=v2.heap.size) (λg hg=>hg.imp id λ(h:g=v2.heap.size)=>Nat.le_of_eq h.symm)).ext ea3) Cv.out).mono ?_;rintro e v4 ⟨v,ok,rfl,hR,d4⟩;go_wp2_with (fail);have e4:Ext wd v4:=(e3).trans d4;have xP:=(Rc).ext d4
      try clear ag
      have ag:=hHeld.ext e4;refine hK.out _ _ (λ_=>ag) ?_;clear hK K;(try simp only[Act.put,aB,aC,aD]);(refine cB [5,6,7] ?_;(iterate 3 (refine bZ (v:=?_) ?_ ?_;rotate_left 1;(intro wS hSw;obtain⟨⟨S1,S2,S3,S4⟩,S5,S6,S7,S8⟩:=hSw;go_simp;try with_reducible rfl);(try simp only[Act.put,aB,aC,aD])));refine cK ?_);obtain⟨⟨q0,q1,q2,q3⟩,⟨f0,f1,f2,f3⟩,zw,bD,eO⟩:=AR (M':=λg=>(Mx M w.heap.size (w.heap.size+3)) g\/g=v2.heap.size) (w:=wd) (.int .i64 v.lv) (.bool v.b) (.slice v.a v.n v.p) (.slice v.ka v.kn v.kp) (xP) (.inr rfl) (e2).size (e4);simp only[arr]at q0 q1 q2 q3;(refine aO 9 ?_;intro K hK);go_simp;have Bd:=hHeld.ext eO;clear ag;refine hK.out _ _ (λ_=>Bd) ?_;clear hK K;(try simp only[Act.put,aB,aC,aD]);((refine aO 10 ?_;intro K hK);go_simp;(refine hK.out _ _ (λh=>absurd rfl h) ?_);clear hK K;refine dX ?_);go_wp2_with (fail)
      go_meet
      exact⟨v2.heap.size,v,ok,rfl,rfl,zw,Nat.lt_of_lt_of_eq (xP).lt (nW _ _ _ _ _ _ _).symm,(e2).size,(hR.kp bD).more (λg hg=>.inl (.inl hg)),eO⟩
    ·go_simp;have ea2:Ext v1 (v1.alloc (.cells zA 33)):=(aA _).alloc _;have jR:=aG.bq v1 zA 33 4 rfl;have e2:Ext wd (v1.alloc (.cells zA 33)):=(e1).trans ea2
     try clear ag
     have ag:=hHeld.ext e2;refine hK.out _ _ (λ_=>ag) ?_;clear hK K;(try simp only[Act.put,aB,aC,aD]);(refine aO 3 ?_;intro K hK);go_simp;refine(YS.out (λg=>(Mx M w.heap.size (w.heap.size+3)) g\/g=v1.heap.size) (v1.alloc (.cells zA 33)) ((Ox (yZ.ext e1) (.cells zA 33)).ext (aA (v1.alloc (.cells zA 33)))) (λg hg=>hg.imp id λh=>by rw[h];exact e1.size) e2).mono ?_;rintro e v3 ⟨b,rfl,hb,d3⟩;go_wp2_with (fail);have e3:Ext wd v3:=(e2).trans d3;have Rc:=(jR).ext d3
     try clear ag
     have ag:=hHeld.ext e3;refine hK.out _ _ (λ_=>ag) ?_;clear hK K;(try simp only[Act.put,aB,aC,aD]);(refine aO 4 ?_;intro K hK);go_simp;refine(Er.out (λg=>(Mx M w.heap.size (w.heap.size+3)) g\/g=v1.heap.size) a b v3 ((Ox (yZ.ext e1) (.cells zA 33)).ext (((aA (v1.alloc (.cells zA 33)))).trans d3)) ((((ha).more (M':=λg=>(Mx M w.heap.size (w.heap.size+3)) g\/g=v1.heap.size) (λg hg=>hg.imp id λ(h:g=v1.heap.size)=>Nat.le_of_eq h.symm)).ext ea2).ext d3) (hb) Cv.out).mono ?_;rintro e v4 ⟨v,ok,rfl,hR,d4⟩;go_wp2_with (fail);have e4:Ext wd v4:=(e3).trans d4;have xP:=(Rc).ext d4
     try clear ag
     have ag:=hHeld.ext e4;refine hK.out _ _ (λ_=>ag) ?_;clear hK K;(try simp only[Act.put,aB,aC,aD]);(refine cB [5,6,7] ?_;(iterate 3 (refine bZ (v:=?_) ?_ ?_;rotate_left 1;(intro wS hSw;obtain⟨⟨S1,S2,S3,S4⟩,S5,S6,S7,S8⟩:=hSw;go_simp;try with_reducible rfl);(try simp only[Act.put,aB,aC,aD])));refine cK ?_);obtain⟨⟨q0,q1,q2,q3⟩,⟨f0,f1,f2,f3⟩,zw,bD,eO⟩:=AR (M':=λg=>(Mx M w.heap.size (w.heap.size+3)) g\/g=v1.heap.size) (w:=wd) (.int .i64 v.lv) (.bool v.b) (.slice v.a v.n v.p) (.slice v.ka v.kn v.kp) (xP) (.inr rfl) (e1).size (e4);simp only[arr]at q0 q1 q2 q3;(refine aO 9 ?_;intro K hK);go_simp;have Bd:=hHeld.ext eO;clear ag;refine hK.out _ _ (λ_=>Bd) ?_;clear hK K;(try simp only[Act.put,aB,aC,aD]);((refine aO 10 ?_;intro K hK);go_simp;(refine hK.out _ _ (λh=>absurd rfl h) ?_);clear hK K;refine dX ?_);go_wp2_with (fail)
     go_meet
     exact⟨v1.heap.size,v,ok,rfl,rfl,zw,Nat.lt_of_lt_of_eq (xP).lt (nW _ _ _ _ _ _ _).symm,(e1).size,(hR.kp bD).more (λg hg=>.inl (.inl hg)),eO⟩
   ·go_simp;have ea1:Ext wd (wd.alloc (.cells zA 33)):=(aA _).alloc _;have hb1:=aG.bq wd zA 33 4 rfl;have e1:Ext wd (wd.alloc (.cells zA 33)):=((aA wd)).trans ea1
    try clear ag
    have ag:=hHeld.ext e1;refine hK.out _ _ (λ_=>ag) ?_;clear hK K;(try simp only[Act.put,aB,aC,aD]);(refine aO 1 ?_;intro K hK);go_simp;refine(CN1.out (λg=>(Mx M w.heap.size (w.heap.size+3)) g\/g=wd.heap.size) (wd.alloc (.cells zA 33)) ((Ox (yZ.ext (aA wd)) (.cells zA 33)).ext (aA (wd.alloc (.cells zA 33)))) (λg hg=>hg.imp id λh=>by rw[h];exact(aA wd).size) e1).mono ?_;rintro e v2 ⟨a,rfl,ha,d2⟩;go_wp2_with (fail);have e2:Ext wd v2:=(e1).trans d2;have jR:=(hb1).ext d2
    try clear ag
    have ag:=hHeld.ext e2;refine hK.out _ _ (λ_=>ag) ?_;clear hK K;(try simp only[Act.put,aB,aC,aD]);(refine aO 3 ?_;intro K hK);go_simp;refine(YS.out (λg=>(Mx M w.heap.size (w.heap.size+3)) g\/g=wd.heap.size) v2 ((Ox (yZ.ext (aA wd)) (.cells zA 33)).ext (((aA (wd.alloc (.cells zA 33)))).trans d2)) (λg hg=>hg.imp id λh=>by rw[h];exact(aA wd).size) e2).mono ?_;rintro e v3 ⟨b,rfl,hb,d3⟩;go_wp2_with (fail);have e3:Ext wd v3:=(e2).trans d3;have Rc:=(jR).ext d3
    try clear ag
    have ag:=hHeld.ext e3;refine hK.out _ _ (λ_=>ag) ?_;clear hK K;(try simp only[Act.put,aB,aC,aD]);(refine aO 4 ?_;intro K hK);go_simp;refine(Er.out (λg=>(Mx M w.heap.size (w.heap.size+3)) g\/g=wd.heap.size) a b v3 ((Ox (yZ.ext (aA wd)) (.cells zA 33)).ext (((((aA (wd.alloc (.cells zA 33)))).trans d2)).trans d3)) ((ha).ext d3) (hb) Cv.out).mono ?_;rintro e v4 ⟨v,ok,rfl,hR,d4⟩;go_wp2_with (fail);have e4:Ext wd v4:=(e3).trans d4;have xP:=(Rc).ext d4
    try clear ag
    have ag:=hHeld.ext e4;refine hK.out _ _ (λ_=>ag) ?_;clear hK K;(try simp only[Act.put,aB,aC,aD]);(refine cB [5,6,7] ?_;(iterate 3 (refine bZ (v:=?_) ?_ ?_;rotate_left 1;(intro wS hSw;obtain⟨⟨S1,S2,S3,S4⟩,S5,S6,S7,S8⟩:=hSw;go_simp;try with_reducible rfl);(try simp only[Act.put,aB,aC,aD])));refine cK ?_);obtain⟨⟨q0,q1,q2,q3⟩,⟨f0,f1,f2,f3⟩,zw,bD,eO⟩:=AR (M':=λg=>(Mx M w.heap.size (w.heap.size+3)) g\/g=wd.heap.size) (w:=wd) (.int .i64 v.lv) (.bool v.b) (.slice v.a v.n v.p) (.slice v.ka v.kn v.kp) (xP) (.inr rfl) ((aA wd)).size (e4);simp only[arr]at q0 q1 q2 q3;(refine aO 9 ?_;intro K hK);go_simp;have Bd:=hHeld.ext eO;clear ag;refine hK.out _ _ (λ_=>Bd) ?_;clear hK K;(try simp only[Act.put,aB,aC,aD]);((refine aO 10 ?_;intro K hK);go_simp;(refine hK.out _ _ (λh=>absurd rfl h) ?_);clear hK K;refine dX ?_);go_wp2_with (fail)
    go_meet
    exact⟨wd.heap.size,v,ok,rfl,rfl,zw,Nat.lt_of_lt_of_eq (xP).lt (nW _ _ _ _ _ _ _).symm,((aA wd)).size,(hR.kp bD).more (λg hg=>.inl (.inl hg)),eO⟩
  case rest=>
   obtain⟨gc,v,ok,rfl,rfl,hv,Rs,Bo,hR,Rk⟩:=hcut;have bn:Ext w1 wc:=(aA w1).drew.trans Rk;have lX:=ae hR;have qg:=ae (dF.out.ext bn);have JQ:=ae (aS.out.trans bn);have lC:w.heap.size+2<wc.heap.size:=dH iQ bn.size;obtain⟨v0,v1,v2,v3⟩:=hv;clear hR Rk bn Bo fU dF aS kH lH rJ Er iQ
   cases ok with
   |false=>
    obtain⟨⟨q0,q1,q2,q3⟩,⟨f0,f1,f2,f3⟩,⟨r0,r1,r2,r3⟩,HF⟩:=iF (M:=M) (M':=Mx M w.heap.size (w.heap.size+3)) (w:=w) (L:=0) (l:=[]) (y:=PE.z) qg.out (Mx.at (by omega)) (by omega) JQ.out (CR.zero _ _ 0) Mx.sub;obtain⟨_,_,_,eO⟩:=HF;have dI:Hid (ML M w l r A2 (.returned (.tuple #[.agg (ak PE.z),.int .i64 3])) _):=⟨PE.z,3,rfl,.inr (.inr ⟨rfl,rfl,Cv.out,lX.out.2 rfl⟩),eO⟩;simp only[PE.z]at r0 r1 r2 r3;clear eO lX qg JQ v0 v1 v2 v3;go_wp2;exact bu (v:=.tuple #[.agg (ak PE.z),.int .i64 3]) (by simp[results,Tryz.results14,go_sem,r0,r1,r2,r3,PE.z]) rfl dI.out
   |true=>
    obtain⟨q,hq1,hq2,xZ⟩:=lX.out.1 rfl;obtain⟨⟨q0,q1,q2,q3⟩,⟨f0,f1,f2,f3⟩,⟨r0,r1,r2,r3⟩,HF⟩:=iF (M:=M) (w:=w) qg.out (Mx.at (by omega)) (by omega) JQ.out hq1 Mx.sub;obtain⟨v',e',DJ,eO⟩:=HF;simp only[Ending.returned.injEq,Value.agg.injEq]at e';have dI:Hid (ML M w l r A2 (.returned (.tuple #[.agg (ak v),.int .i64 0])) _):=⟨v',0,by rw[e'],.inr (.inl ⟨rfl,Cv.out,q,DJ,hq2,xZ⟩),eO⟩;clear eO DJ e' hq1 hq2 xZ lX qg JQ;go_wp2;exact bu (v:=.tuple #[.agg (ak v),.int .i64 0]) (by simp[results,Tryz.results14,go_sem,r0,r1,r2,r3]) rfl dI.out
end Go.Proofs.YtmcfpnmoklnhoaaGreat
