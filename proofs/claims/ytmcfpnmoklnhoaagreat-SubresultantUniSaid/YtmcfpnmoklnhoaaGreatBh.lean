/- Bh -/
import Derived.Test.YtmcfpnmoklnhoaaGreatBd
set_option linter.unusedVariables false
set_option maxRecDepth 100000
set_option maxHeartbeats 400000000
set_option linter.unusedSimpArgs false
namespace Go.Proofs.YtmcfpnmoklnhoaaGreat
open Go.RowKit
theorem yI.ext{M:Nat->Prop}{w w':World}{L A:Nat}{l r:List Tm}{v:PE}{ok:Bool}(h:yI M L l r A v ok w)(he:Ext w w'):yI M L l r A v ok w':=⟨λho=>by
 obtain⟨q,h1,h2⟩:=h.1 ho
 exact⟨q,h1.ext he,h2⟩,h.2⟩
theorem yI.kp{M:Nat->Prop}{w w':World}{L A:Nat}{l r:List Tm}{v:PE}{ok:Bool}(h:yI M L l r A v ok w)(he:Kp M w w'):yI M L l r A v ok w':=⟨λho=>by
 obtain⟨q,h1,h2⟩:=h.1 ho
 exact⟨q,h1.kp he,h2⟩,h.2⟩
theorem yI.more{M M':Nat->Prop}{w:World}{L A:Nat}{l r:List Tm}{v:PE}{ok:Bool}(h:yI M L l r A v ok w)(hm:∀g,M' g->M g\/w.heap.size<=g):yI M' L l r A v ok w:=⟨λho=>by
 obtain⟨q,h1,h2⟩:=h.1 ho
 exact⟨q,h1.more hm,h2⟩,h.2⟩
def KU(s:Nat)(v3:Value)(g o:Nat)(d:PE)(b o2:Nat)(c:PE)(gc:Nat)(v:PE)(w:World):Prop:=w.cell? ⟨s,3,none⟩=some v3/\eX w g o d/\eX w b o2 c/\P4 w gc v
theorem KU.ext{s:Nat}{v3:Value}{g o:Nat}{d:PE}{b o2:Nat}{c:PE}{gc:Nat}{v:PE}{w w':World}(h:KU s v3 g o d b o2 c gc v w)(hs:s<w.heap.size)(hg:g<w.heap.size)(hb:b<w.heap.size)(sP:gc<w.heap.size)(he:Ext w w'):KU s v3 g o d b o2 c gc v w':=⟨by rw[he.cell hs];exact h.1,h.2.1.ext hg he,h.2.2.1.ext hb he,by
 have h4:=h.2.2.2;unfold P4 at h4⊢
 rw[he.cell sP,he.cell sP,he.cell sP,he.cell sP];exact h4⟩
theorem Kids.pre{M M':Nat->Prop}{w:World}{D g N c:Nat}{P:Nat->List Tm}(h:Kids M w D g c P)(hm:∀g,M' g->M g\/w.heap.size<=g)(hg:¬M' g)(hN:N<=1099511627776)(hc:N<=c)(gm:c<=maxLen):dV M' w D (.slice (some ⟨g,0,none⟩) N c) N P:=by
 have hlt:g<w.heap.size:=by
  obtain⟨f,hB,_⟩:=h;exact hB.lt
 exact⟨hN,.inr ⟨g,0,c,rfl,hc,gm,⟨hlt,hg⟩,λi hi=>h.bu hm i (by omega)⟩⟩
def KT(s:Nat)(v3:Value)(g o:Nat)(d:PE)(b o2:Nat)(c:PE)(w:World):Prop:=w.cell? ⟨s,3,none⟩=some v3/\eX w g o d/\eX w b o2 c
theorem KT.ext{s:Nat}{v3:Value}{g o:Nat}{d:PE}{b o2:Nat}{c:PE}{w w':World}(h:KT s v3 g o d b o2 c w)(hs:s<w.heap.size)(hg:g<w.heap.size)(hb:b<w.heap.size)(he:Ext w w'):KT s v3 g o d b o2 c w':=⟨by rw[he.cell hs];exact h.1,h.2.1.ext hg he,h.2.2.ext hb he⟩
def qef(M1:Nat->Prop)(W:World)(L:Nat)(l r:List Tm)(A:Nat)(s12 Rb:Value)(wx:World):Prop:=∃(g:Nat)(v:PE)(ok:Bool),s12=.pointer (some ⟨g,0,none⟩)/\Rb=.bool ok/\P4 wx g v/\g<wx.heap.size/\W.heap.size<=g/\yI M1 L l r A v ok wx/\Ext W wx
theorem xK.mono{M:Nat->Prop}{w w':World}{L L' A A':Nat}{l r:List Tm}{e:Ending}(h:xK M w L l r A e w')(hL:L<=L')(hA:A<=A'):xK M w L' l r A' e w':=by
 obtain⟨v,ok,h1,⟨h2,h3⟩,h4⟩:=h;refine⟨v,ok,h1,⟨λho=>?_,h3⟩,h4⟩;obtain⟨q,q1,q2,q3⟩:=h2 ho;exact⟨q,q1.up hL,q2,Nat.le_trans q3 hA⟩
def Ze(w:World)(l:List Tm)(e:Ending)(w':World):Prop:=∃er:Int,e=.returned (.int .i64 er)/\((er=2/\ae l [])\/(er=0/\¬ae l []))/\Ext w w'
theorem qnu(M:Nat->Prop)(x:PE)(l:List Tm)(b off cap:Nat)(w:World)(hM:Mb M w)(hc:eX w b off x)(hb:b<w.heap.size)(h:PI M w x l):Calls Tryz.prog 59 #[.slice (some ⟨b,off,none⟩) 1 cap] w (Ze w l):=by
 have HC:=Lib.hid hc;have jG:=Lib.hid hM;have HP:=Lib.hid h;clear hc hM h
 go_enter Tryz.func59,Tryz.ntmps59
 go_wp2
 go_loopw [7] (λi wr=>∃k:Nat,k<=1/\i=.int .i64 k/\Hid (k=1->¬ae l [])/\Hid (Ext w wr)) (λi _=>1-(intOf i).toNat)
 case atStart=>exact⟨0,Nat.zero_le _,rfl,λh=>absurd h (by decide),Ext.refl w⟩
 case round=>
  obtain⟨k,hk,rfl,HN,HE⟩:=hrel
  by_cases fJ:k=0
  ·subst fJ;obtain⟨c0,c1,c2,c3⟩:=HC.out.ext hb HE.out;have aN:=(Ext.refl wr).alloc (.cells (ah x) 33);have CZ:=Lib.hid (ES M x l _ (jG.out.ext (HE.out.trans aN)) (HP.out.ext (HE.out.trans aN)));have dW:=Lib.hid (HE.out.trans aN);have iH:b<wr.heap.size:=Nat.lt_of_lt_of_le hb HE.out.size;clear aN HE HN HC HP;go_wp2_with (fail);refine CZ.out.mono ?_;rintro e w1 ⟨bz,rfl,rJ,af⟩;have jE:=Lib.hid rJ;have aL:=Lib.hid (dW.out.trans af);clear rJ af CZ dW c0 c1 c2 c3
   cases bz with
   |true=>
    have HF:Hid (Ze w l (.returned (.int .i64 2)) w1):=⟨2,rfl,.inl ⟨rfl,jE.out.1 rfl⟩,aL.out⟩;go_wp2;exact bodyPost_ret (v:=.int .i64 2) (by simp[results,Tryz.results59,go_sem]) rfl HF.out
   |false=>
    have xw:Hid (1=1->¬ae l []):=λ_ hh=>by have:=jE.out.2 hh;cases this
    go_wp2
    go_roundw
    case rel=>exact⟨1,Nat.le_refl _,by go_num,λ_=>xw.out trivial,aL⟩
    case measure=>(simp[intOf];try omega)
  ·obtain rfl:k=1:=by omega
   have HF:Hid (Ze w l (.returned (.int .i64 0)) wr):=⟨0,rfl,.inr ⟨rfl,HN.out rfl⟩,HE.out⟩;go_wp2;exact bodyPost_ret (v:=.int .i64 0) (by simp[results,Tryz.results59,go_sem]) rfl HF.out
theorem MF{M:Nat->Prop}{w:World}(h:Mb M w)(o:Obj):Mb (λg=>M g\/g=w.heap.size) (w.alloc o):=λg hg=>hg.elim (λh1=>by have:=h g h1;simp;omega) (λh1=>by simp;omega)
def KQ(M:Nat->Prop)(w:World)(l r:List Tm)(A:Nat)(e:Ending)(w':World):Prop:=∃(v:PE)(er:Int),e=.returned (.tuple #[.agg (ah v),.int .i64 er])/\((er=2/\ae r []/\v=PE.z)\/(er=0/\¬ae r []/\∃q,aI M w' 4 v q/\ae (ai q r) l/\az (aC q)<=A)\/(er=3/\v=PE.z/\¬ae r []/\¬Dv r l))/\Ext w w'
theorem qxS(M:Nat->Prop)(l r:List Tm)(x y:PE)(A2:Nat)(w:World)(hM:Mb M w)(h:PI M w x l)(hy:PI M w y r)(hCE:∀(M':Nat->Prop)(a b:PE)(W':World),Mb M' W'->aI M' W' 4 a l->aI M' W' 4 b r->¬ae r []->Calls Tryz.prog 67 #[.agg (ah a),.agg (ah b)] W' (xK M' W' 4 l r A2)):
 Calls Tryz.prog 14 #[.agg (ah x),.agg (ah y)] w (KQ M w l r A2):=by
 obtain⟨aQ,nO,BR,bO,dw⟩:=Bu hM x y;have h3:=(h.more (M':=Mx M w.heap.size (w.heap.size+3)) (Mx.more (Nat.le_refl _))).ext aQ;have Jw:=(hy.more (M':=Mx M w.heap.size (w.heap.size+3)) (Mx.more (Nat.le_refl _))).ext aQ;obtain⟨x0,x1,x2,x3⟩:=nO;obtain⟨y0,y1,y2,y3⟩:=BR
 have oI:w.heap.size+3=((((w.alloc (.cells (ah x) 33)).alloc (.cells (ah y) 33)).alloc (.cells zA 33))).heap.size:=by simp
 generalize hW:((w.alloc (.cells (ah x) 33)).alloc (.cells (ah y) 33)).alloc (.cells zA 33)=W at*;have HW:=Lib.hid hW;have HE:=Lib.hid aQ;have HS:Hid (jM w.heap.size x y W):=⟨⟨x0,x1,x2,x3⟩,⟨y0,y1,y2,y3⟩⟩;have gQ:=Lib.hid bO;have uQ:=Lib.hid dw;have HX:=Lib.hid h3;have HY:=Lib.hid Jw;have Df:=Lib.hid hCE;clear aQ bO dw h hy hCE hW hM h3 Jw
 go_enter Tryz.func14,Tryz.ntmps14
 go_upto_region 1 with(fail)
 rw[HW.out];go_wp2_with (fail);have kK:=(Ext.refl W).alloc (.cells (ah y) 33);have wB:=ak.bf W (ah y) 33 4 rfl;refine(qnu (Mx M w.heap.size (w.heap.size+3)) y r W.heap.size 0 1 _ (uQ.out.ext kK) wB.p4 wB.lt (HY.out.ext kK)).mono ?_;rintro e w1 ⟨er,rfl,bW,af⟩;have aL:=Lib.hid (HE.out.trans (kK.trans af));have fO:=Lib.hid (HS.out.ext (kK.trans af));have cB:=Lib.hid (gQ.out.ext (kK.trans af));have kW:=Lib.hid (uQ.out.ext (kK.trans af));have ku:=Lib.hid (HX.out.ext (kK.trans af));have qE:=Lib.hid (HY.out.ext (kK.trans af))
 have dP:w.heap.size+3<=w1.heap.size:=by have:=(kK.trans af).size;omega
 have kQ:w.heap.size+2<w1.heap.size:=by omega
 have hks:W.heap.size=w.heap.size+3:=oI.symm;clear oI x0 x1 x2 x3 y0 y1 y2 y3 HE HS gQ HW af kK wB HX HY uQ;rcases bW with⟨rfl,hz⟩|⟨rfl,hz⟩
 ·obtain⟨⟨q0,q1,q2,q3⟩,⟨f0,f1,f2,f3⟩,⟨r0,r1,r2,r3⟩,HF⟩:=iW (M:=M) (M':=Mx M w.heap.size (w.heap.size+3)) (w:=w) (L:=0) (l:=[]) (y:=PE.z) cB.out (Mx.at (by omega)) (by omega) aL.out (CR.zero _ _ 0) Mx.sub;obtain⟨_,_,_,dM⟩:=HF;have dY:Hid (KQ M w l r A2 (.returned (.tuple #[.agg (ah PE.z),.int .i64 2])) _):=⟨PE.z,2,rfl,.inl ⟨rfl,hz,rfl⟩,dM⟩;simp only[PE.z]at r0 r1 r2 r3;clear dM fO cB aL kW ku qE Df;go_wp2;exact bodyPost_ret (v:=.tuple #[.agg (ah PE.z),.int .i64 2]) (by simp[results,Tryz.results14,go_sem,r0,r1,r2,r3,PE.z]) rfl dY.out
 ·have Bb:=Lib.hid hz;clear hz
  go_upto_region 4 with(fail)
  go_cut [7,8] (qef (Mx M w.heap.size (w.heap.size+3)) w1.drew 4 l r A2)
  case first=>
   have cO:Ext w1 w1.drew:=(Ext.refl w1).drew;have xA:Hid (jM w.heap.size x y w1.drew):=fO.out.ext cO;have CN1:Hid (∀(M':Nat->Prop)(W':World),Mb M' W'->(∀g,M' g->Mx M w.heap.size (w.heap.size+3) g\/w1.drew.heap.size<=g)->Ext w1.drew W'->Calls Tryz.prog 68 #[.agg (ah x)] W' (dH M' W' 4 l)):=λM' W' h1 h2 h3=>Ha M' x l W' h1 (((ku.out.ext cO).more h2).ext h3);have WO:Hid (∀(M':Nat->Prop)(W':World),Mb M' W'->(∀g,M' g->Mx M w.heap.size (w.heap.size+3) g\/w1.drew.heap.size<=g)->Ext w1.drew W'->Calls Tryz.prog 68 #[.agg (ah y)] W' (dH M' W' 4 r)):=λM' W' h1 h2 h3=>Ha M' y r W' h1 (((qE.out.ext cO).more h2).ext h3);have xW:Mb (Mx M w.heap.size (w.heap.size+3)) w1.drew:=kW.out.ext cO;refine fM (jM w.heap.size x y) 10 (by kernel_rfl) xA.out (λhHeld=>?_);clear fO cB aL kW ku qE xA cO;generalize w1.drew=wd at*;(refine dF [0,2] ?_;(iterate 2 (refine dD (v:=?_) ?_ ?_;rotate_left 1;(intro wS hSw;obtain⟨⟨S1,S2,S3,S4⟩,S5,S6,S7,S8⟩:=hSw;go_simp;try with_reducible rfl);(try simp only[Act.put,aD,aF,aG])));refine dG ?_);(refine xe 1 8 (oi:=?_) (oj:=?_) (by kernel_rfl) ?_ ?_ ?_ ?_;rotate_left 2;(simp only[iL,iM,iN];rfl);(simp only[iL,iM,iN];rfl);all_goals intro K hK)
   ·go_simp;refine(CN1.out (Mx M w.heap.size (w.heap.size+3)) wd (xW.ext (Ext.refl wd)) (λg hg=>.inl hg) (Ext.refl wd)).mono ?_;rintro e v1 ⟨a,rfl,ha,d1⟩;go_wp2_with (fail);have e1:Ext wd v1:=((Ext.refl wd)).trans d1
    try clear ag
    have ag:=hHeld.ext e1;refine hK.out _ _ (λ_=>ag) ?_;clear hK K;(try simp only[Act.put,aD,aF,aG]);(refine xe 3 8 (oi:=?_) (oj:=?_) (by kernel_rfl) ?_ ?_ ?_ ?_;rotate_left 2;(simp only[iL,iM,iN];rfl);(simp only[iL,iM,iN];rfl);all_goals intro K hK)
    ·go_simp;refine(WO.out (Mx M w.heap.size (w.heap.size+3)) v1 (xW.ext e1) (λg hg=>.inl hg) e1).mono ?_;rintro e v2 ⟨b,rfl,hb,d2⟩;go_wp2_with (fail);have e2:Ext wd v2:=(e1).trans d2
     try clear ag
     have ag:=hHeld.ext e2;refine hK.out _ _ (λ_=>ag) ?_;clear hK K;(try simp only[Act.put,aD,aF,aG]);(refine xe 4 8 (oi:=?_) (oj:=?_) (by kernel_rfl) ?_ ?_ ?_ ?_;rotate_left 2;(simp only[iL,iM,iN];rfl);(simp only[iL,iM,iN];rfl);all_goals intro K hK)
     ·go_simp;refine(Df.out (Mx M w.heap.size (w.heap.size+3)) a b v2 (xW.ext e2) ((ha).ext d2) (hb) Bb.out).mono ?_;rintro e v3 ⟨v,ok,rfl,hR,d3⟩;go_wp2_with (fail);have e3:Ext wd v3:=(e2).trans d3
      try clear ag
      have ag:=hHeld.ext e3;refine hK.out _ _ (λ_=>ag) ?_;clear hK K;(try simp only[Act.put,aD,aF,aG]);(refine dF [5,6,7] ?_;(iterate 3 (refine dD (v:=?_) ?_ ?_;rotate_left 1;(intro wS hSw;obtain⟨⟨S1,S2,S3,S4⟩,S5,S6,S7,S8⟩:=hSw;go_simp;try with_reducible rfl);(try simp only[Act.put,aD,aF,aG])));refine dG ?_);(refine aK 8 ?_;intro K hK);go_simp;have BQ:=ag.ext ((Ext.refl v3).alloc (.cells zA 33));have zF:=ag.ext ((Ext.refl v3).alloc (.cells (ah v) 33));clear ag;refine hK.out _ _ (λ_=>BQ) ?_;clear hK K;(try simp only[Act.put,aD,aF,aG]);(refine aK 9 ?_;intro K hK);go_simp;refine hK.out _ _ (λ_=>zF) ?_;clear hK K;(try simp only[Act.put,aD,aF,aG]);((refine aK 10 ?_;intro K hK);go_simp;(refine hK.out _ _ (λh=>absurd rfl h) ?_);clear hK K;refine ek ?_);go_wp2_with (fail)
      go_meet
      exact⟨v3.heap.size,v,ok,rfl,rfl,(ak.bf v3 (ah v) 33 4 rfl).p4,by simp,(e3).size,hR.ext ((Ext.refl v3).alloc _),(e3).alloc _⟩
     ·go_simp;have ea3:Ext v2 (v2.alloc (.cells zA 33)):=(Ext.refl _).alloc _;have Pt:=ak.bf v2 zA 33 4 rfl;have e3:Ext wd (v2.alloc (.cells zA 33)):=(e2).trans ea3
      try clear ag
      have ag:=hHeld.ext e3;refine hK.out _ _ (λ_=>ag) ?_;clear hK K;(try simp only[Act.put,aD,aF,aG]);(refine aK 4 ?_;intro K hK);go_simp;refine(Df.out (λg=>(Mx M w.heap.size (w.heap.size+3)) g\/g=v2.heap.size) a b (v2.alloc (.cells zA 33)) ((MF (xW.ext e2) (.cells zA 33)).ext (Ext.refl (v2.alloc (.cells zA 33)))) ((((ha).ext d2).more (M':=λg=>(Mx M w.heap.size (w.heap.size+3)) g\/g=v2.heap.size) (λg hg=>hg.imp id λ(h:g=v2.heap.size)=>Nat.le_of_eq h.symm)).ext ea3) (((hb).more (M':=λg=>(Mx M w.heap.size (w.heap.size+3)) g\/g=v2.heap.size) (λg hg=>hg.imp id λ(h:g=v2.heap.size)=>Nat.le_of_eq h.symm)).ext ea3) Bb.out).mono ?_;rintro e v4 ⟨v,ok,rfl,hR,d4⟩;go_wp2_with (fail);have e4:Ext wd v4:=(e3).trans d4;have wF:=(Pt).ext d4
      try clear ag
      have ag:=hHeld.ext e4;refine hK.out _ _ (λ_=>ag) ?_;clear hK K;(try simp only[Act.put,aD,aF,aG]);(refine dF [5,6,7] ?_;(iterate 3 (refine dD (v:=?_) ?_ ?_;rotate_left 1;(intro wS hSw;obtain⟨⟨S1,S2,S3,S4⟩,S5,S6,S7,S8⟩:=hSw;go_simp;try with_reducible rfl);(try simp only[Act.put,aD,aF,aG])));refine dG ?_);obtain⟨⟨q0,q1,q2,q3⟩,⟨f0,f1,f2,f3⟩,yj,aZ,dM⟩:=BI (M':=λg=>(Mx M w.heap.size (w.heap.size+3)) g\/g=v2.heap.size) (w:=wd) (.int .i64 v.lv) (.bool v.b) (.slice v.a v.n v.p) (.slice v.ka v.kn v.kp) (wF) (.inr rfl) (e2).size (e4);simp only[arr]at q0 q1 q2 q3;(refine aK 9 ?_;intro K hK);go_simp;have zF:=hHeld.ext dM;clear ag;refine hK.out _ _ (λ_=>zF) ?_;clear hK K;(try simp only[Act.put,aD,aF,aG]);((refine aK 10 ?_;intro K hK);go_simp;(refine hK.out _ _ (λh=>absurd rfl h) ?_);clear hK K;refine ek ?_);go_wp2_with (fail)
      go_meet
      exact⟨v2.heap.size,v,ok,rfl,rfl,yj,Nat.lt_of_lt_of_eq (wF).lt (lU _ _ _ _ _ _ _).symm,(e2).size,(hR.kp aZ).more (λg hg=>.inl (.inl hg)),dM⟩
    ·go_simp;have ea2:Ext v1 (v1.alloc (.cells zA 33)):=(Ext.refl _).alloc _;have gX:=ak.bf v1 zA 33 4 rfl;have e2:Ext wd (v1.alloc (.cells zA 33)):=(e1).trans ea2
     try clear ag
     have ag:=hHeld.ext e2;refine hK.out _ _ (λ_=>ag) ?_;clear hK K;(try simp only[Act.put,aD,aF,aG]);(refine aK 3 ?_;intro K hK);go_simp;refine(WO.out (λg=>(Mx M w.heap.size (w.heap.size+3)) g\/g=v1.heap.size) (v1.alloc (.cells zA 33)) ((MF (xW.ext e1) (.cells zA 33)).ext (Ext.refl (v1.alloc (.cells zA 33)))) (λg hg=>hg.imp id λh=>by rw[h];exact e1.size) e2).mono ?_;rintro e v3 ⟨b,rfl,hb,d3⟩;go_wp2_with (fail);have e3:Ext wd v3:=(e2).trans d3;have Pt:=(gX).ext d3
     try clear ag
     have ag:=hHeld.ext e3;refine hK.out _ _ (λ_=>ag) ?_;clear hK K;(try simp only[Act.put,aD,aF,aG]);(refine aK 4 ?_;intro K hK);go_simp;refine(Df.out (λg=>(Mx M w.heap.size (w.heap.size+3)) g\/g=v1.heap.size) a b v3 ((MF (xW.ext e1) (.cells zA 33)).ext (((Ext.refl (v1.alloc (.cells zA 33)))).trans d3)) ((((ha).more (M':=λg=>(Mx M w.heap.size (w.heap.size+3)) g\/g=v1.heap.size) (λg hg=>hg.imp id λ(h:g=v1.heap.size)=>Nat.le_of_eq h.symm)).ext ea2).ext d3) (hb) Bb.out).mono ?_;rintro e v4 ⟨v,ok,rfl,hR,d4⟩;go_wp2_with (fail);have e4:Ext wd v4:=(e3).trans d4;have wF:=(Pt).ext d4
     try clear ag
     have ag:=hHeld.ext e4;refine hK.out _ _ (λ_=>ag) ?_;clear hK K;(try simp only[Act.put,aD,aF,aG]);(refine dF [5,6,7] ?_;(iterate 3 (refine dD (v:=?_) ?_ ?_;rotate_left 1;(intro wS hSw;obtain⟨⟨S1,S2,S3,S4⟩,S5,S6,S7,S8⟩:=hSw;go_simp;try with_reducible rfl);(try simp only[Act.put,aD,aF,aG])));refine dG ?_);obtain⟨⟨q0,q1,q2,q3⟩,⟨f0,f1,f2,f3⟩,yj,aZ,dM⟩:=BI (M':=λg=>(Mx M w.heap.size (w.heap.size+3)) g\/g=v1.heap.size) (w:=wd) (.int .i64 v.lv) (.bool v.b) (.slice v.a v.n v.p) (.slice v.ka v.kn v.kp) (wF) (.inr rfl) (e1).size (e4);simp only[arr]at q0 q1 q2 q3;(refine aK 9 ?_;intro K hK);go_simp;have zF:=hHeld.ext dM;clear ag;refine hK.out _ _ (λ_=>zF) ?_;clear hK K;(try simp only[Act.put,aD,aF,aG]);((refine aK 10 ?_;intro K hK);go_simp;(refine hK.out _ _ (λh=>absurd rfl h) ?_);clear hK K;refine ek ?_);go_wp2_with (fail)
     go_meet
     exact⟨v1.heap.size,v,ok,rfl,rfl,yj,Nat.lt_of_lt_of_eq (wF).lt (lU _ _ _ _ _ _ _).symm,(e1).size,(hR.kp aZ).more (λg hg=>.inl (.inl hg)),dM⟩
   ·go_simp;have ea1:Ext wd (wd.alloc (.cells zA 33)):=(Ext.refl _).alloc _;have hb1:=ak.bf wd zA 33 4 rfl;have e1:Ext wd (wd.alloc (.cells zA 33)):=((Ext.refl wd)).trans ea1
    try clear ag
    have ag:=hHeld.ext e1;refine hK.out _ _ (λ_=>ag) ?_;clear hK K;(try simp only[Act.put,aD,aF,aG]);(refine aK 1 ?_;intro K hK);go_simp;refine(CN1.out (λg=>(Mx M w.heap.size (w.heap.size+3)) g\/g=wd.heap.size) (wd.alloc (.cells zA 33)) ((MF (xW.ext (Ext.refl wd)) (.cells zA 33)).ext (Ext.refl (wd.alloc (.cells zA 33)))) (λg hg=>hg.imp id λh=>by rw[h];exact(Ext.refl wd).size) e1).mono ?_;rintro e v2 ⟨a,rfl,ha,d2⟩;go_wp2_with (fail);have e2:Ext wd v2:=(e1).trans d2;have gX:=(hb1).ext d2
    try clear ag
    have ag:=hHeld.ext e2;refine hK.out _ _ (λ_=>ag) ?_;clear hK K;(try simp only[Act.put,aD,aF,aG]);(refine aK 3 ?_;intro K hK);go_simp;refine(WO.out (λg=>(Mx M w.heap.size (w.heap.size+3)) g\/g=wd.heap.size) v2 ((MF (xW.ext (Ext.refl wd)) (.cells zA 33)).ext (((Ext.refl (wd.alloc (.cells zA 33)))).trans d2)) (λg hg=>hg.imp id λh=>by rw[h];exact(Ext.refl wd).size) e2).mono ?_;rintro e v3 ⟨b,rfl,hb,d3⟩;go_wp2_with (fail);have e3:Ext wd v3:=(e2).trans d3;have Pt:=(gX).ext d3
    try clear ag
    have ag:=hHeld.ext e3;refine hK.out _ _ (λ_=>ag) ?_;clear hK K;(try simp only[Act.put,aD,aF,aG]);(refine aK 4 ?_;intro K hK);go_simp;refine(Df.out (λg=>(Mx M w.heap.size (w.heap.size+3)) g\/g=wd.heap.size) a b v3 ((MF (xW.ext (Ext.refl wd)) (.cells zA 33)).ext (((((Ext.refl (wd.alloc (.cells zA 33)))).trans d2)).trans d3)) ((ha).ext d3) (hb) Bb.out).mono ?_;rintro e v4 ⟨v,ok,rfl,hR,d4⟩;go_wp2_with (fail);have e4:Ext wd v4:=(e3).trans d4;have wF:=(Pt).ext d4
    try clear ag
    have ag:=hHeld.ext e4;refine hK.out _ _ (λ_=>ag) ?_;clear hK K;(try simp only[Act.put,aD,aF,aG]);(refine dF [5,6,7] ?_;(iterate 3 (refine dD (v:=?_) ?_ ?_;rotate_left 1;(intro wS hSw;obtain⟨⟨S1,S2,S3,S4⟩,S5,S6,S7,S8⟩:=hSw;go_simp;try with_reducible rfl);(try simp only[Act.put,aD,aF,aG])));refine dG ?_);obtain⟨⟨q0,q1,q2,q3⟩,⟨f0,f1,f2,f3⟩,yj,aZ,dM⟩:=BI (M':=λg=>(Mx M w.heap.size (w.heap.size+3)) g\/g=wd.heap.size) (w:=wd) (.int .i64 v.lv) (.bool v.b) (.slice v.a v.n v.p) (.slice v.ka v.kn v.kp) (wF) (.inr rfl) ((Ext.refl wd)).size (e4);simp only[arr]at q0 q1 q2 q3;(refine aK 9 ?_;intro K hK);go_simp;have zF:=hHeld.ext dM;clear ag;refine hK.out _ _ (λ_=>zF) ?_;clear hK K;(try simp only[Act.put,aD,aF,aG]);((refine aK 10 ?_;intro K hK);go_simp;(refine hK.out _ _ (λh=>absurd rfl h) ?_);clear hK K;refine ek ?_);go_wp2_with (fail)
    go_meet
    exact⟨wd.heap.size,v,ok,rfl,rfl,yj,Nat.lt_of_lt_of_eq (wF).lt (lU _ _ _ _ _ _ _).symm,((Ext.refl wd)).size,(hR.kp aZ).more (λg hg=>.inl (.inl hg)),dM⟩
  case rest=>
   obtain⟨gc,v,ok,rfl,rfl,hv,PS,zU,hR,PK⟩:=hcut;have aR:Ext w1 wc:=(Ext.refl w1).drew.trans PK;have ou:=Lib.hid hR;have oL:=Lib.hid (cB.out.ext aR);have Iq:=Lib.hid (aL.out.trans aR);have l6:w.heap.size+2<wc.heap.size:=Nat.lt_of_lt_of_le kQ aR.size;obtain⟨v0,v1,v2,v3⟩:=hv;clear hR PK aR zU fO cB aL kW ku qE Df kQ
   cases ok with
   |false=>
    obtain⟨⟨q0,q1,q2,q3⟩,⟨f0,f1,f2,f3⟩,⟨r0,r1,r2,r3⟩,HF⟩:=iW (M:=M) (M':=Mx M w.heap.size (w.heap.size+3)) (w:=w) (L:=0) (l:=[]) (y:=PE.z) oL.out (Mx.at (by omega)) (by omega) Iq.out (CR.zero _ _ 0) Mx.sub;obtain⟨_,_,_,dM⟩:=HF;have dY:Hid (KQ M w l r A2 (.returned (.tuple #[.agg (ah PE.z),.int .i64 3])) _):=⟨PE.z,3,rfl,.inr (.inr ⟨rfl,rfl,Bb.out,ou.out.2 rfl⟩),dM⟩;simp only[PE.z]at r0 r1 r2 r3;clear dM ou oL Iq v0 v1 v2 v3;go_wp2;exact bodyPost_ret (v:=.tuple #[.agg (ah PE.z),.int .i64 3]) (by simp[results,Tryz.results14,go_sem,r0,r1,r2,r3,PE.z]) rfl dY.out
   |true=>
    obtain⟨q,hq1,hq2,wP⟩:=ou.out.1 rfl;obtain⟨⟨q0,q1,q2,q3⟩,⟨f0,f1,f2,f3⟩,⟨r0,r1,r2,r3⟩,HF⟩:=iW (M:=M) (w:=w) oL.out (Mx.at (by omega)) (by omega) Iq.out hq1 Mx.sub;obtain⟨v',e',Jf,dM⟩:=HF;simp only[Ending.returned.injEq,Value.agg.injEq]at e';have dY:Hid (KQ M w l r A2 (.returned (.tuple #[.agg (ah v),.int .i64 0])) _):=⟨v',0,by rw[e'],.inr (.inl ⟨rfl,Bb.out,q,Jf,hq2,wP⟩),dM⟩;clear dM Jf e' hq1 hq2 wP ou oL Iq;go_wp2;exact bodyPost_ret (v:=.tuple #[.agg (ah v),.int .i64 0]) (by simp[results,Tryz.results14,go_sem,r0,r1,r2,r3]) rfl dY.out
end Go.Proofs.YtmcfpnmoklnhoaaGreat
