/- the fixed example of cylinderlaw24: plain facts. cylinderlaw24.fit: the walk. the small functions of cylinderlaw24; plain facts of PseudoExact. PseudoExact: the walk. -/
import Derived.Test.YtmcfpnmoklnhoaaGreatBh
import Derived.Test.YtmcfpnmoklnhoaaGreatMu
import Derived.Test.YtmcfpnmoklnhoaaGreatMt
import Derived.Test.YtmcfpnmoklnhoaaGreatMr
set_option linter.unusedVariables false
set_option maxRecDepth 100000
set_option maxHeartbeats 400000000
set_option linter.unusedSimpArgs false

namespace Go.Proofs.YtmcfpnmoklnhoaaGreat
open Go.RowKit

theorem qjQ {l r:List Tm} (hl:NN l) (hr:NN r) (h:norm l=norm r):Sim l r:=by
 have h1:=qai hl;have h2:=qai hr;rw [<- h] at h2;exact h1.symm.trans h2
theorem qf7 {l:List Tm} {B:Nat} (hl:NN l) (h : ∀ s ∈ l,s.2.a<=B/\s.2.b<=B/\s.2.c<=B/\s.2.d<=B):Deg B l:=by
 refine (qhz (B:=B) fun s hs k=>?_).sim (qai hl);obtain ⟨h1,h2,h3,h4⟩:=h s hs;unfold Mo.get
 repeat' split
 all_goals omega
theorem qvJ {q p g:List Tm} (hq:NN q) (hp:NN p) (hg:NN g) (hz : ¬ Sim g []) (h:Sim (pmul q g) (pmul p g)):Sim q p:=by
 have hN:NN (q ++ qbf p):=hq.append (qbH hp)
 have h1:Sim (pmul (q ++ qbf p) g) []:=fun m=>by
  rw [qaq,qad];have a1:=h m;have a2:=(Sim.pmul_assoc p [(-1,Mo.zero)] g) m;have a3:=((Sim.pmul_comm [(-1,Mo.zero)] g).pmul_right p) m;have a4:=(Sim.pmul_assoc p g [(-1,Mo.zero)]) m;have a5:=qaH (pmul p g) m;show _=(0:Int);simp only [qbf] at a5 ⊢;omega
 have h2:Sim (q ++ qbf p) []:=Classical.byContradiction fun hc=>qaT hN hg hc hz h1
 exact fun m=>by
  have:=h2 m;rw [qad,qaH] at this;have e:qab [] m=0:=rfl;omega
def fP:List Tm:=qaO (qbV 1) 2 ++ qbf (qaO (qbV 2) 2)
def fS:List Tm:=qbV 1 ++ qbV 2
def fQ:List Tm:=qbV 1 ++ qbf (qbV 2)
theorem qvl:NN fP:=qaM (by decide)
theorem qvh:NN fS:=qaM (by decide)
theorem qvk:NN fQ:=qaM (by decide)
theorem qvm:Deg 2 fP:=qf7 qvl (by decide)
theorem qvj:Deg 1 fS:=qf7 qvh (by decide)
theorem qrN:Sim (pmul fQ fS) fP:=qjQ (qaM (by decide)) qvl (by decide)
theorem qvi : ¬ Sim fS []:=fun h=>by
 have:=h ⟨1,0,0,0⟩;revert this;decide
theorem qvg {q:List Tm} (hq:NN q) (h:Sim (pmul q fS) fP):Sim q fQ:=qvJ hq qvk qvh qvi (h.trans qrN.symm)
theorem qx0:Dv fS fP:=⟨fQ,qvk,qrN⟩
theorem quz (i:Int):NN (qbV i):=by
 unfold qbV
 split
 ·exact qaM fun t ht => by
   simp only [List.mem_singleton] at ht;subst ht;rw [Mo.nn_iff];refine ⟨?_,?_,?_,?_⟩ <;> (simp only [xp];split <;> omega)
 ·exact NN.nil
theorem qsl:snorm (qbV 1)=qbV 1:=by decide
theorem qxq : ¬ Sim (qbV 1) []:=fun h=>by
 have:=h ⟨1,0,0,0⟩;revert this;decide
theorem qxZ:Dv (qbV 1) (pmul (qbV 1) (qbV 2)):=⟨qbV 2,quz 2,Sim.pmul_comm _ _⟩
theorem qwS : ¬ Dv (qbV 1) (qbV 2):=by
 rintro ⟨q,hq,h⟩;have h1:=h ⟨0,1,0,0⟩;have h2:=(qcb q (1,⟨1,0,0,0⟩)) ⟨0,1,0,0⟩
 have e:qbV 1 = [(1,⟨1,0,0,0⟩)]:=by decide
 rw [e] at h1;rw [h2,qaF,qag,hq _ (by decide)] at h1;revert h1;decide
theorem qwR:OkB 1 4 2:=by
 simp only [OkB,inB];decide
theorem qtz:2+qX 1 4 2*(2+2)<=549755813888:=by
 simp only [qX,inB];decide


def SFt (g1 g2:Nat) (x y:PE) (w:World):Prop:=P4 w g1 x/\P4 w g2 y
theorem SFt.ext {g1 g2:Nat} {x y:PE} {w w':World} (h:SFt g1 g2 x y w) (he:Ext w w'):SFt g1 g2 x y w':=⟨h.1.ext he,h.2.ext he⟩
def qxj (W:World) (s3 s4:Value) (wx:World):Prop:=∃ (g:Nat) (v:PE),s3 = .pointer (some ⟨g,0,none⟩)/\s4 = .int .i64 0/\P4 wx g v/\CRx M0 wx 4 v fQ/\Ext W wx
theorem qqN {M:Nat->Prop} {w w':World} {e:Ending} {A:Nat} (h:qrb M w fP fS A e w') : ∃ v:PE,e = .returned (.tuple #[.agg (peA v),.int .i64 0])/\CRx M w' 4 v fQ/\Ext w w':=by
 obtain ⟨v,er,h1,h2,h3⟩:=h;rcases h2 with ⟨_,h4,_⟩ | ⟨rfl,_,q,q1,q2,_⟩ | ⟨_,_,_,h4⟩
 ·exact absurd h4 qvi
 ·exact ⟨v,h1,q1.sim (qvg q1.nn q2),h3⟩
 ·exact absurd qx0 h4
def SF3 (g1 g2 g3:Nat) (x y v:PE) (w:World):Prop:=P4 w g1 x/\P4 w g2 y/\P4 w g3 v
theorem SF3.ext {g1 g2 g3:Nat} {x y v:PE} {w w':World} (h:SF3 g1 g2 g3 x y v w) (he:Ext w w'):SF3 g1 g2 g3 x y v w':=⟨h.1.ext he,h.2.1.ext he,h.2.2.ext he⟩
theorem CRx.tbN {M:Nat->Prop} {w:World} {L:Nat} {x:PE} {l:List Tm} {B:Nat} (h:CRx M w L x l) (hL4:L<=4) (hL:dlen (nrm l)<=1099511627776) (hB:Deg B l) (hB4:(B+1) ^ 4<=1099511627776) : ∃ t:RT (L+1),RR M w (L+1) t (.int .i64 x.lv) (.bool x.b) (.slice x.a x.n x.p) (.slice x.ka x.kn x.kp)/\TB (L+1) t/\Sim (qak (L+1) t) l/\nrm (qak (L+1) t)<=nrm l:=by
 obtain ⟨t,h1,h2,h3,h4⟩:=h;have hlv:=qch h2;have hlen:=qeI B (L+1) t h2 h1.ok (qb9 h4 hB);have hpow:(B+1) ^ (Go.Proofs.YtmcfpnmoklnhoaaGreat.lev (L+1) t).toNat<=(B+1) ^ 4:=Nat.pow_le_pow_right (by omega) (by show t.1.toNat<=4;omega)
 have hB1:B+1<=(B+1) ^ 4:=by
  have h5:=Nat.pow_le_pow_right (show 0<B+1 by omega) (show 1<=4 by omega)
  rwa [Nat.pow_one] at h5
 have hBs:B<=1073741824:=by
  refine Classical.byContradiction fun hc=>?_;have h6:(1073741825:Nat) ^ 2<=(B+1) ^ 4:=Nat.le_trans (Nat.pow_le_pow_left (show 1073741825<=B+1 by omega) 2) (Nat.pow_le_pow_right (by omega) (by omega));omega
 refine ⟨t,h1,⟨by omega,by omega,Nat.le_trans (qah (qcL h2 h4)) hL,fun s hs k=>?_⟩,h4,qcL h2 h4⟩;have:=qeJ B (L+1) t h2 h1.ok (qb9 h4 hB) s hs k;omega
theorem qxp {M:Nat->Prop} {w:World} {x:PE} (hx:CRx M w 4 x (qbV 1)) (M':Nat->Prop) (W':World) (h1:Mb M' W') (h2 : ∀ g,M' g->M g∨w.heap.size<=g) (h3:Ext w W'):Calls Tryz.prog 73 #[.agg (peA x)] W' (qa4 M' W' 4 (qbV 1)):=by
 obtain ⟨t,hR,hT,hS,hN⟩:=hx.tbN (B:=1) (Nat.le_refl _) (by decide) (qdx 1) (by decide);have hsn:snorm (qak (4+1) t)=qbV 1:=hS.snorm.trans qsl;rw [<- hsn];refine qlk M' (4+1) t x W' h1 (RR.ext (RR.more h2 hR) h3) hT ?_;have h5:=qah hN
 have h6:dlen (nrm (qbV 1))=1:=by decide
 omega
theorem qoj (w:World):Calls Tryz.prog 8 #[] w fun e w'=>e = .returned (.bool true)/\Ext w w':=by
 go_enter Tryz.func8,Tryz.ntmps8
 go_wp2_with (fail);refine (qrt M0 1 _ (mb0 _)).mono ?_;rintro e w1 ⟨x,rfl,hx,he1⟩;go_wp2_with (fail);refine (qrt M0 2 _ (mb0 _)).mono ?_;rintro e w2 ⟨y,rfl,hy,he2⟩;have hb1:=Blk.of_arr w2 (peA x) 33 4 rfl;have hb2:=Blk.of_arr (w2.alloc (.cells (peA x) 33)) (peA y) 33 4 rfl;simp only [World.size_alloc] at hb2;have hE2:Ext w2 ((w2.alloc (.cells (peA x) 33)).alloc (.cells (peA y) 33)):=((Ext.refl w2).alloc _).alloc _;have HS0:Hid (SFt w2.heap.size (w2.heap.size+1) x y ((w2.alloc (.cells (peA x) 33)).alloc (.cells (peA y) 33))):=⟨(hb1.alloc _).p4,hb2.p4⟩;have HX:=Lib.hid ((hx.ext he2).ext hE2);have HY:=Lib.hid (hy.ext hE2);have HE:=Lib.hid ((he1.trans he2).trans hE2);clear hb1 hb2 hE2 hx hy he1 he2
 go_upto_region 2 with (fail)
 generalize (w2.alloc (.cells (peA x) 33)).alloc (.cells (peA y) 33)=W at *
 go_cut [3,4] (qxj W.drew)
 case first=>
  have hEd:Ext W W.drew:=(Ext.refl W).drew;have HS2:Hid (SFt w2.heap.size (w2.heap.size+1) x y W.drew):=HS0.out.ext hEd;have hMd:Mb M0 W.drew:=mb0 _;have C1:Hid (∀ (M':Nat->Prop) (W':World),Mb M' W'->(∀ g,M' g->M0 g∨W.drew.heap.size<=g)->Ext W.drew W'->Calls Tryz.prog 53 #[.agg (peA x),.int .i64 2] W' (qa4 M' W' 4 (qaO (qbV 1) 2))):=fun M' W' h1 h2 h3=>qnC M' x (qbV 1) 1 2 W' h1 (((HX.out.ext hEd).more h2).ext h3).pi (by decide) (by decide) (qdx 1) (by decide);have C3:Hid (∀ (M':Nat->Prop) (W':World),Mb M' W'->(∀ g,M' g->M0 g∨W.drew.heap.size<=g)->Ext W.drew W'->Calls Tryz.prog 53 #[.agg (peA y),.int .i64 2] W' (qa4 M' W' 4 (qaO (qbV 2) 2))):=fun M' W' h1 h2 h3=>qnC M' y (qbV 2) 1 2 W' h1 (((HY.out.ext hEd).more h2).ext h3).pi (by decide) (by decide) (qdx 2) (by decide);have C4:Hid (∀ (M':Nat->Prop) (W':World) (p q:PE),Mb M' W'->CRx M' W' 4 p (qaO (qbV 1) 2)->CRx M' W' 4 q (qaO (qbV 2) 2)->Calls Tryz.prog 38 #[.agg (peA p),.agg (peA q)] W' (qa4 M' W' 4 fP)):=fun M' W' p q h1 h2 h3=>qiP M' p q _ _ 2 W' h1 h2.pi h3.pi (by decide) (by decide) (qf7 (qaM (by decide)) (by decide)) (by decide);have C7:Hid (∀ (M':Nat->Prop) (W':World),Mb M' W'->(∀ g,M' g->M0 g∨W.drew.heap.size<=g)->Ext W.drew W'->Calls Tryz.prog 54 #[.agg (peA x),.agg (peA y)] W' (qa4 M' W' 4 fS)):=fun M' W' h1 h2 h3=>quQ M' x y (qbV 1) (qbV 2) W' h1 (((HX.out.ext hEd).more h2).ext h3).pi (((HY.out.ext hEd).more h2).ext h3).pi (by decide);have C8:Hid (∀ (M':Nat->Prop) (W':World) (p q:PE),Mb M' W'->CRx M' W' 4 p fP->CRx M' W' 4 q fS->Calls Tryz.prog 14 #[.agg (peA p),.agg (peA q)] W' (fun e w'=>∃ v:PE,e = .returned (.tuple #[.agg (peA v),.int .i64 0])/\CRx M' w' 4 v fQ/\Ext W' w')):=fun M' W' p q h1 h2 h3=>(qk2 1 2 M' fP fS p q 2 2 W' h1 h2.pi h3.pi qvm qvj (by decide) (by decide) qwR qtz).mono fun e w' hp=>qqN hp
  refine qae (SFt w2.heap.size (w2.heap.size+1) x y) 14 (by kernel_rfl) HS2.out (fun hHeld=>?_);clear HX HY HE HS0 HS2 hEd;generalize W.drew=wd at *;(refine tkB [0,2,5,6] ?_;(iterate 4 (refine tk1 (oi:=?_) (v:=?_) (by kernel_rfl) (by first | exact hSn | exact hHeld) ?_ ?_ ?_ ?_ ?_;rotate_left 2;(simp only [xgA,xgB,xgC];rfl);rfl;(intro wS hSw;obtain ⟨⟨S1,S2,S3,S4⟩,S5,S6,S7,S8⟩:=hSw;go_simp;try with_reducible rfl);(exact fun _ _ _ h=>h);(try simp only [Act.put,xgD,xgE,xgF])));refine tkE ?_);(refine qaC 1 12 (oi:=?_) (oj:=?_) (by kernel_rfl) ?_ ?_ ?_ ?_;rotate_left 2;(simp only [xgA,xgB,xgC];rfl);(simp only [xgA,xgB,xgC];rfl);all_goals intro K hK)
  ·go_simp;refine (C1.out M0 wd (hMd.ext (Ext.refl wd)) (fun g hg=>.inl hg) (Ext.refl wd)).mono ?_;rintro e v1 ⟨p1,rfl,hp1,d1⟩;go_wp2_with (fail);have e1:Ext wd v1:=((Ext.refl wd)).trans d1
   try clear hSn
   have hSn:=hHeld.ext e1;refine hK.out _ _ (fun _=>hSn) ?_;clear hK K;(try simp only [Act.put,xgD,xgE,xgF]);(refine qaC 3 12 (oi:=?_) (oj:=?_) (by kernel_rfl) ?_ ?_ ?_ ?_;rotate_left 2;(simp only [xgA,xgB,xgC];rfl);(simp only [xgA,xgB,xgC];rfl);all_goals intro K hK)
   ·go_simp;refine (C3.out M0 v1 (hMd.ext e1) (fun g hg=>.inl hg) e1).mono ?_;rintro e v2 ⟨p2,rfl,hp2,d2⟩;go_wp2_with (fail);have e2:Ext wd v2:=(e1).trans d2
    try clear hSn
    have hSn:=hHeld.ext e2;refine hK.out _ _ (fun _=>hSn) ?_;clear hK K;(try simp only [Act.put,xgD,xgE,xgF]);(refine qaC 4 12 (oi:=?_) (oj:=?_) (by kernel_rfl) ?_ ?_ ?_ ?_;rotate_left 2;(simp only [xgA,xgB,xgC];rfl);(simp only [xgA,xgB,xgC];rfl);all_goals intro K hK)
    ·go_simp;refine (C4.out M0 v2 p1 p2 (hMd.ext e2) ((hp1).ext d2) (hp2)).mono ?_;rintro e v3 ⟨p3,rfl,hp3,d3⟩;go_wp2_with (fail);have e3:Ext wd v3:=(e2).trans d3
     try clear hSn
     have hSn:=hHeld.ext e3;refine hK.out _ _ (fun _=>hSn) ?_;clear hK K;(try simp only [Act.put,xgD,xgE,xgF]);(refine qaC 7 12 (oi:=?_) (oj:=?_) (by kernel_rfl) ?_ ?_ ?_ ?_;rotate_left 2;(simp only [xgA,xgB,xgC];rfl);(simp only [xgA,xgB,xgC];rfl);all_goals intro K hK)
     ·go_simp;refine (C7.out M0 v3 (hMd.ext e3) (fun g hg=>.inl hg) e3).mono ?_;rintro e v4 ⟨p4,rfl,hp4,d4⟩;go_wp2_with (fail);have e4:Ext wd v4:=(e3).trans d4
      try clear hSn
      have hSn:=hHeld.ext e4;refine hK.out _ _ (fun _=>hSn) ?_;clear hK K;(try simp only [Act.put,xgD,xgE,xgF]);(refine qaC 8 12 (oi:=?_) (oj:=?_) (by kernel_rfl) ?_ ?_ ?_ ?_;rotate_left 2;(simp only [xgA,xgB,xgC];rfl);(simp only [xgA,xgB,xgC];rfl);all_goals intro K hK)
      ·go_simp;refine (C8.out M0 v4 p3 p4 (hMd.ext e4) ((hp3).ext d4) (hp4)).mono ?_;rintro e v5 ⟨v,rfl,hv,d5⟩;go_wp2_with (fail);have e5:Ext wd v5:=(e4).trans d5
       try clear hSn
       have hSn:=hHeld.ext e5;refine hK.out _ _ (fun _=>hSn) ?_;clear hK K;(try simp only [Act.put,xgD,xgE,xgF]);(refine tkB [9,10,11] ?_;(iterate 3 (refine tk1 (oi:=?_) (v:=?_) (by kernel_rfl) (by first | exact hSn | exact hHeld) ?_ ?_ ?_ ?_ ?_;rotate_left 2;(simp only [xgA,xgB,xgC];rfl);rfl;(intro wS hSw;obtain ⟨⟨S1,S2,S3,S4⟩,S5,S6,S7,S8⟩:=hSw;go_simp;try with_reducible rfl);(exact fun _ _ _ h=>h);(try simp only [Act.put,xgD,xgE,xgF])));refine tkE ?_);(refine qaa 12 (o:=?_) (by kernel_rfl) ?_ ?_;rotate_left 1;(simp only [xgA,xgB,xgC];rfl);intro K hK);go_simp;have hSn2:=hSn.ext ((Ext.refl v5).alloc (.cells zA 33));have hSn3:=hSn.ext ((Ext.refl v5).alloc (.cells (peA v) 33));clear hSn;refine hK.out _ _ (fun _=>hSn2) ?_;clear hK K;(try simp only [Act.put,xgD,xgE,xgF]);(refine qaa 13 (o:=?_) (by kernel_rfl) ?_ ?_;rotate_left 1;(simp only [xgA,xgB,xgC];rfl);intro K hK);go_simp;refine hK.out _ _ (fun _=>hSn3) ?_;clear hK K;(try simp only [Act.put,xgD,xgE,xgF]);((refine qaa 14 (o:=?_) (by kernel_rfl) ?_ ?_;rotate_left 1;(simp only [xgA,xgB,xgC];rfl);intro K hK);go_simp;(refine hK.out _ _ (fun h=>absurd rfl h) ?_);clear hK K;refine qac (by kernel_rfl) ?_ _);go_wp2_with (fail)
       go_meet
       exact ⟨v5.heap.size,v,rfl,rfl,(Blk.of_arr v5 (peA v) 33 4 rfl).p4,hv.ext ((Ext.refl v5).alloc _),(e5).alloc _⟩
      ·go_simp;have ea5:Ext v4 (v4.alloc (.cells zA 33)):=(Ext.refl _).alloc _;have hb5:=Blk.of_arr v4 zA 33 4 rfl;have e5:Ext wd (v4.alloc (.cells zA 33)):=(e4).trans ea5
       try clear hSn
       have hSn:=hHeld.ext e5;refine hK.out _ _ (fun _=>hSn) ?_;clear hK K;(try simp only [Act.put,xgD,xgE,xgF]);(refine qaa 8 (o:=?_) (by kernel_rfl) ?_ ?_;rotate_left 1;(simp only [xgA,xgB,xgC];rfl);intro K hK);go_simp;refine (C8.out (fun g=>M0 g∨g=v4.heap.size) (v4.alloc (.cells zA 33)) p3 p4 ((qce (hMd.ext e4) (.cells zA 33)).ext (Ext.refl (v4.alloc (.cells zA 33)))) ((((hp3).ext d4).more (M':=fun g=>M0 g∨g=v4.heap.size) (fun g hg=>hg.imp id fun (h:g=v4.heap.size)=>Nat.le_of_eq h.symm)).ext ea5) (((hp4).more (M':=fun g=>M0 g∨g=v4.heap.size) (fun g hg=>hg.imp id fun (h:g=v4.heap.size)=>Nat.le_of_eq h.symm)).ext ea5)).mono ?_;rintro e v6 ⟨v,rfl,hv,d6⟩;go_wp2_with (fail);have e6:Ext wd v6:=(e5).trans d6;have hb6:=(hb5).ext d6
       try clear hSn
       have hSn:=hHeld.ext e6;refine hK.out _ _ (fun _=>hSn) ?_;clear hK K;(try simp only [Act.put,xgD,xgE,xgF]);(refine tkB [9,10,11] ?_;(iterate 3 (refine tk1 (oi:=?_) (v:=?_) (by kernel_rfl) (by first | exact hSn | exact hHeld) ?_ ?_ ?_ ?_ ?_;rotate_left 2;(simp only [xgA,xgB,xgC];rfl);rfl;(intro wS hSw;obtain ⟨⟨S1,S2,S3,S4⟩,S5,S6,S7,S8⟩:=hSw;go_simp;try with_reducible rfl);(exact fun _ _ _ h=>h);(try simp only [Act.put,xgD,xgE,xgF])));refine tkE ?_);obtain ⟨⟨q0,q1,q2,q3⟩,⟨f0,f1,f2,f3⟩,hrr,hkp,hext⟩:=qg3 (M':=fun g=>M0 g∨g=v4.heap.size) (w:=wd) (.int .i64 v.lv) (.bool v.b) (.slice v.a v.n v.p) (.slice v.ka v.kn v.kp) (hb6) (.inr rfl) (e4).size (e6);simp only [arr] at q0 q1 q2 q3;(refine qaa 13 (o:=?_) (by kernel_rfl) ?_ ?_;rotate_left 1;(simp only [xgA,xgB,xgC];rfl);intro K hK);go_simp;have hSn3:=hHeld.ext hext;clear hSn;refine hK.out _ _ (fun _=>hSn3) ?_;clear hK K;(try simp only [Act.put,xgD,xgE,xgF]);((refine qaa 14 (o:=?_) (by kernel_rfl) ?_ ?_;rotate_left 1;(simp only [xgA,xgB,xgC];rfl);intro K hK);go_simp;(refine hK.out _ _ (fun h=>absurd rfl h) ?_);clear hK K;refine qac (by kernel_rfl) ?_ _);go_wp2_with (fail)
       go_meet
       exact ⟨v4.heap.size,v,rfl,rfl,hrr,(hv.kp hkp).more (fun g hg=>.inl (.inl hg)),hext⟩
     ·go_simp;have ea4:Ext v3 (v3.alloc (.cells zA 33)):=(Ext.refl _).alloc _;have hb4:=Blk.of_arr v3 zA 33 4 rfl;have e4:Ext wd (v3.alloc (.cells zA 33)):=(e3).trans ea4
      try clear hSn
      have hSn:=hHeld.ext e4;refine hK.out _ _ (fun _=>hSn) ?_;clear hK K;(try simp only [Act.put,xgD,xgE,xgF]);(refine qaa 7 (o:=?_) (by kernel_rfl) ?_ ?_;rotate_left 1;(simp only [xgA,xgB,xgC];rfl);intro K hK);go_simp;refine (C7.out (fun g=>M0 g∨g=v3.heap.size) (v3.alloc (.cells zA 33)) ((qce (hMd.ext e3) (.cells zA 33)).ext (Ext.refl (v3.alloc (.cells zA 33)))) (fun g hg=>hg.imp id fun h=>by rw [h];exact e3.size) e4).mono ?_;rintro e v5 ⟨p4,rfl,hp4,d5⟩;go_wp2_with (fail);have e5:Ext wd v5:=(e4).trans d5;have hb5:=(hb4).ext d5
      try clear hSn
      have hSn:=hHeld.ext e5;refine hK.out _ _ (fun _=>hSn) ?_;clear hK K;(try simp only [Act.put,xgD,xgE,xgF]);(refine qaa 8 (o:=?_) (by kernel_rfl) ?_ ?_;rotate_left 1;(simp only [xgA,xgB,xgC];rfl);intro K hK);go_simp;refine (C8.out (fun g=>M0 g∨g=v3.heap.size) v5 p3 p4 ((qce (hMd.ext e3) (.cells zA 33)).ext (((Ext.refl (v3.alloc (.cells zA 33)))).trans d5)) ((((hp3).more (M':=fun g=>M0 g∨g=v3.heap.size) (fun g hg=>hg.imp id fun (h:g=v3.heap.size)=>Nat.le_of_eq h.symm)).ext ea4).ext d5) (hp4)).mono ?_;rintro e v6 ⟨v,rfl,hv,d6⟩;go_wp2_with (fail);have e6:Ext wd v6:=(e5).trans d6;have hb6:=(hb5).ext d6
      try clear hSn
      have hSn:=hHeld.ext e6;refine hK.out _ _ (fun _=>hSn) ?_;clear hK K;(try simp only [Act.put,xgD,xgE,xgF]);(refine tkB [9,10,11] ?_;(iterate 3 (refine tk1 (oi:=?_) (v:=?_) (by kernel_rfl) (by first | exact hSn | exact hHeld) ?_ ?_ ?_ ?_ ?_;rotate_left 2;(simp only [xgA,xgB,xgC];rfl);rfl;(intro wS hSw;obtain ⟨⟨S1,S2,S3,S4⟩,S5,S6,S7,S8⟩:=hSw;go_simp;try with_reducible rfl);(exact fun _ _ _ h=>h);(try simp only [Act.put,xgD,xgE,xgF])));refine tkE ?_);obtain ⟨⟨q0,q1,q2,q3⟩,⟨f0,f1,f2,f3⟩,hrr,hkp,hext⟩:=qg3 (M':=fun g=>M0 g∨g=v3.heap.size) (w:=wd) (.int .i64 v.lv) (.bool v.b) (.slice v.a v.n v.p) (.slice v.ka v.kn v.kp) (hb6) (.inr rfl) (e3).size (e6);simp only [arr] at q0 q1 q2 q3;(refine qaa 13 (o:=?_) (by kernel_rfl) ?_ ?_;rotate_left 1;(simp only [xgA,xgB,xgC];rfl);intro K hK);go_simp;have hSn3:=hHeld.ext hext;clear hSn;refine hK.out _ _ (fun _=>hSn3) ?_;clear hK K;(try simp only [Act.put,xgD,xgE,xgF]);((refine qaa 14 (o:=?_) (by kernel_rfl) ?_ ?_;rotate_left 1;(simp only [xgA,xgB,xgC];rfl);intro K hK);go_simp;(refine hK.out _ _ (fun h=>absurd rfl h) ?_);clear hK K;refine qac (by kernel_rfl) ?_ _);go_wp2_with (fail)
      go_meet
      exact ⟨v3.heap.size,v,rfl,rfl,hrr,(hv.kp hkp).more (fun g hg=>.inl (.inl hg)),hext⟩
    ·go_simp;have ea3:Ext v2 (v2.alloc (.cells zA 33)):=(Ext.refl _).alloc _;have hb3:=Blk.of_arr v2 zA 33 4 rfl;have e3:Ext wd (v2.alloc (.cells zA 33)):=(e2).trans ea3
     try clear hSn
     have hSn:=hHeld.ext e3;refine hK.out _ _ (fun _=>hSn) ?_;clear hK K;(try simp only [Act.put,xgD,xgE,xgF]);(refine qaa 4 (o:=?_) (by kernel_rfl) ?_ ?_;rotate_left 1;(simp only [xgA,xgB,xgC];rfl);intro K hK);go_simp;refine (C4.out (fun g=>M0 g∨g=v2.heap.size) (v2.alloc (.cells zA 33)) p1 p2 ((qce (hMd.ext e2) (.cells zA 33)).ext (Ext.refl (v2.alloc (.cells zA 33)))) ((((hp1).ext d2).more (M':=fun g=>M0 g∨g=v2.heap.size) (fun g hg=>hg.imp id fun (h:g=v2.heap.size)=>Nat.le_of_eq h.symm)).ext ea3) (((hp2).more (M':=fun g=>M0 g∨g=v2.heap.size) (fun g hg=>hg.imp id fun (h:g=v2.heap.size)=>Nat.le_of_eq h.symm)).ext ea3)).mono ?_;rintro e v4 ⟨p3,rfl,hp3,d4⟩;go_wp2_with (fail);have e4:Ext wd v4:=(e3).trans d4;have hb4:=(hb3).ext d4
     try clear hSn
     have hSn:=hHeld.ext e4;refine hK.out _ _ (fun _=>hSn) ?_;clear hK K;(try simp only [Act.put,xgD,xgE,xgF]);(refine qaa 7 (o:=?_) (by kernel_rfl) ?_ ?_;rotate_left 1;(simp only [xgA,xgB,xgC];rfl);intro K hK);go_simp;refine (C7.out (fun g=>M0 g∨g=v2.heap.size) v4 ((qce (hMd.ext e2) (.cells zA 33)).ext (((Ext.refl (v2.alloc (.cells zA 33)))).trans d4)) (fun g hg=>hg.imp id fun h=>by rw [h];exact e2.size) e4).mono ?_;rintro e v5 ⟨p4,rfl,hp4,d5⟩;go_wp2_with (fail);have e5:Ext wd v5:=(e4).trans d5;have hb5:=(hb4).ext d5
     try clear hSn
     have hSn:=hHeld.ext e5;refine hK.out _ _ (fun _=>hSn) ?_;clear hK K;(try simp only [Act.put,xgD,xgE,xgF]);(refine qaa 8 (o:=?_) (by kernel_rfl) ?_ ?_;rotate_left 1;(simp only [xgA,xgB,xgC];rfl);intro K hK);go_simp;refine (C8.out (fun g=>M0 g∨g=v2.heap.size) v5 p3 p4 ((qce (hMd.ext e2) (.cells zA 33)).ext (((((Ext.refl (v2.alloc (.cells zA 33)))).trans d4)).trans d5)) ((hp3).ext d5) (hp4)).mono ?_;rintro e v6 ⟨v,rfl,hv,d6⟩;go_wp2_with (fail);have e6:Ext wd v6:=(e5).trans d6;have hb6:=(hb5).ext d6
     try clear hSn
     have hSn:=hHeld.ext e6;refine hK.out _ _ (fun _=>hSn) ?_;clear hK K;(try simp only [Act.put,xgD,xgE,xgF]);(refine tkB [9,10,11] ?_;(iterate 3 (refine tk1 (oi:=?_) (v:=?_) (by kernel_rfl) (by first | exact hSn | exact hHeld) ?_ ?_ ?_ ?_ ?_;rotate_left 2;(simp only [xgA,xgB,xgC];rfl);rfl;(intro wS hSw;obtain ⟨⟨S1,S2,S3,S4⟩,S5,S6,S7,S8⟩:=hSw;go_simp;try with_reducible rfl);(exact fun _ _ _ h=>h);(try simp only [Act.put,xgD,xgE,xgF])));refine tkE ?_);obtain ⟨⟨q0,q1,q2,q3⟩,⟨f0,f1,f2,f3⟩,hrr,hkp,hext⟩:=qg3 (M':=fun g=>M0 g∨g=v2.heap.size) (w:=wd) (.int .i64 v.lv) (.bool v.b) (.slice v.a v.n v.p) (.slice v.ka v.kn v.kp) (hb6) (.inr rfl) (e2).size (e6);simp only [arr] at q0 q1 q2 q3;(refine qaa 13 (o:=?_) (by kernel_rfl) ?_ ?_;rotate_left 1;(simp only [xgA,xgB,xgC];rfl);intro K hK);go_simp;have hSn3:=hHeld.ext hext;clear hSn;refine hK.out _ _ (fun _=>hSn3) ?_;clear hK K;(try simp only [Act.put,xgD,xgE,xgF]);((refine qaa 14 (o:=?_) (by kernel_rfl) ?_ ?_;rotate_left 1;(simp only [xgA,xgB,xgC];rfl);intro K hK);go_simp;(refine hK.out _ _ (fun h=>absurd rfl h) ?_);clear hK K;refine qac (by kernel_rfl) ?_ _);go_wp2_with (fail)
     go_meet
     exact ⟨v2.heap.size,v,rfl,rfl,hrr,(hv.kp hkp).more (fun g hg=>.inl (.inl hg)),hext⟩
   ·go_simp;have ea2:Ext v1 (v1.alloc (.cells zA 33)):=(Ext.refl _).alloc _;have hb2:=Blk.of_arr v1 zA 33 4 rfl;have e2:Ext wd (v1.alloc (.cells zA 33)):=(e1).trans ea2
    try clear hSn
    have hSn:=hHeld.ext e2;refine hK.out _ _ (fun _=>hSn) ?_;clear hK K;(try simp only [Act.put,xgD,xgE,xgF]);(refine qaa 3 (o:=?_) (by kernel_rfl) ?_ ?_;rotate_left 1;(simp only [xgA,xgB,xgC];rfl);intro K hK);go_simp;refine (C3.out (fun g=>M0 g∨g=v1.heap.size) (v1.alloc (.cells zA 33)) ((qce (hMd.ext e1) (.cells zA 33)).ext (Ext.refl (v1.alloc (.cells zA 33)))) (fun g hg=>hg.imp id fun h=>by rw [h];exact e1.size) e2).mono ?_;rintro e v3 ⟨p2,rfl,hp2,d3⟩;go_wp2_with (fail);have e3:Ext wd v3:=(e2).trans d3;have hb3:=(hb2).ext d3
    try clear hSn
    have hSn:=hHeld.ext e3;refine hK.out _ _ (fun _=>hSn) ?_;clear hK K;(try simp only [Act.put,xgD,xgE,xgF]);(refine qaa 4 (o:=?_) (by kernel_rfl) ?_ ?_;rotate_left 1;(simp only [xgA,xgB,xgC];rfl);intro K hK);go_simp;refine (C4.out (fun g=>M0 g∨g=v1.heap.size) v3 p1 p2 ((qce (hMd.ext e1) (.cells zA 33)).ext (((Ext.refl (v1.alloc (.cells zA 33)))).trans d3)) ((((hp1).more (M':=fun g=>M0 g∨g=v1.heap.size) (fun g hg=>hg.imp id fun (h:g=v1.heap.size)=>Nat.le_of_eq h.symm)).ext ea2).ext d3) (hp2)).mono ?_;rintro e v4 ⟨p3,rfl,hp3,d4⟩;go_wp2_with (fail);have e4:Ext wd v4:=(e3).trans d4;have hb4:=(hb3).ext d4
    try clear hSn
    have hSn:=hHeld.ext e4;refine hK.out _ _ (fun _=>hSn) ?_;clear hK K;(try simp only [Act.put,xgD,xgE,xgF]);(refine qaa 7 (o:=?_) (by kernel_rfl) ?_ ?_;rotate_left 1;(simp only [xgA,xgB,xgC];rfl);intro K hK);go_simp;refine (C7.out (fun g=>M0 g∨g=v1.heap.size) v4 ((qce (hMd.ext e1) (.cells zA 33)).ext (((((Ext.refl (v1.alloc (.cells zA 33)))).trans d3)).trans d4)) (fun g hg=>hg.imp id fun h=>by rw [h];exact e1.size) e4).mono ?_;rintro e v5 ⟨p4,rfl,hp4,d5⟩;go_wp2_with (fail);have e5:Ext wd v5:=(e4).trans d5;have hb5:=(hb4).ext d5
    try clear hSn
    have hSn:=hHeld.ext e5;refine hK.out _ _ (fun _=>hSn) ?_;clear hK K;(try simp only [Act.put,xgD,xgE,xgF]);(refine qaa 8 (o:=?_) (by kernel_rfl) ?_ ?_;rotate_left 1;(simp only [xgA,xgB,xgC];rfl);intro K hK);go_simp;refine (C8.out (fun g=>M0 g∨g=v1.heap.size) v5 p3 p4 ((qce (hMd.ext e1) (.cells zA 33)).ext (((((((Ext.refl (v1.alloc (.cells zA 33)))).trans d3)).trans d4)).trans d5)) ((hp3).ext d5) (hp4)).mono ?_;rintro e v6 ⟨v,rfl,hv,d6⟩;go_wp2_with (fail);have e6:Ext wd v6:=(e5).trans d6;have hb6:=(hb5).ext d6
    try clear hSn
    have hSn:=hHeld.ext e6;refine hK.out _ _ (fun _=>hSn) ?_;clear hK K;(try simp only [Act.put,xgD,xgE,xgF]);(refine tkB [9,10,11] ?_;(iterate 3 (refine tk1 (oi:=?_) (v:=?_) (by kernel_rfl) (by first | exact hSn | exact hHeld) ?_ ?_ ?_ ?_ ?_;rotate_left 2;(simp only [xgA,xgB,xgC];rfl);rfl;(intro wS hSw;obtain ⟨⟨S1,S2,S3,S4⟩,S5,S6,S7,S8⟩:=hSw;go_simp;try with_reducible rfl);(exact fun _ _ _ h=>h);(try simp only [Act.put,xgD,xgE,xgF])));refine tkE ?_);obtain ⟨⟨q0,q1,q2,q3⟩,⟨f0,f1,f2,f3⟩,hrr,hkp,hext⟩:=qg3 (M':=fun g=>M0 g∨g=v1.heap.size) (w:=wd) (.int .i64 v.lv) (.bool v.b) (.slice v.a v.n v.p) (.slice v.ka v.kn v.kp) (hb6) (.inr rfl) (e1).size (e6);simp only [arr] at q0 q1 q2 q3;(refine qaa 13 (o:=?_) (by kernel_rfl) ?_ ?_;rotate_left 1;(simp only [xgA,xgB,xgC];rfl);intro K hK);go_simp;have hSn3:=hHeld.ext hext;clear hSn;refine hK.out _ _ (fun _=>hSn3) ?_;clear hK K;(try simp only [Act.put,xgD,xgE,xgF]);((refine qaa 14 (o:=?_) (by kernel_rfl) ?_ ?_;rotate_left 1;(simp only [xgA,xgB,xgC];rfl);intro K hK);go_simp;(refine hK.out _ _ (fun h=>absurd rfl h) ?_);clear hK K;refine qac (by kernel_rfl) ?_ _);go_wp2_with (fail)
    go_meet
    exact ⟨v1.heap.size,v,rfl,rfl,hrr,(hv.kp hkp).more (fun g hg=>.inl (.inl hg)),hext⟩
  ·go_simp;have ea1:Ext wd (wd.alloc (.cells zA 33)):=(Ext.refl _).alloc _;have hb1:=Blk.of_arr wd zA 33 4 rfl;have e1:Ext wd (wd.alloc (.cells zA 33)):=((Ext.refl wd)).trans ea1
   try clear hSn
   have hSn:=hHeld.ext e1;refine hK.out _ _ (fun _=>hSn) ?_;clear hK K;(try simp only [Act.put,xgD,xgE,xgF]);(refine qaa 1 (o:=?_) (by kernel_rfl) ?_ ?_;rotate_left 1;(simp only [xgA,xgB,xgC];rfl);intro K hK);go_simp;refine (C1.out (fun g=>M0 g∨g=wd.heap.size) (wd.alloc (.cells zA 33)) ((qce (hMd.ext (Ext.refl wd)) (.cells zA 33)).ext (Ext.refl (wd.alloc (.cells zA 33)))) (fun g hg=>hg.imp id fun h=>by rw [h];exact (Ext.refl wd).size) e1).mono ?_;rintro e v2 ⟨p1,rfl,hp1,d2⟩;go_wp2_with (fail);have e2:Ext wd v2:=(e1).trans d2;have hb2:=(hb1).ext d2
   try clear hSn
   have hSn:=hHeld.ext e2;refine hK.out _ _ (fun _=>hSn) ?_;clear hK K;(try simp only [Act.put,xgD,xgE,xgF]);(refine qaa 3 (o:=?_) (by kernel_rfl) ?_ ?_;rotate_left 1;(simp only [xgA,xgB,xgC];rfl);intro K hK);go_simp;refine (C3.out (fun g=>M0 g∨g=wd.heap.size) v2 ((qce (hMd.ext (Ext.refl wd)) (.cells zA 33)).ext (((Ext.refl (wd.alloc (.cells zA 33)))).trans d2)) (fun g hg=>hg.imp id fun h=>by rw [h];exact (Ext.refl wd).size) e2).mono ?_;rintro e v3 ⟨p2,rfl,hp2,d3⟩;go_wp2_with (fail);have e3:Ext wd v3:=(e2).trans d3;have hb3:=(hb2).ext d3
   try clear hSn
   have hSn:=hHeld.ext e3;refine hK.out _ _ (fun _=>hSn) ?_;clear hK K;(try simp only [Act.put,xgD,xgE,xgF]);(refine qaa 4 (o:=?_) (by kernel_rfl) ?_ ?_;rotate_left 1;(simp only [xgA,xgB,xgC];rfl);intro K hK);go_simp;refine (C4.out (fun g=>M0 g∨g=wd.heap.size) v3 p1 p2 ((qce (hMd.ext (Ext.refl wd)) (.cells zA 33)).ext (((((Ext.refl (wd.alloc (.cells zA 33)))).trans d2)).trans d3)) ((hp1).ext d3) (hp2)).mono ?_;rintro e v4 ⟨p3,rfl,hp3,d4⟩;go_wp2_with (fail);have e4:Ext wd v4:=(e3).trans d4;have hb4:=(hb3).ext d4
   try clear hSn
   have hSn:=hHeld.ext e4;refine hK.out _ _ (fun _=>hSn) ?_;clear hK K;(try simp only [Act.put,xgD,xgE,xgF]);(refine qaa 7 (o:=?_) (by kernel_rfl) ?_ ?_;rotate_left 1;(simp only [xgA,xgB,xgC];rfl);intro K hK);go_simp;refine (C7.out (fun g=>M0 g∨g=wd.heap.size) v4 ((qce (hMd.ext (Ext.refl wd)) (.cells zA 33)).ext (((((((Ext.refl (wd.alloc (.cells zA 33)))).trans d2)).trans d3)).trans d4)) (fun g hg=>hg.imp id fun h=>by rw [h];exact (Ext.refl wd).size) e4).mono ?_;rintro e v5 ⟨p4,rfl,hp4,d5⟩;go_wp2_with (fail);have e5:Ext wd v5:=(e4).trans d5;have hb5:=(hb4).ext d5
   try clear hSn
   have hSn:=hHeld.ext e5;refine hK.out _ _ (fun _=>hSn) ?_;clear hK K;(try simp only [Act.put,xgD,xgE,xgF]);(refine qaa 8 (o:=?_) (by kernel_rfl) ?_ ?_;rotate_left 1;(simp only [xgA,xgB,xgC];rfl);intro K hK);go_simp;refine (C8.out (fun g=>M0 g∨g=wd.heap.size) v5 p3 p4 ((qce (hMd.ext (Ext.refl wd)) (.cells zA 33)).ext (((((((((Ext.refl (wd.alloc (.cells zA 33)))).trans d2)).trans d3)).trans d4)).trans d5)) ((hp3).ext d5) (hp4)).mono ?_;rintro e v6 ⟨v,rfl,hv,d6⟩;go_wp2_with (fail);have e6:Ext wd v6:=(e5).trans d6;have hb6:=(hb5).ext d6
   try clear hSn
   have hSn:=hHeld.ext e6;refine hK.out _ _ (fun _=>hSn) ?_;clear hK K;(try simp only [Act.put,xgD,xgE,xgF]);(refine tkB [9,10,11] ?_;(iterate 3 (refine tk1 (oi:=?_) (v:=?_) (by kernel_rfl) (by first | exact hSn | exact hHeld) ?_ ?_ ?_ ?_ ?_;rotate_left 2;(simp only [xgA,xgB,xgC];rfl);rfl;(intro wS hSw;obtain ⟨⟨S1,S2,S3,S4⟩,S5,S6,S7,S8⟩:=hSw;go_simp;try with_reducible rfl);(exact fun _ _ _ h=>h);(try simp only [Act.put,xgD,xgE,xgF])));refine tkE ?_);obtain ⟨⟨q0,q1,q2,q3⟩,⟨f0,f1,f2,f3⟩,hrr,hkp,hext⟩:=qg3 (M':=fun g=>M0 g∨g=wd.heap.size) (w:=wd) (.int .i64 v.lv) (.bool v.b) (.slice v.a v.n v.p) (.slice v.ka v.kn v.kp) (hb6) (.inr rfl) ((Ext.refl wd)).size (e6);simp only [arr] at q0 q1 q2 q3;(refine qaa 13 (o:=?_) (by kernel_rfl) ?_ ?_;rotate_left 1;(simp only [xgA,xgB,xgC];rfl);intro K hK);go_simp;have hSn3:=hHeld.ext hext;clear hSn;refine hK.out _ _ (fun _=>hSn3) ?_;clear hK K;(try simp only [Act.put,xgD,xgE,xgF]);((refine qaa 14 (o:=?_) (by kernel_rfl) ?_ ?_;rotate_left 1;(simp only [xgA,xgB,xgC];rfl);intro K hK);go_simp;(refine hK.out _ _ (fun h=>absurd rfl h) ?_);clear hK K;refine qac (by kernel_rfl) ?_ _);go_wp2_with (fail)
   go_meet
   exact ⟨wd.heap.size,v,rfl,rfl,hrr,(hv.kp hkp).more (fun g hg=>.inl (.inl hg)),hext⟩
 case rest=>
  obtain ⟨gc,v,rfl,rfl,hv,hc,heC⟩:=hcut;have he5:Ext W wc:=(Ext.refl W).drew.trans heC;have HX5:=Lib.hid ((HX.out.ext he5).ext (Ext.refl wc).drew);have HY5:=Lib.hid ((HY.out.ext he5).ext (Ext.refl wc).drew);have HV5:=Lib.hid (hc.ext (Ext.refl wc).drew);have HE5:=Lib.hid ((HE.out.trans he5).trans (Ext.refl wc).drew);have HS5:Hid (SF3 w2.heap.size (w2.heap.size+1) gc x y v wc.drew):=SF3.ext ⟨HS0.out.1.ext he5,HS0.out.2.ext he5,hv⟩ (Ext.refl wc).drew;clear hv hc heC he5 HX HY HE HS0
  go_upto_region 3 with (fail)
  refine qae (SF3 w2.heap.size (w2.heap.size+1) gc x y v) 22 (by kernel_rfl) HS5.out (fun hHeld=>?_);clear HS5;generalize wc.drew=wd at *;(refine tkB [0,1,2,3,4,5] ?_;(iterate 6 (refine tk1 (oi:=?_) (v:=?_) (by kernel_rfl) (by first | exact hSn | exact hHeld) ?_ ?_ ?_ ?_ ?_;rotate_left 2;(simp only [xgA,xgB,xgC];rfl);rfl;(intro wS hSw;obtain ⟨⟨S1,S2,S3,S4⟩,⟨S5,S6,S7,S8⟩,S9,S10,S11,S12⟩:=hSw;go_simp;try with_reducible rfl);(exact fun _ _ _ h=>h);(try simp only [Act.put,xgD,xgE,xgF])));refine tkE ?_);((refine qaa 6 (o:=?_) (by kernel_rfl) ?_ ?_;rotate_left 1;(simp only [xgA,xgB,xgC];rfl);intro K hK);go_simp;(refine (qiP M0 x y (qbV 1) (qbV 2) 1 wd (mb0 _) HX5.out.pi HY5.out.pi (by decide) (by decide) (qdx 2) (by decide)).mono ?_);rintro e_ wz ⟨z6,rfl,hz6,he6⟩;go_wp2_with (fail);(try clear hSn);(have hSn:=hHeld.ext he6);(refine hK.out _ _ (fun _=>hSn) ?_);clear hK K;(try simp only [Act.put,xgD,xgE,xgF]));((refine qaa 7 (o:=?_) (by kernel_rfl) ?_ ?_;rotate_left 1;(simp only [xgA,xgB,xgC];rfl);intro K hK);go_simp;(refine (qhS M0 v z6 fQ fQ _ (mb0 _) (HV5.out.ext he6).pi hz6.pi).mono ?_);rintro e_ wz ⟨b7,rfl,hb7,he7⟩;go_wp2_with (fail);(try clear hSn);(have hSn:=hHeld.ext (he6.trans he7));(refine hK.out _ _ (fun _=>hSn) ?_);clear hK K;(try simp only [Act.put,xgD,xgE,xgF]));obtain rfl:b7=true:=hb7.2 (Sim.refl _);clear hb7;(refine tkB [8,9,10,11,12] ?_;(iterate 5 (refine tk1 (oi:=?_) (v:=?_) (by kernel_rfl) (by first | exact hSn | exact hHeld) ?_ ?_ ?_ ?_ ?_;rotate_left 2;(simp only [xgA,xgB,xgC];rfl);rfl;(intro wS hSw;obtain ⟨⟨S1,S2,S3,S4⟩,⟨S5,S6,S7,S8⟩,S9,S10,S11,S12⟩:=hSw;go_simp;try with_reducible rfl);(exact fun _ _ _ h=>h);(try simp only [Act.put,xgD,xgE,xgF])));refine tkE ?_)
  ((refine qaa 13 (o:=?_) (by kernel_rfl) ?_ ?_;rotate_left 1;(simp only [xgA,xgB,xgC];rfl);intro K hK);go_simp;(refine (qfC M0 x y (qbV 1) (qbV 2) 1 1 _ (mb0 _) (HX5.out.ext (he6.trans he7)).pi (HY5.out.ext (he6.trans he7)).pi (by decide) (qdx 1) (qdx 2) (by decide)).mono ?_);rintro e_ wz ⟨z13,rfl,hz13,he13⟩;go_wp2_with (fail);(try clear hSn);(have hSn:=hHeld.ext ((he6.trans he7).trans he13));(refine hK.out _ _ (fun _=>hSn) ?_);clear hK K;(try simp only [Act.put,xgD,xgE,xgF]));((refine qaa 14 (o:=?_) (by kernel_rfl) ?_ ?_;rotate_left 1;(simp only [xgA,xgB,xgC];rfl);intro K hK);go_simp;(refine (qff 1 2 M0 (pmul (qbV 1) (qbV 2)) (qbV 1) (qbV 1) x z13 2 2 _ (mb0 _) (HX5.out.ext ((he6.trans he7).trans he13)).pi hz13.pi (qxp (HX5.out.ext ((he6.trans he7).trans he13))) id (qf7 (qaM (by decide)) (by decide)) (qdx 1) (by decide) (by decide) qwR qtz).mono ?_);rintro e_ wz ⟨b14,rfl,_,hb14,he14⟩;go_wp2_with (fail);(try clear hSn);(have hSn:=hHeld.ext (((he6.trans he7).trans he13).trans he14));(refine hK.out _ _ (fun _=>hSn) ?_);clear hK K;(try simp only [Act.put,xgD,xgE,xgF]));obtain rfl:b14=true:=(hb14 qxq).2 qxZ;clear hb14;(refine tkB [15,16,17,18] ?_;(iterate 4 (refine tk1 (oi:=?_) (v:=?_) (by kernel_rfl) (by first | exact hSn | exact hHeld) ?_ ?_ ?_ ?_ ?_;rotate_left 2;(simp only [xgA,xgB,xgC];rfl);rfl;(intro wS hSw;obtain ⟨⟨S1,S2,S3,S4⟩,⟨S5,S6,S7,S8⟩,S9,S10,S11,S12⟩:=hSw;go_simp;(try simp only [List.getElem?_cons_zero,List.getElem?_cons_succ,Option.getD_some,Sem.run_pure,Result.andThen_ok,if_true]);try with_reducible rfl);(exact fun _ _ _ h=>h);(try simp only [Act.put,xgD,xgE,xgF])));refine tkE ?_)
  ((refine qaa 19 (o:=?_) (by kernel_rfl) ?_ ?_;rotate_left 1;(simp only [xgA,xgB,xgC];rfl);intro K hK);go_simp;(refine (qff 1 2 M0 (qbV 2) (qbV 1) (qbV 1) x y 2 2 _ (mb0 _) (HX5.out.ext (((he6.trans he7).trans he13).trans he14)).pi (HY5.out.ext (((he6.trans he7).trans he13).trans he14)).pi (qxp (HX5.out.ext (((he6.trans he7).trans he13).trans he14))) id ((qdx 2).mono (by omega)) (qdx 1) (by decide) (by decide) qwR qtz).mono ?_);rintro e_ wz ⟨b19,rfl,_,hb19,he19⟩;go_wp2_with (fail);(try clear hSn);(have hSn:=hHeld.ext ((((he6.trans he7).trans he13).trans he14).trans he19));(refine hK.out _ _ (fun _=>hSn) ?_);clear hK K;(try simp only [Act.put,xgD,xgE,xgF]))
  obtain rfl:b19=false:=by
   cases b19 with
   | false=>rfl
   | true=>exact absurd ((hb19 qxq).1 rfl) qwS
  clear hb19;(refine tkB [20,21] ?_;(iterate 2 (refine tk1 (oi:=?_) (v:=?_) (by kernel_rfl) (by first | exact hSn | exact hHeld) ?_ ?_ ?_ ?_ ?_;rotate_left 2;(simp only [xgA,xgB,xgC];rfl);rfl;(intro wS hSw;obtain ⟨⟨S1,S2,S3,S4⟩,⟨S5,S6,S7,S8⟩,S9,S10,S11,S12⟩:=hSw;go_simp;(try simp only [List.getElem?_cons_zero,List.getElem?_cons_succ,Option.getD_some,Sem.run_pure,Result.andThen_ok,if_true]);try with_reducible rfl);(exact fun _ _ _ h=>h);(try simp only [Act.put,xgD,xgE,xgF])));refine tkE ?_);((refine qaa 22 (o:=?_) (by kernel_rfl) ?_ ?_;rotate_left 1;(simp only [xgA,xgB,xgC];rfl);intro K hK);go_simp;(refine hK.out _ _ (fun h=>absurd rfl h) ?_);clear hK K;refine qac (by kernel_rfl) ?_ _);have HFF:=Lib.hid (HE5.out.trans ((((he6.trans he7).trans he13).trans he14).trans he19));clear he6 he7 he13 he14 he19 hHeld hSn hz6 hz13 HX5 HY5 HV5 HE5;go_wp2;go_ret;exact ⟨rfl,HFF.out⟩


theorem OkB.less {C L B B':Nat} (h:OkB C L B') (hB:B<=B'):OkB C L B:=h.mono hB
theorem qp0 {r:List Tm} (hr:NN r) (h : ¬ Sim r []) : ¬ Sim (snorm r) []:=fun hh=>h ((qai hr).symm.trans (by
 have h1:Sim (smul (qdO (norm r)) (snorm r)) (smul (qdO (norm r)) []):=fun m=>by rw [qag,qag,hh m]
 rw [qbQ] at h1
 exact h1))


structure Sm (l:List Tm):Prop where
 nn:NN l
 deg:Deg 3 l
 dl:dlen (nrm l)<=5
theorem qud.sm {W:World} {a:Option Addr} {n cap:Nat} {X:Nat->TE} (h:qud W a n cap X) (hf:qv5 n X 6 4 ((3:Nat):Int)) : ∃ l,qbh M0 W (.slice a n cap) l/\Sm (norm l)/\dlen (nrm l)<=1099511627776 /\ ∀ s ∈ l,∀ k,s.2.get k<=1073741824:=by
 obtain ⟨l,h1,h2,h3,h4⟩:=h.poly hf (by omega) (by omega);refine ⟨l,h1,⟨qaM (qaG l),qhz fun s hs k=>(h4 s hs k).1,Nat.le_trans (qah (qcw l)) h3⟩,Nat.le_trans h3 (by omega),fun s hs k=>by have:=(h4 s hs k).1;omega⟩
def EP (M:Nat->Prop) (w:World) (r p:List Tm) (er:Int) (v:PE):Prop:=(er=2/\Sim r []/\v=PE.z)∨(er=0 /\ ¬ Sim r []/\CRx M w 4 v p)
theorem EP.ext {M:Nat->Prop} {w w':World} {r p:List Tm} {er:Int} {v:PE} (h:EP M w r p er v) (he:Ext w w'):EP M w' r p er v:=h.imp id fun ⟨a,b,c⟩=>⟨a,b,c.ext he⟩
theorem EP.kp {M:Nat->Prop} {w w':World} {r p:List Tm} {er:Int} {v:PE} (h:EP M w r p er v) (he:Kp M w w'):EP M w' r p er v:=h.imp id fun ⟨a,b,c⟩=>⟨a,b,c.kp he⟩
theorem EP.more {M M':Nat->Prop} {w:World} {r p:List Tm} {er:Int} {v:PE} (h:EP M w r p er v) (hm : ∀ g,M' g->M g∨w.heap.size<=g):EP M' w r p er v:=h.imp id fun ⟨a,b,c⟩=>⟨a,b,c.more hm⟩
def qzg (r p:List Tm) (W:World) (s10 s11:Value) (wx:World):Prop:=∃ (g:Nat) (v:PE) (er:Int),s10 = .pointer (some ⟨g,0,none⟩)/\s11 = .int .i64 er/\P4 wx g v/\EP M0 wx r p er v/\Ext W wx
end Go.Proofs.YtmcfpnmoklnhoaaGreat
