/- pseudo.exact: two polynomials with the same main variable. pseudo.exact. pseudo.refuse of one polynomial. pseudo.Exact. pseudo.Divides. -/
import Derived.Test.YtmcfpnmoklnhoaaGreatBd
set_option linter.unusedVariables false
set_option maxRecDepth 100000
set_option maxHeartbeats 400000000
set_option linter.unusedSimpArgs false

namespace Go.Proofs.YtmcfpnmoklnhoaaGreat
open Go.RowKit

theorem ExR.ext {M:Nat->Prop} {w w':World} {L A:Nat} {l r:List Tm} {v:PE} {ok:Bool} (h:ExR M L l r A v ok w) (he:Ext w w'):ExR M L l r A v ok w':=⟨fun ho=>by
 obtain ⟨q,h1,h2⟩:=h.1 ho
 exact ⟨q,h1.ext he,h2⟩,h.2⟩
theorem ExR.kp {M:Nat->Prop} {w w':World} {L A:Nat} {l r:List Tm} {v:PE} {ok:Bool} (h:ExR M L l r A v ok w) (he:Kp M w w'):ExR M L l r A v ok w':=⟨fun ho=>by
 obtain ⟨q,h1,h2⟩:=h.1 ho
 exact ⟨q,h1.kp he,h2⟩,h.2⟩
theorem ExR.more {M M':Nat->Prop} {w:World} {L A:Nat} {l r:List Tm} {v:PE} {ok:Bool} (h:ExR M L l r A v ok w) (hm : ∀ g,M' g->M g∨w.heap.size<=g):ExR M' L l r A v ok w:=⟨fun ho=>by
 obtain ⟨q,h1,h2⟩:=h.1 ho
 exact ⟨q,h1.more hm,h2⟩,h.2⟩
def S26 (s:Nat) (v3:Value) (g o:Nat) (d:PE) (b o2:Nat) (c:PE) (gc:Nat) (v:PE) (w:World):Prop:=w.cell? ⟨s,3,none⟩=some v3/\qaZ w g o d/\qaZ w b o2 c/\P4 w gc v
theorem S26.ext {s:Nat} {v3:Value} {g o:Nat} {d:PE} {b o2:Nat} {c:PE} {gc:Nat} {v:PE} {w w':World} (h:S26 s v3 g o d b o2 c gc v w) (hs:s<w.heap.size) (hg:g<w.heap.size) (hb:b<w.heap.size) (hgc:gc<w.heap.size) (he:Ext w w'):S26 s v3 g o d b o2 c gc v w':=⟨by rw [he.cell hs];exact h.1,h.2.1.ext hg he,h.2.2.1.ext hb he,by
 have h4:=h.2.2.2;unfold P4 at h4 ⊢
 rw [he.cell hgc,he.cell hgc,he.cell hgc,he.cell hgc];exact h4⟩
theorem qax.pre {M M':Nat->Prop} {w:World} {D g N c:Nat} {P:Nat->List Tm} (h:qax M w D g c P) (hm : ∀ g,M' g->M g∨w.heap.size<=g) (hg : ¬ M' g) (hN:N<=1099511627776) (hc:N<=c) (hcm:c<=maxLen):qbA M' w D (.slice (some ⟨g,0,none⟩) N c) N P:=by
 have hlt:g<w.heap.size:=by
  obtain ⟨f,hB,_⟩:=h;exact hB.lt
 exact ⟨hN,.inr ⟨g,0,c,rfl,hc,hcm,⟨hlt,hg⟩,fun i hi=>h.kid hm i (by omega)⟩⟩
def S19 (s:Nat) (v3:Value) (g o:Nat) (d:PE) (b o2:Nat) (c:PE) (w:World):Prop:=w.cell? ⟨s,3,none⟩=some v3/\qaZ w g o d/\qaZ w b o2 c
theorem S19.ext {s:Nat} {v3:Value} {g o:Nat} {d:PE} {b o2:Nat} {c:PE} {w w':World} (h:S19 s v3 g o d b o2 c w) (hs:s<w.heap.size) (hg:g<w.heap.size) (hb:b<w.heap.size) (he:Ext w w'):S19 s v3 g o d b o2 c w':=⟨by rw [he.cell hs];exact h.1,h.2.1.ext hg he,h.2.2.ext hb he⟩
def qrz (M1:Nat->Prop) (W:World) (L:Nat) (l r:List Tm) (A:Nat) (s12 s13:Value) (wx:World):Prop:=∃ (g:Nat) (v:PE) (ok:Bool),s12 = .pointer (some ⟨g,0,none⟩)/\s13 = .bool ok/\P4 wx g v/\g<wx.heap.size/\W.heap.size<=g/\ExR M1 L l r A v ok wx/\Ext W wx


theorem qcV.mono {M:Nat->Prop} {w w':World} {L L' A A':Nat} {l r:List Tm} {e:Ending} (h:qcV M w L l r A e w') (hL:L<=L') (hA:A<=A'):qcV M w L' l r A' e w':=by
 obtain ⟨v,ok,h1,⟨h2,h3⟩,h4⟩:=h;refine ⟨v,ok,h1,⟨fun ho=>?_,h3⟩,h4⟩;obtain ⟨q,q1,q2,q3⟩:=h2 ho;exact ⟨q,q1.up hL,q2,Nat.le_trans q3 hA⟩


def qrv (w:World) (l:List Tm) (e:Ending) (w':World):Prop:=∃ er:Int,e = .returned (.int .i64 er)/\((er=2/\Sim l [])∨(er=0 /\ ¬ Sim l []))/\Ext w w'
theorem qhA (M:Nat->Prop) (x:PE) (l:List Tm) (b off cap:Nat) (w:World) (hM:Mb M w) (hc:qaZ w b off x) (hb:b<w.heap.size) (h:PI M w x l):Calls Tryz.prog 59 #[.slice (some ⟨b,off,none⟩) 1 cap] w (qrv w l):=by
 have HC:=Lib.hid hc;have HMM:=Lib.hid hM;have HP:=Lib.hid h;clear hc hM h
 go_enter Tryz.func59,Tryz.ntmps59
 go_wp2
 go_loopw [7] (fun i wr=>∃ k:Nat,k<=1/\i = .int .i64 k/\Hid (k=1 -> ¬ Sim l [])/\Hid (Ext w wr)) (fun i _=>1 - (intOf i).toNat)
 case atStart=>exact ⟨0,Nat.zero_le _,rfl,fun h=>absurd h (by decide),Ext.refl w⟩
 case round=>
  obtain ⟨k,hk,rfl,HN,HE⟩:=hrel
  by_cases hk0:k=0
  ·subst hk0;obtain ⟨c0,c1,c2,c3⟩:=HC.out.ext hb HE.out;have hEa:=(Ext.refl wr).alloc (.cells (peA x) 33);have CZ:=Lib.hid (qbh M x l _ (HMM.out.ext (HE.out.trans hEa)) (HP.out.ext (HE.out.trans hEa)));have HEA:=Lib.hid (HE.out.trans hEa);have hbw:b<wr.heap.size:=Nat.lt_of_lt_of_le hb HE.out.size;clear hEa HE HN HC HP;go_wp2_with (fail);refine CZ.out.mono ?_;rintro e w1 ⟨bz,rfl,hbz,he1⟩;have HBZ:=Lib.hid hbz;have HE1:=Lib.hid (HEA.out.trans he1);clear hbz he1 CZ HEA c0 c1 c2 c3
   cases bz with
   | true=>
    have HF:Hid (qrv w l (.returned (.int .i64 2)) w1):=⟨2,rfl,.inl ⟨rfl,HBZ.out.1 rfl⟩,HE1.out⟩;go_wp2;exact bodyPost_ret (v:=.int .i64 2) (by simp [results,Tryz.results59,go_sem]) rfl HF.out
   | false=>
    have HN1:Hid (1=1 -> ¬ Sim l []):=fun _ hh=>by have:=HBZ.out.2 hh;cases this
    go_wp2
    go_roundw
    case rel=>exact ⟨1,Nat.le_refl _,by go_num,fun _=>HN1.out trivial,HE1⟩
    case measure=>(simp [intOf];try omega)
  ·obtain rfl:k=1:=by omega
   have HF:Hid (qrv w l (.returned (.int .i64 0)) wr):=⟨0,rfl,.inr ⟨rfl,HN.out rfl⟩,HE.out⟩;go_wp2;exact bodyPost_ret (v:=.int .i64 0) (by simp [results,Tryz.results59,go_sem]) rfl HF.out


theorem qkD {M:Nat->Prop} {w:World} (h:Mb M w) (o:Obj):Mb (fun g=>M g∨g=w.heap.size) (w.alloc o):=fun g hg=>hg.elim (fun h1=>by have:=h g h1;simp;omega) (fun h1=>by simp;omega)
def qrw (M:Nat->Prop) (w:World) (l r:List Tm) (A:Nat) (e:Ending) (w':World):Prop:=∃ (v:PE) (er:Int),e = .returned (.tuple #[.agg (peA v),.int .i64 er])/\((er=2/\Sim r []/\v=PE.z)∨(er=0 /\ ¬ Sim r [] /\ ∃ q,CRx M w' 4 v q/\Sim (pmul q r) l/\dlen (nrm q)<=A)∨(er=3/\v=PE.z /\ ¬ Sim r [] /\ ¬ Dv r l))/\Ext w w'
theorem qhC (M : Nat -> Prop) (l r : List Tm) (x y : PE) (A2 : Nat) (w : World) (hM : Mb M w) (h : PI M w x l) (hy : PI M w y r) (hCE : ∀ (M' : Nat -> Prop) (a b : PE) (W' : World), Mb M' W' -> CRx M' W' 4 a l -> CRx M' W' 4 b r -> ¬ Sim r [] -> Calls Tryz.prog 67 #[.agg (peA a), .agg (peA b)] W' (qcV M' W' 4 l r A2)) :
  Calls Tryz.prog 14 #[.agg (peA x),.agg (peA y)] w (qrw M w l r A2):=by
 obtain ⟨hE0,hX0,hY0,hB0,hM0⟩:=qkb hM x y;have h3:=(h.more (M':=Mx M w.heap.size (w.heap.size+3)) (Mx.more (Nat.le_refl _))).ext hE0;have hy3:=(hy.more (M':=Mx M w.heap.size (w.heap.size+3)) (Mx.more (Nat.le_refl _))).ext hE0;obtain ⟨x0,x1,x2,x3⟩:=hX0;obtain ⟨y0,y1,y2,y3⟩:=hY0
 have hsz0:w.heap.size+3=((((w.alloc (.cells (peA x) 33)).alloc (.cells (peA y) 33)).alloc (.cells zA 33))).heap.size:=by simp
 generalize hW:((w.alloc (.cells (peA x) 33)).alloc (.cells (peA y) 33)).alloc (.cells zA 33)=W at *;have HW:=Lib.hid hW;have HE:=Lib.hid hE0;have HS:Hid (SP2 w.heap.size x y W):=⟨⟨x0,x1,x2,x3⟩,⟨y0,y1,y2,y3⟩⟩;have HB0:=Lib.hid hB0;have HM3:=Lib.hid hM0;have HX:=Lib.hid h3;have HY:=Lib.hid hy3;have HCE:=Lib.hid hCE;clear hE0 hB0 hM0 h hy hCE hW hM h3 hy3
 go_enter Tryz.func14,Tryz.ntmps14
 go_upto_region 1 with (fail)
 rw [HW.out];go_wp2_with (fail);have hEb:=(Ext.refl W).alloc (.cells (peA y) 33);have hBb:=Blk.of_arr W (peA y) 33 4 rfl;refine (qhA (Mx M w.heap.size (w.heap.size+3)) y r W.heap.size 0 1 _ (HM3.out.ext hEb) hBb.p4 hBb.lt (HY.out.ext hEb)).mono ?_;rintro e w1 ⟨er,rfl,her,he1⟩;have HE1:=Lib.hid (HE.out.trans (hEb.trans he1));have HSS:=Lib.hid (HS.out.ext (hEb.trans he1));have HB1:=Lib.hid (HB0.out.ext (hEb.trans he1));have HM1:=Lib.hid (HM3.out.ext (hEb.trans he1));have HX1:=Lib.hid (HX.out.ext (hEb.trans he1));have HY1:=Lib.hid (HY.out.ext (hEb.trans he1))
 have hs1:w.heap.size+3<=w1.heap.size:=by have:=(hEb.trans he1).size;omega
 have hw2:w.heap.size+2<w1.heap.size:=by omega
 have hks:W.heap.size=w.heap.size+3:=hsz0.symm;clear hsz0 x0 x1 x2 x3 y0 y1 y2 y3 HE HS HB0 HW he1 hEb hBb HX HY HM3;rcases her with ⟨rfl,hz⟩ | ⟨rfl,hz⟩
 ·obtain ⟨⟨q0,q1,q2,q3⟩,⟨f0,f1,f2,f3⟩,⟨r0,r1,r2,r3⟩,HF⟩:=qbR (M:=M) (M':=Mx M w.heap.size (w.heap.size+3)) (w:=w) (L:=0) (l:=[]) (y:=PE.z) HB1.out (Mx.at (by omega)) (by omega) HE1.out (CR.zero _ _ 0) Mx.sub;obtain ⟨_,_,_,hext⟩:=HF;have HF2:Hid (qrw M w l r A2 (.returned (.tuple #[.agg (peA PE.z),.int .i64 2])) _):=⟨PE.z,2,rfl,.inl ⟨rfl,hz,rfl⟩,hext⟩;simp only [PE.z] at r0 r1 r2 r3;clear hext HSS HB1 HE1 HM1 HX1 HY1 HCE;go_wp2;exact bodyPost_ret (v:=.tuple #[.agg (peA PE.z),.int .i64 2]) (by simp [results,Tryz.results14,go_sem,r0,r1,r2,r3,PE.z]) rfl HF2.out
 ·have HRZ:=Lib.hid hz;clear hz
  go_upto_region 4 with (fail)
  go_cut [7,8] (qrz (Mx M w.heap.size (w.heap.size+3)) w1.drew 4 l r A2)
  case first=>
   have hEd:Ext w1 w1.drew:=(Ext.refl w1).drew;have HS2:Hid (SP2 w.heap.size x y w1.drew):=HSS.out.ext hEd;have CN1:Hid (∀ (M':Nat->Prop) (W':World),Mb M' W'->(∀ g,M' g->Mx M w.heap.size (w.heap.size+3) g∨w1.drew.heap.size<=g)->Ext w1.drew W'->Calls Tryz.prog 68 #[.agg (peA x)] W' (qa8 M' W' 4 l)):=fun M' W' h1 h2 h3=>qbV M' x l W' h1 (((HX1.out.ext hEd).more h2).ext h3);have CN2:Hid (∀ (M':Nat->Prop) (W':World),Mb M' W'->(∀ g,M' g->Mx M w.heap.size (w.heap.size+3) g∨w1.drew.heap.size<=g)->Ext w1.drew W'->Calls Tryz.prog 68 #[.agg (peA y)] W' (qa8 M' W' 4 r)):=fun M' W' h1 h2 h3=>qbV M' y r W' h1 (((HY1.out.ext hEd).more h2).ext h3);have hMd:Mb (Mx M w.heap.size (w.heap.size+3)) w1.drew:=HM1.out.ext hEd;refine qad (SP2 w.heap.size x y) 10 (by kernel_rfl) HS2.out (fun hHeld=>?_);clear HSS HB1 HE1 HM1 HX1 HY1 HS2 hEd;generalize w1.drew=wd at *;(refine tkB [0,2] ?_;(iterate 2 (refine tk1 (oi:=?_) (v:=?_) (by kernel_rfl) (by first | exact hSn | exact hHeld) ?_ ?_ ?_ ?_ ?_;rotate_left 2;(simp only [xgA,xgB,xgC];rfl);rfl;(intro wS hSw;obtain ⟨⟨S1,S2,S3,S4⟩,S5,S6,S7,S8⟩:=hSw;go_simp;try with_reducible rfl);(exact fun _ _ _ h=>h);(try simp only [Act.put,xgD,xgE,xgF])));refine tkE ?_);(refine qau 1 8 (oi:=?_) (oj:=?_) (by kernel_rfl) ?_ ?_ ?_ ?_;rotate_left 2;(simp only [xgA,xgB,xgC];rfl);(simp only [xgA,xgB,xgC];rfl);all_goals intro K hK)
   ·go_simp;refine (CN1.out (Mx M w.heap.size (w.heap.size+3)) wd (hMd.ext (Ext.refl wd)) (fun g hg=>.inl hg) (Ext.refl wd)).mono ?_;rintro e v1 ⟨a,rfl,ha,d1⟩;go_wp2_with (fail);have e1:Ext wd v1:=((Ext.refl wd)).trans d1
    try clear hSn
    have hSn:=hHeld.ext e1;refine hK.out _ _ (fun _=>hSn) ?_;clear hK K;(try simp only [Act.put,xgD,xgE,xgF]);(refine qau 3 8 (oi:=?_) (oj:=?_) (by kernel_rfl) ?_ ?_ ?_ ?_;rotate_left 2;(simp only [xgA,xgB,xgC];rfl);(simp only [xgA,xgB,xgC];rfl);all_goals intro K hK)
    ·go_simp;refine (CN2.out (Mx M w.heap.size (w.heap.size+3)) v1 (hMd.ext e1) (fun g hg=>.inl hg) e1).mono ?_;rintro e v2 ⟨b,rfl,hb,d2⟩;go_wp2_with (fail);have e2:Ext wd v2:=(e1).trans d2
     try clear hSn
     have hSn:=hHeld.ext e2;refine hK.out _ _ (fun _=>hSn) ?_;clear hK K;(try simp only [Act.put,xgD,xgE,xgF]);(refine qau 4 8 (oi:=?_) (oj:=?_) (by kernel_rfl) ?_ ?_ ?_ ?_;rotate_left 2;(simp only [xgA,xgB,xgC];rfl);(simp only [xgA,xgB,xgC];rfl);all_goals intro K hK)
     ·go_simp;refine (HCE.out (Mx M w.heap.size (w.heap.size+3)) a b v2 (hMd.ext e2) ((ha).ext d2) (hb) HRZ.out).mono ?_;rintro e v3 ⟨v,ok,rfl,hR,d3⟩;go_wp2_with (fail);have e3:Ext wd v3:=(e2).trans d3
      try clear hSn
      have hSn:=hHeld.ext e3;refine hK.out _ _ (fun _=>hSn) ?_;clear hK K;(try simp only [Act.put,xgD,xgE,xgF]);(refine tkB [5,6,7] ?_;(iterate 3 (refine tk1 (oi:=?_) (v:=?_) (by kernel_rfl) (by first | exact hSn | exact hHeld) ?_ ?_ ?_ ?_ ?_;rotate_left 2;(simp only [xgA,xgB,xgC];rfl);rfl;(intro wS hSw;obtain ⟨⟨S1,S2,S3,S4⟩,S5,S6,S7,S8⟩:=hSw;go_simp;try with_reducible rfl);(exact fun _ _ _ h=>h);(try simp only [Act.put,xgD,xgE,xgF])));refine tkE ?_);(refine qaa 8 (o:=?_) (by kernel_rfl) ?_ ?_;rotate_left 1;(simp only [xgA,xgB,xgC];rfl);intro K hK);go_simp;have hSn2:=hSn.ext ((Ext.refl v3).alloc (.cells zA 33));have hSn3:=hSn.ext ((Ext.refl v3).alloc (.cells (peA v) 33));clear hSn;refine hK.out _ _ (fun _=>hSn2) ?_;clear hK K;(try simp only [Act.put,xgD,xgE,xgF]);(refine qaa 9 (o:=?_) (by kernel_rfl) ?_ ?_;rotate_left 1;(simp only [xgA,xgB,xgC];rfl);intro K hK);go_simp;refine hK.out _ _ (fun _=>hSn3) ?_;clear hK K;(try simp only [Act.put,xgD,xgE,xgF]);((refine qaa 10 (o:=?_) (by kernel_rfl) ?_ ?_;rotate_left 1;(simp only [xgA,xgB,xgC];rfl);intro K hK);go_simp;(refine hK.out _ _ (fun h=>absurd rfl h) ?_);clear hK K;refine qac (by kernel_rfl) ?_ _);go_wp2_with (fail)
      go_meet
      exact ⟨v3.heap.size,v,ok,rfl,rfl,(Blk.of_arr v3 (peA v) 33 4 rfl).p4,by simp,(e3).size,hR.ext ((Ext.refl v3).alloc _),(e3).alloc _⟩
     ·go_simp;have ea3:Ext v2 (v2.alloc (.cells zA 33)):=(Ext.refl _).alloc _;have hb3:=Blk.of_arr v2 zA 33 4 rfl;have e3:Ext wd (v2.alloc (.cells zA 33)):=(e2).trans ea3
      try clear hSn
      have hSn:=hHeld.ext e3;refine hK.out _ _ (fun _=>hSn) ?_;clear hK K;(try simp only [Act.put,xgD,xgE,xgF]);(refine qaa 4 (o:=?_) (by kernel_rfl) ?_ ?_;rotate_left 1;(simp only [xgA,xgB,xgC];rfl);intro K hK);go_simp;refine (HCE.out (fun g=>(Mx M w.heap.size (w.heap.size+3)) g∨g=v2.heap.size) a b (v2.alloc (.cells zA 33)) ((qkD (hMd.ext e2) (.cells zA 33)).ext (Ext.refl (v2.alloc (.cells zA 33)))) ((((ha).ext d2).more (M':=fun g=>(Mx M w.heap.size (w.heap.size+3)) g∨g=v2.heap.size) (fun g hg=>hg.imp id fun (h:g=v2.heap.size)=>Nat.le_of_eq h.symm)).ext ea3) (((hb).more (M':=fun g=>(Mx M w.heap.size (w.heap.size+3)) g∨g=v2.heap.size) (fun g hg=>hg.imp id fun (h:g=v2.heap.size)=>Nat.le_of_eq h.symm)).ext ea3) HRZ.out).mono ?_;rintro e v4 ⟨v,ok,rfl,hR,d4⟩;go_wp2_with (fail);have e4:Ext wd v4:=(e3).trans d4;have hb4:=(hb3).ext d4
      try clear hSn
      have hSn:=hHeld.ext e4;refine hK.out _ _ (fun _=>hSn) ?_;clear hK K;(try simp only [Act.put,xgD,xgE,xgF]);(refine tkB [5,6,7] ?_;(iterate 3 (refine tk1 (oi:=?_) (v:=?_) (by kernel_rfl) (by first | exact hSn | exact hHeld) ?_ ?_ ?_ ?_ ?_;rotate_left 2;(simp only [xgA,xgB,xgC];rfl);rfl;(intro wS hSw;obtain ⟨⟨S1,S2,S3,S4⟩,S5,S6,S7,S8⟩:=hSw;go_simp;try with_reducible rfl);(exact fun _ _ _ h=>h);(try simp only [Act.put,xgD,xgE,xgF])));refine tkE ?_);obtain ⟨⟨q0,q1,q2,q3⟩,⟨f0,f1,f2,f3⟩,hrr,hkp,hext⟩:=qkL (M':=fun g=>(Mx M w.heap.size (w.heap.size+3)) g∨g=v2.heap.size) (w:=wd) (.int .i64 v.lv) (.bool v.b) (.slice v.a v.n v.p) (.slice v.ka v.kn v.kp) (hb4) (.inr rfl) (e2).size (e4);simp only [arr] at q0 q1 q2 q3;(refine qaa 9 (o:=?_) (by kernel_rfl) ?_ ?_;rotate_left 1;(simp only [xgA,xgB,xgC];rfl);intro K hK);go_simp;have hSn3:=hHeld.ext hext;clear hSn;refine hK.out _ _ (fun _=>hSn3) ?_;clear hK K;(try simp only [Act.put,xgD,xgE,xgF]);((refine qaa 10 (o:=?_) (by kernel_rfl) ?_ ?_;rotate_left 1;(simp only [xgA,xgB,xgC];rfl);intro K hK);go_simp;(refine hK.out _ _ (fun h=>absurd rfl h) ?_);clear hK K;refine qac (by kernel_rfl) ?_ _);go_wp2_with (fail)
      go_meet
      exact ⟨v2.heap.size,v,ok,rfl,rfl,hrr,Nat.lt_of_lt_of_eq (hb4).lt (qaq _ _ _ _ _ _ _).symm,(e2).size,(hR.kp hkp).more (fun g hg=>.inl (.inl hg)),hext⟩
    ·go_simp;have ea2:Ext v1 (v1.alloc (.cells zA 33)):=(Ext.refl _).alloc _;have hb2:=Blk.of_arr v1 zA 33 4 rfl;have e2:Ext wd (v1.alloc (.cells zA 33)):=(e1).trans ea2
     try clear hSn
     have hSn:=hHeld.ext e2;refine hK.out _ _ (fun _=>hSn) ?_;clear hK K;(try simp only [Act.put,xgD,xgE,xgF]);(refine qaa 3 (o:=?_) (by kernel_rfl) ?_ ?_;rotate_left 1;(simp only [xgA,xgB,xgC];rfl);intro K hK);go_simp;refine (CN2.out (fun g=>(Mx M w.heap.size (w.heap.size+3)) g∨g=v1.heap.size) (v1.alloc (.cells zA 33)) ((qkD (hMd.ext e1) (.cells zA 33)).ext (Ext.refl (v1.alloc (.cells zA 33)))) (fun g hg=>hg.imp id fun h=>by rw [h];exact e1.size) e2).mono ?_;rintro e v3 ⟨b,rfl,hb,d3⟩;go_wp2_with (fail);have e3:Ext wd v3:=(e2).trans d3;have hb3:=(hb2).ext d3
     try clear hSn
     have hSn:=hHeld.ext e3;refine hK.out _ _ (fun _=>hSn) ?_;clear hK K;(try simp only [Act.put,xgD,xgE,xgF]);(refine qaa 4 (o:=?_) (by kernel_rfl) ?_ ?_;rotate_left 1;(simp only [xgA,xgB,xgC];rfl);intro K hK);go_simp;refine (HCE.out (fun g=>(Mx M w.heap.size (w.heap.size+3)) g∨g=v1.heap.size) a b v3 ((qkD (hMd.ext e1) (.cells zA 33)).ext (((Ext.refl (v1.alloc (.cells zA 33)))).trans d3)) ((((ha).more (M':=fun g=>(Mx M w.heap.size (w.heap.size+3)) g∨g=v1.heap.size) (fun g hg=>hg.imp id fun (h:g=v1.heap.size)=>Nat.le_of_eq h.symm)).ext ea2).ext d3) (hb) HRZ.out).mono ?_;rintro e v4 ⟨v,ok,rfl,hR,d4⟩;go_wp2_with (fail);have e4:Ext wd v4:=(e3).trans d4;have hb4:=(hb3).ext d4
     try clear hSn
     have hSn:=hHeld.ext e4;refine hK.out _ _ (fun _=>hSn) ?_;clear hK K;(try simp only [Act.put,xgD,xgE,xgF]);(refine tkB [5,6,7] ?_;(iterate 3 (refine tk1 (oi:=?_) (v:=?_) (by kernel_rfl) (by first | exact hSn | exact hHeld) ?_ ?_ ?_ ?_ ?_;rotate_left 2;(simp only [xgA,xgB,xgC];rfl);rfl;(intro wS hSw;obtain ⟨⟨S1,S2,S3,S4⟩,S5,S6,S7,S8⟩:=hSw;go_simp;try with_reducible rfl);(exact fun _ _ _ h=>h);(try simp only [Act.put,xgD,xgE,xgF])));refine tkE ?_);obtain ⟨⟨q0,q1,q2,q3⟩,⟨f0,f1,f2,f3⟩,hrr,hkp,hext⟩:=qkL (M':=fun g=>(Mx M w.heap.size (w.heap.size+3)) g∨g=v1.heap.size) (w:=wd) (.int .i64 v.lv) (.bool v.b) (.slice v.a v.n v.p) (.slice v.ka v.kn v.kp) (hb4) (.inr rfl) (e1).size (e4);simp only [arr] at q0 q1 q2 q3;(refine qaa 9 (o:=?_) (by kernel_rfl) ?_ ?_;rotate_left 1;(simp only [xgA,xgB,xgC];rfl);intro K hK);go_simp;have hSn3:=hHeld.ext hext;clear hSn;refine hK.out _ _ (fun _=>hSn3) ?_;clear hK K;(try simp only [Act.put,xgD,xgE,xgF]);((refine qaa 10 (o:=?_) (by kernel_rfl) ?_ ?_;rotate_left 1;(simp only [xgA,xgB,xgC];rfl);intro K hK);go_simp;(refine hK.out _ _ (fun h=>absurd rfl h) ?_);clear hK K;refine qac (by kernel_rfl) ?_ _);go_wp2_with (fail)
     go_meet
     exact ⟨v1.heap.size,v,ok,rfl,rfl,hrr,Nat.lt_of_lt_of_eq (hb4).lt (qaq _ _ _ _ _ _ _).symm,(e1).size,(hR.kp hkp).more (fun g hg=>.inl (.inl hg)),hext⟩
   ·go_simp;have ea1:Ext wd (wd.alloc (.cells zA 33)):=(Ext.refl _).alloc _;have hb1:=Blk.of_arr wd zA 33 4 rfl;have e1:Ext wd (wd.alloc (.cells zA 33)):=((Ext.refl wd)).trans ea1
    try clear hSn
    have hSn:=hHeld.ext e1;refine hK.out _ _ (fun _=>hSn) ?_;clear hK K;(try simp only [Act.put,xgD,xgE,xgF]);(refine qaa 1 (o:=?_) (by kernel_rfl) ?_ ?_;rotate_left 1;(simp only [xgA,xgB,xgC];rfl);intro K hK);go_simp;refine (CN1.out (fun g=>(Mx M w.heap.size (w.heap.size+3)) g∨g=wd.heap.size) (wd.alloc (.cells zA 33)) ((qkD (hMd.ext (Ext.refl wd)) (.cells zA 33)).ext (Ext.refl (wd.alloc (.cells zA 33)))) (fun g hg=>hg.imp id fun h=>by rw [h];exact (Ext.refl wd).size) e1).mono ?_;rintro e v2 ⟨a,rfl,ha,d2⟩;go_wp2_with (fail);have e2:Ext wd v2:=(e1).trans d2;have hb2:=(hb1).ext d2
    try clear hSn
    have hSn:=hHeld.ext e2;refine hK.out _ _ (fun _=>hSn) ?_;clear hK K;(try simp only [Act.put,xgD,xgE,xgF]);(refine qaa 3 (o:=?_) (by kernel_rfl) ?_ ?_;rotate_left 1;(simp only [xgA,xgB,xgC];rfl);intro K hK);go_simp;refine (CN2.out (fun g=>(Mx M w.heap.size (w.heap.size+3)) g∨g=wd.heap.size) v2 ((qkD (hMd.ext (Ext.refl wd)) (.cells zA 33)).ext (((Ext.refl (wd.alloc (.cells zA 33)))).trans d2)) (fun g hg=>hg.imp id fun h=>by rw [h];exact (Ext.refl wd).size) e2).mono ?_;rintro e v3 ⟨b,rfl,hb,d3⟩;go_wp2_with (fail);have e3:Ext wd v3:=(e2).trans d3;have hb3:=(hb2).ext d3
    try clear hSn
    have hSn:=hHeld.ext e3;refine hK.out _ _ (fun _=>hSn) ?_;clear hK K;(try simp only [Act.put,xgD,xgE,xgF]);(refine qaa 4 (o:=?_) (by kernel_rfl) ?_ ?_;rotate_left 1;(simp only [xgA,xgB,xgC];rfl);intro K hK);go_simp;refine (HCE.out (fun g=>(Mx M w.heap.size (w.heap.size+3)) g∨g=wd.heap.size) a b v3 ((qkD (hMd.ext (Ext.refl wd)) (.cells zA 33)).ext (((((Ext.refl (wd.alloc (.cells zA 33)))).trans d2)).trans d3)) ((ha).ext d3) (hb) HRZ.out).mono ?_;rintro e v4 ⟨v,ok,rfl,hR,d4⟩;go_wp2_with (fail);have e4:Ext wd v4:=(e3).trans d4;have hb4:=(hb3).ext d4
    try clear hSn
    have hSn:=hHeld.ext e4;refine hK.out _ _ (fun _=>hSn) ?_;clear hK K;(try simp only [Act.put,xgD,xgE,xgF]);(refine tkB [5,6,7] ?_;(iterate 3 (refine tk1 (oi:=?_) (v:=?_) (by kernel_rfl) (by first | exact hSn | exact hHeld) ?_ ?_ ?_ ?_ ?_;rotate_left 2;(simp only [xgA,xgB,xgC];rfl);rfl;(intro wS hSw;obtain ⟨⟨S1,S2,S3,S4⟩,S5,S6,S7,S8⟩:=hSw;go_simp;try with_reducible rfl);(exact fun _ _ _ h=>h);(try simp only [Act.put,xgD,xgE,xgF])));refine tkE ?_);obtain ⟨⟨q0,q1,q2,q3⟩,⟨f0,f1,f2,f3⟩,hrr,hkp,hext⟩:=qkL (M':=fun g=>(Mx M w.heap.size (w.heap.size+3)) g∨g=wd.heap.size) (w:=wd) (.int .i64 v.lv) (.bool v.b) (.slice v.a v.n v.p) (.slice v.ka v.kn v.kp) (hb4) (.inr rfl) ((Ext.refl wd)).size (e4);simp only [arr] at q0 q1 q2 q3;(refine qaa 9 (o:=?_) (by kernel_rfl) ?_ ?_;rotate_left 1;(simp only [xgA,xgB,xgC];rfl);intro K hK);go_simp;have hSn3:=hHeld.ext hext;clear hSn;refine hK.out _ _ (fun _=>hSn3) ?_;clear hK K;(try simp only [Act.put,xgD,xgE,xgF]);((refine qaa 10 (o:=?_) (by kernel_rfl) ?_ ?_;rotate_left 1;(simp only [xgA,xgB,xgC];rfl);intro K hK);go_simp;(refine hK.out _ _ (fun h=>absurd rfl h) ?_);clear hK K;refine qac (by kernel_rfl) ?_ _);go_wp2_with (fail)
    go_meet
    exact ⟨wd.heap.size,v,ok,rfl,rfl,hrr,Nat.lt_of_lt_of_eq (hb4).lt (qaq _ _ _ _ _ _ _).symm,((Ext.refl wd)).size,(hR.kp hkp).more (fun g hg=>.inl (.inl hg)),hext⟩
  case rest=>
   obtain ⟨gc,v,ok,rfl,rfl,hv,hgv,hgw,hR,heC⟩:=hcut;have he5:Ext w1 wc:=(Ext.refl w1).drew.trans heC;have HRR:=Lib.hid hR;have HBC:=Lib.hid (HB1.out.ext he5);have HWC:=Lib.hid (HE1.out.trans he5);have hw3:w.heap.size+2<wc.heap.size:=Nat.lt_of_lt_of_le hw2 he5.size;obtain ⟨v0,v1,v2,v3⟩:=hv;clear hR heC he5 hgw HSS HB1 HE1 HM1 HX1 HY1 HCE hw2
   cases ok with
   | false=>
    obtain ⟨⟨q0,q1,q2,q3⟩,⟨f0,f1,f2,f3⟩,⟨r0,r1,r2,r3⟩,HF⟩:=qbR (M:=M) (M':=Mx M w.heap.size (w.heap.size+3)) (w:=w) (L:=0) (l:=[]) (y:=PE.z) HBC.out (Mx.at (by omega)) (by omega) HWC.out (CR.zero _ _ 0) Mx.sub;obtain ⟨_,_,_,hext⟩:=HF;have HF2:Hid (qrw M w l r A2 (.returned (.tuple #[.agg (peA PE.z),.int .i64 3])) _):=⟨PE.z,3,rfl,.inr (.inr ⟨rfl,rfl,HRZ.out,HRR.out.2 rfl⟩),hext⟩;simp only [PE.z] at r0 r1 r2 r3;clear hext HRR HBC HWC v0 v1 v2 v3;go_wp2;exact bodyPost_ret (v:=.tuple #[.agg (peA PE.z),.int .i64 3]) (by simp [results,Tryz.results14,go_sem,r0,r1,r2,r3,PE.z]) rfl HF2.out
   | true=>
    obtain ⟨q,hq1,hq2,hq3⟩:=HRR.out.1 rfl;obtain ⟨⟨q0,q1,q2,q3⟩,⟨f0,f1,f2,f3⟩,⟨r0,r1,r2,r3⟩,HF⟩:=qbR (M:=M) (w:=w) HBC.out (Mx.at (by omega)) (by omega) HWC.out hq1 Mx.sub;obtain ⟨v',e',hc',hext⟩:=HF;simp only [Ending.returned.injEq,Value.agg.injEq] at e';have HF2:Hid (qrw M w l r A2 (.returned (.tuple #[.agg (peA v),.int .i64 0])) _):=⟨v',0,by rw [e'],.inr (.inl ⟨rfl,HRZ.out,q,hc',hq2,hq3⟩),hext⟩;clear hext hc' e' hq1 hq2 hq3 HRR HBC HWC;go_wp2;exact bodyPost_ret (v:=.tuple #[.agg (peA v),.int .i64 0]) (by simp [results,Tryz.results14,go_sem,r0,r1,r2,r3]) rfl HF2.out


end Go.Proofs.YtmcfpnmoklnhoaaGreat
