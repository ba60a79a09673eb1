/- ResultantDeterminant: what its calls answer. ResultantDeterminant: the walk. The law ResultantDeterminant returns true at every input, without a panic, and leaves its arguments as they were; no conditions. -/
import Derived.Test.YtlmipmebdelgbaaGreatVe
import Derived.Test.YtlmipmebdelgbaaGreatRc
import Derived.Test.YtlmipmebdelgbaaGreatDk
import Derived.Test.YtlmipmebdelgbaaGreatMq
set_option linter.unusedVariables false
set_option linter.unusedSimpArgs false

namespace Go.Proofs.YtlmipmebdelgbaaGreat
open Go.RowKit

theorem qnX {J m n : Nat} {f g : List Tm} (h1 : 1 <= J) (h4 : J <= 4) (s1 : SmD 2 f) (s2 : SmD 2 g) (df : DgR J f m) (dg : DgR J g n) (hm : m <= 2) (hn : n <= 2) (w : World) (v : Value) (base : Nat) (hv : Mat M0 w base v (n + m) (m + n) (syM J m n f g)) :
  Calls Tryz.prog 30 #[v] w (qa3 M0 w 4 (SJ J 0 m n f g)):=by
 have k : ∀ (l:List Tm) (e:Int),SmD 2 l->NN (ck J e l)/\Deg 3 (ck J e l)/\dlen (nrm (ck J e l))<=5:=fun l e h=>⟨qaY h1 h4 h.nn,(qfl h1 h4 h.deg).mono (by omega),Nat.le_trans (qaq (qdT J e l)) h.dl⟩
 have e : ∀ a b,NN (zx (fun _=>m+n) (syM J m n f g) a b)/\Deg 3 (zx (fun _=>m+n) (syM J m n f g) a b)/\dlen (nrm (zx (fun _=>m+n) (syM J m n f g) a b))<=5:=fun a b=>by
  unfold zx syM
  split
  ·split
   ·exact k f _ s1
   ·exact k g _ s2
  ·exact ⟨NN.nil,fun m hm=>absurd rfl hm,Nat.zero_le _⟩
 have hE:qmJ (zx (fun _=>m+n) (syM J m n f g)):=⟨fun a b=>(e a b).1,fun a b=>(e a b).2.1,fun a b=>(e a b).2.2⟩
 refine (qol (n+m) (by omega) M0 w v (fun _=>m+n) _ (mb0 _) (hv.mrow (fun b hb=>absurd hb id) (Nat.le_trans (show m+n<=4 by omega) (by decide))) hE).mono fun e w' h=>h.sim ?_
 rw [Nat.add_comm n m]
 exact (qlb h1 h4 s1.nn s2.nn df dg hm hn (fun _=>m+n) fun _=>rfl).symm
def DtK (f g:List Tm) (L er:Int) (r:List Tm):Prop:=(¬ (1<=L/\L<=4)/\er=4/\r = [])∨((1<=L/\L<=4)/\(Sim f []∨Sim g [])/\er=0/\r = []) ∨ ∃ J m n:Nat,L=(J:Int)/\Gn J m n 4 f g/\m<=2/\n<=2/\er=0/\r=SJ J 0 m n f g
theorem qnO {f g:List Tm} (hf:SmD 2 f) (hg:SmD 2 g) (L:Int) (x y:PE) (W:World) (hx:CRx M0 W 4 x f) (hy:CRx M0 W 4 y g) : ∃ er r,DtK f g L er r/\Calls Tryz.prog 28 #[.agg (peA x),.agg (peA y),.int .i64 L] W (qjM M0 W 4 r er):=by
 by_cases hl:1<=L/\L<=4
 ·obtain ⟨J,rfl⟩ : ∃ J:Nat,L=(J:Int):=⟨L.toNat,by omega⟩
  have h1:1<=J:=by omega
  have h4:J<=4:=by omega
  by_cases hz:Sim f []∨Sim g []
  ·exact ⟨0,[],.inr (.inl ⟨hl,hz,rfl,rfl⟩),qpd h1 h4 hf.nn hg.nn hz (hf.deg.mono (by decide)) (hg.deg.mono (by decide)) M0 x y W (mb0 _) hx hy⟩
  ·obtain ⟨m,hm⟩:=qfh (k:=J) hf.nn
   obtain ⟨n,hn⟩:=qfh (k:=J) hg.nn
   have hm2:m<=2:=qhv hm hf.deg
   have hn2:n<=2:=qhv hn hg.deg
   have H:Gn J m n 4 f g:=Gn.of44 h1 h4 (hf.sz (by decide)) (hg.sz (by decide)) (fun h=>hz (.inl h)) (fun h=>hz (.inr h)) hm hn (by omega) (by omega)
   exact ⟨0,_,.inr (.inr ⟨J,m,n,rfl,H,hm2,hn2,rfl,rfl⟩),H.resO M0 x y W (mb0 _) hx hy⟩
 ·exact ⟨4,[],.inl ⟨hl,rfl,rfl⟩,qq0 M0 x y L W (mb0 _) hl⟩
theorem qqc {J:Nat} {l:List Tm} (h:Fre J l) : ∃ z:Int,DgV J l z/\z<=0:=by
 by_cases hz:Sim l []
 ·exact ⟨-1,.inl ⟨hz,rfl⟩,by omega⟩
 ·exact ⟨0,.inr ⟨hz,0,qrq h,rfl⟩,by omega⟩


set_option maxRecDepth 100000 in
set_option maxHeartbeats 64000000 in
theorem qlL (a1 : Option Addr) (n1 p1 : Nat) (X1 : Nat -> TE) (a2 : Option Addr) (n2 p2 : Nat) (X2 : Nat -> TE) (L : Int) (w : World) (h1 : qqA w a1 n1 p1 X1) (h2 : qqA w a2 n2 p2 X2) :
  Calls Tryz.prog 4 #[.slice a1 n1 p1,.slice a2 n2 p2,.int .i64 L] w fun e w'=>e = .returned (.bool true)/\Ext w w':=by
 have HR1:=Lib.hid h1
 have HR2:=Lib.hid h2
 clear h1 h2
 go_enter Tryz.func4,Tryz.ntmps4
 go_wp2_with (fail)
 refine (qlK _).mono ?_
 rintro e w1 ⟨rfl,he1⟩
 have HE1:=Lib.hid (he1)
 have CF1:=Lib.hid (qhg a1 n1 p1 X1 4 2 w1 (HR1.out.1.ext HE1.out) HR1.out.2.1)
 rw [show ((4:Nat):Int)=4 from rfl,show ((2:Nat):Int)=2 from rfl] at CF1
 have CF2:=Lib.hid (qhg a2 n2 p2 X2 4 2 w1 (HR2.out.1.ext HE1.out) HR2.out.2.1)
 rw [show ((4:Nat):Int)=4 from rfl,show ((2:Nat):Int)=2 from rfl] at CF2
 clear he1
 go_wp2_with (fail)
 refine CF1.out.mono ?_
 rintro e w2 ⟨b,rfl,hb1,rfl⟩
 cases b with
 | false=>
  clear hb1 CF1 CF2
  go_wp2
  go_ret
  exact ⟨rfl,HE1.out⟩
 | true=>
 have HF1:=Lib.hid (hb1.1 rfl)
 clear hb1 CF1
 go_wp2_with (fail)
 refine CF2.out.mono ?_
 rintro e w2 ⟨b,rfl,hb2,rfl⟩
 cases b with
 | false=>
  clear hb2 CF2
  go_wp2
  go_ret
  exact ⟨rfl,HE1.out⟩
 | true=>
 have HF2:=Lib.hid (hb2.1 rfl)
 clear hb2 CF2
 obtain ⟨l1,hl1,HS1,hd1,hx1⟩:=HR1.out.smD (B:=2) HF1.out (by omega) (by omega)
 obtain ⟨l2,hl2,HS2,hd2,hx2⟩:=HR2.out.smD (B:=2) HF2.out (by omega) (by omega)
 have hlD1:=hl1.ext HE1.out
 have hlD2:=hl2.ext HE1.out
 have HS1:=Lib.hid HS1
 have HS2:=Lib.hid HS2
 have CO1:Hid (∀ W,Ext w1 W->Calls Tryz.prog 10 #[.slice a1 n1 p1] W (qa3 M0 W 4 (norm l1))):=fun W h=>qq3 M0 _ l1 W (mb0 _) (hlD1.ext h) hd1 hx1
 have CO2:Hid (∀ W,Ext w1 W->Calls Tryz.prog 10 #[.slice a2 n2 p2] W (qa3 M0 W 4 (norm l2))):=fun W h=>qq3 M0 _ l2 W (mb0 _) (hlD2.ext h) hd2 hx2
 clear hl1 hd1 hx1 HF1 HR1 hlD1 hl2 hd2 hx2 HF2 HR2 hlD2
 generalize norm l1=f at *
 generalize norm l2=g at *
 have HV1:Hid (Ext w1 w1):=Ext.refl w1
 go_wp2_with (fail)
 refine (CO1.out w1 HV1.out).mono ?_
 rintro e w2 ⟨x,rfl,hx,D⟩
 have HX1:=Lib.hid hx
 have HV2:=Lib.hid (HV1.out.trans D)
 clear hx D CO1 HV1
 go_wp2_with (fail)
 refine (CO2.out w2 HV2.out).mono ?_
 rintro e w3 ⟨y,rfl,hx,D⟩
 replace HX1:=Lib.hid (HX1.out.ext D)
 have HX2:=Lib.hid hx
 have HV3:=Lib.hid (HV2.out.trans D)
 clear hx D CO2 HV2
 go_upto_region 6 with (fail)
 obtain ⟨W,hW⟩ : ∃ W,W=(w3.alloc (.cells #[.int .i64 x.lv,.bool x.b,.slice x.a x.n x.p,.slice x.ka x.kn x.kp] 33)).alloc (.cells #[.int .i64 y.lv,.bool y.b,.slice y.a y.n y.p,.slice y.ka y.kn y.kp] 33):=⟨_,rfl⟩
 have hEW:Ext w3 W:=by rw [hW];exact (((Ext.refl w3).alloc _).alloc _)
 obtain ⟨g0,hg0⟩ : ∃ g0,g0=w3.heap.size:=⟨_,rfl⟩
 have HSB:Hid (SBr g0 x y W):=by rw [hW,hg0];exact qc7 w3 x y
 replace HX1:=Lib.hid (HX1.out.ext hEW)
 replace HX2:=Lib.hid (HX2.out.ext hEW)
 have HE:=Lib.hid (HE1.out.trans (HV3.out.trans hEW))
 rw [<- hW,<- hg0]
 clear hW hg0 hEW HE1 HV3
 obtain ⟨er,r,hK,hC⟩:=qnO HS1.out HS2.out L x y W HX1.out HX2.out
 have HK:=Lib.hid hK
 have CR:=Lib.hid hC
 clear hK hC
 obtain ⟨⟨x0,x1,x2,x3⟩,y0,y1,y2,y3⟩:=HSB.out
 go_wp2_with (fail)
 refine CR.out.mono ?_
 rintro e w6 ⟨v,rfl,hv,e6⟩
 have HV6:=Lib.hid hv
 have HE6:=Lib.hid e6
 clear x0 x1 x2 x3 y0 y1 y2 y3 hv e6 CR
 go_upto_region 7 with (fail)
 obtain ⟨W7,hW7⟩ : ∃ W7,W7=w6.alloc (.cells #[.int .i64 v.lv,.bool v.b,.slice v.a v.n v.p,.slice v.ka v.kn v.kp] 33):=⟨_,rfl⟩
 have eb:Ext w6 W7:=by rw [hW7];exact (Ext.refl w6).alloc _
 have hP:P4 W7 w6.heap.size v:=by rw [hW7];exact (Blk.of_arr w6 (peA v) 33 4 rfl).p4
 obtain ⟨gr,hgr⟩ : ∃ gr,gr=w6.heap.size:=⟨_,rfl⟩
 rw [<- hgr] at hP
 rw [<- hW7,<- hgr]
 have HE7:=Lib.hid (HE6.out.trans eb)
 have HV7:=Lib.hid (HV6.out.ext eb)
 have HS7:Hid (SJ3 g0 (g0+1) gr x y v W7):=⟨HSB.out.1.ext HE7.out,HSB.out.2.ext HE7.out,hP⟩
 clear hW7 eb hP hgr HE6 HV6 HSB
 rcases HK.out with ⟨hl,rfl,rfl⟩ | ⟨hl,hz,rfl,rfl⟩ | ⟨J,m,n,rfl,H,hm2,hn2,rfl,rfl⟩
 ·have CI:=Lib.hid (qdt L false (by simp only [Bool.false_eq_true,false_iff];exact hl) W7)
  obtain ⟨_,_,v0,v1,v2,v3⟩:=HS7.out
  clear hl HK
  go_wp2_with (fail)
  refine CI.out.mono ?_
  rintro e w8 ⟨rfl,rfl⟩
  go_wp2_with (fail)
  refine (qaQ M0 v [] w8 (mb0 _) HV7.out.pi).mono ?_
  rintro e w9 ⟨b,rfl,hb,e9⟩
  obtain rfl:b=true:=hb.2 (Sim.refl _)
  have HF:=Lib.hid (HE.out.trans (HE7.out.trans e9))
  clear hb e9 v0 v1 v2 v3 CI
  go_wp2
  go_ret
  exact ⟨rfl,HF.out⟩
 ·have CI:=Lib.hid (qdt L true (by simp only [true_iff];exact hl) W7)
  have HZ:=Lib.hid hz
  obtain ⟨⟨x0,x1,x2,x3⟩,⟨y0,y1,y2,y3⟩,v0,v1,v2,v3⟩:=HS7.out
  clear hl HK hz
  go_wp2_with (fail)
  refine CI.out.mono ?_
  rintro e w8 ⟨rfl,rfl⟩
  go_wp2_with (fail)
  refine (qaQ M0 x f w8 (mb0 _) (HX1.out.ext HE7.out).pi).mono ?_
  rintro e w9 ⟨b,rfl,hb,e9⟩
  have HE9:=Lib.hid e9
  clear e9 x0 x1 x2 x3 y0 y1 y2 y3 v0 v1 v2 v3 CI
  obtain ⟨⟨x0,x1,x2,x3⟩,⟨y0,y1,y2,y3⟩,v0,v1,v2,v3⟩:=HS7.out.ext HE9.out
  cases b with
  | true=>
   clear hb
   go_wp2_with (fail)
   refine (qaQ M0 v [] w9 (mb0 _) (HV7.out.ext HE9.out).pi).mono ?_
   rintro e w10 ⟨b,rfl,hb,e10⟩
   obtain rfl:b=true:=hb.2 (Sim.refl _)
   have HF:=Lib.hid (HE.out.trans (HE7.out.trans (HE9.out.trans e10)))
   clear hb e10 x0 x1 x2 x3 y0 y1 y2 y3 v0 v1 v2 v3
   go_wp2
   go_ret
   exact ⟨rfl,HF.out⟩
  | false=>
  have HN1:Hid (Sim g []):=HZ.out.resolve_left fun hh=>by have:=hb.2 hh;cases this
  clear hb
  go_wp2_with (fail)
  refine (qaQ M0 y g w9 (mb0 _) ((HX2.out.ext HE7.out).ext HE9.out).pi).mono ?_
  rintro e w10 ⟨b,rfl,hb,e10⟩
  obtain rfl:b=true:=hb.2 HN1.out
  have HE10:=Lib.hid (HE9.out.trans e10)
  clear hb e10 x0 x1 x2 x3 y0 y1 y2 y3 v0 v1 v2 v3
  obtain ⟨_,_,v0,v1,v2,v3⟩:=HS7.out.ext HE10.out
  go_wp2_with (fail)
  refine (qaQ M0 v [] w10 (mb0 _) (HV7.out.ext HE10.out).pi).mono ?_
  rintro e w11 ⟨b,rfl,hb,e11⟩
  obtain rfl:b=true:=hb.2 (Sim.refl _)
  have HF:=Lib.hid (HE.out.trans (HE7.out.trans (HE10.out.trans e11)))
  clear hb e11 v0 v1 v2 v3
  go_wp2
  go_ret
  exact ⟨rfl,HF.out⟩
 ·have h1:=H.h1
  have h4:=H.h4
  have CI:=Lib.hid (qdt (J:Int) true (by simp only [true_iff];omega) W7)
  have HG:=Lib.hid H
  have HMN:Hid (m<=2/\n<=2):=⟨hm2,hn2⟩
  obtain ⟨⟨x0,x1,x2,x3⟩,⟨y0,y1,y2,y3⟩,v0,v1,v2,v3⟩:=HS7.out
  clear HK H hm2 hn2 h1 h4
  go_wp2_with (fail)
  refine CI.out.mono ?_
  rintro e w8 ⟨rfl,rfl⟩
  go_wp2_with (fail)
  refine (qaQ M0 x f w8 (mb0 _) (HX1.out.ext HE7.out).pi).mono ?_
  rintro e w9 ⟨b,rfl,hb,e9⟩
  obtain rfl:b=false:=by
   cases b with
   | false=>rfl
   | true=>exact absurd (hb.1 rfl) HG.out.zf
  have HE9:=Lib.hid e9
  clear hb e9 x0 x1 x2 x3 y0 y1 y2 y3 v0 v1 v2 v3 CI
  obtain ⟨⟨x0,x1,x2,x3⟩,⟨y0,y1,y2,y3⟩,v0,v1,v2,v3⟩:=HS7.out.ext HE9.out
  go_wp2_with (fail)
  refine (qaQ M0 y g w9 (mb0 _) ((HX2.out.ext HE7.out).ext HE9.out).pi).mono ?_
  rintro e w10 ⟨b,rfl,hb,e10⟩
  obtain rfl:b=false:=by
   cases b with
   | false=>rfl
   | true=>exact absurd (hb.1 rfl) HG.out.zg
  have HE10:=Lib.hid (HE9.out.trans e10)
  clear hb e10 x0 x1 x2 x3 y0 y1 y2 y3 v0 v1 v2 v3
  go_upto_region 11 with (fail)
  have hEd:Ext w8 w10.drew:=HE10.out.trans (Ext.refl w10).drew
  have HSd:Hid (SJ3 g0 (g0+1) gr x y v w10.drew):=HS7.out.ext hEd
  have HX:=Lib.hid ((HX1.out.ext HE7.out).ext hEd)
  have HY:=Lib.hid ((HX2.out.ext HE7.out).ext hEd)
  have HV:=Lib.hid (HV7.out.ext hEd)
  have HED:=Lib.hid ((HE.out.trans HE7.out).trans hEd)
  have hfr:=qp2 HG.out.h1 HG.out.h4 HS1.out.nn HS2.out.nn HG.out.df HG.out.dg HMN.out.1 HMN.out.2
  obtain ⟨dz,hdz,hdz0⟩:=qqc hfr
  have HDZ:=Lib.hid hdz
  clear HX1 HX2 HE7 HV7 HS7 HE10 HE9 hEd HE hfr hdz
  refine qae (SJ3 g0 (g0+1) gr x y v) 22 (by kernel_rfl) HSd.out (fun hHeld=>?_)
  generalize w10.drew=wd at *
  (refine tkB [0,1,2,3] ?_;(iterate 4 (refine tk1 (oi:=?_) (v:=?_) (by kernel_rfl) (by first | exact hSn | exact hHeld) ?_ ?_ ?_ ?_ ?_;rotate_left 2;(simp only [xgA,xgB,xgC];rfl);rfl;(intro wS hSw;obtain ⟨⟨A1,A2,A3,A4⟩,⟨A5,A6,A7,A8⟩,A9,A10,A11,A12⟩:=hSw;go_simp;try with_reducible rfl);(exact fun _ _ _ h=>h);(try simp only [Act.put,xgD,xgE,xgF])));refine tkE ?_)
  ((refine qaa 4 (o:=?_) (by kernel_rfl) ?_ ?_;rotate_left 1;(simp only [xgA,xgB,xgC];rfl);intro K hK);go_simp;(refine (qg1 4 M0 _ v 5 wd HV.out (by have:=HV.out.lev;omega)).mono ?_);rintro e_ v1' ⟨rfl,d1⟩;go_wp2_with (fail);(try clear hSn);(have hSn:=hHeld.ext d1);(refine hK.out _ _ (fun _=>hSn) ?_);clear hK K;(try simp only [Act.put,xgD,xgE,xgF]))
  (refine tkB [5,6,7,8] ?_;(iterate 4 (refine tk1 (oi:=?_) (v:=?_) (by kernel_rfl) (by first | exact hSn | exact hHeld) ?_ ?_ ?_ ?_ ?_;rotate_left 2;(simp only [xgA,xgB,xgC];rfl);rfl;(intro wS hSw;obtain ⟨⟨A1,A2,A3,A4⟩,⟨A5,A6,A7,A8⟩,A9,A10,A11,A12⟩:=hSw;go_simp;try with_reducible rfl);(exact fun _ _ _ h=>h);(try simp only [Act.put,xgD,xgE,xgF])));refine tkE ?_)
  ((refine qaa 9 (o:=?_) (by kernel_rfl) ?_ ?_;rotate_left 1;(simp only [xgA,xgB,xgC];rfl);intro K hK);go_simp;(refine (qcu M0 v _ J dz v1' HG.out.h1 HG.out.h4 HG.out.rsz.n HDZ.out (mb0 _) (HV.out.ext d1).pi).mono ?_);rintro e_ v2' ⟨rfl,d2⟩;go_wp2_with (fail);(try clear hSn);(have hSn:=hHeld.ext (d1.trans d2));(refine hK.out _ _ (fun _=>hSn) ?_);clear hK K;(try simp only [Act.put,xgD,xgE,xgF]))
  (refine tkB [10,11,12,13,14,15,16] ?_;(iterate 7 (refine tk1 (oi:=?_) (v:=?_) (by kernel_rfl) (by first | exact hSn | exact hHeld) ?_ ?_ ?_ ?_ ?_;rotate_left 2;(simp only [xgA,xgB,xgC];rfl);rfl;(intro wS hSw;obtain ⟨⟨A1,A2,A3,A4⟩,⟨A5,A6,A7,A8⟩,A9,A10,A11,A12⟩:=hSw;go_simp;try with_reducible rfl);(exact fun _ _ _ h=>h);(try simp only [Act.put,xgD,xgE,xgF])));refine tkE ?_)
  have k2:=d1.trans d2
  have CS:=Lib.hid (qg2 M0 v2' x y J m n f g (mb0 _) (by have:=HMN.out;omega) (by have:=HMN.out;omega) (fun wk he=>HG.out.degf M0 x wk (mb0 _) ((HX.out.ext k2).ext he)) (fun wk he=>HG.out.swap.degf M0 y wk (mb0 _) ((HY.out.ext k2).ext he)) (qk8 M0 v2' x J 4 f HG.out.h1 HG.out.h4 HG.out.sf.n (HX.out.ext k2).pi HG.out.sf.d (by decide) (by decide) (Nat.le_trans HG.out.sf.a (by decide))) (qk8 M0 v2' y J 4 g HG.out.h1 HG.out.h4 HG.out.sg.n (HY.out.ext k2).pi HG.out.sg.d (by decide) (by decide) (Nat.le_trans HG.out.sg.a (by decide))))
  ((refine qaa 17 (o:=?_) (by kernel_rfl) ?_ ?_;rotate_left 1;(simp only [xgA,xgB,xgC];rfl);intro K hK);go_simp;(refine (CS.out).mono ?_);rintro e_ v3' ⟨sa,sc,sb,rfl,_,hmat,d3⟩;go_wp2_with (fail);(try clear hSn);(have hSn:=hHeld.ext (k2.trans d3));(refine hK.out _ _ (fun _=>hSn) ?_);clear hK K;(try simp only [Act.put,xgD,xgE,xgF]))
  ((refine qaa 18 (o:=?_) (by kernel_rfl) ?_ ?_;rotate_left 1;(simp only [xgA,xgB,xgC];rfl);intro K hK);go_simp;(refine (qnX HG.out.h1 HG.out.h4 HS1.out HS2.out HG.out.df HG.out.dg HMN.out.1 HMN.out.2 v3' _ sb hmat).mono ?_);rintro e_ v4' ⟨q,rfl,hq,d4⟩;go_wp2_with (fail);(try clear hSn);(have hSn:=hHeld.ext ((k2.trans d3).trans d4));(refine hK.out _ _ (fun _=>hSn) ?_);clear hK K;(try simp only [Act.put,xgD,xgE,xgF]))
  ((refine qaa 19 (o:=?_) (by kernel_rfl) ?_ ?_;rotate_left 1;(simp only [xgA,xgB,xgC];rfl);intro K hK);go_simp;(refine (qoi v q _ _ v4' true (HV.out.ext ((k2.trans d3).trans d4)).pi hq.pi (by simp [Sim.refl])).mono ?_);rintro e_ v5' ⟨rfl,d5⟩;go_wp2_with (fail);(try clear hSn);(have hSn:=hHeld.ext (((k2.trans d3).trans d4).trans d5));(refine hK.out _ _ (fun _=>hSn) ?_);clear hK K;(try simp only [Act.put,xgD,xgE,xgF]))
  (refine tkB [20,21] ?_;(iterate 2 (refine tk1 (oi:=?_) (v:=?_) (by kernel_rfl) (by first | exact hSn | exact hHeld) ?_ ?_ ?_ ?_ ?_;rotate_left 2;(simp only [xgA,xgB,xgC];rfl);rfl;(intro wS hSw;obtain ⟨⟨A1,A2,A3,A4⟩,⟨A5,A6,A7,A8⟩,A9,A10,A11,A12⟩:=hSw;go_simp;try with_reducible rfl);(exact fun _ _ _ h=>h);(try simp only [Act.put,xgD,xgE,xgF])));refine tkE ?_)
  refine qac (by kernel_rfl) ?_ _
  have HF:=Lib.hid (HED.out.trans (((k2.trans d3).trans d4).trans d5))
  clear hHeld hSn d1 d2 d3 d4 d5 k2 hq hmat CS
  go_wp2
  go_ret
  exact ⟨rfl,HF.out⟩
end Go.Proofs.YtlmipmebdelgbaaGreat

namespace Go.Proofs.YtlmipmebdelgbaaGreat
open Go.ChangeShapes Go.WideShapes Go.ChangeAt Go.RowKit Go.Deep

namespace resultantDeterminant
theorem own:ownKnob Tryz.prog.godebug=none:=by kernel_rfl
set_option maxRecDepth 100000 in
theorem contract (H : Type) (enc : TypeId × Value -> H) (W : World) (base : Nat) (args : Array Value) (ds gs : List (DataW H)) (before : List MemPlace)
  (hval : ∀ (j:Nat) t v,Tryz.f4.params[j]? = some t->args[j]? = some v->Value.okWide Tryz.prog W .any base t v)
  (hW:DataW.Whole enc Tryz.prog Tryz.f4.params.toList Rows.resultantDeterminantSpec.vars false W args.toList ds gs before) :
  Calls Tryz.prog 4 args W fun e W'=>∃ v,e = .returned v/\Rows.resultantDeterminantSpec.post enc Tryz.prog Tryz.f4 false true false false W args v W':=by
 have hW':=hW
 obtain ⟨p,q,hA0,hV,rfl,hfz,hnd⟩:=hW
 have hA:DataW.TrodAll enc Tryz.prog W 0 (fun _=>true) true Tryz.f4.params.toList args.toList ds p:=hA0
 rw [Tryz.params4] at hA hval
 obtain ⟨v0,vs0,d0,ds0,p0,q0,hargs,rfl,rfl,h0,r0⟩:=trodAll_cons hA
 obtain ⟨v1,vs1,d1,ds1,p1,q1,rfl,rfl,rfl,h1,r1⟩:=trodAll_cons r0
 obtain ⟨v2,vs2,d2,ds2,p2,q2,rfl,rfl,rfl,h2,r2⟩:=trodAll_cons r1
 obtain ⟨rfl,rfl,rfl⟩:=trodAll_nil r2
 obtain rfl:args = #[v0,v1,v2]:=by cases args;simp_all
 obtain ⟨rfl,rfl⟩:=trodVars_none hV
 obtain ⟨a0,n0,c0,X0,rfl,g0⟩:=qg7 (hval 0 23 v0 rfl rfl) h0
 obtain ⟨a1,n1,c1,X1,rfl,g1⟩:=qg7 (hval 1 23 v1 rfl rfl) h1
 obtain ⟨z2,rfl,g2⟩:=qnk (hval 2 3 v2 rfl rfl) h2
 refine (qlL a0 n0 c0 X0 a1 n1 c1 X1 z2 W g0 g1 ).mono fun e W' ⟨he,hg⟩=>?_
 subst he
 refine ⟨_,rfl,qli (tb:=4) (by kernel_rfl) ?_ rfl rfl (by kernel_rfl) Tryz.underlying4 hW' hg⟩
 rw [Tryz.params4]
 intro t ht
 simp only [List.mem_cons,List.not_mem_nil,or_false,or_self,or_self_left] at ht
 rcases ht with rfl | rfl
 ·exact ⟨by kernel_rfl,of_decide_eq_true (by kernel_rfl)⟩
 ·exact ⟨by kernel_rfl,of_decide_eq_true (by kernel_rfl)⟩
set_option maxRecDepth 100000 in
theorem lifted (os : Os) (started : os.Started) (H : Type) (enc : TypeId × Value -> H) :
  ReturnsInHanded {} Tryz.checked os 4 .any (Rows.resultantDeterminantSpec.pre6 enc Tryz.prog Tryz.f4 Rows.resultantDeterminantRow.domain false) (Rows.resultantDeterminantSpec.post enc Tryz.prog Tryz.f4 false true false false):=by
 refine returnsInHanded_of_change (C:=Tryz.checked) own started (by kernel_rfl) Tryz.func4
  (ChangeSpec.witness6 (enc:=enc) (C:=Tryz.checked) false ⟨#[],#[.slice none 0 0,.slice none 0 0,.int .i64 0],[]⟩ 8 (by kernel_rfl) (by kernel_rfl) (by kernel_rfl) (by kernel_rfl)) ?_
 intro W base args ds gs before hval hW _ _
 exact contract H enc W base args ds gs before hval hW
theorem kInp:(Rows.resultantDeterminantRow.inPlace == Tryz.pinned.checked.prog.inPlace 4)=true:=by kernel_rfl
theorem kUnf:(Rows.resultantDeterminantRow.unfollowed == Tryz.pinned.checked.prog.unfollowed 4)=true:=by kernel_rfl
theorem kRec:(Rows.resultantDeterminantRow.recurses == Tryz.pinned.checked.prog.recurses 4)=true:=by kernel_rfl
theorem kNam:(Rows.resultantDeterminantRow.named == Tryz.pinned.checked.prog.varsNamed 4)=true:=by kernel_rfl
theorem kLaid:laidOutB Tryz.pinned.checked.prog=true:=by kernel_rfl
theorem closed:joinedFacts Tryz.pinned.checked.prog 4 Tryz.f4 Rows.resultantDeterminantSpec Rows.resultantDeterminantRow=true:=by
 unfold joinedFacts
 rw [kInp,kUnf,kRec,kNam,kLaid]
 kernel_rfl
theorem proved:Rows.ResultantDeterminantSaid:=
 OpenClaim.holds_of_wide (p:=Tryz.pinned) (s:=Rows.resultantDeterminantSpec) (c:=Rows.resultantDeterminantRow) 4 Tryz.f4 rfl rfl rfl rfl rfl rfl rfl ⟨rfl,rfl,rfl,rfl,rfl⟩ rfl rfl rfl rfl rfl (by kernel_rfl) Tryz.func4 closed
  (of_decide_eq_true (by kernel_rfl)) (by unfold Func.isWrapper;first | (rw [if_pos (by decide +kernel)];kernel_rfl) | (rw [if_neg (by decide +kernel)];exact ⟨rfl,rfl⟩))
  (fun os started H enc _=>lifted os started H enc)
end resultantDeterminant
end Go.Proofs.YtlmipmebdelgbaaGreat
