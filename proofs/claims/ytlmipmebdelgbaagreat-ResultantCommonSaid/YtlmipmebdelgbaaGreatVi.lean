/- ResultantCommon: what its calls answer. ResultantCommon: the walk. The law ResultantCommon returns true at every input, without a panic, and leaves its arguments as they were; no conditions. -/
import Derived.Test.YtlmipmebdelgbaaGreatVe
import Derived.Test.YtlmipmebdelgbaaGreatDk
import Derived.Test.YtlmipmebdelgbaaGreatMq
set_option linter.unusedVariables false
set_option linter.unusedSimpArgs false

namespace Go.Proofs.YtlmipmebdelgbaaGreat
open Go.RowKit

theorem SmD.up {B C:Nat} {l:List Tm} (h:SmD B l) (hB:B<=C):SmD C l:=⟨h.nn,h.deg.mono hB,h.dl⟩
theorem sim_zero1:Sim [((0:Int),Mo.zero)] []:=fun m=>by
 show qab [((0:Int),Mo.zero)] m=0
 simp [qab]
theorem cm_zero {J : Nat} (h1 : 1 <= J) (h4 : J <= 4) {g : List Tm} (ng : NN g) {dn : Int} (hd : DgV J g dn) (u y : PE) (w : World) (hu : CRx M0 w 4 u [(0, Mo.zero)]) (hy : CRx M0 w 4 y g) :
  Calls Tryz.prog 32 #[.agg (peA u),.agg (peA y),.int .i64 (J:Int)] w fun e w'=>e = .returned (.bool (dn != 0))/\Ext w w':=
 law_shared u y (J:Int) (cmB (-1) dn 0) w fun wk he=>rc_walk u y (J:Int) (-1) dn 0 wk ⟨qh8 h1 h4,fun wl hl=>qcu M0 u _ J (-1) wl h1 h4 (qaW (by decide)) (.inl ⟨sim_zero1,rfl⟩) (mb0 _) (hu.ext (he.trans hl)).pi,fun wl hl=>qcu M0 y g J dn wl h1 h4 ng hd (mb0 _) (hy.ext (he.trans hl)).pi,fun h=>by omega⟩
theorem common_prod {J m n t:Nat} {f g h:List Tm} (H:Gn J m n 4 f g) (nh:NN h) (zh : ¬ Sim h []) (dh:DgR J h t) (H':Gn J (m+t) (n+t) 4 (pmul f h) (pmul g h)) (ht:1<=t):Sim (SJ J 0 (m+t) (n+t) (pmul f h) (pmul g h)) []:=by
 have key : ∃ z k,GcdP J f g z/\DgR J z k/\k<=min m n:=by
  rcases Nat.le_total n m with h | h
  ·rw [Nat.min_eq_right h]
   obtain ⟨z,k,hg,hd,hk,_⟩:=gcd_sub H.h1 H.h4 H.sf.n H.sg.n h H.zf H.zg H.df H.dg
   exact ⟨z,k,hg,hd,hk⟩
  ·rw [Nat.min_eq_left h]
   obtain ⟨z,k,hg,hd,hk,_⟩:=gcd_sub H.h1 H.h4 H.sg.n H.sf.n h H.zg H.zf H.dg H.df
   exact ⟨z,k,hg.swap,hd,hk⟩
 obtain ⟨z,k,hg,hd,hk⟩:=key
 exact (res_common H' (hg.mul H.sf.n H.sg.n nh zh) (qnV H.h1 H.h4 hg.nz nh hg.zz zh hd dh) (by omega)).2 (by omega)
def CmK (W:World) (x y z:PE) (f g h:List Tm) (dh:Int):Prop:=
 (∀ wk,Ext W wk->Calls Tryz.prog 14 #[.agg (peA z),.int .i64 2] wk fun e w'=>e = .returned (.int .i64 dh)/\Ext wk w') /\
 (dh<1∨(1<=dh/\(∀ wk,Ext W wk->Calls Tryz.prog 19 #[.agg (peA x),.agg (peA z)] wk (qa3 M0 wk 4 (pmul f h)))/\(∀ wk,Ext W wk->Calls Tryz.prog 19 #[.agg (peA y),.agg (peA z)] wk (qa3 M0 wk 4 (pmul g h))) /\
  ∀ wk u v,CRx M0 wk 4 u (pmul f h)->CRx M0 wk 4 v (pmul g h)->Calls Tryz.prog 32 #[.agg (peA u),.agg (peA v),.int .i64 2] wk fun e w'=>e = .returned (.bool true)/\Ext wk w'))
theorem cmK_of {f g h:List Tm} (hf:SmD 2 f) (hg:SmD 2 g) (hh:SmD 1 h) (zf : ¬ Sim f []) (zg : ¬ Sim g []) (x y z:PE) (W:World) (hx:CRx M0 W 4 x f) (hy:CRx M0 W 4 y g) (hz:CRx M0 W 4 z h) : ∃ dh,CmK W x y z f g h dh:=by
 by_cases zh:Sim h []
 ·exact ⟨-1,fun wk he=>qcu M0 z h 2 (-1) wk (by decide) (by decide) hh.nn (.inl ⟨zh,rfl⟩) (mb0 _) (hz.ext he).pi,.inl (by decide)⟩
 obtain ⟨t,ht⟩:=qfh (k:=2) hh.nn
 refine ⟨t,fun wk he=>qcu M0 z h 2 t wk (by decide) (by decide) hh.nn (.inr ⟨zh,t,ht,rfl⟩) (mb0 _) (hz.ext he).pi,?_⟩
 by_cases h1:t<1
 ·exact .inl (by omega)
 obtain ⟨m,hm⟩:=qfh (k:=2) hf.nn
 obtain ⟨n,hn⟩:=qfh (k:=2) hg.nn
 have hm2:m<=2:=qhv hm hf.deg
 have hn2:n<=2:=qhv hn hg.deg
 have ht2:t<=1:=qhv ht hh.deg
 have h2:=hh.up (C:=2) (by decide)
 have H:Gn 2 m n 4 f g:=Gn.of44 (by decide) (by decide) (hf.sz (by decide)) (hg.sz (by decide)) zf zg hm hn (by omega) (by omega)
 have H':Gn 2 (m+t) (n+t) 4 (pmul f h) (pmul g h):=Gn.of44 (by decide) (by decide) (hf.prod h2).up (hg.prod h2).up (qbv hf.nn hh.nn zf zh) (qbv hg.nn hh.nn zg zh) (qnV (by decide) (by decide) hf.nn hh.nn zf zh hm ht) (qnV (by decide) (by decide) hg.nn hh.nn zg zh hn ht) (by omega) (by omega)
 obtain ⟨b,hb,hs⟩:=H'.shared
 have hb1:b=true:=hb.2 (common_prod H hh.nn zh ht H' (by omega))
 subst hb1
 have hmul : ∀ l u,SmD 2 l->CRx M0 W 4 u l -> ∀ wk,Ext W wk->Calls Tryz.prog 19 #[.agg (peA u),.agg (peA z)] wk (qa3 M0 wk 4 (pmul l h)):=fun l u hl hu wk he=>qfB M0 u z l h 2 1 wk (mb0 _) (hu.ext he).pi (hz.ext he).pi (Nat.le_trans (Nat.add_le_add hl.dl hh.dl) (by decide)) hl.deg hh.deg (by decide)
 exact .inr ⟨by omega,hmul f x hf hx,hmul g y hg hy,fun wk u v hu hv=>hs u v wk hu hv⟩


set_option maxRecDepth 100000 in
set_option maxHeartbeats 64000000 in
theorem law_comm26 (a1 : Option Addr) (n1 p1 : Nat) (X1 : Nat -> TE) (a2 : Option Addr) (n2 p2 : Nat) (X2 : Nat -> TE) (a3 : Option Addr) (n3 p3 : Nat) (X3 : Nat -> TE) (w : World) (h1 : qqA w a1 n1 p1 X1) (h2 : qqA w a2 n2 p2 X2) (h3 : qqA w a3 n3 p3 X3) :
  Calls Tryz.prog 6 #[.slice a1 n1 p1,.slice a2 n2 p2,.slice a3 n3 p3] w fun e w'=>e = .returned (.bool true)/\Ext w w':=by
 have HR1:=Lib.hid h1
 have HR2:=Lib.hid h2
 have HR3:=Lib.hid h3
 clear h1 h2 h3
 go_enter Tryz.func6,Tryz.ntmps6
 go_wp2_with (fail)
 refine (qlK _).mono ?_
 rintro e w1 ⟨rfl,he1⟩
 have HE1:=Lib.hid (he1)
 have CF1:=Lib.hid (qhg a1 n1 p1 X1 4 2 w1 (HR1.out.1.ext HE1.out) HR1.out.2.1)
 rw [show ((4:Nat):Int)=4 from rfl,show ((2:Nat):Int)=2 from rfl] at CF1
 have CF2:=Lib.hid (qhg a2 n2 p2 X2 4 2 w1 (HR2.out.1.ext HE1.out) HR2.out.2.1)
 rw [show ((4:Nat):Int)=4 from rfl,show ((2:Nat):Int)=2 from rfl] at CF2
 have CF3:=Lib.hid (qhg a3 n3 p3 X3 3 1 w1 (HR3.out.1.ext HE1.out) HR3.out.2.1)
 rw [show ((3:Nat):Int)=3 from rfl,show ((1:Nat):Int)=1 from rfl] at CF3
 clear he1
 go_wp2_with (fail)
 refine CF1.out.mono ?_
 rintro e w2 ⟨b,rfl,hb1,rfl⟩
 cases b with
 | false=>
  clear hb1 CF1 CF2 CF3
  go_wp2
  go_ret
  exact ⟨rfl,HE1.out⟩
 | true=>
 have HF1:=Lib.hid (hb1.1 rfl)
 clear hb1 CF1
 go_wp2_with (fail)
 refine CF2.out.mono ?_
 rintro e w2 ⟨b,rfl,hb2,rfl⟩
 cases b with
 | false=>
  clear hb2 CF2 CF3
  go_wp2
  go_ret
  exact ⟨rfl,HE1.out⟩
 | true=>
 have HF2:=Lib.hid (hb2.1 rfl)
 clear hb2 CF2
 go_wp2_with (fail)
 refine CF3.out.mono ?_
 rintro e w2 ⟨b,rfl,hb3,rfl⟩
 cases b with
 | false=>
  clear hb3 CF3
  go_wp2
  go_ret
  exact ⟨rfl,HE1.out⟩
 | true=>
 have HF3:=Lib.hid (hb3.1 rfl)
 clear hb3 CF3
 obtain ⟨l1,hl1,HS1,hd1,hx1⟩:=HR1.out.smD (B:=2) HF1.out (by omega) (by omega)
 obtain ⟨l2,hl2,HS2,hd2,hx2⟩:=HR2.out.smD (B:=2) HF2.out (by omega) (by omega)
 obtain ⟨l3,hl3,HS3,hd3,hx3⟩:=HR3.out.smD (B:=1) HF3.out (by omega) (by omega)
 have hlD1:=hl1.ext HE1.out
 have hlD2:=hl2.ext HE1.out
 have hlD3:=hl3.ext HE1.out
 have HS1:=Lib.hid HS1
 have HS2:=Lib.hid HS2
 have HS3:=Lib.hid HS3
 have CO1:Hid (∀ W,Ext w1 W->Calls Tryz.prog 10 #[.slice a1 n1 p1] W (qa3 M0 W 4 (norm l1))):=fun W h=>qq3 M0 _ l1 W (mb0 _) (hlD1.ext h) hd1 hx1
 have CO2:Hid (∀ W,Ext w1 W->Calls Tryz.prog 10 #[.slice a2 n2 p2] W (qa3 M0 W 4 (norm l2))):=fun W h=>qq3 M0 _ l2 W (mb0 _) (hlD2.ext h) hd2 hx2
 have CO3:Hid (∀ W,Ext w1 W->Calls Tryz.prog 10 #[.slice a3 n3 p3] W (qa3 M0 W 4 (norm l3))):=fun W h=>qq3 M0 _ l3 W (mb0 _) (hlD3.ext h) hd3 hx3
 clear hl1 hd1 hx1 HF1 HR1 hlD1 hl2 hd2 hx2 HF2 HR2 hlD2 hl3 hd3 hx3 HF3 HR3 hlD3
 generalize norm l1=f at *
 generalize norm l2=g at *
 generalize norm l3=h at *
 have HV1:Hid (Ext w1 w1):=Ext.refl w1
 go_wp2_with (fail)
 refine (CO1.out w1 HV1.out).mono ?_
 rintro e w2 ⟨x,rfl,hx,D⟩
 have HX1:=Lib.hid hx
 have HV2:=Lib.hid (HV1.out.trans D)
 clear hx D CO1 HV1
 go_wp2_with (fail)
 refine (CO2.out w2 HV2.out).mono ?_
 rintro e w3 ⟨y,rfl,hx,D⟩
 replace HX1:=Lib.hid (HX1.out.ext D)
 have HX2:=Lib.hid hx
 have HV3:=Lib.hid (HV2.out.trans D)
 clear hx D CO2 HV2
 go_wp2_with (fail)
 refine (CO3.out w3 HV3.out).mono ?_
 rintro e w4 ⟨z,rfl,hx,D⟩
 replace HX1:=Lib.hid (HX1.out.ext D)
 replace HX2:=Lib.hid (HX2.out.ext D)
 have HX3:=Lib.hid hx
 have HV4:=Lib.hid (HV3.out.trans D)
 clear hx D CO3 HV3
 go_upto_region 7 with (fail)
 obtain ⟨W,hW⟩ : ∃ W,W=((w4.alloc (.cells #[.int .i64 x.lv,.bool x.b,.slice x.a x.n x.p,.slice x.ka x.kn x.kp] 33)).alloc (.cells #[.int .i64 y.lv,.bool y.b,.slice y.a y.n y.p,.slice y.ka y.kn y.kp] 33)).alloc (.cells #[.int .i64 z.lv,.bool z.b,.slice z.a z.n z.p,.slice z.ka z.kn z.kp] 33):=⟨_,rfl⟩
 have hEW:Ext w4 W:=by rw [hW];exact ((((Ext.refl w4).alloc _).alloc _).alloc _)
 obtain ⟨g0,hg0⟩ : ∃ g0,g0=w4.heap.size:=⟨_,rfl⟩
 have HSB:Hid (SB3 g0 x y z W):=by rw [hW,hg0];exact qnq w4 x y z
 replace HX1:=Lib.hid (HX1.out.ext hEW)
 replace HX2:=Lib.hid (HX2.out.ext hEW)
 replace HX3:=Lib.hid (HX3.out.ext hEW)
 have HE:=Lib.hid (HE1.out.trans (HV4.out.trans hEW))
 rw [<- hW,<- hg0]
 clear hW hg0 hEW HE1 HV4
 obtain ⟨⟨x0,x1,x2,x3⟩,⟨y0,y1,y2,y3⟩,z0,z1,z2,z3⟩:=HSB.out
 go_wp2_with (fail)
 refine (rc_bad x y 0 W (by omega)).mono ?_
 rintro e v1 ⟨rfl,e1⟩
 have HE1:=Lib.hid e1
 clear x0 x1 x2 x3 y0 y1 y2 y3 z0 z1 z2 z3 e1
 go_wp2_with (fail)
 refine (qgo 0 (by omega) v1).mono ?_
 rintro e v2 ⟨ib,ia,ik,ip,rfl,hI,e2⟩
 have HI:=Lib.hid hI
 have HE2:=Lib.hid (HE1.out.trans e2)
 clear hI e2 HE1
 go_wp2_with (fail)
 refine (qcB M0 ib ia ik ip 0 v2 (mb0 _) HI.out).mono ?_
 rintro e v3 ⟨u,rfl,hu,e3⟩
 have HU3:Hid (CRx M0 v3 4 u [(0,Mo.zero)]):=hu.up (by decide)
 have HE3:=Lib.hid (HE2.out.trans e3)
 clear hu e3 HI HE2
 go_upto_region 11 with (fail)
 obtain ⟨W8,hW8⟩ : ∃ W8,W8=v3.alloc (.cells #[.int .i64 u.lv,.bool u.b,.slice u.a u.n u.p,.slice u.ka u.kn u.kp] 33):=⟨_,rfl⟩
 have eb:Ext v3 W8:=by rw [hW8];exact (Ext.refl v3).alloc _
 have hP:P4 W8 v3.heap.size u:=by rw [hW8];exact (Blk.of_arr v3 (peA u) 33 4 rfl).p4
 obtain ⟨gz,hgz⟩ : ∃ gz,gz=v3.heap.size:=⟨_,rfl⟩
 rw [<- hgz] at hP
 rw [<- hW8,<- hgz]
 have HE8:=Lib.hid (HE3.out.trans eb)
 have HU8:=Lib.hid (HU3.out.ext eb)
 have HP8:=Lib.hid hP
 clear hW8 eb hP hgz HE3 HU3
 have hEd:Ext W8 W8.drew:=(Ext.refl W8).drew
 have HSd:Hid (SQ2 gz (g0+1) u y W8.drew):=⟨HP8.out.ext hEd,HSB.out.2.1.ext (HE8.out.trans hEd)⟩
 have HUd:=Lib.hid (HU8.out.ext hEd)
 have HYd:=Lib.hid (HX2.out.ext (HE8.out.trans hEd))
 have HKd:Hid (Ext W8 W8.drew):=hEd
 clear hEd HP8 HU8
 go_cut [57] (fun s wx=>s = .bool false/\Ext W8 wx)
 case first=>
  have hdn : ∃ dn:Int,DgV 2 g dn/\((Sim g []/\dn = -1)∨(¬ Sim g []/\0<=dn)):=by
   by_cases hz:Sim g []
   ·exact ⟨-1,.inl ⟨hz,rfl⟩,.inl ⟨hz,rfl⟩⟩
   ·obtain ⟨n,hn⟩:=qfh (k:=2) HS2.out.nn
    exact ⟨n,.inr ⟨hz,n,hn,rfl⟩,.inr ⟨hz,by omega⟩⟩
  obtain ⟨dn,hdn,hcs⟩:=hdn
  have HDN:=Lib.hid hdn
  clear hdn
  refine qae (SQ2 gz (g0+1) u y) 13 (by kernel_rfl) HSd.out (fun hHeld=>?_)
  have hEw:Ext W8 W8.drew:=HKd.out
  generalize W8.drew=wd at *
  (refine tkB [0,1,2,4] ?_;(iterate 4 (refine tk1 (oi:=?_) (v:=?_) (by kernel_rfl) (by first | exact hSn | exact hHeld) ?_ ?_ ?_ ?_ ?_;rotate_left 2;(simp only [xgA,xgB,xgC];rfl);rfl;(intro wS hSw;obtain ⟨⟨A1,A2,A3,A4⟩,A5,A6,A7,A8⟩:=hSw;go_simp;try with_reducible rfl);(exact fun _ _ _ h=>h);(try simp only [Act.put,xgD,xgE,xgF])));refine tkE ?_)
  ((refine qaa 3 (o:=?_) (by kernel_rfl) ?_ ?_;rotate_left 1;(simp only [xgA,xgB,xgC];rfl);intro K hK);go_simp;(refine (cm_zero (J:=2) (by decide) (by decide) HS2.out.nn HDN.out u y wd HUd.out HYd.out).mono ?_);rintro e_ t1 ⟨rfl,d1⟩;go_wp2_with (fail);(try clear hSn);(have hSn:=hHeld.ext d1);(refine hK.out _ _ (fun _=>hSn) ?_);clear hK K;(try simp only [Act.put,xgD,xgE,xgF]))
  rcases hcs with ⟨hz,rfl⟩ | ⟨hz,h0⟩
  ·have HZ:=Lib.hid hz
   clear hz
   ((refine qaa 5 (o:=?_) (by kernel_rfl) ?_ ?_;rotate_left 1;(simp only [xgA,xgB,xgC];rfl);intro K hK);go_simp;(refine (z_true y g t1 (HYd.out.ext d1) HZ.out).mono ?_);rintro e_ t2 ⟨rfl,d2⟩;go_wp2_with (fail);(try clear hSn);(have hSn:=hHeld.ext (d1.trans d2));(refine hK.out _ _ (fun _=>hSn) ?_);clear hK K;(try simp only [Act.put,xgD,xgE,xgF]))
   (refine tkB [6] ?_;(iterate 1 (refine tk1 (oi:=?_) (v:=?_) (by kernel_rfl) (by first | exact hSn | exact hHeld) ?_ ?_ ?_ ?_ ?_;rotate_left 2;(simp only [xgA,xgB,xgC];rfl);rfl;(intro wS hSw;obtain ⟨⟨A1,A2,A3,A4⟩,A5,A6,A7,A8⟩:=hSw;go_simp;try with_reducible rfl);(exact fun _ _ _ h=>h);(try simp only [Act.put,xgD,xgE,xgF])));refine tkE ?_)
   (refine tkB [7,8,9,10] ?_;(iterate 4 (refine ts1R (oi:=?_) (by kernel_rfl) (by first | exact hSn | exact hHeld) ?_ ?_ ?_ ?_;rotate_left 1;(simp only [xgA,xgB,xgC];rfl);rfl;(exact fun _ _ _ h=>h);(try simp only [Act.put,xgD,xgE,xgF])));refine tkE ?_)
   (refine tkB [11,12] ?_;(iterate 2 (refine tk1 (oi:=?_) (v:=?_) (by kernel_rfl) (by first | exact hSn | exact hHeld) ?_ ?_ ?_ ?_ ?_;rotate_left 2;(simp only [xgA,xgB,xgC];rfl);rfl;(intro wS hSw;obtain ⟨⟨A1,A2,A3,A4⟩,A5,A6,A7,A8⟩:=hSw;go_simp;try with_reducible rfl);(exact fun _ _ _ h=>h);(try simp only [Act.put,xgD,xgE,xgF])));refine tkE ?_)
   refine qac (by kernel_rfl) ?_ _
   have HF:Hid (Ext W8 t2):=hEw.trans (d1.trans d2)
   clear hHeld hSn d1 d2
   go_wp2
   go_meet
   exact ⟨rfl,HF.out⟩
  ·have HZ:=Lib.hid hz
   clear hz
   ((refine qaa 5 (o:=?_) (by kernel_rfl) ?_ ?_;rotate_left 1;(simp only [xgA,xgB,xgC];rfl);intro K hK);go_simp;(refine (z_false y g t1 (HYd.out.ext d1) HZ.out).mono ?_);rintro e_ t2 ⟨rfl,d2⟩;go_wp2_with (fail);(try clear hSn);(have hSn:=hHeld.ext (d1.trans d2));(refine hK.out _ _ (fun _=>hSn) ?_);clear hK K;(try simp only [Act.put,xgD,xgE,xgF]))
   (refine tkB [6,7,8] ?_;(iterate 3 (refine tk1 (oi:=?_) (v:=?_) (by kernel_rfl) (by first | exact hSn | exact hHeld) ?_ ?_ ?_ ?_ ?_;rotate_left 2;(simp only [xgA,xgB,xgC];rfl);rfl;(intro wS hSw;obtain ⟨⟨A1,A2,A3,A4⟩,A5,A6,A7,A8⟩:=hSw;go_simp;try with_reducible rfl);(exact fun _ _ _ h=>h);(try simp only [Act.put,xgD,xgE,xgF])));refine tkE ?_)
   ((refine qaa 9 (o:=?_) (by kernel_rfl) ?_ ?_;rotate_left 1;(simp only [xgA,xgB,xgC];rfl);intro K hK);go_simp;(refine (qcu M0 y g 2 dn t2 (by decide) (by decide) HS2.out.nn HDN.out (mb0 _) (HYd.out.ext (d1.trans d2)).pi).mono ?_);rintro e_ t3 ⟨rfl,d3⟩;go_wp2_with (fail);(try clear hSn);(have hSn:=hHeld.ext ((d1.trans d2).trans d3));(refine hK.out _ _ (fun _=>hSn) ?_);clear hK K;(try simp only [Act.put,xgD,xgE,xgF]))
   have HF:Hid (Ext W8 t3):=hEw.trans ((d1.trans d2).trans d3)
   clear d1 d2 d3 HDN
   by_cases h1:dn=0
   ·subst h1
    (refine tkB [10,11,12] ?_;(iterate 3 (refine tk1 (oi:=?_) (v:=?_) (by kernel_rfl) (by first | exact hSn | exact hHeld) ?_ ?_ ?_ ?_ ?_;rotate_left 2;(simp only [xgA,xgB,xgC];rfl);rfl;(intro wS hSw;obtain ⟨⟨A1,A2,A3,A4⟩,A5,A6,A7,A8⟩:=hSw;go_simp;try with_reducible rfl);(exact fun _ _ _ h=>h);(try simp only [Act.put,xgD,xgE,xgF])));refine tkE ?_)
    refine qac (by kernel_rfl) ?_ _
    clear hHeld hSn
    go_wp2
    go_meet
    exact ⟨rfl,HF.out⟩
   ·have hq:(dn != 0)=true:=by simp [h1]
    have hq2:0<dn:=by omega
    have hq3:decide (dn>0)=true:=by simp;omega
    (refine tkB [10,11,12] ?_;(iterate 3 (refine tk1 (oi:=?_) (v:=?_) (by kernel_rfl) (by first | exact hSn | exact hHeld) ?_ ?_ ?_ ?_ ?_;rotate_left 2;(simp only [xgA,xgB,xgC];rfl);rfl;(intro wS hSw;obtain ⟨⟨A1,A2,A3,A4⟩,A5,A6,A7,A8⟩:=hSw;go_simp;try with_reducible rfl);(exact fun _ _ _ h=>h);(try simp only [Act.put,xgD,xgE,xgF])));refine tkE ?_)
    refine qac (by kernel_rfl) ?_ _
    clear hHeld hSn
    go_wp2
    go_meet
    exact ⟨by simp [h1,hq2],HF.out⟩
 case rest=>
 obtain ⟨rfl,hE9⟩:=hcut
 have HE9:=Lib.hid (HE8.out.trans hE9)
 clear hE9 HSd HUd HYd HKd HE8
 obtain ⟨⟨x0,x1,x2,x3⟩,⟨y0,y1,y2,y3⟩,z0,z1,z2,z3⟩:=HSB.out.ext HE9.out
 go_wp2_with (fail)
 refine (qaQ M0 x f wc (mb0 _) (HX1.out.ext HE9.out).pi).mono ?_
 rintro e v4 ⟨b1,rfl,hb1,e4⟩
 have HE4:=Lib.hid (HE9.out.trans e4)
 have HB1:=Lib.hid hb1
 clear x0 x1 x2 x3 y0 y1 y2 y3 z0 z1 z2 z3 e4 hb1 HE9
 cases b1 with
 | true=>
  have HF:=Lib.hid (HE.out.trans HE4.out)
  clear HB1
  go_wp2
  go_ret
  exact ⟨rfl,HF.out⟩
 | false=>
 have HN1:Hid (¬ Sim f []):=fun hh=>by have:=HB1.out.2 hh;cases this
 clear HB1
 obtain ⟨⟨x0,x1,x2,x3⟩,⟨y0,y1,y2,y3⟩,z0,z1,z2,z3⟩:=HSB.out.ext HE4.out
 go_wp2_with (fail)
 refine (qaQ M0 y g v4 (mb0 _) (HX2.out.ext HE4.out).pi).mono ?_
 rintro e v5 ⟨b2,rfl,hb2,e5⟩
 have HE5:=Lib.hid (HE4.out.trans e5)
 have HB2:=Lib.hid hb2
 clear x0 x1 x2 x3 y0 y1 y2 y3 z0 z1 z2 z3 e5 hb2 HE4
 cases b2 with
 | true=>
  have HF:=Lib.hid (HE.out.trans HE5.out)
  clear HB2
  go_wp2
  go_ret
  exact ⟨rfl,HF.out⟩
 | false=>
 have HN2:Hid (¬ Sim g []):=fun hh=>by have:=HB2.out.2 hh;cases this
 clear HB2
 go_upto_region 15 with (fail)
 have hEd:Ext W v5.drew:=HE5.out.trans (Ext.refl v5).drew
 have HSd:Hid (SB3 g0 x y z v5.drew):=HSB.out.ext hEd
 have HXd:=Lib.hid (HX1.out.ext hEd)
 have HYd:=Lib.hid (HX2.out.ext hEd)
 have HKd:Hid (Ext W v5.drew):=hEd
 obtain ⟨m,n,hG⟩:=gn_of HS1.out HS2.out HN1.out HN2.out (J:=2) (by decide) (by decide)
 obtain ⟨b,hb,hsh⟩:=hG.shared
 have HG:=Lib.hid hG
 have HB:=Lib.hid hb
 have HSH:=Lib.hid hsh
 obtain ⟨dh,hck⟩:=cmK_of HS1.out HS2.out HS3.out HN1.out HN2.out x y z W HX1.out HX2.out HX3.out
 have HCK:=Lib.hid hck
 clear hEd hG hb hsh hck HE5
 go_cut [73] (fun s wx=>s = .bool false/\Ext W wx)
 case first=>
  refine qae (SB3 g0 x y z) 10 (by kernel_rfl) HSd.out (fun hHeld=>?_)
  have hEw:Ext W v5.drew:=HKd.out
  generalize v5.drew=wd at *
  (refine tkB [0,1,2,4,5,6] ?_;(iterate 6 (refine tk1 (oi:=?_) (v:=?_) (by kernel_rfl) (by first | exact hSn | exact hHeld) ?_ ?_ ?_ ?_ ?_;rotate_left 2;(simp only [xgA,xgB,xgC];rfl);rfl;(intro wS hSw;obtain ⟨⟨A1,A2,A3,A4⟩,⟨A5,A6,A7,A8⟩,A9,A10,A11,A12⟩:=hSw;go_simp;try with_reducible rfl);(exact fun _ _ _ h=>h);(try simp only [Act.put,xgD,xgE,xgF])));refine tkE ?_)
  ((refine qaa 3 (o:=?_) (by kernel_rfl) ?_ ?_;rotate_left 1;(simp only [xgA,xgB,xgC];rfl);intro K hK);go_simp;(refine (HSH.out x y wd HXd.out HYd.out).mono ?_);rintro e_ t1 ⟨rfl,d1⟩;go_wp2_with (fail);(try clear hSn);(have hSn:=hHeld.ext d1);(refine hK.out _ _ (fun _=>hSn) ?_);clear hK K;(try simp only [Act.put,xgD,xgE,xgF]))
  ((refine qaa 7 (o:=?_) (by kernel_rfl) ?_ ?_;rotate_left 1;(simp only [xgA,xgB,xgC];rfl);intro K hK);go_simp;(refine (HG.out.resL x y t1 (HXd.out.ext d1) (HYd.out.ext d1)).mono ?_);rintro e_ t2 ⟨r,rfl,hr,d2⟩;go_wp2_with (fail);(try clear hSn);(have hSn:=hHeld.ext (d1.trans d2));(refine hK.out _ _ (fun _=>hSn) ?_);clear hK K;(try simp only [Act.put,xgD,xgE,xgF]))
  have CZ:=Lib.hid (z_iff r _ b t2 hr HB.out)
  ((refine qaa 8 (o:=?_) (by kernel_rfl) ?_ ?_;rotate_left 1;(simp only [xgA,xgB,xgC];rfl);intro K hK);go_simp;(refine (CZ.out).mono ?_);rintro e_ t3 ⟨rfl,d3⟩;go_wp2_with (fail);(try clear hSn);(have hSn:=hHeld.ext ((d1.trans d2).trans d3));(refine hK.out _ _ (fun _=>hSn) ?_);clear hK K;(try simp only [Act.put,xgD,xgE,xgF]))
  have HF:Hid (Ext W t3):=hEw.trans ((d1.trans d2).trans d3)
  clear d1 d2 d3 hr CZ HB HSH HG HXd HYd HCK
  cases b with
  | true=>
   (refine tkB [9] ?_;(iterate 1 (refine tk1 (oi:=?_) (v:=?_) (by kernel_rfl) (by first | exact hSn | exact hHeld) ?_ ?_ ?_ ?_ ?_;rotate_left 2;(simp only [xgA,xgB,xgC];rfl);rfl;(intro wS hSw;obtain ⟨⟨A1,A2,A3,A4⟩,⟨A5,A6,A7,A8⟩,A9,A10,A11,A12⟩:=hSw;go_simp;try with_reducible rfl);(exact fun _ _ _ h=>h);(try simp only [Act.put,xgD,xgE,xgF])));refine tkE ?_)
   refine qac (by kernel_rfl) ?_ _
   clear hHeld hSn
   go_wp2
   go_meet
   exact ⟨rfl,HF.out⟩
  | false=>
   (refine tkB [9] ?_;(iterate 1 (refine tk1 (oi:=?_) (v:=?_) (by kernel_rfl) (by first | exact hSn | exact hHeld) ?_ ?_ ?_ ?_ ?_;rotate_left 2;(simp only [xgA,xgB,xgC];rfl);rfl;(intro wS hSw;obtain ⟨⟨A1,A2,A3,A4⟩,⟨A5,A6,A7,A8⟩,A9,A10,A11,A12⟩:=hSw;go_simp;try with_reducible rfl);(exact fun _ _ _ h=>h);(try simp only [Act.put,xgD,xgE,xgF])));refine tkE ?_)
   refine qac (by kernel_rfl) ?_ _
   clear hHeld hSn
   go_wp2
   go_meet
   exact ⟨rfl,HF.out⟩
 case rest=>
 obtain ⟨rfl,hE9⟩:=hcut
 have HE9:=Lib.hid hE9
 clear hE9 HSd HXd HYd HKd HG HB HSH HN1 HN2 HS1 HS2 HS3
 go_upto_region 17 with (fail)
 have hEd:Ext W wc.drew:=HE9.out.trans (Ext.refl wc).drew
 have HSd:Hid (SB3 g0 x y z wc.drew):=HSB.out.ext hEd
 have HKd:Hid (Ext W wc.drew):=hEd
 clear hEd HE9
 refine qae (SB3 g0 x y z) 15 (by kernel_rfl) HSd.out (fun hHeld=>?_)
 generalize wc.drew=wd at *
 (refine tkB [0,1] ?_;(iterate 2 (refine tk1 (oi:=?_) (v:=?_) (by kernel_rfl) (by first | exact hSn | exact hHeld) ?_ ?_ ?_ ?_ ?_;rotate_left 2;(simp only [xgA,xgB,xgC];rfl);rfl;(intro wS hSw;obtain ⟨⟨A1,A2,A3,A4⟩,⟨A5,A6,A7,A8⟩,A9,A10,A11,A12⟩:=hSw;go_simp;try with_reducible rfl);(exact fun _ _ _ h=>h);(try simp only [Act.put,xgD,xgE,xgF])));refine tkE ?_)
 ((refine qaa 2 (o:=?_) (by kernel_rfl) ?_ ?_;rotate_left 1;(simp only [xgA,xgB,xgC];rfl);intro K hK);go_simp;(refine (HCK.out.1 wd HKd.out).mono ?_);rintro e_ t1 ⟨rfl,d1⟩;go_wp2_with (fail);(try clear hSn);(have hSn:=hHeld.ext d1);(refine hK.out _ _ (fun _=>hSn) ?_);clear hK K;(try simp only [Act.put,xgD,xgE,xgF]))
 rcases HCK.out.2 with hlt | ⟨hge,hm1,hm2,hs⟩
 ·(refine tkB [3,4] ?_;(iterate 2 (refine tk1 (oi:=?_) (v:=?_) (by kernel_rfl) (by first | exact hSn | exact hHeld) ?_ ?_ ?_ ?_ ?_;rotate_left 2;(simp only [xgA,xgB,xgC];rfl);rfl;(intro wS hSw;obtain ⟨⟨A1,A2,A3,A4⟩,⟨A5,A6,A7,A8⟩,A9,A10,A11,A12⟩:=hSw;go_simp;try with_reducible rfl);(exact fun _ _ _ h=>h);(try simp only [Act.put,xgD,xgE,xgF])));refine tkE ?_)
  (refine tkB [5,6,7,8,9,10,11,12] ?_;(iterate 8 (refine ts1R (oi:=?_) (by kernel_rfl) (by first | exact hSn | exact hHeld) ?_ ?_ ?_ ?_;rotate_left 1;(simp only [xgA,xgB,xgC];rfl);rfl;(exact fun _ _ _ h=>h);(try simp only [Act.put,xgD,xgE,xgF])));refine tkE ?_)
  (refine tkB [13,14] ?_;(iterate 2 (refine tk1 (oi:=?_) (v:=?_) (by kernel_rfl) (by first | exact hSn | exact hHeld) ?_ ?_ ?_ ?_ ?_;rotate_left 2;(simp only [xgA,xgB,xgC];rfl);rfl;(intro wS hSw;obtain ⟨⟨A1,A2,A3,A4⟩,⟨A5,A6,A7,A8⟩,A9,A10,A11,A12⟩:=hSw;go_simp;try with_reducible rfl);(exact fun _ _ _ h=>h);(try simp only [Act.put,xgD,xgE,xgF])));refine tkE ?_)
  refine qac (by kernel_rfl) ?_ _
  have HF:=Lib.hid (HE.out.trans (HKd.out.trans d1))
  clear hHeld hSn d1 HCK
  go_wp2
  go_ret
  exact ⟨by simp [hlt],HF.out⟩
 ·have hnl : ¬ dh<1:=by omega
  have H1:=Lib.hid hm1
  have H2:=Lib.hid hm2
  have H3:=Lib.hid hs
  clear hm1 hm2 hs HCK
  (refine tkB [3,4,5,6,8,9,11] ?_;(iterate 7 (refine tk1 (oi:=?_) (v:=?_) (by kernel_rfl) (by first | exact hSn | exact hHeld) ?_ ?_ ?_ ?_ ?_;rotate_left 2;(simp only [xgA,xgB,xgC];rfl);rfl;(intro wS hSw;obtain ⟨⟨A1,A2,A3,A4⟩,⟨A5,A6,A7,A8⟩,A9,A10,A11,A12⟩:=hSw;go_simp;try with_reducible rfl);(exact fun _ _ _ h=>h);(try simp only [Act.put,xgD,xgE,xgF])));refine tkE ?_)
  ((refine qaa 7 (o:=?_) (by kernel_rfl) ?_ ?_;rotate_left 1;(simp only [xgA,xgB,xgC];rfl);intro K hK);go_simp;(refine (H1.out t1 (HKd.out.trans d1)).mono ?_);rintro e_ t2 ⟨u1,rfl,hu1,d2⟩;go_wp2_with (fail);(try clear hSn);(have hSn:=hHeld.ext (d1.trans d2));(refine hK.out _ _ (fun _=>hSn) ?_);clear hK K;(try simp only [Act.put,xgD,xgE,xgF]))
  ((refine qaa 10 (o:=?_) (by kernel_rfl) ?_ ?_;rotate_left 1;(simp only [xgA,xgB,xgC];rfl);intro K hK);go_simp;(refine (H2.out t2 (HKd.out.trans (d1.trans d2))).mono ?_);rintro e_ t3 ⟨u2,rfl,hu2,d3⟩;go_wp2_with (fail);(try clear hSn);(have hSn:=hHeld.ext ((d1.trans d2).trans d3));(refine hK.out _ _ (fun _=>hSn) ?_);clear hK K;(try simp only [Act.put,xgD,xgE,xgF]))
  ((refine qaa 12 (o:=?_) (by kernel_rfl) ?_ ?_;rotate_left 1;(simp only [xgA,xgB,xgC];rfl);intro K hK);go_simp;(refine (H3.out t3 u1 u2 (hu1.ext d3) hu2).mono ?_);rintro e_ t4 ⟨rfl,d4⟩;go_wp2_with (fail);(try clear hSn);(have hSn:=hHeld.ext (((d1.trans d2).trans d3).trans d4));(refine hK.out _ _ (fun _=>hSn) ?_);clear hK K;(try simp only [Act.put,xgD,xgE,xgF]))
  (refine tkB [13,14] ?_;(iterate 2 (refine tk1 (oi:=?_) (v:=?_) (by kernel_rfl) (by first | exact hSn | exact hHeld) ?_ ?_ ?_ ?_ ?_;rotate_left 2;(simp only [xgA,xgB,xgC];rfl);rfl;(intro wS hSw;obtain ⟨⟨A1,A2,A3,A4⟩,⟨A5,A6,A7,A8⟩,A9,A10,A11,A12⟩:=hSw;go_simp;try with_reducible rfl);(exact fun _ _ _ h=>h);(try simp only [Act.put,xgD,xgE,xgF])));refine tkE ?_)
  refine qac (by kernel_rfl) ?_ _
  have HF:=Lib.hid (HE.out.trans (HKd.out.trans (((d1.trans d2).trans d3).trans d4)))
  clear hHeld hSn d1 d2 d3 d4 hu1 hu2 H1 H2 H3
  go_wp2
  go_ret
  exact ⟨rfl,HF.out⟩
end Go.Proofs.YtlmipmebdelgbaaGreat

namespace Go.Proofs.YtlmipmebdelgbaaGreat
open Go.ChangeShapes Go.WideShapes Go.ChangeAt Go.RowKit Go.Deep

namespace resultantCommon
theorem own:ownKnob Tryz.prog.godebug=none:=by kernel_rfl
set_option maxRecDepth 100000 in
theorem contract (H : Type) (enc : TypeId × Value -> H) (W : World) (base : Nat) (args : Array Value) (ds gs : List (DataW H)) (before : List MemPlace)
  (hval : ∀ (j:Nat) t v,Tryz.f6.params[j]? = some t->args[j]? = some v->Value.okWide Tryz.prog W .any base t v)
  (hW:DataW.Whole enc Tryz.prog Tryz.f6.params.toList Rows.resultantCommonSpec.vars false W args.toList ds gs before) :
  Calls Tryz.prog 6 args W fun e W'=>∃ v,e = .returned v/\Rows.resultantCommonSpec.post enc Tryz.prog Tryz.f6 false true false false W args v W':=by
 have hW':=hW
 obtain ⟨p,q,hA0,hV,rfl,hfz,hnd⟩:=hW
 have hA:DataW.TrodAll enc Tryz.prog W 0 (fun _=>true) true Tryz.f6.params.toList args.toList ds p:=hA0
 rw [Tryz.params6] at hA hval
 obtain ⟨v0,vs0,d0,ds0,p0,q0,hargs,rfl,rfl,h0,r0⟩:=trodAll_cons hA
 obtain ⟨v1,vs1,d1,ds1,p1,q1,rfl,rfl,rfl,h1,r1⟩:=trodAll_cons r0
 obtain ⟨v2,vs2,d2,ds2,p2,q2,rfl,rfl,rfl,h2,r2⟩:=trodAll_cons r1
 obtain ⟨rfl,rfl,rfl⟩:=trodAll_nil r2
 obtain rfl:args = #[v0,v1,v2]:=by cases args;simp_all
 obtain ⟨rfl,rfl⟩:=trodVars_none hV
 obtain ⟨a0,n0,c0,X0,rfl,g0⟩:=qg7 (hval 0 23 v0 rfl rfl) h0
 obtain ⟨a1,n1,c1,X1,rfl,g1⟩:=qg7 (hval 1 23 v1 rfl rfl) h1
 obtain ⟨a2,n2,c2,X2,rfl,g2⟩:=qg7 (hval 2 23 v2 rfl rfl) h2
 refine (law_comm26 a0 n0 c0 X0 a1 n1 c1 X1 a2 n2 c2 X2 W g0 g1 g2).mono fun e W' ⟨he,hg⟩=>?_
 subst he
 refine ⟨_,rfl,qli (tb:=4) (by kernel_rfl) ?_ rfl rfl (by kernel_rfl) Tryz.underlying4 hW' hg⟩
 rw [Tryz.params6]
 intro t ht
 simp only [List.mem_cons,List.not_mem_nil,or_false,or_self,or_self_left] at ht
 subst ht
 exact ⟨by kernel_rfl,of_decide_eq_true (by kernel_rfl)⟩
set_option maxRecDepth 100000 in
theorem lifted (os : Os) (started : os.Started) (H : Type) (enc : TypeId × Value -> H) :
  ReturnsInHanded {} Tryz.checked os 6 .any (Rows.resultantCommonSpec.pre6 enc Tryz.prog Tryz.f6 Rows.resultantCommonRow.domain false) (Rows.resultantCommonSpec.post enc Tryz.prog Tryz.f6 false true false false):=by
 refine returnsInHanded_of_change (C:=Tryz.checked) own started (by kernel_rfl) Tryz.func6
  (ChangeSpec.witness6 (enc:=enc) (C:=Tryz.checked) false ⟨#[],#[.slice none 0 0,.slice none 0 0,.slice none 0 0],[]⟩ 8 (by kernel_rfl) (by kernel_rfl) (by kernel_rfl) (by kernel_rfl)) ?_
 intro W base args ds gs before hval hW _ _
 exact contract H enc W base args ds gs before hval hW
theorem kInp:(Rows.resultantCommonRow.inPlace == Tryz.pinned.checked.prog.inPlace 6)=true:=by kernel_rfl
theorem kUnf:(Rows.resultantCommonRow.unfollowed == Tryz.pinned.checked.prog.unfollowed 6)=true:=by kernel_rfl
theorem kRec:(Rows.resultantCommonRow.recurses == Tryz.pinned.checked.prog.recurses 6)=true:=by kernel_rfl
theorem kNam:(Rows.resultantCommonRow.named == Tryz.pinned.checked.prog.varsNamed 6)=true:=by kernel_rfl
theorem kLaid:laidOutB Tryz.pinned.checked.prog=true:=by kernel_rfl
theorem closed:joinedFacts Tryz.pinned.checked.prog 6 Tryz.f6 Rows.resultantCommonSpec Rows.resultantCommonRow=true:=by
 unfold joinedFacts
 rw [kInp,kUnf,kRec,kNam,kLaid]
 kernel_rfl
theorem proved:Rows.ResultantCommonSaid:=
 OpenClaim.holds_of_wide (p:=Tryz.pinned) (s:=Rows.resultantCommonSpec) (c:=Rows.resultantCommonRow) 6 Tryz.f6 rfl rfl rfl rfl rfl rfl rfl ⟨rfl,rfl,rfl,rfl,rfl⟩ rfl rfl rfl rfl rfl (by kernel_rfl) Tryz.func6 closed
  (of_decide_eq_true (by kernel_rfl)) (by unfold Func.isWrapper;first | (rw [if_pos (by decide +kernel)];kernel_rfl) | (rw [if_neg (by decide +kernel)];exact ⟨rfl,rfl⟩))
  (fun os started H enc _=>lifted os started H enc)
end resultantCommon
end Go.Proofs.YtlmipmebdelgbaaGreat
