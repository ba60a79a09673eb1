/- ResultantDegree: what its calls answer. ResultantDegree: the walk. The law ResultantDegree returns true at every input, without a panic, and leaves its arguments as they were; no conditions. -/
import Derived.Test.YtlmipmebdelgbaaGreatVe
import Derived.Test.YtlmipmebdelgbaaGreatCa
import Derived.Test.YtlmipmebdelgbaaGreatNe
import Derived.Test.YtlmipmebdelgbaaGreatBh
import Derived.Test.YtlmipmebdelgbaaGreatBj
import Derived.Test.YtlmipmebdelgbaaGreatDk
import Derived.Test.YtlmipmebdelgbaaGreatMq
set_option linter.unusedVariables false
set_option maxRecDepth 100000
set_option maxHeartbeats 400000000
set_option linter.unusedSimpArgs false

namespace Go.Proofs.YtlmipmebdelgbaaGreat
open Go.RowKit

theorem qqi {M:Nat->Prop} {w:World} {x:PE} {l:List Tm} (hx:CRx M w 4 x l) (hB:Deg 10 l) (hL:dlen (nrm l)<=100000) (M':Nat->Prop) (W':World) (h1:Mb M' W') (h2 : ∀ g,M' g->M g∨w.heap.size<=g) (h3:Ext w W'):Calls Tryz.prog 64 #[.agg (peA x)] W' (qaW M' W' 4 (snorm l)):=by
 obtain ⟨t,hR,hT,hS,hN⟩:=hx.tbN (B:=10) (Nat.le_refl _) (Nat.le_trans hL (by decide)) hB (by decide);rw [<- hS.snorm];refine qoA M' (4+1) t x W' h1 (RR.ext (RR.more h2 hR) h3) hT ?_;exact Nat.le_trans (Nat.succ_le_succ (Nat.le_trans (qai hN) hL)) (by decide)
theorem qqo {r:List Tm} (nr:NN r) (zr : ¬ Sim r []):(qd2 (norm r)).natAbs<=nrm r:=by
 have zs:1<=nrm (snorm r):=by
  have hs:=qcz nr;refine Nat.pos_of_ne_zero fun h0=>zr (hs.symm.trans ?_)
  have hz:nrm (smul (qd2 (norm r)) (snorm r))=0:=by rw [qdp,h0,Nat.mul_zero]
  intro m;have h1:=qiz (smul (qd2 (norm r)) (snorm r)) m;show qab _ m=0;omega
 have h2:=qdp (qd2 (norm r)) (snorm r);rw [qgn] at h2;have h3:=qcs r;have h4:=Nat.mul_le_mul_left (qd2 (norm r)).natAbs zs;omega
theorem qlj {B A C G : Nat} (hN : qnQ B A C G) (M : Nat -> Prop) (l r u : List Tm) (x y : PE) (w : World) (hM : Mb M w) (hx : CRx M w 4 x r) (hy : PI M w y l) (nr : NN r) (zr : ¬ Sim r []) (nu : NN u) (hu : Sim (pmul u r) l) (hB : Deg B u) (hA : G + dlen (nrm u) <= A) (hC : Deg C r) (hC10 : C <= 10) (hG : dlen (nrm r) <= G) (hG2 : G <= 100000) :
  Calls Tryz.prog 34 #[.agg (peA x),.agg (peA y)] w fun e w'=>e = .returned (.bool true)/\Ext w w':=by
 have hs:=qcz nr;have ns:=qjG r
 have zs : ¬ Sim (snorm r) []:=fun h=>zr (hs.symm.trans (by
  intro m;rw [qal,h m]
  exact Int.mul_zero _))
 have hu2:Sim (pmul (smul (qd2 (norm r)) u) (snorm r)) l:=by
  refine Sim.trans ?_ hu;refine (qdC _ _ _).trans ?_;exact (qfx _ _ _).symm.trans (hs.pmul_right u)
 have nu2:NN (smul (qd2 (norm r)) u):=qqj nu;have dB:Deg B (smul (qd2 (norm r)) u):=fun m hm k=>hB m (fun e=>hm (by rw [qal,e];exact Int.mul_zero _)) k
 have dA:dlen (nrm (smul (qd2 (norm r)) u))<=A:=by
  rw [qdp];exact Nat.le_trans (qbt _ _) (Nat.le_trans (Nat.add_le_add_right (Nat.le_trans (qai (qqo nr zr)) hG) _) hA)
 have sC:Deg C (snorm r):=fun m hm k=>hC m (fun e=>by
  have h2:=hs m;rw [qal,e] at h2;rcases Int.mul_eq_zero.1 h2 with h3 | h3
  ·exact qiO (qaw r) h3
  ·exact hm h3) k
 have sG:dlen (nrm (snorm r))<=G:=Nat.le_trans (qai (qhR r)) hG;refine (qiW M l r (snorm r) x y A w hM hx.pi hy (fun M' W' h1 h2 h3=>qqi hx (hC.mono hC10) (Nat.le_trans hG hG2) M' W' h1 h2 h3) (fun _=>zs) fun M' a b W' h1 h2 h4 h5=>qkm B A C G hN 4 (Nat.le_refl 4) M' l (snorm r) _ a b W' h1 h2 h4 h5 nu2 hu2 dB dA sC sG).mono ?_;rintro e w' ⟨b,rfl,_,hb,he⟩;rw [(hb zr).2 ⟨_,nu2,hu2⟩];exact ⟨rfl,he⟩
theorem qkC {B:Nat} {l:List Tm} (h:Deg B l):Deg B (qbD l):=fun m hm k=>h m (fun e=>hm (by rw [qaI,e];rfl)) k
theorem qse {J m n:Nat} (h1:1<=J) (h4:J<=4) {f g:List Tm} (hf:SmD 2 f) (hg:SmD 2 g) (hm:m=1∨m=2) (hn:n=1∨n=2):Sz 10 100 (SJ J 0 m n f g):=by
 have key : ∀ {m n:Nat} {f g:List Tm},SmD 2 f->SmD 2 g->n<=m->(m=1∨m=2)->(n=1∨n=2)->Sz 10 100 (SJ J 0 m n f g):=fun {m n f g} hf hg hnm hm hn=>by
  have h:=qqe h1 h4 (B:=2) (A:=5) ⟨hf.nn,hf.deg,hf.dl⟩ ⟨hg.nn,hg.deg,hg.dl⟩ (j:=0) (m:=m) (n:=n) (by omega) hnm (by omega);exact h.mono (by omega) (by omega)
 rcases Nat.le_total n m with h | h
 ·exact key hf hg h hm hn
 ·have h2:=key hg hf h hn hm;have hx:=qdH h1 h4 hg.nn hf.nn 0 n m;refine ⟨qaX h1 h4 hf.nn hg.nn _ _ _,?_,?_⟩
  ·rcases Nat.mod_two_eq_zero_or_one ((n - 0)*(m - 0)) with h3 | h3
   ·exact h2.d.sim (hx.1 h3).symm
   ·exact (qkC h2.d).sim (hx.2 h3).symm
  ·refine Nat.le_trans (qoY (A:=5) hf.dl hg.dl (by omega)) (by omega)
theorem qsS {J n:Nat} (h1:1<=J) (h4:J<=4) {f:List Tm} (hf:SmD 2 f) (hn:n=1∨n=2) (df:DgR J f n):Sz 8 200 (dsL J n f):=by
 have hd:=qnn h1 h4 hf.nn (by omega) (by omega) df;have nS:=qaX h1 h4 hf.nn (qdh h1 h4 hf.nn n) 0 n (n - 1);have nl:NN (ck J (n:Int) f):=qa1 h1 h4 hf.nn;have zl : ¬ Sim (ck J (n:Int) f) []:=df.ckn h1 h4 (by omega)
 have hu:Sim (pmul (dsL J n f) (ck J (n:Int) f)) (sgS n (SJ J 0 n (n - 1) f (poly J n (dvC J f)))):=qc5 (qam hd.1 nl) (qpz nS) fun x=>by
  rw [qaf x hd.1 nl,qpJ x n nS];exact hd.2 x
 have hdl:=qnp (J:=J) (n:=n) (f:=f) (by omega) hf.dl;have hdd:=qjm h1 h4 hf.deg n
 have dS:Deg 8 (SJ J 0 n (n - 1) f (poly J n (dvC J f))):=by
  rcases hn with rfl | rfl
  ·exact ((qeg hdd (qdh h1 h4 hf.nn 1) 1).mono (show 1*2<=8 by omega)).sim (qgY h1 h4 hf.nn (qdh h1 h4 hf.nn 1) (qjl h1 h4 hf.nn (by omega) df) 1).symm
  ·have h:=qqe h1 h4 (B:=2) (A:=6) ⟨hf.nn,hf.deg,Nat.le_trans hf.dl (by decide)⟩ ⟨qdh h1 h4 hf.nn 2,hdd,hdl⟩ (j:=0) (m:=2) (n:=1) (by omega) (by omega) (by omega);exact h.d.mono (by omega)
 refine ⟨hd.1,qew hd.1 nl zl hu ?_,Nat.le_trans (qpN (A:=6) (by decide) (Nat.le_trans hf.dl (by decide)) hdl (by omega) (by omega)) (by omega)⟩;unfold sgS
 split
 ·exact qkC dS
 ·exact dS
theorem qtX:qnQ 100 1000 10 100:=⟨by decide,by decide,by decide,by decide⟩
structure DgK (W:World) (x y:PE) (L:Int) (a b d r s:List Tm) (bz:Bool):Prop where
 c1 : ∀ wk,Ext W wk -> ∃ fg,Calls Tryz.prog 19 #[.agg (peA x),.agg (peA y)] wk (qaW M0 wk 4 fg) /\ ∀ wl u,CRx M0 wl 4 u fg->Calls Tryz.prog 11 #[.agg (peA u),.int .i64 L] wl (qiF M0 wl 4 d 0)
 c2 : ∀ wk,Ext W wk -> ∃ ff,Calls Tryz.prog 19 #[.agg (peA x),.agg (peA x)] wk (qaW M0 wk 4 ff) /\ ∀ wl u,CRx M0 wl 4 u ff->Calls Tryz.prog 11 #[.agg (peA u),.int .i64 L] wl (qiF M0 wl 4 s 0)
 c3 : ∀ wk,Ext W wk->Calls Tryz.prog 11 #[.agg (peA x),.int .i64 L] wk (qiF M0 wk 4 a 0)
 c4 : ∀ wk,Ext W wk->Calls Tryz.prog 11 #[.agg (peA y),.int .i64 L] wk (qiF M0 wk 4 b 0)
 c5 : ∀ wk,Ext W wk->Calls Tryz.prog 16 #[.agg (peA x),.agg (peA y),.int .i64 L] wk (qaW M0 wk 4 r)
 sz:Sim s []
 m1 : ∀ wk u v,CRx M0 wk 4 u a->CRx M0 wk 4 v b->Calls Tryz.prog 19 #[.agg (peA u),.agg (peA v)] wk (qaW M0 wk 4 (pmul a b))
 m2 : ∀ wk u v,CRx M0 wk 4 u r->CRx M0 wk 4 v r->Calls Tryz.prog 19 #[.agg (peA u),.agg (peA v)] wk (qaW M0 wk 4 (pmul r r))
 m3 : ∀ wk u v,CRx M0 wk 4 u (pmul a b)->CRx M0 wk 4 v (pmul r r)->Calls Tryz.prog 19 #[.agg (peA u),.agg (peA v)] wk (qaW M0 wk 4 (pmul (pmul a b) (pmul r r)))
 eq:Sim d (pmul (pmul a b) (pmul r r))
 iz:bz=true↔Sim r []
 dv:bz=false -> ∀ wk u v,CRx M0 wk 4 u r->CRx M0 wk 4 v d->Calls Tryz.prog 34 #[.agg (peA u),.agg (peA v)] wk fun e w'=>e = .returned (.bool true)/\Ext wk w'
theorem qsU {J m n:Nat} (h1:1<=J) (h4:J<=4) {f g:List Tm} (hf:SmD 2 f) (hg:SmD 2 g) (df:DgR J f m) (dg:DgR J g n) (hm:m=1∨m=2) (hn:n=1∨n=2) (x y:PE) (W:World) (hx:CRx M0 W 4 x f) (hy:CRx M0 W 4 y g) : ∃ a b d r s bz,DgK W x y (J:Int) a b d r s bz:=by
 have zf : ¬ Sim f []:=df.nz h1 h4 (by omega);have zg : ¬ Sim g []:=dg.nz h1 h4 (by omega);have D2:=qdu h1 h4 hf.nn hg.nn zf zg df dg;have D3:=qdu h1 h4 hf.nn hf.nn zf zf df df;have H:Gn J m n 4 f g:=Gn.of44 h1 h4 (hf.sz (by decide)) (hg.sz (by decide)) zf zg df dg (by omega) (by omega);have sa:=qsS h1 h4 hf hm df;have sb:=qsS h1 h4 hg hn dg;have sr:=qse h1 h4 hf hg hm hn;have he:=qiq h1 h4 hf.nn hg.nn df dg hm hn;have hmul : ∀ l l' u v,SmD 2 l->SmD 2 l'->CRx M0 W 4 u l->CRx M0 W 4 v l' -> ∀ wk,Ext W wk->Calls Tryz.prog 19 #[.agg (peA u),.agg (peA v)] wk (qaW M0 wk 4 (pmul l l')):=fun l l' u v hl hl' hu hv wk he=>qgq M0 u v l l' 2 2 wk (mb0 _) (hu.ext he).pi (hv.ext he).pi (Nat.le_trans (Nat.add_le_add hl.dl hl'.dl) (by decide)) hl.deg hl'.deg (by decide)
 obtain ⟨bz,hbz⟩ : ∃ bz:Bool,bz=true↔Sim (SJ J 0 m n f g) []:=by
  by_cases hz:Sim (SJ J 0 m n f g) []
  ·exact ⟨true,by simp [hz]⟩
  ·exact ⟨false,by simp [hz]⟩
 refine ⟨_,_,_,_,_,bz,fun wk he=>⟨_,hmul f g x y hf hg hx hy wk he,fun wl u hu=>qmh h1 h4 (by omega) (by omega) (hf.prod hg) D2 M0 u wl (mb0 _) hu⟩,fun wk he=>⟨_,hmul f f x x hf hf hx hx wk he,fun wl u hu=>qmh h1 h4 (by omega) (by omega) (hf.prod hf) D3 M0 u wl (mb0 _) hu⟩,fun wk he=>qmh h1 h4 (by omega) (by omega) (hf.sz20 (by decide)) df M0 x wk (mb0 _) (hx.ext he),fun wk he=>qmh h1 h4 (by omega) (by omega) (hg.sz20 (by decide)) dg M0 y wk (mb0 _) (hy.ext he),fun wk he=>H.resL x y wk (hx.ext he) (hy.ext he),qrn h1 h4 hf.nn df hm,fun wk u v hu hv=>qh8 sa sb (by decide) (by decide) (by decide) (by decide) M0 wk u v (mb0 _) hu hv,fun wk u v hu hv=>qh8 sr sr (by decide) (by decide) (by decide) (by decide) M0 wk u v (mb0 _) hu hv,fun wk u v hu hv=>qh8 (qhN sa sb) (qhN sr sr) (by decide) (by decide) (by decide) (by decide) M0 wk u v (mb0 _) hu hv,he,hbz,fun hb wk u v hu hv=>?_⟩;have su:=qhN (qhN sa sb) sr
 have zr : ¬ Sim (SJ J 0 m n f g) []:=fun hz=>by rw [hbz.2 hz] at hb;cases hb
 exact qlj qtX M0 _ _ (pmul (pmul (dsL J m f) (dsL J n g)) (SJ J 0 m n f g)) u v wk (mb0 _) hu hv.pi sr.n zr su.n ((Sim.pmul_assoc _ _ _).trans he.symm) (su.d.mono (by decide)) (Nat.le_trans (Nat.add_le_add_left su.a 100) (by decide)) sr.d (by decide) sr.a (by decide)


def S5 (g1 g2 g3 g4 g5:Nat) (x1 x2 x3 x4 x5:PE) (w:World):Prop:=P4 w g1 x1/\P4 w g2 x2/\P4 w g3 x3/\P4 w g4 x4/\P4 w g5 x5
theorem S5.ext {g1 g2 g3 g4 g5:Nat} {x1 x2 x3 x4 x5:PE} {w w':World} (h:S5 g1 g2 g3 g4 g5 x1 x2 x3 x4 x5 w) (he:Ext w w'):S5 g1 g2 g3 g4 g5 x1 x2 x3 x4 x5 w':=⟨h.1.ext he,h.2.1.ext he,h.2.2.1.ext he,h.2.2.2.1.ext he,h.2.2.2.2.ext he⟩
theorem qnt {J:Nat} {f:List Tm} (h:SmD 2 f) : ∃ z:Int,DgV J f z/\z<=2:=by
 by_cases hz:Sim f []
 ·exact ⟨-1,.inl ⟨hz,rfl⟩,by omega⟩
 ·obtain ⟨a,ha⟩:=qfO (k:=J) h.nn;have:=qlq ha h.deg;exact ⟨a,.inr ⟨hz,a,ha,rfl⟩,by omega⟩
theorem qmS (a1 : Option Addr) (n1 p1 : Nat) (X1 : Nat -> TE) (a2 : Option Addr) (n2 p2 : Nat) (X2 : Nat -> TE) (L : Int) (w : World) (h1 : qrI w a1 n1 p1 X1) (h2 : qrI w a2 n2 p2 X2) :
  Calls Tryz.prog 7 #[.slice a1 n1 p1,.slice a2 n2 p2,.int .i64 L] w fun e w'=>e = .returned (.bool true)/\Ext w w':=by
 have HR1:=Lib.hid h1;have HR2:=Lib.hid h2;clear h1 h2
 go_enter Tryz.func7,Tryz.ntmps7
 go_wp2_with (fail);refine (qmR _).mono ?_;rintro e w1 ⟨rfl,he1⟩;have HE1:=Lib.hid (he1);have CF1:=Lib.hid (qid a1 n1 p1 X1 3 2 w1 (HR1.out.1.ext HE1.out) HR1.out.2.1);rw [show ((3:Nat):Int)=3 from rfl,show ((2:Nat):Int)=2 from rfl] at CF1;have CF2:=Lib.hid (qid a2 n2 p2 X2 3 2 w1 (HR2.out.1.ext HE1.out) HR2.out.2.1);rw [show ((3:Nat):Int)=3 from rfl,show ((2:Nat):Int)=2 from rfl] at CF2;clear he1;go_wp2_with (fail);refine CF1.out.mono ?_;rintro e w2 ⟨b,rfl,hb1,rfl⟩
 cases b with
 | false=>
  clear hb1 CF1 CF2;go_wp2;go_ret;exact ⟨rfl,HE1.out⟩
 | true=>
 have HF1:=Lib.hid (hb1.1 rfl);clear hb1 CF1;go_wp2_with (fail);refine CF2.out.mono ?_;rintro e w2 ⟨b,rfl,hb2,rfl⟩
 cases b with
 | false=>
  clear hb2 CF2;go_wp2;go_ret;exact ⟨rfl,HE1.out⟩
 | true=>
 have HF2:=Lib.hid (hb2.1 rfl);clear hb2 CF2;refine Classical.byCases (p:=1<=L/\L<=4) (fun hl=>?_) (fun hl=>?_)
 rotate_left
 ·have CI:=Lib.hid (qfG L false (by simp only [Bool.false_eq_true,false_iff];exact hl) w1);clear hl;go_wp2_with (fail);refine CI.out.mono ?_;rintro e w2 ⟨rfl,rfl⟩;go_wp2;go_ret;exact ⟨rfl,HE1.out⟩
 obtain ⟨J,rfl⟩ : ∃ J:Nat,L=(J:Int):=⟨L.toNat,by omega⟩;have HJ:Hid (1<=J/\J<=4):=⟨by omega,by omega⟩;have CI:=Lib.hid (qfG (J:Int) true (by simp only [true_iff];omega) w1);clear hl;go_wp2_with (fail);refine CI.out.mono ?_;rintro e w2 ⟨rfl,hw⟩;obtain rfl:=hw.symm;clear CI;obtain ⟨l1,hl1,HS1,hd1,hx1⟩:=HR1.out.smD (B:=2) HF1.out (by omega) (by omega);obtain ⟨l2,hl2,HS2,hd2,hx2⟩:=HR2.out.smD (B:=2) HF2.out (by omega) (by omega);have hlD1:=hl1.ext HE1.out;have hlD2:=hl2.ext HE1.out;have HS1:=Lib.hid HS1;have HS2:=Lib.hid HS2;have CO1:Hid (∀ W,Ext w1 W->Calls Tryz.prog 10 #[.slice a1 n1 p1] W (qaW M0 W 4 (norm l1))):=fun W h=>qqu M0 _ l1 W (mb0 _) (hlD1.ext h) hd1 hx1;have CO2:Hid (∀ W,Ext w1 W->Calls Tryz.prog 10 #[.slice a2 n2 p2] W (qaW M0 W 4 (norm l2))):=fun W h=>qqu M0 _ l2 W (mb0 _) (hlD2.ext h) hd2 hx2;clear hl1 hd1 hx1 HF1 HR1 hlD1 hl2 hd2 hx2 HF2 HR2 hlD2;generalize norm l1=f at *;generalize norm l2=g at *;have HV1:Hid (Ext w1 w1):=Ext.refl w1;go_wp2_with (fail);refine (CO1.out w1 HV1.out).mono ?_;rintro e w2 ⟨x,rfl,hx,D⟩;have HX1:=Lib.hid hx;have HV2:=Lib.hid (HV1.out.trans D);clear hx D CO1 HV1;go_wp2_with (fail);refine (CO2.out w2 HV2.out).mono ?_;rintro e w3 ⟨y,rfl,hx,D⟩;replace HX1:=Lib.hid (HX1.out.ext D);have HX2:=Lib.hid hx;have HV3:=Lib.hid (HV2.out.trans D);clear hx D CO2 HV2
 go_upto_region 6 with (fail)
 obtain ⟨W,hW⟩ : ∃ W,W=(w3.alloc (.cells #[.int .i64 x.lv,.bool x.b,.slice x.a x.n x.p,.slice x.ka x.kn x.kp] 33)).alloc (.cells #[.int .i64 y.lv,.bool y.b,.slice y.a y.n y.p,.slice y.ka y.kn y.kp] 33):=⟨_,rfl⟩
 have hEW:Ext w3 W:=by rw [hW];exact (((Ext.refl w3).alloc _).alloc _)
 obtain ⟨g0,hg0⟩ : ∃ g0,g0=w3.heap.size:=⟨_,rfl⟩
 have HSB:Hid (SBr g0 x y W):=by rw [hW,hg0];exact qcW w3 x y
 replace HX1:=Lib.hid (HX1.out.ext hEW);replace HX2:=Lib.hid (HX2.out.ext hEW);have HE:=Lib.hid (HE1.out.trans (HV3.out.trans hEW));rw [<- hW,<- hg0];clear hW hg0 hEW HE1 HV3;have hJ1:=HJ.out.1;have hJ4:=HJ.out.2;obtain ⟨dm,hdm,hm2⟩:=qnt (J:=J) HS1.out;obtain ⟨dn,hdn,hn2⟩:=qnt (J:=J) HS2.out;have CD1:Hid (∀ wk,Ext W wk->Calls Tryz.prog 14 #[.agg (peA x),.int .i64 (J:Int)] wk fun e w'=>e = .returned (.int .i64 dm)/\Ext wk w'):=fun wk he=>qdr M0 x f J dm wk hJ1 hJ4 HS1.out.nn hdm (mb0 _) (HX1.out.ext he).pi;have CD2:Hid (∀ wk,Ext W wk->Calls Tryz.prog 14 #[.agg (peA y),.int .i64 (J:Int)] wk fun e w'=>e = .returned (.int .i64 dn)/\Ext wk w'):=fun wk he=>qdr M0 y g J dn wk hJ1 hJ4 HS2.out.nn hdn (mb0 _) (HX2.out.ext he).pi;have HDM:=Lib.hid hdm;have HDN:=Lib.hid hdn;have HM2:=Lib.hid hm2;have HN2:=Lib.hid hn2;clear hdm hdn hm2 hn2 hJ1 hJ4;obtain ⟨⟨x0,x1,x2,x3⟩,y0,y1,y2,y3⟩:=HSB.out;go_wp2_with (fail);refine (CD1.out W (Ext.refl _)).mono ?_;rintro e v1 ⟨rfl,e1⟩;have HE1:=Lib.hid e1;clear x0 x1 x2 x3 y0 y1 y2 y3 e1 CD1
 by_cases hm1:dm<1
 ·have HF:=Lib.hid (HE.out.trans HE1.out);go_wp2;go_ret;exact ⟨rfl,HF.out⟩
 have hm1b:decide (dm<1)=false:=by simp;omega
 obtain ⟨⟨x0,x1,x2,x3⟩,y0,y1,y2,y3⟩:=HSB.out.ext HE1.out;go_wp2_with (fail);refine (CD2.out v1 HE1.out).mono ?_;rintro e v2 ⟨rfl,e2⟩;have HE2:=Lib.hid (HE1.out.trans e2);clear x0 x1 x2 x3 y0 y1 y2 y3 e2 CD2 HE1 hm1b
 by_cases hn1:dn<1
 ·have HF:=Lib.hid (HE.out.trans HE2.out);go_wp2;go_ret;exact ⟨rfl,HF.out⟩
 have hk : ∃ m n,DgR J f m/\DgR J g n/\(m=1∨m=2)/\(n=1∨n=2):=by
  rcases HDM.out with ⟨_,h⟩ | ⟨_,m,hm,h⟩
  ·omega
  ·rcases HDN.out with ⟨_,h'⟩ | ⟨_,n,hn,h'⟩
   ·omega
   ·have:=HM2.out;have:=HN2.out;exact ⟨m,n,hm,hn,by omega,by omega⟩
 obtain ⟨m,n,hm,hn,hm3,hn3⟩:=hk;obtain ⟨da,db,dd,dr,ds,bz,hK⟩:=qsU HJ.out.1 HJ.out.2 HS1.out HS2.out hm hn hm3 hn3 x y W HX1.out HX2.out;have HK:=Lib.hid hK;clear hm hn hm3 hn3 hK HS1 HS2 HX1 HX2 HDM HDN HM2 HN2 HJ;obtain ⟨⟨x0,x1,x2,x3⟩,y0,y1,y2,y3⟩:=HSB.out.ext HE2.out;go_wp2_with (fail);obtain ⟨fl,CM,CX⟩:=HK.out.c1 v2 HE2.out;refine CM.mono ?_;rintro e v3 ⟨q,rfl,hq,e1⟩;have CX2:=Lib.hid (CX v3 q hq);have HEq:=Lib.hid e1;clear CM CX hq e1;go_wp2_with (fail);refine CX2.out.mono ?_;rintro e v4 ⟨d,rfl,hq,e1⟩;have HEr:=Lib.hid (HEq.out.trans e1);have HXq:=Lib.hid hq;clear hq e1 CX2 HEq x0 x1 x2 x3 y0 y1 y2 y3
 go_upto_region 9 with (fail)
 obtain ⟨v5,hW⟩ : ∃ v5,v5=v4.alloc (.cells #[.int .i64 d.lv,.bool d.b,.slice d.a d.n d.p,.slice d.ka d.kn d.kp] 33):=⟨_,rfl⟩
 have eb:Ext v4 v5:=by rw [hW];exact (Ext.refl _).alloc _
 obtain ⟨gd,hg⟩ : ∃ gd,gd=v4.heap.size:=⟨_,rfl⟩
 have HPd:Hid (P4 v5 gd d):=by rw [hW,hg];exact (Blk.of_arr v4 (peA d) 33 4 rfl).p4
 have HXd:=Lib.hid (HXq.out.ext eb);have ed:=HEr.out.trans eb;have HE15:=Lib.hid (HE2.out.trans ed);rw [<- hW,<- hg];clear hW hg HXq HEr eb ed HE2;obtain ⟨⟨x0,x1,x2,x3⟩,y0,y1,y2,y3⟩:=HSB.out.ext HE15.out;go_wp2_with (fail);obtain ⟨fl,CM,CX⟩:=HK.out.c2 v5 HE15.out;refine CM.mono ?_;rintro e v6 ⟨q,rfl,hq,e1⟩;have CX2:=Lib.hid (CX v6 q hq);have HEq:=Lib.hid e1;clear CM CX hq e1;go_wp2_with (fail);refine CX2.out.mono ?_;rintro e v7 ⟨s,rfl,hq,e1⟩;have HEr:=Lib.hid (HEq.out.trans e1);have HXq:=Lib.hid hq;clear hq e1 CX2 HEq x0 x1 x2 x3 y0 y1 y2 y3
 go_upto_region 10 with (fail)
 obtain ⟨v8,hW⟩ : ∃ v8,v8=v7.alloc (.cells #[.int .i64 s.lv,.bool s.b,.slice s.a s.n s.p,.slice s.ka s.kn s.kp] 33):=⟨_,rfl⟩
 have eb:Ext v7 v8:=by rw [hW];exact (Ext.refl _).alloc _
 obtain ⟨gs,hg⟩ : ∃ gs,gs=v7.heap.size:=⟨_,rfl⟩
 have HPs:Hid (P4 v8 gs s):=by rw [hW,hg];exact (Blk.of_arr v7 (peA s) 33 4 rfl).p4
 have HXs:=Lib.hid (HXq.out.ext eb);have ed:=HEr.out.trans eb;replace HPd:=Lib.hid (HPd.out.ext ed);replace HXd:=Lib.hid (HXd.out.ext ed);have HE18:=Lib.hid (HE15.out.trans ed);rw [<- hW,<- hg];clear hW hg HXq HEr eb ed HE15;obtain ⟨⟨x0,x1,x2,x3⟩,y0,y1,y2,y3⟩:=HSB.out.ext HE18.out;go_wp2_with (fail);refine (HK.out.c3 v8 HE18.out).mono ?_;rintro e v9 ⟨a,rfl,hq,e1⟩;have HEr:=Lib.hid e1;have HXq:=Lib.hid hq;clear hq e1 x0 x1 x2 x3 y0 y1 y2 y3
 go_upto_region 11 with (fail)
 obtain ⟨v10,hW⟩ : ∃ v10,v10=v9.alloc (.cells #[.int .i64 a.lv,.bool a.b,.slice a.a a.n a.p,.slice a.ka a.kn a.kp] 33):=⟨_,rfl⟩
 have eb:Ext v9 v10:=by rw [hW];exact (Ext.refl _).alloc _
 obtain ⟨ga,hg⟩ : ∃ ga,ga=v9.heap.size:=⟨_,rfl⟩
 have HPa:Hid (P4 v10 ga a):=by rw [hW,hg];exact (Blk.of_arr v9 (peA a) 33 4 rfl).p4
 have HXa:=Lib.hid (HXq.out.ext eb);have ed:=HEr.out.trans eb;replace HPd:=Lib.hid (HPd.out.ext ed);replace HXd:=Lib.hid (HXd.out.ext ed);replace HPs:=Lib.hid (HPs.out.ext ed);replace HXs:=Lib.hid (HXs.out.ext ed);have HE20:=Lib.hid (HE18.out.trans ed);rw [<- hW,<- hg];clear hW hg HXq HEr eb ed HE18;obtain ⟨⟨x0,x1,x2,x3⟩,y0,y1,y2,y3⟩:=HSB.out.ext HE20.out;go_wp2_with (fail);refine (HK.out.c4 v10 HE20.out).mono ?_;rintro e v11 ⟨b,rfl,hq,e1⟩;have HEr:=Lib.hid e1;have HXq:=Lib.hid hq;clear hq e1 x0 x1 x2 x3 y0 y1 y2 y3
 go_upto_region 12 with (fail)
 obtain ⟨v12,hW⟩ : ∃ v12,v12=v11.alloc (.cells #[.int .i64 b.lv,.bool b.b,.slice b.a b.n b.p,.slice b.ka b.kn b.kp] 33):=⟨_,rfl⟩
 have eb:Ext v11 v12:=by rw [hW];exact (Ext.refl _).alloc _
 obtain ⟨gb,hg⟩ : ∃ gb,gb=v11.heap.size:=⟨_,rfl⟩
 have HPb:Hid (P4 v12 gb b):=by rw [hW,hg];exact (Blk.of_arr v11 (peA b) 33 4 rfl).p4
 have HXb:=Lib.hid (HXq.out.ext eb);have ed:=HEr.out.trans eb;replace HPd:=Lib.hid (HPd.out.ext ed);replace HXd:=Lib.hid (HXd.out.ext ed);replace HPs:=Lib.hid (HPs.out.ext ed);replace HXs:=Lib.hid (HXs.out.ext ed);replace HPa:=Lib.hid (HPa.out.ext ed);replace HXa:=Lib.hid (HXa.out.ext ed);have HE22:=Lib.hid (HE20.out.trans ed);rw [<- hW,<- hg];clear hW hg HXq HEr eb ed HE20;obtain ⟨⟨x0,x1,x2,x3⟩,y0,y1,y2,y3⟩:=HSB.out.ext HE22.out;go_wp2_with (fail);refine (HK.out.c5 v12 HE22.out).mono ?_;rintro e v13 ⟨r,rfl,hq,e1⟩;have HEr:=Lib.hid e1;have HXq:=Lib.hid hq;clear hq e1 x0 x1 x2 x3 y0 y1 y2 y3
 go_upto_region 13 with (fail)
 obtain ⟨v14,hW⟩ : ∃ v14,v14=v13.alloc (.cells #[.int .i64 r.lv,.bool r.b,.slice r.a r.n r.p,.slice r.ka r.kn r.kp] 33):=⟨_,rfl⟩
 have eb:Ext v13 v14:=by rw [hW];exact (Ext.refl _).alloc _
 obtain ⟨gr,hg⟩ : ∃ gr,gr=v13.heap.size:=⟨_,rfl⟩
 have HPr:Hid (P4 v14 gr r):=by rw [hW,hg];exact (Blk.of_arr v13 (peA r) 33 4 rfl).p4
 have HXr:=Lib.hid (HXq.out.ext eb);have ed:=HEr.out.trans eb;replace HPd:=Lib.hid (HPd.out.ext ed);replace HXd:=Lib.hid (HXd.out.ext ed);replace HPs:=Lib.hid (HPs.out.ext ed);replace HXs:=Lib.hid (HXs.out.ext ed);replace HPa:=Lib.hid (HPa.out.ext ed);replace HXa:=Lib.hid (HXa.out.ext ed);replace HPb:=Lib.hid (HPb.out.ext ed);replace HXb:=Lib.hid (HXb.out.ext ed);have HE24:=Lib.hid (HE22.out.trans ed);rw [<- hW,<- hg];clear hW hg HXq HEr eb ed HE22;have hEd:Ext v14 v14.drew:=(Ext.refl _).drew;have HSd:Hid (S5 gs gd ga gb gr s d a b r v14.drew):=⟨HPs.out.ext hEd,HPd.out.ext hEd,HPa.out.ext hEd,HPb.out.ext hEd,HPr.out.ext hEd⟩;replace HXd:=Lib.hid (HXd.out.ext hEd);replace HXs:=Lib.hid (HXs.out.ext hEd);replace HXa:=Lib.hid (HXa.out.ext hEd);replace HXb:=Lib.hid (HXb.out.ext hEd);replace HXr:=Lib.hid (HXr.out.ext hEd);have HED:=Lib.hid (HE.out.trans (HE24.out.trans hEd));clear hEd HE24 HPs HPd HPa HPb HPr HSB HE;refine qad (S5 gs gd ga gb gr s d a b r) 23 (by kernel_rfl) HSd.out (fun hHeld=>?_);generalize v14.drew=wd at *;(refine tkB [0] ?_;(iterate 1 (refine tk1 (oi:=?_) (v:=?_) (by kernel_rfl) (by first | exact hSn | exact hHeld) ?_ ?_ ?_ ?_ ?_;rotate_left 2;(simp only [xgA,xgB,xgC];rfl);rfl;(intro wS hSw;obtain ⟨⟨A1,A2,A3,A4⟩,⟨B1,B2,B3,B4⟩,⟨C1,C2,C3,C4⟩,⟨D1,D2,D3,D4⟩,F1,F2,F3,F4⟩:=hSw;go_simp;try with_reducible rfl);(exact fun _ _ _ h=>h);(try simp only [Act.put,xgD,xgE,xgF])));refine tkE ?_);((refine qaa 1 (o:=?_) (by kernel_rfl) ?_ ?_;rotate_left 1;(simp only [xgA,xgB,xgC];rfl);intro K hK);go_simp;(refine (qpk s ds wd HXs.out HK.out.sz).mono ?_);rintro e_ t1 ⟨rfl,d1⟩;go_wp2_with (fail);(try clear hSn);(have hSn:=hHeld.ext d1);(refine hK.out _ _ (fun _=>hSn) ?_);clear hK K;(try simp only [Act.put,xgD,xgE,xgF]))
 (refine tkB [2,3,4,5,7,8] ?_;(iterate 6 (refine tk1 (oi:=?_) (v:=?_) (by kernel_rfl) (by first | exact hSn | exact hHeld) ?_ ?_ ?_ ?_ ?_;rotate_left 2;(simp only [xgA,xgB,xgC];rfl);rfl;(intro wS hSw;obtain ⟨⟨A1,A2,A3,A4⟩,⟨B1,B2,B3,B4⟩,⟨C1,C2,C3,C4⟩,⟨D1,D2,D3,D4⟩,F1,F2,F3,F4⟩:=hSw;go_simp;try with_reducible rfl);(exact fun _ _ _ h=>h);(try simp only [Act.put,xgD,xgE,xgF])));refine tkE ?_);((refine qaa 6 (o:=?_) (by kernel_rfl) ?_ ?_;rotate_left 1;(simp only [xgA,xgB,xgC];rfl);intro K hK);go_simp;(refine (HK.out.m1 t1 a b (HXa.out.ext d1) (HXb.out.ext d1)).mono ?_);rintro e_ t2 ⟨u1,rfl,hu1,d2⟩;go_wp2_with (fail);(try clear hSn);(have hSn:=hHeld.ext (d1.trans d2));(refine hK.out _ _ (fun _=>hSn) ?_);clear hK K;(try simp only [Act.put,xgD,xgE,xgF]));have k2:=d1.trans d2;((refine qaa 9 (o:=?_) (by kernel_rfl) ?_ ?_;rotate_left 1;(simp only [xgA,xgB,xgC];rfl);intro K hK);go_simp;(refine (HK.out.m2 t2 r r (HXr.out.ext k2) (HXr.out.ext k2)).mono ?_);rintro e_ t3 ⟨u2,rfl,hu2,d3⟩;go_wp2_with (fail);(try clear hSn);(have hSn:=hHeld.ext (k2.trans d3));(refine hK.out _ _ (fun _=>hSn) ?_);clear hK K;(try simp only [Act.put,xgD,xgE,xgF]));((refine qaa 10 (o:=?_) (by kernel_rfl) ?_ ?_;rotate_left 1;(simp only [xgA,xgB,xgC];rfl);intro K hK);go_simp;(refine (HK.out.m3 t3 u1 u2 (hu1.ext d3) hu2).mono ?_);rintro e_ t4 ⟨u3,rfl,hu3,d4⟩;go_wp2_with (fail);(try clear hSn);(have hSn:=hHeld.ext ((k2.trans d3).trans d4));(refine hK.out _ _ (fun _=>hSn) ?_);clear hK K;(try simp only [Act.put,xgD,xgE,xgF]))
 have k4:=(k2.trans d3).trans d4;((refine qaa 11 (o:=?_) (by kernel_rfl) ?_ ?_;rotate_left 1;(simp only [xgA,xgB,xgC];rfl);intro K hK);go_simp;(refine (qpo d u3 _ _ t4 true (HXd.out.ext k4).pi hu3.pi (by simp only [true_iff];exact HK.out.eq)).mono ?_);rintro e_ t5 ⟨rfl,d5⟩;go_wp2_with (fail);(try clear hSn);(have hSn:=hHeld.ext (k4.trans d5));(refine hK.out _ _ (fun _=>hSn) ?_);clear hK K;(try simp only [Act.put,xgD,xgE,xgF]));(refine tkB [12,13,14] ?_;(iterate 3 (refine tk1 (oi:=?_) (v:=?_) (by kernel_rfl) (by first | exact hSn | exact hHeld) ?_ ?_ ?_ ?_ ?_;rotate_left 2;(simp only [xgA,xgB,xgC];rfl);rfl;(intro wS hSw;obtain ⟨⟨A1,A2,A3,A4⟩,⟨B1,B2,B3,B4⟩,⟨C1,C2,C3,C4⟩,⟨D1,D2,D3,D4⟩,F1,F2,F3,F4⟩:=hSw;go_simp;try with_reducible rfl);(exact fun _ _ _ h=>h);(try simp only [Act.put,xgD,xgE,xgF])));refine tkE ?_);have k5:=k4.trans d5;have HIZ:=Lib.hid HK.out.iz;have HDV:=Lib.hid HK.out.dv;((refine qaa 15 (o:=?_) (by kernel_rfl) ?_ ?_;rotate_left 1;(simp only [xgA,xgB,xgC];rfl);intro K hK);go_simp;(refine (qtj r dr bz t5 (HXr.out.ext k5) HIZ.out).mono ?_);rintro e_ t6 ⟨rfl,d6⟩;go_wp2_with (fail);(try clear hSn);(have hSn:=hHeld.ext (k5.trans d6));(refine hK.out _ _ (fun _=>hSn) ?_);clear hK K;(try simp only [Act.put,xgD,xgE,xgF]));have k6:=k5.trans d6
 cases bz with
 | true=>
  (refine tkB [16] ?_;(iterate 1 (refine tk1 (oi:=?_) (v:=?_) (by kernel_rfl) (by first | exact hSn | exact hHeld) ?_ ?_ ?_ ?_ ?_;rotate_left 2;(simp only [xgA,xgB,xgC];rfl);rfl;(intro wS hSw;obtain ⟨⟨A1,A2,A3,A4⟩,⟨B1,B2,B3,B4⟩,⟨C1,C2,C3,C4⟩,⟨D1,D2,D3,D4⟩,F1,F2,F3,F4⟩:=hSw;go_simp;try with_reducible rfl);(exact fun _ _ _ h=>h);(try simp only [Act.put,xgD,xgE,xgF])));refine tkE ?_);(refine tkB [17,18,19] ?_;(iterate 3 (refine qtU (oi:=?_) (by kernel_rfl) (by first | exact hSn | exact hHeld) ?_ ?_ ?_ ?_;rotate_left 1;(simp only [xgA,xgB,xgC];rfl);rfl;(exact fun _ _ _ h=>h);(try simp only [Act.put,xgD,xgE,xgF])));refine tkE ?_);(refine tkB [20,21,22] ?_;(iterate 3 (refine tk1 (oi:=?_) (v:=?_) (by kernel_rfl) (by first | exact hSn | exact hHeld) ?_ ?_ ?_ ?_ ?_;rotate_left 2;(simp only [xgA,xgB,xgC];rfl);rfl;(intro wS hSw;obtain ⟨⟨A1,A2,A3,A4⟩,⟨B1,B2,B3,B4⟩,⟨C1,C2,C3,C4⟩,⟨D1,D2,D3,D4⟩,F1,F2,F3,F4⟩:=hSw;go_simp;try with_reducible rfl);(exact fun _ _ _ h=>h);(try simp only [Act.put,xgD,xgE,xgF])));refine tkE ?_);refine qac (by kernel_rfl) ?_ _;have HF:=Lib.hid (HED.out.trans k6);clear hHeld hSn d1 d2 d3 d4 d5 d6 k2 k4 k5 k6 hu1 hu2 hu3 HIZ HDV HK HXd HXs HXa HXb HXr;go_wp2;go_ret;exact ⟨rfl,HF.out⟩
 | false=>
  (refine tkB [16,17,18] ?_;(iterate 3 (refine tk1 (oi:=?_) (v:=?_) (by kernel_rfl) (by first | exact hSn | exact hHeld) ?_ ?_ ?_ ?_ ?_;rotate_left 2;(simp only [xgA,xgB,xgC];rfl);rfl;(intro wS hSw;obtain ⟨⟨A1,A2,A3,A4⟩,⟨B1,B2,B3,B4⟩,⟨C1,C2,C3,C4⟩,⟨D1,D2,D3,D4⟩,F1,F2,F3,F4⟩:=hSw;go_simp;try with_reducible rfl);(exact fun _ _ _ h=>h);(try simp only [Act.put,xgD,xgE,xgF])));refine tkE ?_);((refine qaa 19 (o:=?_) (by kernel_rfl) ?_ ?_;rotate_left 1;(simp only [xgA,xgB,xgC];rfl);intro K hK);go_simp;(refine (HDV.out rfl t6 r d (HXr.out.ext k6) (HXd.out.ext k6)).mono ?_);rintro e_ t7 ⟨rfl,d7⟩;go_wp2_with (fail);(try clear hSn);(have hSn:=hHeld.ext (k6.trans d7));(refine hK.out _ _ (fun _=>hSn) ?_);clear hK K;(try simp only [Act.put,xgD,xgE,xgF]));(refine tkB [20,21,22] ?_;(iterate 3 (refine tk1 (oi:=?_) (v:=?_) (by kernel_rfl) (by first | exact hSn | exact hHeld) ?_ ?_ ?_ ?_ ?_;rotate_left 2;(simp only [xgA,xgB,xgC];rfl);rfl;(intro wS hSw;obtain ⟨⟨A1,A2,A3,A4⟩,⟨B1,B2,B3,B4⟩,⟨C1,C2,C3,C4⟩,⟨D1,D2,D3,D4⟩,F1,F2,F3,F4⟩:=hSw;go_simp;try with_reducible rfl);(exact fun _ _ _ h=>h);(try simp only [Act.put,xgD,xgE,xgF])));refine tkE ?_);refine qac (by kernel_rfl) ?_ _;have HF:=Lib.hid (HED.out.trans (k6.trans d7));clear hHeld hSn d1 d2 d3 d4 d5 d6 d7 k2 k4 k5 k6 hu1 hu2 hu3 HIZ HDV HK HXd HXs HXa HXb HXr;go_wp2;go_ret;exact ⟨rfl,HF.out⟩
end Go.Proofs.YtlmipmebdelgbaaGreat

namespace Go.Proofs.YtlmipmebdelgbaaGreat
open Go.ChangeShapes Go.WideShapes Go.ChangeAt Go.RowKit Go.Deep

namespace resultantDegree
theorem own:ownKnob Tryz.prog.godebug=none:=by kernel_rfl
theorem contract (H : Type) (enc : TypeId × Value -> H) (W : World) (base : Nat) (args : Array Value) (ds gs : List (DataW H)) (before : List MemPlace)
  (hval : ∀ (j:Nat) t v,Tryz.f7.params[j]? = some t->args[j]? = some v->Value.okWide Tryz.prog W .any base t v)
  (hW:DataW.Whole enc Tryz.prog Tryz.f7.params.toList Rows.resultantDegreeSpec.vars false W args.toList ds gs before) :
  Calls Tryz.prog 7 args W fun e W'=>∃ v,e = .returned v/\Rows.resultantDegreeSpec.post enc Tryz.prog Tryz.f7 false true false false W args v W':=by
 have hW':=hW;obtain ⟨p,q,hA0,hV,rfl,hfz,hnd⟩:=hW;have hA:DataW.TrodAll enc Tryz.prog W 0 (fun _=>true) true Tryz.f7.params.toList args.toList ds p:=hA0;rw [Tryz.params7] at hA hval;obtain ⟨v0,vs0,d0,ds0,p0,q0,hargs,rfl,rfl,h0,r0⟩:=trodAll_cons hA;obtain ⟨v1,vs1,d1,ds1,p1,q1,rfl,rfl,rfl,h1,r1⟩:=trodAll_cons r0;obtain ⟨v2,vs2,d2,ds2,p2,q2,rfl,rfl,rfl,h2,r2⟩:=trodAll_cons r1;obtain ⟨rfl,rfl,rfl⟩:=trodAll_nil r2
 obtain rfl:args = #[v0,v1,v2]:=by cases args;simp_all
 obtain ⟨rfl,rfl⟩:=trodVars_none hV;obtain ⟨a0,n0,c0,X0,rfl,g0⟩:=qh1 (hval 0 23 v0 rfl rfl) h0;obtain ⟨a1,n1,c1,X1,rfl,g1⟩:=qh1 (hval 1 23 v1 rfl rfl) h1;obtain ⟨z2,rfl,g2⟩:=qor (hval 2 3 v2 rfl rfl) h2;refine (qmS a0 n0 c0 X0 a1 n1 c1 X1 z2 W g0 g1 ).mono fun e W' ⟨he,hg⟩=>?_;subst he;refine ⟨_,rfl,qmp (tb:=4) (by kernel_rfl) ?_ rfl rfl (by kernel_rfl) Tryz.underlying4 hW' hg⟩;rw [Tryz.params7];intro t ht;simp only [List.mem_cons,List.not_mem_nil,or_false,or_self,or_self_left] at ht;rcases ht with rfl | rfl
 ·exact ⟨by kernel_rfl,of_decide_eq_true (by kernel_rfl)⟩
 ·exact ⟨by kernel_rfl,of_decide_eq_true (by kernel_rfl)⟩
theorem lifted (os : Os) (started : os.Started) (H : Type) (enc : TypeId × Value -> H) :
  ReturnsInHanded {} Tryz.checked os 7 .any (Rows.resultantDegreeSpec.pre6 enc Tryz.prog Tryz.f7 Rows.resultantDegreeRow.domain false) (Rows.resultantDegreeSpec.post enc Tryz.prog Tryz.f7 false true false false):=by
 refine returnsInHanded_of_change (C:=Tryz.checked) own started (by kernel_rfl) Tryz.func7
  (ChangeSpec.witness6 (enc:=enc) (C:=Tryz.checked) false ⟨#[],#[.slice none 0 0,.slice none 0 0,.int .i64 0],[]⟩ 8 (by kernel_rfl) (by kernel_rfl) (by kernel_rfl) (by kernel_rfl)) ?_
 intro W base args ds gs before hval hW _ _;exact contract H enc W base args ds gs before hval hW
theorem kInp:(Rows.resultantDegreeRow.inPlace == Tryz.pinned.checked.prog.inPlace 7)=true:=by kernel_rfl
theorem kUnf:(Rows.resultantDegreeRow.unfollowed == Tryz.pinned.checked.prog.unfollowed 7)=true:=by kernel_rfl
theorem kRec:(Rows.resultantDegreeRow.recurses == Tryz.pinned.checked.prog.recurses 7)=true:=by kernel_rfl
theorem kNam:(Rows.resultantDegreeRow.named == Tryz.pinned.checked.prog.varsNamed 7)=true:=by kernel_rfl
theorem kLaid:laidOutB Tryz.pinned.checked.prog=true:=by kernel_rfl
theorem closed:joinedFacts Tryz.pinned.checked.prog 7 Tryz.f7 Rows.resultantDegreeSpec Rows.resultantDegreeRow=true:=by
 unfold joinedFacts;rw [kInp,kUnf,kRec,kNam,kLaid]
 kernel_rfl
theorem proved:Rows.ResultantDegreeSaid:=
 OpenClaim.holds_of_wide (p:=Tryz.pinned) (s:=Rows.resultantDegreeSpec) (c:=Rows.resultantDegreeRow) 7 Tryz.f7 rfl rfl rfl rfl rfl rfl rfl ⟨rfl,rfl,rfl,rfl,rfl⟩ rfl rfl rfl rfl rfl (by kernel_rfl) Tryz.func7 closed
  (of_decide_eq_true (by kernel_rfl)) (by unfold Func.isWrapper;first | (rw [if_pos (by decide +kernel)];kernel_rfl) | (rw [if_neg (by decide +kernel)];exact ⟨rfl,rfl⟩))
  (fun os started H enc _=>lifted os started H enc)
end resultantDegree
end Go.Proofs.YtlmipmebdelgbaaGreat
