/- The resultant and the discriminant of polynomials in one variable: what the calls answer. The discriminant of a product of linear polynomials: the calls; resultant.UniDiscriminant. resultant.UniDiscriminant; cylinderlaw26.few. ResultantRoots: the walk. The law ResultantRoots returns true at every input, without a panic, and leaves its arguments as they were; no conditions. -/
import Derived.Test.YtmcfpnmoklnhoaaGreatXc
import Derived.Test.YtmcfpnmoklnhoaaGreatVe
import Derived.Test.YtmcfpnmoklnhoaaGreatVc
import Derived.Test.YtmcfpnmoklnhoaaGreatWa
import Derived.Test.YtmcfpnmoklnhoaaGreatMq
import Derived.Test.YtmcfpnmoklnhoaaGreatMr
set_option linter.unusedVariables false
set_option maxRecDepth 100000
set_option maxHeartbeats 400000000
set_option linter.unusedSimpArgs false

namespace Go.Proofs.YtmcfpnmoklnhoaaGreat
open Go.RowKit

theorem qtH : ∀ m,m<=5 -> ∀ n,n<=m->okN m n 6=true:=by decide
theorem qo6 {L n A:Nat} {z:Nat->Int} (h1:1<=L) (h4:L<=4) (hn:n<=7) (hA : ∀ i,i<n->dlen (z i).natAbs<=A):Sz 6 (A+2) (upl L n z):=
 ⟨qc2 _ _ _,qln h1 h4 (by omega),qd7 (by omega) fun i hi=>by
  have:nrm [(z i,Mo.zero)]=(z i).natAbs:=by simp [nrm]
  rw [this]
  exact hA i hi⟩
structure LfU (c:Int) (r:Nat->Int) (k nf:Nat) (zf:Nat->Int):Prop where
 c0:c≠0
 k5:k<=5
 n:nf<=k+1
 z : ∀ i,zx0 nf zf i=lf c r k i
 d : ∀ i,i<nf->dlen (zf i).natAbs<=11
section
variable {c:Int} {r:Nat->Int} {k nf:Nat} {zf:Nat->Int} (H:LfU c r k nf zf)
include H
theorem LfU.tzk:tz zf nf=k+1:=by
 have h1:=qdj zf nf;have h2:=H.n
 have ht:zx0 nf zf k≠0:=by rw [H.z,qjE];exact H.c0
 have hk:k<tz zf nf:=Classical.byContradiction fun hc=>ht (by rw [<- qhi];exact if_neg hc);omega
theorem LfU.hi (i:Nat) (hi:k<i):zx0 nf zf i=0:=by rw [H.z];exact qcq c r k i hi
theorem LfU.eq:zx0 nf zf=lf c r k:=funext H.z
theorem LfU.dg:DgR 1 (upl 1 nf zf) k:=qpI (Nat.le_refl 1) (by omega) H.tzk
theorem LfU.sz:Sz 6 13 (upl 1 nf zf):=qo6 (Nat.le_refl 1) (by omega) (by have:=H.n;have:=H.k5;omega) H.d
theorem LfU.nz : ¬ Sim (upl 1 nf zf) []:=fun h=>by
 have:=(qgb (Nat.le_refl 1) (by omega)).1 h;rw [H.tzk] at this;cases this
theorem LfU.res {n ng : Nat} {zg : Nat -> Int} (hg : ng <= 6) (hd : ∀ i, i < ng -> dlen (zg i).natAbs <= 12) (ht : Go.Proofs.YtmcfpnmoklnhoaaGreat.tz zg ng = n + 1) (M : Nat -> Prop) (w : World) (x y : PE) (hM : Mb M w) (hx : CRx M w 4 x (upl 1 nf zf)) (hy : CRx M w 4 y (upl 1 ng zg)) :
  Calls Tryz.prog 81 #[.agg (peA x),.agg (peA y),.int .i64 1] w (qf7 M w 4 (cst (Rz k n (lf c r k) (zx0 ng zg))) 0):=by
 have h5:=H.k5
 have hn:n<=5:=by have:=qdj zg ng;omega
 have hz : ¬ Sim (upl 1 ng zg) []:=fun h=>by
  have:=(qgb (Nat.le_refl 1) (by omega)).1 h;rw [ht] at this;cases this
 have G:Gn 1 k n 6 (upl 1 nf zf) (upl 1 ng zg):=⟨Nat.le_refl 1,by omega,H.sz.mono (Nat.le_refl _) (by decide),(qo6 (Nat.le_refl 1) (by omega) (by omega) hd).mono (Nat.le_refl _) (by decide),H.nz,hz,H.dg,qpI (Nat.le_refl 1) (by omega) ht,by omega,by omega,fun h=>qtH k h5 n h,fun h=>qtH n hn k h⟩
 have hs:Sim (SJ 1 0 k n (upl 1 nf zf) (upl 1 ng zg)) (cst (Rz k n (lf c r k) (zx0 ng zg))):=by
  rw [<- H.eq];exact qrW H.hi (qgf ht).2
 refine (G.resB (by decide) M x y w hM hx hy).mono ?_;rintro e w' ⟨v,rfl,hv,he⟩;exact ⟨v,rfl,hv.sim hs,he⟩
theorem LfU.res0 {ng : Nat} {zg : Nat -> Int} (hg : ng <= 6) (ht : Go.Proofs.YtmcfpnmoklnhoaaGreat.tz zg ng = 0) (M : Nat -> Prop) (w : World) (x y : PE) (hM : Mb M w) (hx : CRx M w 4 x (upl 1 nf zf)) (hy : CRx M w 4 y (upl 1 ng zg)) :
  Calls Tryz.prog 81 #[.agg (peA x),.agg (peA y),.int .i64 1] w (qf7 M w 4 [] 0):=
 qp9 (J:=1) (Nat.le_refl 1) (by omega) (qc2 _ _ _) (qc2 _ _ _) (.inr ((qgb (Nat.le_refl 1) (by omega)).2 ht)) (H.sz.d.mono (by decide)) (qln (Nat.le_refl 1) (by omega) (by omega)) M x y w hM hx hy
end


theorem qrd (a:Int):Sim (qbz (cst a)) (cst (-a)):=by
 have h:=qgZ a (-1);rw [Int.mul_neg,Int.mul_one] at h;exact h
theorem qp7 (n:Nat) (a:Int):Sim (sgS n (cst a)) (cst (sgD n*a)):=by
 unfold sgS sgD
 split
 ·rw [Int.neg_one_mul];exact qrd a
 ·rw [Int.one_mul];exact Sim.refl _
theorem qsS {a:Int} (h:a≠0) : ¬ Sim (cst a) []:=fun hs=>h (qg0 (l:=cst a) (Sim.refl _) (hs.trans qeU.symm))
theorem qiC (a:Int):nrm (cst a)=a.natAbs:=by simp [nrm,cst]
theorem qiT (a:Int):Deg 0 (cst a):=qfw a
theorem qsy {a c : Int} (hc : c ≠ 0) (M : Nat -> Prop) (x y : PE) (w : World) (hM : Mb M w) {l r : List Tm} (hl : Sim l (cst (a * c))) (hr : Sim r (cst c)) (hA : dlen a.natAbs <= 200) (hC : dlen c.natAbs <= 100) (hx : CRx M w 4 x l) (hy : CRx M w 4 y r) :
  Calls Tryz.prog 14 #[.agg (peA x),.agg (peA y)] w (qf7 M w 4 (cst a) 0):=by
 have hx':=hx.sim hl;have hy':=hy.sim hr;have hz:=qsS hc;refine (qjR qtq M _ _ (cst a) x y w hM hx'.pi hy'.pi (qfj a) (qgZ a c) ((qiT _).mono (Nat.zero_le _)) (by rw [qiC];exact hA) ((qiT _).mono (Nat.zero_le _)) (by rw [qiC];exact hC)).mono ?_;rintro e w' ⟨v,er,rfl,hc3,he⟩;rcases hc3 with ⟨_,h,_⟩ | ⟨rfl,_,q,hq,hs,_⟩ | ⟨_,_,_,hn⟩
 ·exact absurd h hz
 ·exact ⟨v,rfl,hq.sim (qbt hq.nn (qfj _) (qfj _) hz (hs.trans (qgZ a c).symm)),he⟩
 ·exact absurd ⟨cst a,qfj _,qgZ a c⟩ hn
theorem qq0 {n nf:Nat} {zf:Nat->Int} : Sim (poly 1 n (dvC 1 (upl 1 nf zf))) (upl 1 n (dzc (zx0 nf zf))):=
 qaC _ _ _ _ fun i _=>by
  have h:=((qnk (D:=0) (by omega) nf zf (i+1)).pmul (Sim.refl (cst ((i+1:Nat):Int)))).trans (qgZ _ _)
  have e:(if i+1<nf then zf (i+1) else 0)*((i+1:Nat):Int)=dzc (zx0 nf zf) i:=by
   unfold dzc zx0;rw [Int.mul_comm,show ((i+1:Nat):Int)=(i:Int)+1 by omega]
  rw [e] at h;exact h
section
variable {c:Int} {r:Nat->Int} {k nf:Nat} {zf:Nat->Int} (H:LfU c r k nf zf) (hc : -128<=c/\c<=127) (hr : ∀ i,i<k -> -32768<=r i/\r i<=32767)
include H hc hr
theorem LfU.disc_dl1:dlen (c ^ (2*k - 2)*pr (dqs r) k).natAbs<=200:=by
 have h5:=H.k5;have hcd:=qdl (z:=c) (by omega);have h1:=qc5 hcd (2*k - 2);have h2:dlen (pr (dqs r) k).natAbs<=1+k*11:=qkx (fun i hi=>Nat.le_trans (qkx (n:=i) (fun j hj=>qq1 (hr i hi) (hr j (by omega))) i (Nat.le_refl _)) (by omega)) k (Nat.le_refl _);have h3:=qaD (c ^ (2*k - 2)).natAbs (pr (dqs r) k).natAbs;rw [Int.natAbs_mul];omega
theorem LfU.disc_dl:dlen (c ^ (2*k - 2)*pr (dqs r) k*c).natAbs<=100:=by
 have h5:=H.k5;have hcd:=qdl (z:=c) (by omega);have h1:=qc5 hcd (2*k - 2);have h2:dlen (pr (dqs r) k).natAbs<=1+k*11:=qkx (fun i hi=>Nat.le_trans (qkx (n:=i) (fun j hj=>qq1 (hr i hi) (hr j (by omega))) i (Nat.le_refl _)) (by omega)) k (Nat.le_refl _);have h3:=qaD (c ^ (2*k - 2)).natAbs (pr (dqs r) k).natAbs;have h4:=qaD (c ^ (2*k - 2)*pr (dqs r) k).natAbs c.natAbs;rw [Int.natAbs_mul];rw [Int.natAbs_mul] at h4 ⊢;omega
theorem LfU.disc (hk : 1 <= k) (M : Nat -> Prop) (x : PE) (w : World) (hM : Mb M w) (hx : CRx M w 4 x (upl 1 nf zf)) :
  Calls Tryz.prog 49 #[.agg (peA x),.int .i64 1] w (qf7 M w 4 (cst (c ^ (2*k - 2)*pr (dqs r) k)) 0):=by
 have h5:=H.k5;have h11:1<=1:=Nat.le_refl 1
 have h14:1<=4:=by omega
 have hdg:=H.dg;have hnz:=H.nz;have hsz:=H.sz;have hd:=qq5 c r k hk
 have hdz : ∀ i,dzc (zx0 nf zf) i=dzc (lf c r k) i:=fun i=>by rw [H.eq]
 have htz:tz (dzc (zx0 nf zf)) k=(k - 1)+1:=by
  have e:dzc (zx0 nf zf) (k - 1)=(((k - 1:Nat):Int)+1)*c:=by
   rw [hdz];unfold dzc;rw [show k - 1+1=k by omega,qjE]
  rw [qge hk (by rw [e];exact Int.mul_ne_zero (by omega) H.c0)];omega
 have hdl : ∀ i,i<k->dlen (dzc (zx0 nf zf) i).natAbs<=12:=fun i hi=>by
  unfold dzc;rw [Int.natAbs_mul];have e1:=qaD ((i:Int)+1).natAbs (zx0 nf zf (i+1)).natAbs;have e2:=qdl (z:=(i:Int)+1) (by omega);have e3:=qlc H.d (i+1);omega
 have hzz:zx0 k (dzc (zx0 nf zf))=dzc (lf c r k):=funext fun i=>by
  unfold zx0
  by_cases hi:i<k
  ·rw [if_pos hi];exact hdz i
  ·rw [if_neg hi];unfold dzc;rw [qcq c r k _ (by omega),Int.mul_zero]
 have hR : ∀ (M':Nat->Prop) wk y,Mb M' wk->(∀ g,M' g->M g∨w.heap.size<=g)->Ext w wk->CRx M' wk 4 y (upl 1 k (dzc (zx0 nf zf)))->Calls Tryz.prog 81 #[.agg (peA x),.agg (peA y),.int .i64 1] wk (qf7 M' wk 4 (cst (Rz k (k - 1) (lf c r k) (dzc (lf c r k)))) 0):=fun M' wk y hM' hm he hy=>by
  have:=H.res (ng:=k) (n:=k - 1) (by omega) hdl htz M' wk x y hM' ((hx.more hm).ext he) hy;rw [hzz] at this;exact this
 have hlead:Sim (ck 1 (k:Int) (upl 1 nf zf)) (cst c):=by
  have h1:=qnk (D:=0) h14 nf zf k
  have h2:(if k<nf then zf k else 0)=c:=by rw [<- qjE c r k,<- H.z k];rfl
  rw [h2] at h1;exact h1
 have hcd:dlen c.natAbs<=100:=Nat.le_trans (qdl (by omega)) (by decide)
 have hRd:dlen (Rz k (k - 1) (lf c r k) (dzc (lf c r k))).natAbs<=100:=by
  have h6:(Rz k (k - 1) (lf c r k) (dzc (lf c r k))).natAbs=(c ^ (2*k - 2)*pr (dqs r) k*c).natAbs:=by
   rw [<- hd,Int.natAbs_mul]
   have:(sgD k).natAbs=1:=by unfold sgD;split <;> rfl
   rw [this,Nat.one_mul]
  rw [h6];exact H.disc_dl hc hr
 refine qlQ M x 1 k (upl 1 k (dzc (zx0 nf zf))) (cst (Rz k (k - 1) (lf c r k) (dzc (lf c r k)))) (ck 1 (k:Int) (upl 1 nf zf)) _ w hM ⟨qfn h11 h14,⟨hk,by omega⟩,fun wk he=>qb6 M x _ 1 (k:Int) wk h11 h14 (qc2 _ _ _) (.inr ⟨hnz,k,hdg,rfl⟩) (hM.ext he) (hx.ext he).pi,fun M' wk hM' hm he=>?_,hR,fun _ M' wk y hM' hy=>?_,fun M' wk hM' hm he=>?_,fun M' wk y z hM' hy hz=>?_⟩
 ·refine (qdR M' x _ 1 6 wk hM' ((hx.more hm).ext he).pi hsz.d (by decide) (by decide) (Nat.le_trans hsz.a (by decide))).mono ?_;rintro e w' ⟨v,s,rfl,hv,hs',he'⟩;rcases hs' with ⟨q | q,_⟩ | ⟨_,J',b,k0,_,_,hb,rfl⟩
  ·exact absurd q hnz
  ·exact absurd ⟨by omega,by omega⟩ q
  ·obtain rfl:J'=1:=by omega
   obtain rfl:b=k:=qcM (qc2 _ _ _) hnz hb hdg;exact ⟨v,rfl,hv.sim qq0,he'⟩
 ·exact qji M' y _ 0 wk hM' hy.pi (by rw [qiC];exact Nat.le_trans (Nat.succ_le_succ hRd) (by decide)) (qiT _) (by decide)
 ·exact qjz M' x _ 1 k 6 wk h11 h14 (qc2 _ _ _) hnz hdg hM' ((hx.more hm).ext he).pi hsz.d (by decide) (by decide) (Nat.le_trans hsz.a (by decide))
 ·refine qsy H.c0 M' y z wk hM' ((qp7 k _).trans ?_) hlead (H.disc_dl1 hc hr) hcd hy hz;rw [hd];exact Sim.refl _
end


def qru (w:World) (k er:Int) (e:Ending) (w':World):Prop:=∃ x:IE,e = .returned (.tuple #[.agg #[.bool x.b,.slice x.a x.n x.p],.int .i64 er])/\IX M0 w' x k/\Ext w w'
theorem qfM (a : Option Addr) (n cap : Nat) (X : Nat -> IE) (z : Nat -> Int) (r : List Tm) (k er : Int) (w : World) (h : qb5 M0 w a n cap X z) (hk : Sim r (cst k)) (her : er = 0 ∨ er = 12 /\ k = 0)
  (HR : ∀ (M':Nat->Prop) wk x,Mb M' wk->CRx M' wk 4 x (upl 1 n z)->Calls Tryz.prog 49 #[.agg (peA x),.int .i64 1] wk (qf7 M' wk 4 r er)) :
  Calls Tryz.prog 27 #[.slice a n cap] w (qru w k er):=by
 have hE0:Ext w (w.alloc (.cells #[.bool false,.slice none 0 0] 30)):=(Ext.refl w).alloc _;have hB0:=Blk.of_arr w #[.bool false,.slice none 0 0] 30 2 rfl;have hM1:Mb (Mx M0 w.heap.size (w.heap.size+1)) (w.alloc (.cells #[.bool false,.slice none 0 0] 30)):=Mx.mb (mb0 w) (by simp) (by simp)
 have hsz0:w.heap.size<(w.alloc (.cells #[.bool false,.slice none 0 0] 30)).heap.size:=by simp
 have HU:=Lib.hid ((h.more (M':=Mx M0 w.heap.size (w.heap.size+1)) (Mx.more (Nat.le_refl _))).ext hE0);generalize hW:w.alloc (.cells #[.bool false,.slice none 0 0] 30)=W at *;have HW:=Lib.hid hW;have HE:=Lib.hid hE0;have HB0:=Lib.hid hB0;have HM:=Lib.hid hM1;have HK:=Lib.hid hk;have HRR:=Lib.hid HR;clear hE0 hB0 hM1 hW h hk HR
 go_enter Tryz.func27,Tryz.ntmps27
 go_upto_region 1 with (fail)
 rw [HW.out];clear HW;go_wp2_with (fail);refine (qiq _ a n cap X z W HM.out HU.out).mono ?_;rintro e w1 ⟨x,rfl,hx,e1⟩;have HX:=Lib.hid hx;have HE1:=Lib.hid e1;clear hx e1;go_wp2_with (fail);refine (HRR.out _ w1 x (HM.out.ext HE1.out) HX.out).mono ?_;rintro e w3 ⟨v,rfl,hv,e3⟩;have HE3:=Lib.hid (HE1.out.trans e3);have HV:=Lib.hid hv;clear hv e3 HX HE1 HRR;rcases her with rfl | ⟨rfl,rfl⟩
 ·go_upto_region 2 with (fail)
  obtain ⟨W4,hW4⟩ : ∃ W4,W4=w3.alloc (.cells #[.int .i64 v.lv,.bool v.b,.slice v.a v.n v.p,.slice v.ka v.kn v.kp] 33):=⟨_,rfl⟩
  have eb:Ext w3 W4:=by rw [hW4];exact (Ext.refl w3).alloc _
  have hP:P4 W4 w3.heap.size v:=by rw [hW4];exact (Blk.of_arr w3 (peA v) 33 4 rfl).p4
  rw [<- hW4];obtain ⟨v0,v1,v2,v3⟩:=hP;have HE4:=Lib.hid (HE3.out.trans eb);have CC:=Lib.hid (qfa _ v r W4 (HM.out.ext HE4.out) (HV.out.ext eb).pi);clear HV eb hW4 HE3;go_wp2_with (fail);refine CC.out.mono ?_;rintro e w5 ⟨q,ok,b,a,n,p,rfl,hI,ht,hf,e5⟩
  have hq:q=k:=by
   cases ok with
   | true=>exact qg0 (ht rfl) HK.out
   | false=>
    obtain ⟨_,m,i,hm,hi1,hi4,hp⟩:=hf rfl;rw [HK.out m] at hm;obtain ⟨t,ht',rfl⟩:=qfx hm;simp only [cst,List.mem_singleton] at ht';subst ht';rw [qbc] at hp;omega
  subst hq;have HI:=Lib.hid hI;have HE5:=Lib.hid (HE4.out.trans e5);clear hI ht hf e5 HK CC v0 v1 v2 v3 HE4
  go_upto_region 5 with (fail)
  obtain ⟨W6,hW6⟩ : ∃ W6,W6=w5.alloc (.cells #[.bool b,.slice a n p] 30):=⟨_,rfl⟩
  have eb:Ext w5 W6:=by rw [hW6];exact (Ext.refl w5).alloc _
  have hBq:Blk W6 w5.heap.size 30 2 (arr #[.bool b,.slice a n p]):=by rw [hW6];exact Blk.of_arr w5 _ 30 2 rfl
  rw [<- hW6];have i0:W6.cell? ⟨w5.heap.size,0,none⟩=some (.bool b):=hBq.cell (i:=0) (by omega);have i1:W6.cell? ⟨w5.heap.size,1,none⟩=some (.slice a n p):=hBq.cell (i:=1) (by omega);have hltq:=hBq.lt;obtain ⟨⟨s0,s1,g0,g1⟩,⟨t0,t1⟩,hk2,hf2⟩:=qgL (M':=Mx M0 w.heap.size (w.heap.size+1)) (w:=w) (.bool b) (.slice a n p) (HB0.out.ext (HE5.out.trans eb)) (Mx.at (by omega)) (by omega) (HE.out.trans (HE5.out.trans eb));have HF:Hid (qru w q 0 (.returned (.tuple #[.agg #[.bool b,.slice a n p],.int .i64 0])) _):=⟨⟨b,a,n,p⟩,rfl,((HI.out.toV.ext eb).kp hk2).more Mx.less,hf2⟩;have hltw:w.heap.size<W6.heap.size:=(HB0.out.ext (HE5.out.trans eb)).lt;simp only [arr] at s0 s1;clear hk2 hf2 HI HE5 HB0 HE HM hBq eb hW6;go_wp2;exact bodyPost_ret (v:=.tuple #[.agg #[.bool b,.slice a n p],.int .i64 0]) (by simp [results,Tryz.results27,go_sem,t0,t1]) rfl HF.out
 ·go_upto_region 2 with (fail)
  obtain ⟨W4,hW4⟩ : ∃ W4,W4=w3.alloc (.cells #[.int .i64 v.lv,.bool v.b,.slice v.a v.n v.p,.slice v.ka v.kn v.kp] 33):=⟨_,rfl⟩
  have eb:Ext w3 W4:=by rw [hW4];exact (Ext.refl w3).alloc _
  rw [<- hW4];have HE4:=Lib.hid (HE3.out.trans eb);obtain ⟨⟨s0,s1,g0,g1⟩,⟨t0,t1⟩,hk2,hf2⟩:=qgL (M':=Mx M0 w.heap.size (w.heap.size+1)) (w:=w) (.bool false) (.slice none 0 0) (HB0.out.ext HE4.out) (Mx.at (by omega)) (by omega) (HE.out.trans HE4.out);have HF:Hid (qru w 0 12 (.returned (.tuple #[.agg #[.bool false,.slice none 0 0],.int .i64 12])) _):=⟨⟨false,none,0,0⟩,rfl,(qbw.zero _ _).toV,hf2⟩;have hltw:w.heap.size<W4.heap.size:=(HB0.out.ext HE4.out).lt;simp only [arr] at s0 s1;clear hk2 hf2 HV HE3 HE4 HB0 HE HM eb hW4 HK;go_wp2;exact bodyPost_ret (v:=.tuple #[.agg #[.bool false,.slice none 0 0],.int .i64 12]) (by simp [results,Tryz.results27,go_sem,t0,t1]) rfl HF.out
theorem qmq (a : Option Addr) (n cap : Nat) (X : Nat -> IE) (m : Int) (w0 w : World) (h : qrr w0 a n cap X) (he0 : Ext w0 w) :
  Calls Tryz.prog 20 #[.slice a n cap,.int .i64 m] w (qfE ((∀ i,i<n->(X i).n<=4)/\(n:Int)<=m) w):=by
 have HE0:=Lib.hid he0;have HU:=Lib.hid h.2.2.2;clear he0;have hnc:=h.1;have hcm:=h.2.1;unfold maxLen at hcm;clear h
 go_enter Tryz.func20,Tryz.ntmps20
 go_wp2
 go_loopw [9] (fun iv wr=>∃ k:Nat,k<=n/\iv = .int .i64 (k:Int)/\Hid (∀ i,i<k->(X i).n<=4)/\Hid (Ext w wr)) (fun iv _=>n - (intOf iv).toNat)
 case atStart=>exact ⟨0,Nat.zero_le _,rfl,fun i hi=>absurd hi (Nat.not_lt_zero _),Ext.refl _⟩
 case round=>
  obtain ⟨k,hk,rfl,HK,HE⟩:=hrel
  by_cases hlt:k<n
  ·obtain ⟨b,off,hva,hb,x0,x1,_⟩:=HU.out k hlt;subst hva;have he2:=HE0.out.trans HE.out;rw [<- he2.cell hb] at x0 x1;have hbw:b<wr.heap.size:=Nat.lt_of_lt_of_le hb he2.size;clear he2;have HE2:Hid (Ext w (wr.alloc (.cells #[.bool (X k).b,.slice (X k).a (X k).n (X k).p] 30))):=HE.out.alloc _
   by_cases h5:(X k).n<=4
   ·have h5i : ¬ (4:Int)<((X k).n:Int):=by omega
    have HK2:Hid (∀ i,i<k+1->(X i).n<=4):=fun i hi=>by
     by_cases e:i=k
     ·rw [e];exact h5
     ·exact HK.out i (by omega)
    clear h5 HK HE;go_wp2
    go_roundw
    case rel=>exact ⟨k+1,by omega,by go_num,HK2,HE2⟩
    case measure=>simp [intOf];omega
   ·have h5i:(4:Int)<((X k).n:Int):=by omega
    have HF:Hid (qfE ((∀ i,i<n->(X i).n<=4)/\(n:Int)<=m) w (.returned (.bool false)) (wr.alloc (.cells #[.bool (X k).b,.slice (X k).a (X k).n (X k).p] 30))):=qfE.f (fun h=>h5 (h.1 k hlt)) HE2.out;clear h5 HK HE HE2;go_wp2;go_ret;exact HF.out
  ·obtain rfl:k=n:=by omega
   by_cases hm:(k:Int)<=m
   ·have HF:Hid (qfE ((∀ i,i<k->(X i).n<=4)/\(k:Int)<=m) w (.returned (.bool true)) wr):=qfE.t ⟨HK.out,hm⟩ HE.out;clear HK HE;go_wp2;go_ret;exact HF.out
   ·have HF:Hid (qfE ((∀ i,i<k->(X i).n<=4)/\(k:Int)<=m) w (.returned (.bool false)) wr):=qfE.f (fun h=>hm h.2) HE.out
    have hmf:decide ((k:Int)<=m)=false:=by simp;omega
    clear HK HE hm;go_wp2;go_ret;exact HF.out


def qrs (w2:World) (gv:Nat) (kw:Int) (s8:Value) (wx:World):Prop:=∃ x:IE,s8 = .pointer (some ⟨gv,0,none⟩)/\JC wx gv 0 x/\IX M0 wx x kw/\Ext w2 wx
theorem qr2 (x y:IE) (z:Int) (w:World) (h:IX M0 w x z) (k:IX M0 w y z):Calls Tryz.prog 25 #[.agg #[.bool x.b,.slice x.a x.n x.p],.agg #[.bool y.b,.slice y.a y.n y.p]] w fun e w'=>e = .returned (.bool true)/\Ext w w':=
 (qgI _ _ _ _ z z w h k).mono fun e w' h=>⟨by rw [h.1,decide_eq_true rfl],h.2⟩
theorem qrr.sm4 {W:World} {a:Option Addr} {n cap:Nat} {X:Nat->IE} (h:qrr W a n cap X) (hn:n<=6) (hX : ∀ i,i<n->(X i).n<=4) : ∃ z,qb5 M0 W a n cap X z /\ ∀ i,i<n->dlen (z i).natAbs<=7:=by
 obtain ⟨z,hu,hz⟩:=h.row (by omega) fun i hi=>Nat.le_trans (hX i hi) (by omega);exact ⟨z,hu,fun i hi=>(qan _ _).2 (Nat.lt_of_le_of_lt (hz i hi) (by decide))⟩
theorem qmo (c : Int) (a : Option Addr) (n cap : Nat) (r : Nat -> Int) (a2 : Option Addr) (n2 c2 : Nat) (X2 : Nat -> IE) (w : World) (hc : -128 <= c /\ c <= 127) (h1 : qie w a n cap r) (h2 : qrr w a2 n2 c2 X2) :
  Calls Tryz.prog 4 #[.int .i8 c,.slice a n cap,.slice a2 n2 c2] w fun e w'=>e = .returned (.bool true)/\Ext w w':=by
 have HR:=Lib.hid h1;have HG:=Lib.hid h2;have HC:=Lib.hid hc;have hcw:IntKind.i64.wrap c=c:=IntWalk.i64_in _ (by omega);clear h1 h2
 go_enter Tryz.func4,Tryz.ntmps4
 go_wp2_with (fail);refine (qmp _).mono ?_;rintro e w1 ⟨rfl,he1⟩;have HE1:=Lib.hid he1;clear he1
 by_cases hb1:5<n
 ·have hb1I:(5:Int)<(n:Int):=by omega
  go_wp2;go_ret;exact ⟨rfl,HE1.out⟩
 have hb1I : ¬ (5:Int)<(n:Int):=by omega
 go_wp2_with (fail);refine (qmq a2 n2 c2 X2 6 w w1 HG.out HE1.out).mono ?_;rintro e w2 ⟨b,rfl,hf,he2⟩;have HE2:=Lib.hid (HE1.out.trans he2);clear he2
 cases b with
 | false=>
  clear hf;go_wp2;go_ret;exact ⟨rfl,HE2.out⟩
 | true=>
 obtain ⟨hf4,hf6⟩:=hf.1 rfl;clear hf
 by_cases hc0:c=0
 ·have hcb:(c == 0)=true:=by simp [hc0]
  clear hc0 hf4;go_wp2;go_ret;exact ⟨rfl,HE2.out⟩
 have hcb:(c == 0)=false:=by simp [hc0]
 obtain ⟨zg,hu2,hd2⟩:=HG.out.sm4 (by omega) hf4;have HU2:=Lib.hid hu2;have HD2:=Lib.hid hd2;have HC0:Hid (c≠0):=hc0
 have hn5:n<=5:=by omega
 have hn6:n2<=6:=by omega
 clear hu2 hd2 hf4 hc0 HG hb1;go_wp2_with (fail);refine (qlO c a n cap r w2 HC.out (HR.out.ext HE2.out) hn5).mono ?_;rintro e w3 ⟨af,nf,cf,Xf,zf,rfl,huf,hnf,hzf,he3⟩;have HRB:Hid (∀ i,i<n -> -32768<=r i/\r i<=32767):=fun i hi=>(HR.out.2.2 i hi).1
 have HL:Hid (LfU c r n nf zf):=⟨HC0.out,hn5,hnf,hzf,fun i hi=>by
  have h5:=hzf i;unfold zx0 at h5;rw [if_pos hi] at h5;rw [h5]
  exact Nat.le_trans (qor (n:=n) (qdl (by have:=HC.out;omega)) (fun j hj=>qdl (by have:=HRB.out j hj;omega)) n i (Nat.le_refl _)) (by omega)⟩
 have HUF:=Lib.hid huf;have HE3:=Lib.hid (HE2.out.trans he3);have hncap:=HR.out.1;clear huf hzf he3 HE2 HE1;go_wp2_with (fail);refine (ofI (M:=M0) 0 w3 (mb0 _) (by omega)).mono ?_;rintro e w4 ⟨v,rfl,hv,he4⟩;obtain ⟨gv,hgv⟩ : ∃ gv,gv=w4.heap.size:=⟨_,rfl⟩;have hEa:=(Ext.refl w4).alloc (.cells #[.bool v.b,.slice v.a v.n v.p] 30);have hBa:=Blk.of_arr w4 #[.bool v.b,.slice v.a v.n v.p] 30 2 rfl;rw [<- hgv] at hBa;obtain ⟨W5,hW5⟩ : ∃ W5,w4.alloc (.cells #[.bool v.b,.slice v.a v.n v.p] 30)=W5:=⟨_,rfl⟩;rw [hW5] at hEa hBa;have HW5:=Lib.hid hW5;have HGV:=Lib.hid hgv;have HB5:=Lib.hid hBa;have HV5:=Lib.hid (hv.ext hEa);have HE5:=Lib.hid (he4.trans hEa)
 have hgw:w3.heap.size<=gv:=by have:=he4.size;omega
 clear hW5 hEa hBa hv he4 hgv
 go_upto_region 7 with (fail)
 rw [HW5.out,<- HGV.out];clear HW5 HGV;obtain ⟨m2,hm2⟩ : ∃ m2,m2=tz zg n2:=⟨_,rfl⟩;have HM2:Hid (tz zg n2=m2):=hm2.symm
 have hle2:m2<=n2:=by rw [hm2];exact qdj zg n2
 obtain ⟨kw,hK⟩ : ∃ kw,kw=if m2=0 then 0 else c ^ (m2 - 1)*pr (fun i=>psI (r i) zg n2) n:=⟨_,rfl⟩;have HKK:=Lib.hid hK;have CDG:=Lib.hid (qhl M0 a2 n2 c2 X2 zg W5 (HU2.out.ext (HE3.out.trans HE5.out)));rw [<- hm2] at CDG;clear hm2 hK;go_wp2_with (fail);refine CDG.out.mono ?_;rintro e w6 ⟨rfl,he6⟩;have HB6:=Lib.hid (HB5.out.ext he6);have HV6:=Lib.hid (HV5.out.ext he6);have HE6:=Lib.hid (HE5.out.trans he6);clear he6 HB5 HV5 HE5 CDG
 go_upto_if 32 with (fail)
 go_cut [8] (qrs w3 gv kw)
 case first=>
  by_cases h0:m2=0
  ·have hneg : ¬ ((0:Int)<=(m2:Int) - 1):=by omega
   have hK0:kw=0:=by rw [HKK.out,if_pos h0]
   have HF:Hid (qrs w3 gv kw (.pointer (some ⟨gv,0,none⟩)) w6):=⟨v,rfl,qbK HB6.out,by rw [hK0];exact HV6.out,HE6.out⟩;clear hK0 h0;go_wp2
   go_meet
   exact HF.out
  ·have hpos:(0:Int)<=(m2:Int) - 1:=by omega
   have hgl:=HB6.out.lt;have CV:=Lib.hid (qlN (fun b=>M0 b∨b=gv) c a n cap r a2 n2 c2 X2 zg w6 (qb9 (mb0 _) hgl) HC.out (HR.out.ext (HE3.out.trans HE6.out)) hn5 (((HU2.out.ext HE3.out).more (M':=fun b=>M0 b∨b=gv) fun g hg=>hg.imp id fun e=>by rw [e];exact hgw).ext HE6.out) hn6 HD2.out (m2 - 1) (by rw [HM2.out];omega))
   have hK1:kw=c ^ (m2 - 1)*pr (fun i=>psI (r i) zg n2) n:=by rw [HKK.out,if_neg h0]
   rw [<- hK1] at CV;clear hK1 h0;go_wp2_with (fail);refine CV.out.mono ?_;rintro e w7 ⟨y,rfl,hy,he7⟩;have hB7:=HB6.out.ext he7;obtain ⟨q0,q1⟩:=qbK hB7;have hf0:=hB7.frozen 0;have hf1:=hB7.frozen 1;have hl7:=hB7.lt;have hkp:=Kp.set2 (M:=fun b=>M0 b∨b=gv) (w:=w7) (g:=gv) (.inr rfl) 0 (.bool y.b) (.slice y.a y.n y.p);have HF:Hid (qrs w3 gv kw (.pointer (some ⟨gv,0,none⟩)) (set2 w7 gv 0 (.bool y.b) (.slice y.a y.n y.p))):=⟨y,rfl,qbK (qha hB7 y),(hy.kp hkp).more (fun g hg=>.inl (.inl hg)),(HE6.out.trans he7).set2 hgw _ _ _⟩;obtain ⟨W8,hW8⟩ : ∃ W8,set2 w7 gv 0 (.bool y.b) (.slice y.a y.n y.p)=W8:=⟨_,rfl⟩;rw [hW8] at HF;unfold set2 at hW8;have HW8:=Lib.hid hW8;clear hW8 hkp hB7 hy he7 CV;go_wp2
   go_meet
   rw [HW8.out];exact HF.out
 case rest=>
  obtain ⟨x,rfl,hx,hxi,heC⟩:=hcut;have hEd:=(Ext.refl wc).drew;have hS:S1B gv x wc.drew:=S1B.ext ⟨hx,hx.lt⟩ hEd;have HX:=Lib.hid (hxi.ext hEd);have HE7:=Lib.hid (heC.trans hEd);have hvwd:gv<wc.drew.heap.size:=hS.2;clear hEd hx hxi heC HB6 HV6 HE6
  go_upto_region 9 with (fail)
  refine qad (S1B gv x) 6 (by kernel_rfl) hS (fun hHeld=>?_);clear hS;generalize wc.drew=wd at *
  have CU:Hid (∀ W:World,Ext wd W->Calls Tryz.prog 26 #[.slice af nf cf,.slice a2 n2 c2] W fun e w'=>∃ y:IE,e = .returned (.agg #[.bool y.b,.slice y.a y.n y.p])/\IX M0 w' y kw/\Ext W w'):=fun W he=>by
   have hu1:=HUF.out.ext (HE7.out.trans he);have hu2:=HU2.out.ext (HE3.out.trans (HE7.out.trans he))
   have key:Calls Tryz.prog 26 #[.slice af nf cf,.slice a2 n2 c2] W fun e w'=>∃ b a n p,e = .returned (.agg #[.bool b,.slice a n p])/\qbq M0 w' (.bool b) (.slice a n p) kw/\Ext W w':=by
    by_cases h0:m2=0
    ·have hK0:kw=0:=by rw [HKK.out,if_pos h0]
     exact qlG af a2 nf cf n2 c2 Xf X2 zf zg [] kw W hu1 hu2 (by rw [hK0];exact qeU.symm) fun M' wk x y hM hx hy=>HL.out.res0 hn6 (HM2.out.trans h0) M' wk x y hM hx hy
    ·have hK1:kw=c ^ (m2 - 1)*pr (fun i=>psI (r i) zg n2) n:=by rw [HKK.out,if_neg h0]
     have ht:tz zg n2=(m2 - 1)+1:=by rw [HM2.out];omega
     have hz2:(fun i=>psI (r i) zg n2)=fun i=>psI (r i) (zx0 n2 zg) (m2 - 1+1):=funext fun i=>qpj fun j hj=>by rw [<- qhi,ht];exact if_neg (by omega)
     have hv:Rz n (m2 - 1) (lf c r n) (zx0 n2 zg)=kw:=by
      rw [hK1,hz2];exact qpd c r (zx0 n2 zg) (m2 - 1) (fun i hi=>(qgf ht).2 i hi) n
     refine qlG af a2 nf cf n2 c2 Xf X2 zf zg (cst kw) kw W hu1 hu2 (Sim.refl _) fun M' wk x y hM hx hy=>?_;rw [<- hv];exact HL.out.res hn6 (fun i hi=>Nat.le_trans (HD2.out i hi) (by decide)) ht M' wk x y hM hx hy
   refine key.mono ?_;rintro e w' ⟨b,a,n,p,rfl,hi,he'⟩;exact ⟨⟨b,a,n,p⟩,rfl,hi,he'⟩
  (refine tkB [0,1,3] ?_;(iterate 3 (refine tk1 (oi:=?_) (v:=?_) (by kernel_rfl) (by first | exact hSn | exact hHeld) ?_ ?_ ?_ ?_ ?_;rotate_left 2;(simp only [xgA,xgB,xgC];rfl);rfl;(intro wS hSw;obtain ⟨⟨S1,S2⟩,S3⟩:=hSw;go_simp;try with_reducible rfl);(exact fun _ _ _ h=>h);(try simp only [Act.put,xgD,xgE,xgF])));refine tkE ?_);((refine qaa 2 (o:=?_) (by kernel_rfl) ?_ ?_;rotate_left 1;(simp only [xgA,xgB,xgC];rfl);intro K hK);go_simp;(refine (CU.out _ (Ext.refl _)).mono ?_);rintro e_ u2 ⟨y,rfl,hy,ed1⟩;go_wp2_with (fail);(try clear hSn);(have hSn:=hHeld.ext ed1);(refine hK.out _ _ (fun _=>hSn) ?_);clear hK K;(try simp only [Act.put,xgD,xgE,xgF]));((refine qaa 4 (o:=?_) (by kernel_rfl) ?_ ?_;rotate_left 1;(simp only [xgA,xgB,xgC];rfl);intro K hK);go_simp;(refine (qr2 y x kw u2 hy (HX.out.ext ed1)).mono ?_);rintro e_ u3 ⟨rfl,ed2⟩;go_wp2_with (fail);(try clear hSn);(have hSn:=hHeld.ext (ed1.trans ed2));(refine hK.out _ _ (fun _=>hSn) ?_);clear hK K;(try simp only [Act.put,xgD,xgE,xgF]));(refine tkB [5] ?_;(iterate 1 (refine tk1 (oi:=?_) (v:=?_) (by kernel_rfl) (by first | exact hSn | exact hHeld) ?_ ?_ ?_ ?_ ?_;rotate_left 2;(simp only [xgA,xgB,xgC];rfl);rfl;(intro wS hSw;obtain ⟨⟨S1,S2⟩,S3⟩:=hSw;go_simp;try with_reducible rfl);(exact fun _ _ _ h=>h);(try simp only [Act.put,xgD,xgE,xgF])));refine tkE ?_);have HE8:=Lib.hid (HE7.out.trans (ed1.trans ed2));clear hy ed1 ed2 CU HX HE7 hHeld hSn hvwd;refine qac (by kernel_rfl) ?_ _
  by_cases h0:n=0
  ·have CD := Lib.hid (qfM af nf cf Xf zf [] 0 12 u3 (HUF.out.ext HE8.out) qeU.symm (.inr ⟨rfl, rfl⟩) fun M' wk x hM hx => by
    have hd:=HL.out.dg;rw [h0] at hd
    exact qr8 M' x 1 0 _ wk hM (Nat.le_refl 1) (by omega) (qc2 _ _ _) (.inr ⟨HL.out.nz,0,hd,rfl⟩) (by omega) hx)
   have hn0:((n:Int) == 0)=true:=by simp [h0]
   go_upto_region 11 with (fail)
   go_wp2_with (fail);refine CD.out.mono ?_;rintro e w9 ⟨d,rfl,hdv,he9⟩;have hEa:=(Ext.refl w9).alloc (.cells #[.bool d.b,.slice d.a d.n d.p] 30);have hBa:=Blk.of_arr w9 #[.bool d.b,.slice d.a d.n d.p] 30 2 rfl;obtain ⟨W10,hW10⟩ : ∃ W10,w9.alloc (.cells #[.bool d.b,.slice d.a d.n d.p] 30)=W10:=⟨_,rfl⟩;rw [hW10] at hEa hBa;have HW10:=Lib.hid hW10;have HDV:=Lib.hid (hdv.ext hEa);have HE10:=Lib.hid (HE8.out.trans (he9.trans hEa));obtain ⟨d0,d1⟩:=qbK hBa;have hl:=hBa.lt;clear hW10 hEa hBa hdv he9 CD HE8
   go_upto_region 12 with (fail)
   rw [HW10.out];clear HW10;go_wp2_with (fail);refine (qdd _ _ 0 _ HDV.out).mono ?_;rintro e w11 ⟨rfl,he11⟩;have HE11:=Lib.hid (HE3.out.trans (HE10.out.trans he11));clear he11 HE10 HDV d0 d1;go_wp2;go_ret;exact ⟨rfl,HE11.out⟩
  ·have hn1:1<=n:=by omega
   have CD:=Lib.hid (qfM af nf cf Xf zf _ (c ^ (2*n - 2)*pr (dqs r) n) 0 u3 (HUF.out.ext HE8.out) (Sim.refl _) (.inl rfl) fun M' wk x hM hx=>HL.out.disc HC.out HRB.out hn1 M' x wk hM hx)
   have hn0:((n:Int) == 0)=false:=by simp [h0]
   clear h0
   go_upto_region 11 with (fail)
   go_wp2_with (fail);refine CD.out.mono ?_;rintro e w9 ⟨d,rfl,hdv,he9⟩;have hEa:=(Ext.refl w9).alloc (.cells #[.bool d.b,.slice d.a d.n d.p] 30);have hBa:=Blk.of_arr w9 #[.bool d.b,.slice d.a d.n d.p] 30 2 rfl;obtain ⟨gd,hgd⟩ : ∃ gd,gd=w9.heap.size:=⟨_,rfl⟩;rw [<- hgd] at hBa;obtain ⟨W10,hW10⟩ : ∃ W10,w9.alloc (.cells #[.bool d.b,.slice d.a d.n d.p] 30)=W10:=⟨_,rfl⟩;rw [hW10] at hEa hBa;have HW10:=Lib.hid hW10;have HGD:=Lib.hid hgd;have HDV:=Lib.hid (hdv.ext hEa);have HE10:=Lib.hid (HE8.out.trans (he9.trans hEa));have HJ:=Lib.hid (qbK hBa);clear hW10 hEa hBa hdv he9 CD HE8 hgd
   go_upto_region 12 with (fail)
   rw [HW10.out,<- HGD.out];clear HW10 HGD;have hEd:=(Ext.refl W10).drew;have hS:S1B gd d W10.drew:=S1B.ext ⟨HJ.out,HJ.out.lt⟩ hEd;have HX:=Lib.hid (HDV.out.ext hEd);have HE11:=Lib.hid (HE3.out.trans (HE10.out.trans hEd));have hvwd:gd<W10.drew.heap.size:=hS.2;clear hEd HE10 HDV HJ
   go_upto_region 14 with (fail)
   refine qad (S1B gd d) 11 (by kernel_rfl) hS (fun hHeld=>?_);clear hS;generalize W10.drew=wd2 at *;have CF:Hid (∀ W:World,Ext wd2 W->Calls Tryz.prog 29 #[.int .i64 c,.slice a n cap] W (qcE M0 W (c ^ (2*n - 2)*pr (dqs r) n))):=fun W he=>qfI c a n cap r W HC.out (HR.out.ext (HE11.out.trans he)) hn5 hn1;(refine tkB [0,1,2,3,4,5,6] ?_;(iterate 7 (refine tk1 (oi:=?_) (v:=?_) (by kernel_rfl) (by first | exact hSn | exact hHeld) ?_ ?_ ?_ ?_ ?_;rotate_left 2;(simp only [xgA,xgB,xgC];rfl);rfl;(intro wS hSw;obtain ⟨⟨S1,S2⟩,S3⟩:=hSw;go_simp;try with_reducible rfl);(exact fun _ _ _ h=>h);(try simp only [Act.put,xgD,xgE,xgF])));refine tkE ?_);((refine qaa 7 (o:=?_) (by kernel_rfl) ?_ ?_;rotate_left 1;(simp only [xgA,xgB,xgC];rfl);intro K hK);go_simp;(refine (CF.out _ (Ext.refl _)).mono ?_);rintro e_ u5 ⟨y,rfl,hy,ed1⟩;go_wp2_with (fail);(try clear hSn);(have hSn:=hHeld.ext ed1);(refine hK.out _ _ (fun _=>hSn) ?_);clear hK K;(try simp only [Act.put,xgD,xgE,xgF]));((refine qaa 8 (o:=?_) (by kernel_rfl) ?_ ?_;rotate_left 1;(simp only [xgA,xgB,xgC];rfl);intro K hK);go_simp;(refine (qr2 d y _ u5 (HX.out.ext ed1) hy).mono ?_);rintro e_ u6 ⟨rfl,ed2⟩;go_wp2_with (fail);(try clear hSn);(have hSn:=hHeld.ext (ed1.trans ed2));(refine hK.out _ _ (fun _=>hSn) ?_);clear hK K;(try simp only [Act.put,xgD,xgE,xgF]));(refine tkB [9,10] ?_;(iterate 2 (refine tk1 (oi:=?_) (v:=?_) (by kernel_rfl) (by first | exact hSn | exact hHeld) ?_ ?_ ?_ ?_ ?_;rotate_left 2;(simp only [xgA,xgB,xgC];rfl);rfl;(intro wS hSw;obtain ⟨⟨S1,S2⟩,S3⟩:=hSw;go_simp;try with_reducible rfl);(exact fun _ _ _ h=>h);(try simp only [Act.put,xgD,xgE,xgF])));refine tkE ?_)
   have HE12:=Lib.hid (HE11.out.trans (ed1.trans ed2));clear hy ed1 ed2 CF HX HE11 hHeld hSn hvwd;refine qac (by kernel_rfl) ?_ _;go_wp2;go_ret;exact ⟨rfl,HE12.out⟩
end Go.Proofs.YtmcfpnmoklnhoaaGreat

namespace Go.Proofs.YtmcfpnmoklnhoaaGreat
open Go.ChangeShapes Go.WideShapes Go.ChangeAt Go.RowKit Go.Deep

section
variable {H:Type} {enc:TypeId × Value->H} {W:World}
set_option linter.constructorNameAsVariable false in
theorem qoc {base:Nat} {v:Value} {d:DataW H} {ps:List MemPlace} (hv:Value.okWide Tryz.prog W .any base 47 v) (h:DataW.Trod enc Tryz.prog W 0 (fun _=>true) true 47 v d ps) : ∃ z:Int,v = .int .i8 z/\(-128<=z/\z<=127):=by
 obtain ⟨fuel,h⟩:=h;obtain ⟨y,rfl⟩:=okWide_int Tryz.underlying47 hv;obtain ⟨z,hz,_,hw⟩:=DataW.trod_int Tryz.underlying47 h;have hz' : [Value.int .i8 y] = [.int .i8 z]:=hz;simp [Lit.wf,IntKind.min,IntKind.max,IntKind.signed,IntKind.bits] at hw;exact ⟨z,by simpa using hz',by omega,by omega⟩
set_option linter.constructorNameAsVariable false in
theorem ql3 {base:Nat} {v:Value} {d:DataW H} {ps:List MemPlace} (hv:Value.okWide Tryz.prog W .any base 48 v) (h:DataW.Trod enc Tryz.prog W 0 (fun _=>true) true 48 v d ps) : ∃ a n cap r,v = .slice a n cap/\qie W a n cap r:=by
 obtain ⟨fuel,h⟩:=h
 have hv1:v.cells.toList = [v]:=by
  obtain ⟨a,n,c,rfl⟩:=okWide_slice Tryz.underlying48 hv;rfl
 rw [hv1] at h;rcases open_ints Tryz.underlying48 Tryz.underlying106 (by kernel_rfl) h with ⟨h0,_⟩ | ⟨a,len,cap,zs,hcs,hb,hl,hm,hz,_,hc,hwf⟩
 ·simp only [List.cons.injEq,and_true] at h0;exact ⟨none,0,0,fun _=>0,h0,Nat.le_refl _,Nat.zero_le _,fun i hi=>absurd hi (Nat.not_lt_zero _)⟩
 ·simp only [List.cons.injEq,and_true] at hcs;rw [if_pos rfl] at hz;refine ⟨some a,len,cap,fun i=>zs.getD i 0,hcs,hl,hm,fun i hi=>?_⟩
  have hi':i<zs.length:=by omega
  have h1:=hwf (zs.getD i 0) (by rw [List.getD_eq_getElem?_getD,List.getElem?_eq_getElem hi'];simp);simp [Lit.wf,IntKind.min,IntKind.max,IntKind.signed,IntKind.bits] at h1
  have h2:zs.getD i 0=zs[i]?.getD 0:=by simp
  have h3:=hc i hi';have hc0:=hc 0 (by omega);rw [qic] at hc0;have hsp:=World.cell?_spot hc0;have hbl:=World.block_lt_of_cell? _ _ hc0;obtain ⟨b,o,s⟩:=a;simp only at hsp hbl;subst hsp;rw [qb4] at h3;exact ⟨by show -32768<=zs.getD i 0/\zs.getD i 0<=32767;rw [h2];omega,b,o,rfl,hbl,h3⟩
end
namespace resultantRoots
theorem own:ownKnob Tryz.prog.godebug=none:=by kernel_rfl
theorem contract (H : Type) (enc : TypeId × Value -> H) (W : World) (base : Nat) (args : Array Value) (ds gs : List (DataW H)) (before : List MemPlace)
  (hval : ∀ (j:Nat) t v,Tryz.f4.params[j]? = some t->args[j]? = some v->Value.okWide Tryz.prog W .any base t v)
  (hW:DataW.Whole enc Tryz.prog Tryz.f4.params.toList Rows.resultantRootsSpec.vars false W args.toList ds gs before) :
  Calls Tryz.prog 4 args W fun e W'=>∃ v,e = .returned v/\Rows.resultantRootsSpec.post enc Tryz.prog Tryz.f4 false true false false W args v W':=by
 have hW':=hW;obtain ⟨p,q,hA0,hV,rfl,hfz,hnd⟩:=hW;have hA:DataW.TrodAll enc Tryz.prog W 0 (fun _=>true) true Tryz.f4.params.toList args.toList ds p:=hA0;rw [Tryz.params4] at hA hval;obtain ⟨v0,vs0,d0,ds0,p0,q0,hargs,rfl,rfl,h0,r0⟩:=trodAll_cons hA;obtain ⟨v1,vs1,d1,ds1,p1,q1,rfl,rfl,rfl,h1,r1⟩:=trodAll_cons r0;obtain ⟨v2,vs2,d2,ds2,p2,q2,rfl,rfl,rfl,h2,r2⟩:=trodAll_cons r1;obtain ⟨rfl,rfl,rfl⟩:=trodAll_nil r2
 obtain rfl:args = #[v0,v1,v2]:=by cases args;simp_all
 obtain ⟨rfl,rfl⟩:=trodVars_none hV;obtain ⟨z0,rfl,g0⟩:=qoc (hval 0 47 v0 rfl rfl) h0;obtain ⟨a1,n1,c1,X1,rfl,g1⟩:=ql3 (hval 1 48 v1 rfl rfl) h1;obtain ⟨a2,n2,c2,X2,rfl,g2⟩:=qn9 (hval 2 23 v2 rfl rfl) h2;refine (qmo z0 a1 n1 c1 X1 a2 n2 c2 X2 W g0 g1 g2).mono fun e W' ⟨he,hg⟩=>?_;subst he;refine ⟨_,rfl,qlW (tb:=4) (by kernel_rfl) ?_ rfl rfl (by kernel_rfl) Tryz.underlying4 hW' hg⟩;rw [Tryz.params4];intro t ht;simp only [List.mem_cons,List.not_mem_nil,or_false,or_self,or_self_left] at ht;rcases ht with rfl | rfl | rfl
 ·exact ⟨by kernel_rfl,of_decide_eq_true (by kernel_rfl)⟩
 ·exact ⟨by kernel_rfl,of_decide_eq_true (by kernel_rfl)⟩
 ·exact ⟨by kernel_rfl,of_decide_eq_true (by kernel_rfl)⟩
theorem lifted (os : Os) (started : os.Started) (H : Type) (enc : TypeId × Value -> H) :
  ReturnsInHanded {} Tryz.checked os 4 .any (Rows.resultantRootsSpec.pre6 enc Tryz.prog Tryz.f4 Rows.resultantRootsRow.domain false) (Rows.resultantRootsSpec.post enc Tryz.prog Tryz.f4 false true false false):=by
 refine returnsInHanded_of_change (C:=Tryz.checked) own started (by kernel_rfl) Tryz.func4
  (ChangeSpec.witness6 (enc:=enc) (C:=Tryz.checked) false ⟨#[],#[.int .i8 0,.slice none 0 0,.slice none 0 0],[]⟩ 8 (by kernel_rfl) (by kernel_rfl) (by kernel_rfl) (by kernel_rfl)) ?_
 intro W base args ds gs before hval hW _ _;exact contract H enc W base args ds gs before hval hW
theorem kInp:(Rows.resultantRootsRow.inPlace == Tryz.pinned.checked.prog.inPlace 4)=true:=by kernel_rfl
theorem kUnf:(Rows.resultantRootsRow.unfollowed == Tryz.pinned.checked.prog.unfollowed 4)=true:=by kernel_rfl
theorem kRec:(Rows.resultantRootsRow.recurses == Tryz.pinned.checked.prog.recurses 4)=true:=by kernel_rfl
theorem kNam:(Rows.resultantRootsRow.named == Tryz.pinned.checked.prog.varsNamed 4)=true:=by kernel_rfl
theorem kLaid:laidOutB Tryz.pinned.checked.prog=true:=by kernel_rfl
theorem closed:joinedFacts Tryz.pinned.checked.prog 4 Tryz.f4 Rows.resultantRootsSpec Rows.resultantRootsRow=true:=by
 unfold joinedFacts;rw [kInp,kUnf,kRec,kNam,kLaid]
 kernel_rfl
theorem proved:Rows.ResultantRootsSaid:=
 OpenClaim.holds_of_wide (p:=Tryz.pinned) (s:=Rows.resultantRootsSpec) (c:=Rows.resultantRootsRow) 4 Tryz.f4 rfl rfl rfl rfl rfl rfl rfl ⟨rfl,rfl,rfl,rfl,rfl⟩ rfl rfl rfl rfl rfl (by kernel_rfl) Tryz.func4 closed
  (of_decide_eq_true (by kernel_rfl)) (by unfold Func.isWrapper;first | (rw [if_pos (by decide +kernel)];kernel_rfl) | (rw [if_neg (by decide +kernel)];exact ⟨rfl,rfl⟩))
  (fun os started H enc _=>lifted os started H enc)
end resultantRoots
end Go.Proofs.YtmcfpnmoklnhoaaGreat
