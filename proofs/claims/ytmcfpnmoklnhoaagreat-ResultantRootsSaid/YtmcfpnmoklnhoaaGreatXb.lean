/- cylinderref26.Linear: a product of linear factors. cylinderref26.Values. cylinderref26.Differences. -/
import Derived.Test.YtmcfpnmoklnhoaaGreatXa
import Derived.Test.YtmcfpnmoklnhoaaGreatVe
set_option linter.unusedVariables false
set_option maxRecDepth 100000
set_option maxHeartbeats 400000000
set_option linter.unusedSimpArgs false

namespace Go.Proofs.YtmcfpnmoklnhoaaGreat
open Go.RowKit

def qie (w:World) (a:Option Addr) (n cap:Nat) (r:Nat->Int):Prop:=
 n<=cap/\cap<=maxLen /\ ∀ i,i<n->(-32768<=r i/\r i<=32767) /\ ∃ b off,a=some ⟨b,off,none⟩/\b<w.heap.size/\w.cell? ⟨b,off+i,none⟩=some (.int .i16 (r i))
theorem qie.ext {w w':World} {a:Option Addr} {n cap:Nat} {r:Nat->Int} (h:qie w a n cap r) (he:Ext w w'):qie w' a n cap r:=
 ⟨h.1,h.2.1,fun i hi=>by
  obtain ⟨q,b,off,h1,h2,h3⟩:=h.2.2 i hi
  exact ⟨q,b,off,h1,Nat.lt_of_lt_of_le h2 he.size,by rw [he.cell h2];exact h3⟩⟩
def lf (c:Int) (r:Nat->Int):Nat->Nat->Int
 | 0,i=>if i=0 then c else 0
 | k+1,i=>(if i=0 then 0 else lf c r k (i - 1)) - r k*lf c r k i
theorem qcq (c:Int) (r:Nat->Int) : ∀ k i,k<i->lf c r k i=0
 | 0,i,h=>if_neg (by omega)
 | k+1,i,h=>by
  show (if i=0 then 0 else lf c r k (i - 1)) - r k*lf c r k i=0;rw [if_neg (by omega),qcq c r k _ (by omega),qcq c r k _ (by omega)];simp
theorem qjE (c:Int) (r:Nat->Int) : ∀ k,lf c r k k=c
 | 0=>rfl
 | k+1=>by
  show (if k+1=0 then 0 else lf c r k (k+1 - 1)) - r k*lf c r k (k+1)=c;rw [if_neg (by omega),Nat.add_sub_cancel,qjE c r k,qcq c r k _ (by omega)];simp
def qnF (r:Int) (i:Nat):Int:=if i=0 then -r else if i=1 then 1 else 0
theorem qo4 (f:Nat->Int) (r:Int) (i:Nat) : ∀ V,zC f (qnF r) V i=(if 1<=i/\i - 1<V then f (i - 1) else 0) - r*(if i<V then f i else 0)
 | 0=>by simp [zC]
 | V+1=>by
  show zC f (qnF r) V i+(if V<=i then f V*qnF r (i - V) else 0)=_;rw [qo4 f r i V];rcases Nat.lt_trichotomy i V with h | h | h
  ·rw [if_neg (show ¬ V<=i by omega),if_pos h,if_pos (show i<V+1 by omega)]
   by_cases h1:1<=i
   ·rw [if_pos (by omega),if_pos (by omega)];omega
   ·rw [if_neg (by omega),if_neg (by omega)];omega
  ·subst h;rw [if_pos (Nat.le_refl _),if_neg (show ¬ i<i by omega),if_pos (show i<i+1 by omega),Nat.sub_self];have e:qnF r 0 = -r:=rfl;rw [e]
   by_cases h1:1<=i
   ·rw [if_pos (by omega),if_pos (by omega)];grind
   ·rw [if_neg (by omega),if_neg (by omega)];grind
  ·rw [if_pos (show V<=i by omega),if_neg (show ¬ i<V by omega)]
   by_cases h1:i=V+1
   ·subst h1
    have e:qnF r (V+1 - V)=1:=by unfold qnF;rw [if_neg (by omega),if_pos (by omega)]
    rw [e,if_neg (by omega),if_pos (by omega),if_neg (by omega),Nat.add_sub_cancel];simp
   ·have e:qnF r (i - V)=0:=by unfold qnF;rw [if_neg (by omega),if_neg (by omega)]
    rw [e,if_neg (by omega),if_neg (by omega),if_neg (by omega)];simp
theorem qor {c:Int} {r:Nat->Int} {n:Nat} (hc:dlen c.natAbs<=1) (hr : ∀ i,i<n->dlen (r i).natAbs<=1) : ∀ k i,k<=n->dlen (lf c r k i).natAbs<=1+2*k
 | 0,i,_=>by
  show dlen (if i=0 then c else 0).natAbs<=_
  split
  ·exact hc
  ·exact Nat.le_trans (by decide:dlen (0:Int).natAbs<=0) (Nat.zero_le _)
 | k+1,i,h=>by
  have h1:dlen (if i=0 then (0:Int) else lf c r k (i - 1)).natAbs<=1+2*k:=by
   split
   ·exact Nat.le_trans (by decide:dlen (0:Int).natAbs<=0) (Nat.zero_le _)
   ·exact qor hc hr k _ (by omega)
  have h2:dlen (r k*lf c r k i).natAbs<=2+2*k:=by
   rw [Int.natAbs_mul];have:=qaD (r k).natAbs (lf c r k i).natAbs;have:=hr k (by omega);have:=qor hc hr k i (by omega);omega
  have h3:=qft (if i=0 then (0:Int) else lf c r k (i - 1)) (-(r k*lf c r k i));have h4:=qq2 h2;rw [<- Int.sub_eq_add_neg] at h3;show dlen ((if i=0 then (0:Int) else lf c r k (i - 1)) - r k*lf c r k i).natAbs<=_;omega
theorem qsu {c:Int} {r z:Nat->Int} {k n:Nat} (h : ∀ i,zx0 n z i=lf c r k i) (g:Nat->Int) (hg:g 0 = -r k) (hg1:g 1=1) (i:Nat):zx0 (cvN (tz z n) 2) (zC z (zx0 2 g) (tz z n)) i=lf c r (k+1) i:=by
 rw [qtA,qte]
 have e:zx0 2 g=qnF (r k):=by
  funext j
  unfold zx0 qnF;rcases (show j=0∨j=1∨2<=j by omega) with rfl | rfl | hj
  ·rw [if_pos (by omega),if_pos rfl,hg]
  ·rw [if_pos (by omega),if_neg (by omega),if_pos rfl,hg1]
  ·rw [if_neg (by omega),if_neg (by omega),if_neg (by omega)]
 rw [e,qo4];show _=(if i=0 then 0 else lf c r k (i - 1)) - r k*lf c r k i;rw [<- h i,<- h (i - 1)];unfold zx0
 by_cases h0:i=0
 ·subst h0;rw [if_neg (by omega),if_pos rfl]
 ·rw [if_neg h0]
  congr 1
  by_cases h1:i - 1<n
  ·rw [if_pos (by omega),if_pos h1]
  ·rw [if_neg (by omega),if_neg h1]
theorem qdl {z:Int} (h : -1000000<=z/\z<=1000000):dlen z.natAbs<=1:=(qan _ _).2 (by omega)
theorem qle (w:World) (z:Nat->Int) (a:Int) (ha:z 0=a) (h : -1000000<=a/\a<=1000000):qoW (w.alloc (.cells #[.int .i64 a] 2)) (some ⟨w.heap.size,0,none⟩) 1 1 z:=by
 have hB:=Blk.of_arr w #[.int .i64 a] 2 1 rfl;refine ⟨by decide,by decide,by decide,fun i hi=>?_⟩
 obtain rfl:i=0:=by omega
 exact ⟨by rw [ha];exact h,_,_,rfl,hB.lt,by rw [ha];exact hB.cell (i:=0) (by omega)⟩
def qtM (w:World) (N:Nat) (f:Nat->Int) (e:Ending) (w':World):Prop:=∃ a n cap X z,e = .returned (.slice a n cap)/\qb5 M0 w' a n cap X z/\n<=N/\(∀ i,zx0 n z i=f i)/\Ext w w'
theorem qlO (c : Int) (a : Option Addr) (n cap : Nat) (r : Nat -> Int) (w : World) (hc : -128 <= c /\ c <= 127) (h : qie w a n cap r) (hn : n <= 5) :
  Calls Tryz.prog 21 #[.int .i64 c,.slice a n cap] w (qtM w (n+1) (lf c r n)):=by
 have HR:=Lib.hid h;have hcr:Hid (dlen c.natAbs<=1 /\ ∀ i,i<n->dlen (r i).natAbs<=1):=⟨qdl (by omega),fun i hi=>qdl (by have:=(h.2.2 i hi).1;omega)⟩;have hcap:=h.1;have hcm:=h.2.1;unfold maxLen at hcm;clear h
 go_enter Tryz.func21,Tryz.ntmps21
 have hz:=qle w (fun i=>if i=0 then c else 0) c rfl (by omega);have HE0:Hid (Ext w (w.alloc (.cells #[.int .i64 c] 2))):=(Ext.refl w).alloc _;have CO:=Lib.hid (qnM M0 _ 1 1 _ _ (mb0 _) hz);clear hz;go_wp2_with (fail);refine CO.out.mono ?_;rintro e w1 ⟨a',X,rfl,hu,he1⟩
 have HU:Hid (∃ X z,qb5 M0 w1 a' (tz (fun i=>if i=0 then c else 0) 1) 1 X z /\ ∀ i,zx0 (tz (fun i=>if i=0 then c else 0) 1) z i=lf c r 0 i):=⟨X,_,hu,fun i=>by
  rw [qhi];unfold zx0 lf
  by_cases h:i=0
  ·subst h;rfl
  ·rw [if_neg (by omega),if_neg h]⟩
 have htz:=qdj (fun i=>if i=0 then c else 0) 1;have HE1:=Lib.hid (HE0.out.trans he1);clear hu he1 HE0 CO;generalize tz (fun i=>if i=0 then c else 0) 1=nu at *;go_wp2
 go_loopw [6,5] (fun iv fv wr=>∃ (k:Nat) (au:Option Addr) (nu cu:Nat),k<=n/\nu<=k+1/\iv = .int .i64 (k:Int)/\fv = .slice au nu cu/\Hid (∃ X z,qb5 M0 wr au nu cu X z /\ ∀ i,zx0 nu z i=lf c r k i)/\Hid (Ext w wr)) (fun iv _ _=>n - (intOf iv).toNat)
 case atStart=>exact ⟨0,a',nu,1,Nat.zero_le _,htz,rfl,rfl,HU,HE1⟩
 case round=>
  clear HU HE1 htz;obtain ⟨k,au,nu',cu,hk,hnu,rfl,rfl,HU,HE⟩:=hrel
  by_cases hlt:k<n
  ·have hkI:(k:Int)<(n:Int):=by omega
   have hk0:(0:Int)<=(k:Int):=Int.natCast_nonneg _;have HKN:Hid (k<n/\nu'<=k+1):=⟨hlt,hnu⟩;obtain ⟨hb,g,o,ha,hgl,hcell⟩:=(HR.out.ext HE.out).2.2 k hlt;subst ha;have HHB:=Lib.hid hb;have hnw:IntKind.i64.wrap (-(r k)) = -(r k):=IntWalk.i64_in _ (by omega);have hz:=qeY wr (fun i=>if i=0 then -(r k) else 1) (-(r k)) 1 rfl rfl (by omega);have HE0:Hid (Ext wr (wr.alloc (.cells #[.int .i64 (-(r k)),.int .i64 1] 2))):=(Ext.refl wr).alloc _;have CO:=Lib.hid (qnM M0 _ 2 2 _ _ (mb0 _) hz);rw [show tz (fun i:Nat=>if i=0 then -(r k) else (1:Int)) 2=2 from qge (by omega) (by simp)] at CO;clear hz hlt hnu;go_wp2_with (fail);refine CO.out.mono ?_;rintro e w2 ⟨a2,X2,rfl,hu2,he2⟩;obtain ⟨X1,z1,hu1,hz1⟩:=HU.out;have HE2:=Lib.hid ((HE.out.trans HE0.out).trans he2);have HZ1:=Lib.hid hz1
   have hm:=qrM M0 au nu' cu X1 z1 a2 2 2 X2 _ (1+2*n) 1 w2 (mb0 _) ((hu1.ext HE0.out).ext he2) hu2 (by have:=HKN.out;omega) (by omega) (fun i hi=>by
    have h5:=hz1 i;unfold zx0 at h5;rw [if_pos hi] at h5;rw [h5]
    exact Nat.le_trans (qor hcr.out.1 hcr.out.2 k i (by have:=HKN.out;omega)) (by have:=HKN.out;omega)) (fun i hi=>by
    have:=HHB.out;refine qdl ?_
    split <;> omega) (by omega)
   rw [show tz (fun i:Nat=>if i=0 then -(r k) else (1:Int)) 2=2 from qge (by omega) (by simp)] at hm;have CM:=Lib.hid hm;clear hm hu1 hu2 hz1 he2 HU HE HE0 CO hb hcell hgl;go_wp2_with (fail);refine CM.out.mono ?_;rintro e w3 ⟨a3,X3,rfl,hu3,he3⟩;have HU3:Hid (∃ X z,qb5 M0 w3 a3 (cvN (tz z1 nu') 2) (cvN (tz z1 nu') 2) X z /\ ∀ i,zx0 (cvN (tz z1 nu') 2) z i=lf c r (k+1) i):=⟨X3,_,hu3,fun i=>qsu HZ1.out (fun i=>if i=0 then -(r k) else 1) rfl rfl i⟩;have HE3:=Lib.hid (HE2.out.trans he3)
   have hcv:cvN (tz z1 nu') 2<=k+1+1:=by
    have:=qdj z1 nu';have:=HKN.out.2;unfold cvN
    split <;> omega
   clear hu3 he3 HE2 CM HZ1 HHB;generalize cvN (tz z1 nu') 2=nv at *;go_wp2
   go_roundw
   case rel=>exact ⟨k+1,a3,nv,nv,HKN.out.1,hcv,by go_num,rfl,HU3,HE3⟩
   case measure=>have:=HKN.out;simp [intOf];omega
  ·obtain rfl:k=n:=by omega
   have hge : ¬ (k:Int)<(k:Int):=by omega
   have HF:Hid (qtM w (k+1) (lf c r k) (.returned (.slice au nu' cu)) wr):=by
    obtain ⟨X,z,hu,hz⟩:=HU.out;exact ⟨au,nu',cu,X,z,rfl,hu,hnu,hz,HE.out⟩
   clear HU HE;go_wp2;go_ret;exact HF.out


def pr (f:Nat->Int):Nat->Int
 | 0=>1
 | k+1=>pr f k*f k
theorem qkx {f:Nat->Int} {E n:Nat} (h : ∀ i,i<n->dlen (f i).natAbs<=E) : ∀ k,k<=n->dlen (pr f k).natAbs<=1+k*E
 | 0,_=>by show dlen (1:Int).natAbs<=_;exact Nat.le_trans (by decide:dlen (1:Int).natAbs<=1) (by omega)
 | k+1,hk=>by
  have h1:=qkx h k (by omega);have h2:=h k (by omega);have h3:=qaD (pr f k).natAbs (f k).natAbs;rw [Nat.succ_mul];show dlen (pr f k*f k).natAbs<=_;rw [Int.natAbs_mul];omega
theorem ofI {M:Nat->Prop} (z:Int) (w:World) (hM:Mb M w) (h : -1000000<=z/\z<=1000000):Calls Tryz.prog 22 #[.int .i64 z] w (qcE M w z):=(qer z w hM (by omega) (by omega)).mono fun _ _ h=>.of h
def S1B (g:Nat) (x:IE) (w:World):Prop:=JC w g 0 x/\g<w.heap.size
theorem S1B.ext {g:Nat} {x:IE} {w w':World} (h:S1B g x w) (he:Ext w w'):S1B g x w':=⟨h.1.ext h.2 he,Nat.lt_of_lt_of_le h.2 he.size⟩
def S1C (g:Nat) (x:IE) (b o:Nat) (v:Value) (w:World):Prop:=JC w g 0 x/\w.cell? ⟨b,o,none⟩=some v/\g<w.heap.size/\b<w.heap.size
theorem S1C.ext {g:Nat} {x:IE} {b o:Nat} {v:Value} {w w':World} (h:S1C g x b o v w) (he:Ext w w'):S1C g x b o v w':=⟨h.1.ext h.2.2.1 he,by rw [he.cell h.2.2.2];exact h.2.1,Nat.lt_of_lt_of_le h.2.2.1 he.size,Nat.lt_of_lt_of_le h.2.2.2 he.size⟩
theorem qkg {M : Nat -> Prop} {w w1 : World} {v : IE} {S : Int} (hM : Mb M w) (hv : IX (fun b => M b ∨ b = w.heap.size) w1 v S) (he : Ext (w.alloc (.cells #[.bool false, .slice none 0 0] 30)) w1) :
  Ac (M3 M w.heap.size w1.heap.size) w w.heap.size w1.heap.size v S (w1.alloc (.cells #[.bool v.b,.slice v.a v.n v.p] 30)):=by
 have hB:=Blk.of_arr w #[.bool false,.slice none 0 0] 30 2 rfl;have hE:=(Ext.refl w).alloc (.cells #[.bool false,.slice none 0 0] 30);have hEa:=(Ext.refl w1).alloc (.cells #[.bool v.b,.slice v.a v.n v.p] 30);have hB1:=Blk.of_arr w1 #[.bool v.b,.slice v.a v.n v.p] 30 2 rfl;have hlt:=(hB.ext he).lt;exact ⟨hB1,(hB.ext he).ext hEa,(hv.more fun g h=>h.imp id fun e=>by rw [e];exact Nat.le_refl _).ext hEa,qb9 (qb9 ((hM.ext (hE.trans he)).ext hEa) (Nat.lt_of_lt_of_le hlt hEa.size)) hB1.lt,(hE.trans he).trans hEa,by omega,by omega,by omega,.inr rfl,.inl (.inr rfl)⟩
theorem qlN (M : Nat -> Prop) (c : Int) (a : Option Addr) (n cap : Nat) (r : Nat -> Int) (a2 : Option Addr) (n2 c2 : Nat) (X2 : Nat -> IE) (z : Nat -> Int) (w : World) (hM : Mb M w) (hc : -128 <= c /\ c <= 127) (h : qie w a n cap r) (hn : n <= 5) (h2 : qb5 M w a2 n2 c2 X2 z) (hn2 : n2 <= 6) (hA : ∀ i, i < n2 -> dlen (z i).natAbs <= 7) (d : Nat) (hd : tz z n2 = d + 1) :
  Calls Tryz.prog 24 #[.int .i64 c,.slice a n cap,.slice a2 n2 c2] w (qcE M w (c ^ d*pr (fun i=>psI (r i) z n2) n)):=by
 have hd5:d<=5:=by have:=qdj z n2;omega
 have HR:=Lib.hid h;have HU:=Lib.hid h2;have HC:=Lib.hid hc;have HMM:=Lib.hid hM;have HDD:Hid (tz z n2=d+1):=hd;have hcap:=h.1;have hcm:=h.2.1;unfold maxLen at hcm
 have HEV:Hid (∀ i,i<n->dlen (psI (r i) z n2).natAbs<=19):=fun i hi=>by
  have h1:=qmz (z:=z) (n:=n2) (qdl (z:=r i) (by have:=(h.2.2 i hi).1;omega)) hA n2 (Nat.le_refl _);rw [qmy] at h1;omega
 have HAZ:=Lib.hid hA;clear h h2 hd hA
 go_enter Tryz.func24,Tryz.ntmps24
 have hE0:=(Ext.refl w).alloc (.cells #[.bool false,.slice none 0 0] 30);have hM1:Mb (fun b=>M b∨b=w.heap.size) (w.alloc (.cells #[.bool false,.slice none 0 0] 30)):=qb9 (hM.ext hE0) (by simp)
 go_upto_region 1 with (fail)
 go_wp2_with (fail);refine (ofI 1 _ hM1 (by omega)).mono ?_;rintro e w1 ⟨v,rfl,hv,he1⟩;have HA:Hid (Ac (M3 M w.heap.size w1.heap.size) w w.heap.size w1.heap.size v (c ^ 0) _):=qkg hM (by rw [Int.pow_zero];exact hv) he1
 have hsz:w.heap.size<w1.heap.size:=by have:=he1.size;simp at this;omega
 clear hv he1 hE0 hM1 hM
 go_upto_region 2 with (fail)
 generalize w1.heap.size=gv at *;generalize w1.alloc (.cells #[.bool v.b,.slice v.a v.n v.p] 30)=W1 at *;go_wp2
 go_loopw [8] (fun iv wr=>∃ (t:Nat) (x:IE),t<=d/\iv = .int .i64 (t:Int)/\Hid (Ac (M3 M w.heap.size gv) w w.heap.size gv x (c ^ t) wr)) (fun iv _=>d - (intOf iv).toNat)
 case atStart=>exact ⟨0,v,Nat.zero_le _,rfl,HA⟩
 case round=>
  clear HA;obtain ⟨t,x,ht,rfl,HA⟩:=hrel;have CD:=Lib.hid (qhl M a2 n2 c2 X2 z wr (HU.out.ext HA.out.e));rw [HDD.out,show (((d+1:Nat):Int) - 1)=(d:Int) by omega] at CD;go_wp2_with (fail);refine CD.out.mono ?_;rintro e w2 ⟨rfl,he2⟩;have HA2:=Lib.hid (HA.out.ext he2);clear HA he2 CD
  by_cases hlt:t<d
  ·have htI:(t:Int)<(d:Int):=by omega
   have HTD:Hid (t<d):=hlt;have hEd:=(Ext.refl w2).drew;have hS:S1B gv x w2.drew:=S1B.ext ⟨qbK HA2.out.v,HA2.out.v.lt⟩ hEd;have HAD:=Lib.hid (HA2.out.ext hEd);have hvwd:gv<w2.drew.heap.size:=hS.2;clear hEd HA2 hlt
   go_upto_region 5 with (fail)
   refine qad (S1B gv x) 4 (by kernel_rfl) hS (fun hHeld=>?_);clear hS;generalize w2.drew=wd at *
   have C3:Hid (∀ (W:World) (u:IE),Ext wd W->IX (M3 M w.heap.size gv) W u c->Calls Tryz.prog 65 #[.agg #[.bool x.b,.slice x.a x.n x.p],.agg #[.bool u.b,.slice u.a u.n u.p]] W (qcE (M3 M w.heap.size gv) W (c ^ t*c))):=fun W u he hu=>
    qqx x u _ _ W (HAD.out.m.ext he) (HAD.out.x.ext he) hu (by
     have e1:=qdl (z:=c) (by have:=HC.out;omega);have e2:=qc5 e1 t;have e3:=HTD.out
     omega)
   (refine tkB [0,1] ?_;(iterate 2 (refine tk1 (oi:=?_) (v:=?_) (by kernel_rfl) (by first | exact hSn | exact hHeld) ?_ ?_ ?_ ?_ ?_;rotate_left 2;(simp only [xgA,xgB,xgC];rfl);rfl;(intro wS hSw;obtain ⟨⟨S1,S2⟩,S3⟩:=hSw;go_simp;try with_reducible rfl);(exact fun _ _ _ h=>h);(try simp only [Act.put,xgD,xgE,xgF])));refine tkE ?_);((refine qaa 2 (o:=?_) (by kernel_rfl) ?_ ?_;rotate_left 1;(simp only [xgA,xgB,xgC];rfl);intro K hK);go_simp;(refine (ofI c wd HAD.out.m (by have:=HC.out;omega)).mono ?_);rintro e_ u2 ⟨u,rfl,hu,ed1⟩;go_wp2_with (fail);(try clear hSn);(have hSn:=hHeld.ext ed1);(refine hK.out _ _ (fun _=>hSn) ?_);clear hK K;(try simp only [Act.put,xgD,xgE,xgF]));((refine qaa 3 (o:=?_) (by kernel_rfl) ?_ ?_;rotate_left 1;(simp only [xgA,xgB,xgC];rfl);intro K hK);go_simp;(refine (C3.out _ u ed1 hu).mono ?_);rintro e_ u3 ⟨v2,rfl,hv2,ed2⟩;go_wp2_with (fail);(try clear hSn);(have hSn:=hHeld.ext (ed1.trans ed2));(refine hK.out _ _ (fun _=>hSn) ?_);clear hK K;(try simp only [Act.put,xgD,xgE,xgF]));have ed3:=ed1.trans ed2;have hA5:=HAD.out.ext ed3
   have HA6:Hid (Ac (M3 M w.heap.size gv) w w.heap.size gv v2 (c ^ (t+1)) (set2 u3 gv 0 (.bool v2.b) (.slice v2.a v2.n v2.p))):=by
    rw [Int.pow_succ];exact hA5.sum hv2
   obtain ⟨W6,hW6⟩ : ∃ W6,set2 u3 gv 0 (.bool v2.b) (.slice v2.a v2.n v2.p)=W6:=⟨_,rfl⟩;obtain ⟨⟨k0,k1⟩,hf0,hf1,hg5⟩:=hA5.put;rw [hW6] at HA6;unfold set2 at hW6;have HW6:=Lib.hid hW6;clear hA5 hu hv2 ed1 ed2 ed3 hW6 HAD C3 hHeld hSn;((refine qaa 4 (o:=?_) (by kernel_rfl) ?_ ?_;rotate_left 1;(simp only [xgA,xgB,xgC];rfl);intro K hK);go_simp;(refine hK.out _ _ (fun h=>absurd rfl h) ?_);clear hK K;refine qac (by kernel_rfl) ?_ _)
   go_upto_region 4 with (fail)
   rw [HW6.out];clear k0 k1 hf0 hf1 hg5 HW6 hvwd;go_wp2
   go_roundw
   case rel=>exact ⟨t+1,v2,HTD.out,by go_num,HA6⟩
   case measure=>have:=HTD.out;simp [intOf];omega
  ·obtain rfl:t=d:=by omega
   have hge : ¬ (t:Int)<(t:Int):=by omega
   have HA3:Hid (Ac (M3 M w.heap.size gv) w w.heap.size gv x (c ^ t*pr (fun i=>psI (r i) z n2) 0) w2):=by
    show Ac _ _ _ _ _ (c ^ t*1) _;rw [Int.mul_one];exact HA2.out
   clear HA2;go_wp2
   go_loopw [9] (fun iv wr=>∃ (k:Nat) (x:IE),k<=n/\iv = .int .i64 (k:Int)/\Hid (Ac (M3 M w.heap.size gv) w w.heap.size gv x (c ^ t*pr (fun i=>psI (r i) z n2) k) wr)) (fun iv _=>n - (intOf iv).toNat)
   case atStart=>exact ⟨0,x,Nat.zero_le _,rfl,HA3⟩
   case round=>
    clear HA3;obtain ⟨k,x,hk,rfl,HA⟩:=hrel
    by_cases hlt:k<n
    ·have hkI:(k:Int)<(n:Int):=by omega
     have hk0:(0:Int)<=(k:Int):=Int.natCast_nonneg _;have hkw:IntKind.i64.wrap (k:Int)=(k:Int):=IntWalk.i64_in _ (by omega);have HKN:Hid (k<n):=hlt;obtain ⟨hb,gb,o,ha,hgl,hcell⟩:=(HR.out.ext HA.out.e).2.2 k hlt;subst ha;have HHB:=Lib.hid hb;have hrw:IntKind.i64.wrap (r k)=r k:=IntWalk.i64_in _ (by omega);have hEd:=(Ext.refl wr).drew;have hS:S1C gv x gb (o+k) (.int .i16 (r k)) wr.drew:=S1C.ext ⟨qbK HA.out.v,hcell,HA.out.v.lt,hgl⟩ hEd;have HAD:=Lib.hid (HA.out.ext hEd);have hvwd:gv<wr.drew.heap.size:=hS.2.2.1;have hbwd:gb<wr.drew.heap.size:=hS.2.2.2;clear hEd HA hlt hb hcell hgl
     go_upto_region 9 with (fail)
     refine qad (S1C gv x gb (o+k) (.int .i16 (r k))) 10 (by kernel_rfl) hS (fun hHeld=>?_);clear hS;generalize wr.drew=wd at *
     have hms : ∀ b,M3 M w.heap.size gv b->M b∨w.heap.size<=b:=fun b hb=>by
      rcases hb with (hb | e) | e
      ·exact .inl hb
      ·exact .inr (by omega)
      ·exact .inr (by have:=HAD.out.d.1;omega)
     have C8:Hid (∀ (W:World) (u:IE),Ext wd W->IX (M3 M w.heap.size gv) W u (r k)->Calls Tryz.prog 79 #[.slice a2 n2 c2,.agg #[.bool u.b,.slice u.a u.n u.p]] W (qcE (M3 M w.heap.size gv) W (psI (r k) z n2))):=fun W u he hu=>
      qpU _ a2 n2 c2 X2 z u (r k) 7 1 W (HAD.out.m.ext he) ((HU.out.more hms).ext (HAD.out.e.trans he)) hu (by omega) HAZ.out (qdl (by have:=HHB.out;omega)) (by omega)
     have C9:Hid (∀ (W:World) (u:IE),Ext wd W->IX (M3 M w.heap.size gv) W u (psI (r k) z n2)->Calls Tryz.prog 65 #[.agg #[.bool x.b,.slice x.a x.n x.p],.agg #[.bool u.b,.slice u.a u.n u.p]] W (qcE (M3 M w.heap.size gv) W (c ^ t*pr (fun i=>psI (r i) z n2) k*psI (r k) z n2))):=fun W u he hu=>
      qqx x u _ _ W (HAD.out.m.ext he) (HAD.out.x.ext he) hu (by
       have e0:=HKN.out;have e1:=qdl (z:=c) (by have:=HC.out;omega);have e2:=qc5 e1 t;have e3:=qkx HEV.out k (by omega);have e4:=HEV.out k e0;have e5:=qaD (c ^ t).natAbs (pr (fun i=>psI (r i) z n2) k).natAbs;rw [Int.natAbs_mul]
       omega)
     clear hms;(refine tkB [0,1,2,3,4,5,6] ?_;(iterate 7 (refine tk1 (oi:=?_) (v:=?_) (by kernel_rfl) (by first | exact hSn | exact hHeld) ?_ ?_ ?_ ?_ ?_;rotate_left 2;(simp only [xgA,xgB,xgC];rfl);rfl;(intro wS hSw;obtain ⟨⟨S1,S2⟩,S3,S4,S5⟩:=hSw;go_simp;try with_reducible rfl);(exact fun _ _ _ h=>h);(try simp only [Act.put,xgD,xgE,xgF])));refine tkE ?_);((refine qaa 7 (o:=?_) (by kernel_rfl) ?_ ?_;rotate_left 1;(simp only [xgA,xgB,xgC];rfl);intro K hK);go_simp;(refine (ofI (r k) wd HAD.out.m (by have:=HHB.out;omega)).mono ?_);rintro e_ u2 ⟨u,rfl,hu,ed1⟩;go_wp2_with (fail);(try clear hSn);(have hSn:=hHeld.ext ed1);(refine hK.out _ _ (fun _=>hSn) ?_);clear hK K;(try simp only [Act.put,xgD,xgE,xgF]));((refine qaa 8 (o:=?_) (by kernel_rfl) ?_ ?_;rotate_left 1;(simp only [xgA,xgB,xgC];rfl);intro K hK);go_simp;(refine (C8.out _ u ed1 hu).mono ?_);rintro e_ u3 ⟨v1,rfl,hv1,ed2⟩;go_wp2_with (fail);(try clear hSn);(have hSn:=hHeld.ext (ed1.trans ed2));(refine hK.out _ _ (fun _=>hSn) ?_);clear hK K;(try simp only [Act.put,xgD,xgE,xgF]));((refine qaa 9 (o:=?_) (by kernel_rfl) ?_ ?_;rotate_left 1;(simp only [xgA,xgB,xgC];rfl);intro K hK);go_simp;(refine (C9.out _ v1 (ed1.trans ed2) hv1).mono ?_);rintro e_ u4 ⟨v2,rfl,hv2,ed3⟩;go_wp2_with (fail);(try clear hSn);(have hSn:=hHeld.ext ((ed1.trans ed2).trans ed3));(refine hK.out _ _ (fun _=>hSn) ?_);clear hK K;(try simp only [Act.put,xgD,xgE,xgF]));have ed4:=(ed1.trans ed2).trans ed3;have hA5:=HAD.out.ext ed4
     have HA6:Hid (Ac (M3 M w.heap.size gv) w w.heap.size gv v2 (c ^ t*pr (fun i=>psI (r i) z n2) (k+1)) (set2 u4 gv 0 (.bool v2.b) (.slice v2.a v2.n v2.p))):=by
      have h9:=hA5.sum hv2;rw [Int.mul_assoc] at h9;exact h9
     obtain ⟨W6,hW6⟩ : ∃ W6,set2 u4 gv 0 (.bool v2.b) (.slice v2.a v2.n v2.p)=W6:=⟨_,rfl⟩;obtain ⟨⟨k0,k1⟩,hf0,hf1,hg5⟩:=hA5.put;rw [hW6] at HA6;unfold set2 at hW6;have HW6:=Lib.hid hW6;clear hA5 hu hv1 hv2 ed1 ed2 ed3 ed4 hW6 HAD C8 C9 hHeld hSn;((refine qaa 10 (o:=?_) (by kernel_rfl) ?_ ?_;rotate_left 1;(simp only [xgA,xgB,xgC];rfl);intro K hK);go_simp;(refine hK.out _ _ (fun h=>absurd rfl h) ?_);clear hK K;refine qac (by kernel_rfl) ?_ _)
     go_upto_region 8 with (fail)
     rw [HW6.out];clear k0 k1 hf0 hf1 hg5 HW6 hvwd hbwd;go_wp2
     go_roundw
     case rel=>exact ⟨k+1,v2,HKN.out,by go_num,HA6⟩
     case measure=>have:=HKN.out;simp [intOf];omega
    ·obtain rfl:k=n:=by omega
     have hge : ¬ (k:Int)<(k:Int):=by omega
     obtain ⟨⟨s0,s1,g0,g1⟩,⟨r0,r1⟩,hR⟩:=HA.out.ret (M:=M) (fun g hg=>.inl (.inl hg));obtain ⟨v0,v1⟩:=qbK HA.out.v;have hvl:=HA.out.v.lt;have hrl:=HA.out.r.lt;have HF:=Lib.hid hR;clear hR HA;go_wp2;exact bodyPost_ret (v:=.agg #[.bool x.b,.slice x.a x.n x.p]) (by simp [results,Tryz.results24,go_sem,r0,r1]) rfl HF.out


def qtD (M:Nat->Prop) (wd:World) (z:Int) (s9:Value) (wx:World):Prop:=∃ (a:Nat) (v:IE),s9 = .pointer (some ⟨a,0,none⟩)/\JC wx a 0 v/\wd.heap.size<=a/\IX M wx v z/\Ext wd wx
def S12 (b o1 o2:Nat) (x y:Value) (w:World):Prop:=w.cell? ⟨b,o1,none⟩=some x/\w.cell? ⟨b,o2,none⟩=some y/\b<w.heap.size
theorem S12.ext {b o1 o2:Nat} {x y:Value} {w w':World} (h:S12 b o1 o2 x y w) (he:Ext w w'):S12 b o1 o2 x y w':=⟨by rw [he.cell h.2.2];exact h.1,by rw [he.cell h.2.2];exact h.2.1,Nat.lt_of_lt_of_le h.2.2 he.size⟩
def dq (r:Nat->Int) (i k:Nat):Int:=(r i - r k)*(r i - r k)
def dqs (r:Nat->Int) (i:Nat):Int:=pr (dq r i) i
theorem qq1 {r:Nat->Int} {i k:Nat} (h1 : -32768<=r i/\r i<=32767) (h2 : -32768<=r k/\r k<=32767):dlen (dq r i k).natAbs<=2:=by
 unfold dq;rw [Int.natAbs_mul];have h:=qdl (z:=r i - r k) (by omega);have:=qaD (r i - r k).natAbs (r i - r k).natAbs;omega
theorem qfI (c : Int) (a : Option Addr) (n cap : Nat) (r : Nat -> Int) (w : World) (hc : -128 <= c /\ c <= 127) (h : qie w a n cap r) (hn : n <= 5) (hn1 : 1 <= n) :
  Calls Tryz.prog 29 #[.int .i64 c,.slice a n cap] w (qcE M0 w (c ^ (2*n - 2)*pr (dqs r) n)):=by
 have HR:=Lib.hid h;have HC:=Lib.hid hc;have hcap:=h.1;have hcm:=h.2.1;unfold maxLen at hcm;have HRB:Hid (∀ i,i<n -> -32768<=r i/\r i<=32767):=fun i hi=>(h.2.2 i hi).1;have HQ1:Hid (∀ i k,i<n->k<=i->dlen (pr (dq r i) k).natAbs<=1+k*2):=fun i k hi hk=>qkx (n:=i) (fun j hj=>qq1 (HRB.out i hi) (HRB.out j (by omega))) k hk;have HQ2:Hid (∀ k,k<=n->dlen (pr (dqs r) k).natAbs<=1+k*11):=fun k hk=>qkx (fun i hi=>Nat.le_trans (HQ1.out i i hi (Nat.le_refl _)) (by omega)) k hk;have HCP:Hid (∀ t,dlen (c ^ t).natAbs<=t*1+1):=fun t=>qc5 (qdl (by omega)) t;clear h
 go_enter Tryz.func29,Tryz.ntmps29
 have hE0:=(Ext.refl w).alloc (.cells #[.bool false,.slice none 0 0] 30);have hM0:Mb (fun b=>M0 b∨b=w.heap.size) (w.alloc (.cells #[.bool false,.slice none 0 0] 30)):=qb9 ((mb0 w).ext hE0) (by simp)
 go_upto_region 1 with (fail)
 go_wp2_with (fail);refine (ofI 1 _ hM0 (by omega)).mono ?_;rintro e w1 ⟨v,rfl,hv,he1⟩;have HA:Hid (Ac (M3 M0 w.heap.size w1.heap.size) w w.heap.size w1.heap.size v (c ^ 0) _):=qkg (mb0 w) (by rw [Int.pow_zero];exact hv) he1
 have hsz:w.heap.size<w1.heap.size:=by have:=he1.size;simp at this;omega
 clear hv he1 hE0 hM0
 go_upto_region 2 with (fail)
 generalize w1.heap.size=gv at *;generalize w1.alloc (.cells #[.bool v.b,.slice v.a v.n v.p] 30)=W1 at *;obtain ⟨d,hd⟩ : ∃ d,d=2*n - 2:=⟨_,rfl⟩
 have hdI:(2:Int)*(n:Int) - 2=(d:Int):=by omega
 have hd8:d<=8:=by omega
 have HDD:=Lib.hid hd;rw [<- hd];clear hd;go_wp2
 go_loopw [6] (fun iv wr=>∃ (t:Nat) (x:IE),t<=d/\iv = .int .i64 (t:Int)/\Hid (Ac (M3 M0 w.heap.size gv) w w.heap.size gv x (c ^ t) wr)) (fun iv _=>d - (intOf iv).toNat)
 case atStart=>exact ⟨0,v,Nat.zero_le _,rfl,HA⟩
 case round=>
  clear HA;obtain ⟨t,x,ht,rfl,HA⟩:=hrel
  by_cases hlt:t<d
  ·have htI:(t:Int)<(d:Int):=by omega
   have HTD:Hid (t<d):=hlt;have hEd:=(Ext.refl wr).drew;have hS:S1B gv x wr.drew:=S1B.ext ⟨qbK HA.out.v,HA.out.v.lt⟩ hEd;have HAD:=Lib.hid (HA.out.ext hEd);have hvwd:gv<wr.drew.heap.size:=hS.2;clear hEd HA hlt
   go_upto_region 5 with (fail)
   refine qad (S1B gv x) 4 (by kernel_rfl) hS (fun hHeld=>?_);clear hS;generalize wr.drew=wd at *
   have C3:Hid (∀ (W:World) (u:IE),Ext wd W->IX (M3 M0 w.heap.size gv) W u c->Calls Tryz.prog 65 #[.agg #[.bool x.b,.slice x.a x.n x.p],.agg #[.bool u.b,.slice u.a u.n u.p]] W (qcE (M3 M0 w.heap.size gv) W (c ^ t*c))):=fun W u he hu=>
    qqx x u _ _ W (HAD.out.m.ext he) (HAD.out.x.ext he) hu (by
     have e1:=qdl (z:=c) (by have:=HC.out;omega);have e2:=HCP.out t;have e3:=HTD.out
     omega)
   (refine tkB [0,1] ?_;(iterate 2 (refine tk1 (oi:=?_) (v:=?_) (by kernel_rfl) (by first | exact hSn | exact hHeld) ?_ ?_ ?_ ?_ ?_;rotate_left 2;(simp only [xgA,xgB,xgC];rfl);rfl;(intro wS hSw;obtain ⟨⟨S1,S2⟩,S3⟩:=hSw;go_simp;try with_reducible rfl);(exact fun _ _ _ h=>h);(try simp only [Act.put,xgD,xgE,xgF])));refine tkE ?_);((refine qaa 2 (o:=?_) (by kernel_rfl) ?_ ?_;rotate_left 1;(simp only [xgA,xgB,xgC];rfl);intro K hK);go_simp;(refine (ofI c wd HAD.out.m (by have:=HC.out;omega)).mono ?_);rintro e_ u2 ⟨u,rfl,hu,ed1⟩;go_wp2_with (fail);(try clear hSn);(have hSn:=hHeld.ext ed1);(refine hK.out _ _ (fun _=>hSn) ?_);clear hK K;(try simp only [Act.put,xgD,xgE,xgF]));((refine qaa 3 (o:=?_) (by kernel_rfl) ?_ ?_;rotate_left 1;(simp only [xgA,xgB,xgC];rfl);intro K hK);go_simp;(refine (C3.out _ u ed1 hu).mono ?_);rintro e_ u3 ⟨v2,rfl,hv2,ed2⟩;go_wp2_with (fail);(try clear hSn);(have hSn:=hHeld.ext (ed1.trans ed2));(refine hK.out _ _ (fun _=>hSn) ?_);clear hK K;(try simp only [Act.put,xgD,xgE,xgF]));have ed3:=ed1.trans ed2;have hA5:=HAD.out.ext ed3
   have HA6:Hid (Ac (M3 M0 w.heap.size gv) w w.heap.size gv v2 (c ^ (t+1)) (set2 u3 gv 0 (.bool v2.b) (.slice v2.a v2.n v2.p))):=by
    rw [Int.pow_succ];exact hA5.sum hv2
   obtain ⟨W6,hW6⟩ : ∃ W6,set2 u3 gv 0 (.bool v2.b) (.slice v2.a v2.n v2.p)=W6:=⟨_,rfl⟩;obtain ⟨⟨k0,k1⟩,hf0,hf1,hg5⟩:=hA5.put;rw [hW6] at HA6;unfold set2 at hW6;have HW6:=Lib.hid hW6;clear hA5 hu hv2 ed1 ed2 ed3 hW6 HAD C3 hHeld hSn;((refine qaa 4 (o:=?_) (by kernel_rfl) ?_ ?_;rotate_left 1;(simp only [xgA,xgB,xgC];rfl);intro K hK);go_simp;(refine hK.out _ _ (fun h=>absurd rfl h) ?_);clear hK K;refine qac (by kernel_rfl) ?_ _)
   go_upto_region 4 with (fail)
   rw [HW6.out];clear k0 k1 hf0 hf1 hg5 HW6 hvwd;go_wp2
   go_roundw
   case rel=>exact ⟨t+1,v2,HTD.out,by go_num,HA6⟩
   case measure=>have:=HTD.out;simp [intOf];omega
  ·obtain rfl:t=d:=by omega
   have hge : ¬ (t:Int)<(t:Int):=by omega
   have HA3:Hid (Ac (M3 M0 w.heap.size gv) w w.heap.size gv x (c ^ t*pr (dqs r) 0) wr):=by
    show Ac _ _ _ _ _ (c ^ t*1) _;rw [Int.mul_one];exact HA.out
   clear HA;go_wp2
   go_loopw [7] (fun iv wr=>∃ (i:Nat) (x:IE),i<=n/\iv = .int .i64 (i:Int)/\Hid (Ac (M3 M0 w.heap.size gv) w w.heap.size gv x (c ^ t*pr (dqs r) i) wr)) (fun iv _=>n - (intOf iv).toNat)
   case atStart=>exact ⟨0,x,Nat.zero_le _,rfl,HA3⟩
   case round=>
    clear HA3;obtain ⟨i,x,hi,rfl,HA⟩:=hrel
    by_cases hlt:i<n
    ·have hiI:(i:Int)<(n:Int):=by omega
     have hi0:(0:Int)<=(i:Int):=Int.natCast_nonneg _;have hiw:IntKind.i64.wrap (i:Int)=(i:Int):=IntWalk.i64_in _ (by omega);have HIN:Hid (i<n):=hlt
     have HA4:Hid (Ac (M3 M0 w.heap.size gv) w w.heap.size gv x (c ^ t*(pr (dqs r) i*pr (dq r i) 0)) wr):=by
      show Ac _ _ _ _ _ (c ^ t*(pr (dqs r) i*1)) _;rw [Int.mul_one];exact HA.out
     clear HA hlt;go_wp2
     go_loopw [8] (fun kv wr=>∃ (k:Nat) (x:IE),k<=i/\kv = .int .i64 (k:Int)/\Hid (Ac (M3 M0 w.heap.size gv) w w.heap.size gv x (c ^ t*(pr (dqs r) i*pr (dq r i) k)) wr)) (fun kv _=>i - (intOf kv).toNat)
     case atStart=>exact ⟨0,x,Nat.zero_le _,rfl,HA4⟩
     case round=>
      clear HA4;obtain ⟨k,x,hk,rfl,HA⟩:=hrel
      by_cases hlt:k<i
      ·have hkI:(k:Int)<(i:Int):=by omega
       have hkn:(k:Int)<(n:Int):=by omega
       have hk0:(0:Int)<=(k:Int):=Int.natCast_nonneg _;have hkw:IntKind.i64.wrap (k:Int)=(k:Int):=IntWalk.i64_in _ (by omega);have HKI:Hid (k<i):=hlt;obtain ⟨hb1,gb,o,ha,hgl,hc1⟩:=(HR.out.ext HA.out.e).2.2 i HIN.out;obtain ⟨hb2,gb2,o2,ha2,_,hc2⟩:=(HR.out.ext HA.out.e).2.2 k (by have:=HIN.out;omega);subst ha;simp only [Option.some.injEq,Addr.mk.injEq,and_true] at ha2;obtain ⟨rfl,rfl⟩:=ha2;have hrw1:IntKind.i64.wrap (r i)=r i:=IntWalk.i64_in _ (by omega);have hrw2:IntKind.i64.wrap (r k)=r k:=IntWalk.i64_in _ (by omega);have hrw3:IntKind.i64.wrap (r i - r k)=r i - r k:=IntWalk.i64_in _ (by omega)
       have HDB:Hid (-1000000<=r i - r k/\r i - r k<=1000000):=by show _/\_;omega
       have hEd:=(Ext.refl wr).drew;have hS:S12 gb (o+i) (o+k) (.int .i16 (r i)) (.int .i16 (r k)) wr.drew:=S12.ext ⟨hc1,hc2,hgl⟩ hEd;have HS:=Lib.hid hS;have HAD:=Lib.hid (HA.out.ext hEd);have hbwd:gb<wr.drew.heap.size:=hS.2.2;clear hS hEd HA hlt hb1 hb2 hc1 hc2 hgl
       go_upto_region 12 with (fail)
       go_cut [9] from 34 to 46 (qtD (M3 M0 w.heap.size gv) wr.drew (r i - r k))
       case first=>
        refine qad (S12 gb (o+i) (o+k) (.int .i16 (r i)) (.int .i16 (r k))) 14 (by kernel_rfl) HS.out (fun hHeld=>?_);have hMd:=HAD.out.m;generalize wr.drew=wd at *;(refine tkB [0,1,2,3,4,5,6,7,8,9,10] ?_;(iterate 11 (refine tk1 (oi:=?_) (v:=?_) (by kernel_rfl) (by first | exact hSn | exact hHeld) ?_ ?_ ?_ ?_ ?_;rotate_left 2;(simp only [xgA,xgB,xgC];rfl);rfl;(intro wS hSw;obtain ⟨S1,S2,S3⟩:=hSw;go_simp;try with_reducible rfl);(exact fun _ _ _ h=>h);(try simp only [Act.put,xgD,xgE,xgF])));refine tkE ?_);(refine qau 11 12 (oi:=?_) (oj:=?_) (by kernel_rfl) ?_ ?_ ?_ ?_;rotate_left 2;(simp only [xgA,xgB,xgC];rfl);(simp only [xgA,xgB,xgC];rfl);all_goals intro K hK)
        ·go_simp;refine (ofI (r i - r k) wd hMd HDB.out).mono ?_;rintro e wz ⟨v,rfl,hv,he1⟩;go_wp2_with (fail);have hSn:=hHeld.ext he1;refine hK.out _ _ (fun _=>hSn) ?_;clear hK K;(try simp only [Act.put,xgD,xgE,xgF]);(refine qaa 12 (o:=?_) (by kernel_rfl) ?_ ?_;rotate_left 1;(simp only [xgA,xgB,xgC];rfl);intro K hK);go_simp;have hSn2:=hSn.ext ((Ext.refl wz).alloc (.cells zI 30));have hSn3:=hSn.ext ((Ext.refl wz).alloc (.cells #[.bool v.b,.slice v.a v.n v.p] 30));clear hSn;refine hK.out _ _ (fun _=>hSn2) ?_;clear hK K;(try simp only [Act.put,xgD,xgE,xgF]);(refine qaa 13 (o:=?_) (by kernel_rfl) ?_ ?_;rotate_left 1;(simp only [xgA,xgB,xgC];rfl);intro K hK);go_simp;refine hK.out _ _ (fun _=>hSn3) ?_;clear hK K;(try simp only [Act.put,xgD,xgE,xgF]);refine qac (by kernel_rfl) ?_ _;go_wp2_with (fail)
         go_meet
         have hBa:=Blk.of_arr wz #[.bool v.b,.slice v.a v.n v.p] 30 2 rfl;exact ⟨wz.heap.size,v,rfl,⟨hBa.cell (i:=0) (by omega),hBa.cell (i:=1) (by omega)⟩,he1.size,hv.ext ((Ext.refl wz).alloc _),he1.alloc _⟩
        ·go_simp;have hE9:Ext wd (wd.alloc (.cells zI 30)):=(Ext.refl _).alloc _;have hB9:=Blk.of_arr wd zI 30 2 rfl;have hSn:=hHeld.ext hE9;refine hK.out _ _ (fun _=>hSn) ?_;clear hK K;(try simp only [Act.put,xgD,xgE,xgF]);(refine qaa 11 (o:=?_) (by kernel_rfl) ?_ ?_;rotate_left 1;(simp only [xgA,xgB,xgC];rfl);intro K hK);go_simp;refine (ofI (M:=fun g=>M3 M0 w.heap.size gv g∨g=wd.heap.size) (r i - r k) _ (fun g hg=>hg.elim (fun h=>Nat.lt_of_lt_of_le (hMd g h) hE9.size) (fun h=>by rw [h];exact hB9.lt)) HDB.out).mono ?_;rintro e wz ⟨v,rfl,hv,he1⟩;go_wp2_with (fail);clear hSn;have hSn:=hHeld.ext (hE9.trans he1);refine hK.out _ _ (fun _=>hSn) ?_;clear hK K;(try simp only [Act.put,xgD,xgE,xgF]);obtain ⟨⟨q0,q1,f0,f1⟩,⟨r0,r1⟩,hkp,hext⟩:=qgL (M':=fun g=>M3 M0 w.heap.size gv g∨g=wd.heap.size) (w:=wd) (.bool v.b) (.slice v.a v.n v.p) (hB9.ext he1) (.inr rfl) (Nat.le_refl _) (hE9.trans he1);simp only [arr] at q0 q1;(refine qaa 13 (o:=?_) (by kernel_rfl) ?_ ?_;rotate_left 1;(simp only [xgA,xgB,xgC];rfl);intro K hK);go_simp;have hSn3:=hHeld.ext hext;clear hSn;refine hK.out _ _ (fun _=>hSn3) ?_;clear hK K;(try simp only [Act.put,xgD,xgE,xgF]);refine qac (by kernel_rfl) ?_ _;go_wp2_with (fail)
         go_meet
         exact ⟨wd.heap.size,v,rfl,⟨r0,r1⟩,Nat.le_refl _,(hv.kp hkp).more (fun g hg=>.inl (.inl hg)),hext⟩
       case rest=>
        obtain ⟨ga,v,rfl,hv,hga,hvi,heC⟩:=hcut
        have hgav:ga≠gv:=by have:=HAD.out.v.lt;omega
        have hEd:=(Ext.refl wc).drew;have hAC:=HAD.out.ext heC;have hS:S25 gv 0 x ga v ga 0 v wc.drew:=S25.ext ⟨qbK hAC.v,hv,hv,hAC.v.lt,hv.lt,hv.lt⟩ hEd;have HA5:=Lib.hid (hAC.ext hEd);have HVI:=Lib.hid (hvi.ext hEd);have hvwd:gv<wc.drew.heap.size:=hS.2.2.2.1;have hawd:ga<wc.drew.heap.size:=hS.2.2.2.2.1;clear hAC hEd hvi hv heC hga HAD HS
        go_upto_region 13 with (fail)
        refine qad (S25 gv 0 x ga v ga 0 v) 5 (by kernel_rfl) hS (fun hHeld=>?_);clear hS;generalize wc.drew=wd at *;have hdl:=qdl HDB.out
        have C3:Hid (∀ (W:World),Ext wd W->Calls Tryz.prog 65 #[.agg #[.bool v.b,.slice v.a v.n v.p],.agg #[.bool v.b,.slice v.a v.n v.p]] W (qcE (M3 M0 w.heap.size gv) W (dq r i k))):=fun W he=>
         qqx v v _ _ W (HA5.out.m.ext he) (HVI.out.ext he) (HVI.out.ext he) (by omega)
        have C4:Hid (∀ (W:World) (u:IE),Ext wd W->IX (M3 M0 w.heap.size gv) W u (dq r i k)->Calls Tryz.prog 65 #[.agg #[.bool x.b,.slice x.a x.n x.p],.agg #[.bool u.b,.slice u.a u.n u.p]] W (qcE (M3 M0 w.heap.size gv) W (c ^ t*(pr (dqs r) i*pr (dq r i) k)*dq r i k))):=fun W u he hu=>
         qqx x u _ _ W (HA5.out.m.ext he) (HA5.out.x.ext he) hu (by
          have e1:=HCP.out t;have e2:=HIN.out;have e3:=HQ2.out i (by omega);have e4:=HQ1.out i k e2 (by have:=HKI.out;omega);have e5:=qaD (c ^ t).natAbs (pr (dqs r) i*pr (dq r i) k).natAbs;have e6:=qaD (pr (dqs r) i).natAbs (pr (dq r i) k).natAbs;have e7:=qq1 (r:=r) (HRB.out i e2) (HRB.out k (by have:=HKI.out;omega));have e8:=HKI.out;rw [Int.natAbs_mul];rw [Int.natAbs_mul] at e5 ⊢
          omega)
        clear hdl;(refine tkB [0,1,2] ?_;(iterate 3 (refine tk1 (oi:=?_) (v:=?_) (by kernel_rfl) (by first | exact hSn | exact hHeld) ?_ ?_ ?_ ?_ ?_;rotate_left 2;(simp only [xgA,xgB,xgC];rfl);rfl;(intro wS hSw;obtain ⟨⟨S1,S2⟩,⟨S3,S4⟩,⟨S5,S6⟩,S7,S8,S9⟩:=hSw;go_simp;try with_reducible rfl);(exact fun _ _ _ h=>h);(try simp only [Act.put,xgD,xgE,xgF])));refine tkE ?_);((refine qaa 3 (o:=?_) (by kernel_rfl) ?_ ?_;rotate_left 1;(simp only [xgA,xgB,xgC];rfl);intro K hK);go_simp;(refine (C3.out _ (Ext.refl _)).mono ?_);rintro e_ u2 ⟨u,rfl,hu,ed1⟩;go_wp2_with (fail);(try clear hSn);(have hSn:=hHeld.ext ed1);(refine hK.out _ _ (fun _=>hSn) ?_);clear hK K;(try simp only [Act.put,xgD,xgE,xgF]));((refine qaa 4 (o:=?_) (by kernel_rfl) ?_ ?_;rotate_left 1;(simp only [xgA,xgB,xgC];rfl);intro K hK);go_simp;(refine (C4.out _ u ed1 hu).mono ?_);rintro e_ u3 ⟨v2,rfl,hv2,ed2⟩;go_wp2_with (fail);(try clear hSn);(have hSn:=hHeld.ext (ed1.trans ed2));(refine hK.out _ _ (fun _=>hSn) ?_);clear hK K;(try simp only [Act.put,xgD,xgE,xgF]));have ed3:=ed1.trans ed2;have hA5:=HA5.out.ext ed3
        have HA6:Hid (Ac (M3 M0 w.heap.size gv) w w.heap.size gv v2 (c ^ t*(pr (dqs r) i*pr (dq r i) (k+1))) (set2 u3 gv 0 (.bool v2.b) (.slice v2.a v2.n v2.p))):=by
         have h9:=hA5.sum hv2;rw [Int.mul_assoc,Int.mul_assoc] at h9;exact h9
        obtain ⟨W6,hW6⟩ : ∃ W6,set2 u3 gv 0 (.bool v2.b) (.slice v2.a v2.n v2.p)=W6:=⟨_,rfl⟩;obtain ⟨⟨k0,k1⟩,hf0,hf1,hg5⟩:=hA5.put;rw [hW6] at HA6;unfold set2 at hW6;have HW6:=Lib.hid hW6;clear hA5 hu hv2 ed1 ed2 ed3 hW6 HA5 HVI C3 C4 hHeld hSn;((refine qaa 5 (o:=?_) (by kernel_rfl) ?_ ?_;rotate_left 1;(simp only [xgA,xgB,xgC];rfl);intro K hK);go_simp;(refine hK.out _ _ (fun h=>absurd rfl h) ?_);clear hK K;refine qac (by kernel_rfl) ?_ _)
        go_upto_region 11 with (fail)
        rw [HW6.out];clear k0 k1 hf0 hf1 hg5 HW6 hvwd hawd;go_wp2
        go_roundw
        case rel=>exact ⟨k+1,v2,HKI.out,by go_num,HA6⟩
        case measure=>have:=HKI.out;simp [intOf];omega
      ·obtain rfl:k=i:=by omega
       have hge : ¬ (k:Int)<(k:Int):=by omega
       have HA5:Hid (Ac (M3 M0 w.heap.size gv) w w.heap.size gv x (c ^ t*pr (dqs r) (k+1)) wr):=HA.out;clear HA;go_wp2
       go_roundw
       case rel=>exact ⟨k+1,x,HIN.out,by go_num,HA5⟩
       case measure=>have:=HIN.out;simp [intOf];omega
    ·obtain rfl:i=n:=by omega
     have hge : ¬ (i:Int)<(i:Int):=by omega
     obtain ⟨⟨s0,s1,g0,g1⟩,⟨r0,r1⟩,hR⟩:=HA.out.ret (M:=M0) (fun g hg=>.inl (.inl hg));obtain ⟨v0,v1⟩:=qbK HA.out.v;have hvl:=HA.out.v.lt;have hrl:=HA.out.r.lt;rw [HDD.out] at hR;have HF:=Lib.hid hR;clear hR HA;go_wp2;exact bodyPost_ret (v:=.agg #[.bool x.b,.slice x.a x.n x.p]) (by simp [results,Tryz.results29,go_sem,r0,r1]) rfl HF.out
end Go.Proofs.YtmcfpnmoklnhoaaGreat
