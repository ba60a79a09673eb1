/- SubresultantReplace: a variable replaced by a number, plain; recpoly.At at an integer. SubresultantReplace: the walk. The law SubresultantReplace returns true at every input, without a panic, and leaves its arguments as they were; no conditions. -/
import Derived.Test.YtjhhekmfdhfjpaaGreatTa
import Derived.Test.YtjhhekmfdhfjpaaGreatAd
import Derived.Test.YtjhhekmfdhfjpaaGreatDr
import Derived.Test.YtjhhekmfdhfjpaaGreatCc
import Derived.Test.YtjhhekmfdhfjpaaGreatDk
import Derived.Test.YtjhhekmfdhfjpaaGreatMq
set_option linter.unusedVariables false
set_option linter.unusedSimpArgs false

namespace Go.Proofs.YtjhhekmfdhfjpaaGreat
open Go.RowKit

def qch (z : Int) (l : List Tm) : List Tm:=atL 1 0 z 1 l
theorem qry (n : Nat) (z : Int) (l : List Tm) : atL 1 n z 1 l = qch z l:=by
 unfold qch atL lin
 refine List.map_congr_left fun t _=>?_
 unfold atF
 rw [Int.one_pow,Int.one_pow]
def pz (z : Int) (x : Nat -> Int) : Nat -> Int:=fun i=>if i = 0 then z else x i
theorem qrd (z : Int) (x : Nat -> Int) {m : Mo} (h : m.nn = true) : z ^ (m.get 1).toNat * eM x (wo 1 m) = eM (pz z x) m:=by
 obtain ⟨h1,h2,h3,h4⟩:=(Mo.nn_iff m).1 h
 have hw : (wo 1 m).nn = true:=by
  rw [Mo.nn_iff]
  have a1:=qa9 (L:=1) (by decide) (by decide) m 1
  have a2:=qa9 (L:=1) (by decide) (by decide) m 2
  have a3:=qa9 (L:=1) (by decide) (by decide) m 3
  have a4:=qa9 (L:=1) (by decide) (by decide) m 4
  simp only [Mo.get] at a1 a2 a3 a4
  simp at a1 a2 a3 a4
  omega
 unfold eM
 rw [if_pos h,if_pos hw]
 have a1:=qa9 (L:=1) (by decide) (by decide) m 1
 have a2:=qa9 (L:=1) (by decide) (by decide) m 2
 have a3:=qa9 (L:=1) (by decide) (by decide) m 3
 have a4:=qa9 (L:=1) (by decide) (by decide) m 4
 simp only [Mo.get] at a1 a2 a3 a4
 simp at a1 a2 a3 a4
 rw [a1,a2,a3,a4]
 have e1 : m.get 1 = m.a:=by simp [Mo.get]
 rw [e1]
 unfold pz
 simp [Int.mul_assoc]
theorem qlM (z : Int) (x : Nat -> Int) : ∀ l : List Tm,(∀ t ∈ l,t.2.nn = true) -> ev x (qch z l) = ev (pz z x) l
 | [],_=>rfl
 | t :: l,h=>by
  show t.1 * (z ^ (t.2.get 1).toNat * 1 ^ (0 - (t.2.get 1).toNat)) * eM x (wo 1 t.2) + ev x (qch z l) = t.1 * eM (pz z x) t.2 + ev (pz z x) l
  rw [qlM z x l fun s hs=>h s (List.mem_cons_of_mem _ hs),Int.one_pow,Int.mul_one,Int.mul_assoc,qrd z x (h t List.mem_cons_self)]
theorem qcr {z : Int} {l r : List Tm} (h : Sim l r) : Sim (qch z l) (qch z r):=h.lin _
theorem qlN (z : Int) (x : Nat -> Int) {l : List Tm} (h : NN l) : ev x (qch z l) = ev (pz z x) l:=by
 have hs:=qai h
 rw [<- qaR x (qcr (z:=z) hs),qlM z x _ (qaN l),qaR _ hs]
theorem qcl {z : Int} {l : List Tm} (h : NN l) : NN (qch z l):=(qa5 (qrv (n:=0) (u:=z) (d:=1) (by decide) (by decide) (qaN l))).sim (qcr (qai h))
theorem qpF {z : Int} {k : Int} (f : List Tm) : Fre 2 (qch z (ck 2 k f)):=fun m hm=>by
 refine Classical.byContradiction fun hc=>hm (qaw fun t ht e=>hc ?_)
 rw [<- e]
 obtain ⟨s,hs,rfl⟩:=List.mem_map.1 ht
 obtain ⟨q,hq,rfl⟩:=List.mem_map.1 hs
 show (wo 1 (wo 2 q.2)).get 2 = 0
 rw [qa9 (by decide) (by decide),if_neg (by decide),qa9 (by decide) (by decide),if_pos rfl]
theorem qrq (z : Int) {f : List Tm} (nf : NN f) (k : Nat) : Sim (ck 2 (k : Int) (qch z f)) (qch z (ck 2 (k : Int) f)):=by
 obtain ⟨B,hB⟩:=qdD f
 have h:=qfL (L:=2) (N:=B + 1 + k) (by decide) (by decide) nf fun m hm=>by have:=hB m hm 2;omega
 have e : qch z (poly 2 (B + 1 + k) fun i=>ck 2 (i : Int) f) = poly 2 (B + 1 + k) fun i=>qch z (ck 2 (i : Int) f):=qd2 (by decide) (by decide) (by decide) (by decide) (by decide) _ _
 have h2:=qcr (z:=z) h
 rw [e] at h2
 have h3:=ckP (J:=2) (by decide) (by decide) (P:=fun i=>qch z (ck 2 (i : Int) f)) (fun i=>qpF f) k (B + 1 + k)
 rw [if_pos (by omega)] at h3
 exact (qaO h2.symm).trans h3
theorem qoe (z : Int) (x : Nat -> Int) {f : List Tm} (nf : NN f) : pv 2 x (qch z f) = pv 2 (pz z x) f:=by
 unfold pv
 rw [qlN z x nf]
 congr 1
 funext k
 rw [qaR x (qrq z nf k),qlN z x (qbc (by decide) (by decide) nf)]
theorem qqx (z : Int) {f g : List Tm} (nf : NN f) (ng : NN g) (j m n : Nat) : Sim (qch z (SJ 2 j m n f g)) (SJ 2 j m n (qch z f) (qch z g)):=by
 refine qdq (qcl (qa2 (by decide) (by decide) nf ng _ _ _)) (qa2 (by decide) (by decide) (qcl nf) (qcl ng) _ _ _) fun x=>?_
 rw [qlN z x (qa2 (by decide) (by decide) nf ng _ _ _),qez (by decide) (by decide) _ nf ng,qez (by decide) (by decide) x (qcl nf) (qcl ng),qoe z x nf,qoe z x ng]
 rfl
theorem qpR {B : Nat} {z : Int} {l : List Tm} (nl : NN l) (h : Deg B l) : Deg B (qch z l):=by
 have hs:=qai nl
 have hd : Deg B (qch z (norm l)):=fun m hm k=>by
  obtain ⟨t,ht,e⟩ : ∃ t ∈ qch z (norm l),t.2 = m:=Classical.byContradiction fun hc=>hm (qaw fun t ht e=>hc ⟨t,ht,e⟩)
  obtain ⟨s,hs',rfl⟩:=List.mem_map.1 ht
  have h1:=h s.2 (by rw [<- hs s.2];exact qaT (qaB l) hs') k
  rw [<- e]
  show (wo 1 s.2).get k <= _
  rw [qa9 (by decide) (by decide)]
  split
  ·exact Int.natCast_nonneg _
  ·exact h1
 exact hd.sim (qcr hs)
theorem qpg {B : Nat} {z : Int} {l : List Tm} (nl : NN l) (h : Deg B l) (hz : z.natAbs <= 128) : ∃ r,Sim r (qch z l) /\ nrm r <= nrm l * 128 ^ B:=by
 have hs:=qai nl
 refine ⟨qch z (norm l),qcr hs,?_⟩
 have h1:=qgd (f:=atF 1 0 z 1) (K:=128 ^ B) (l:=norm l) fun t ht=>by
  have hd:=h t.2 (by rw [<- hs t.2];exact qaT (qaB l) ht) 1
  show (z ^ (t.2.get 1).toNat * 1 ^ _).natAbs <= _
  rw [Int.one_pow,Int.mul_one,Int.natAbs_pow]
  exact Nat.le_trans (Nat.pow_le_pow_left hz _) (Nat.pow_le_pow_right (by decide) (by omega))
 exact Nat.le_trans h1 (Nat.mul_le_mul_right _ (qf9 l))
theorem qmp {r : RE} {z : Int} {N B : Nat} (hN : 1 <= N) (hN2 : N <= 1000) (M : Nat -> Prop) (x : PE) (l : List Tm) (w : World) (hM : Mb M w) (hx : CRx M w 4 x l) (hr : qfq M w N r (z : Rat)) (hL : dlen (nrm l) <= 1000) (hB : Deg B l) (hB1 : B <= 1000) :
  Calls Tryz.prog 27 #[.agg (peA x),.int .i64 1,.agg (reA r)] w (qbe M w 4 (qch z l)):=by
 refine (qrW M x l r (z : Rat) 1 N B w hM hx.pi hr hN hN2 hL hB hB1).mono fun e w' h=>?_
 rcases h with ⟨h1,h2⟩ | ⟨L,n,hL1,_,_,_,_,h2⟩
 ·have hs : Sim l []:=h1.resolve_left (by decide)
  exact h2.sim (hs.trans (qcr (z:=z) hs).symm)
 ·obtain rfl : L = 1:=by omega
  have e1 : ((z : Rat)).num = z:=Rat.num_intCast z
  have e2 : ((z : Rat)).den = 1:=Rat.den_intCast z
  rw [e1,e2] at h2
  rw [<- qry n z l]
  exact h2
theorem qpJ (a b c d : Int) (w : World) : (Op.equalIn 10000 37 (.agg #[.int .i64 a,.int .i64 b]) (.agg #[.int .i64 c,.int .i64 d])).run Tryz.prog w = .ok (decide (a = c /\ b = d)) w:=by
 obtain ⟨i0,hi,hz0,hz1,hz2⟩:=info_parts Tryz.info3
 show (Op.equalIn (9999 + 1) 37 (.agg #[.int .i64 a,.int .i64 b]) (.agg #[.int .i64 c,.int .i64 d])).run Tryz.prog w = _
 rw [run_equalIn_array w 9999 _ _ Tryz.underlying37 hi,qhb,show List.range 2 = [0,1] from rfl]
 rw [qbB _ _ 0 _ a c w rfl rfl,qbB _ _ 1 _ b d w rfl rfl]
 by_cases h1 : a = c <;> by_cases h2 : b = d <;> simp [h1,h2,Op.eqItems,go_sem]
theorem S7.nA {wd wk : World} {B : Option Nat} (h : S7 wd wk none B) : ∃ v g,wk.alloc (.cells zA 32) = v /\ wk.heap.size = g /\ S7 wd v (some g) B /\ ∀ (x : PE) (l : List Tm),CRx (M7 none B) wk 4 x l -> CRx (M7 (some g) B) v 4 x l:=⟨_,_,rfl,rfl,h.allA,fun _ _ k=>h.keepA k⟩
theorem S7.nB {wd wk : World} {A : Option Nat} (h : S7 wd wk A none) : ∃ v g,wk.alloc (.cells zA 32) = v /\ wk.heap.size = g /\ S7 wd v A (some g) /\ ∀ (x : PE) (l : List Tm),CRx (M7 A none) wk 4 x l -> CRx (M7 A (some g)) v 4 x l:=⟨_,_,rfl,rfl,h.allB,fun _ _ k=>h.keepB k⟩
theorem S7.sw {wd wk : World} {A B : Option Nat} (h : S7 wd wk A B) : S7 wd wk B A:=⟨h.e,h.b,h.a,fun g hb ha=>h.ne g ha hb⟩
theorem CRx.sw7 {w : World} {A B : Option Nat} {x : PE} {l : List Tm} (h : CRx (M7 A B) w 4 x l) : CRx (M7 B A) w 4 x l:=h.more fun g hg=>.inl (hg.elim .inr .inl)
def qse (c d : List Tm) (wd : World) (s10 s11 : Value) (wx : World) : Prop:=∃ (a b : Nat) (zc zd : PE),s10 = .pointer (some ⟨a,0,none⟩) /\ s11 = .pointer (some ⟨b,0,none⟩) /\ qsq wd wx a b zc zd c d
def SXR (g : Nat) (x y : PE) (r : RE) (w : World) : Prop:=SBr g x y w /\ R3 (g + 2) r w
theorem SXR.ext {g : Nat} {x y : PE} {r : RE} {w w' : World} (h : SXR g x y r w) (he : Ext w w') : SXR g x y r w':=⟨h.1.ext he,h.2.ext he⟩
theorem qpj (w : World) (x y : PE) (r : RE) : SXR w.heap.size x y r (((w.alloc (.cells (peA x) 32)).alloc (.cells (peA y) 32)).alloc (.cells (reA r) 58)):=by
 have b1:=Blk.of_arr (w.alloc (.cells (peA x) 32)) (peA y) 32 4 rfl
 have b2:=Blk.of_arr ((w.alloc (.cells (peA x) 32)).alloc (.cells (peA y) 32)) (reA r) 58 3 rfl
 simp only [World.size_alloc] at b1 b2
 exact ⟨⟨(((Blk.of_arr w (peA x) 32 4 rfl).alloc _).alloc _).p4,(b1.alloc _).p4⟩,b2.cell (i:=0) (by omega),b2.cell (i:=1) (by omega),b2.cell (i:=2) (by omega)⟩
def SXU (g ga gb : Nat) (x y u v : PE) (w : World) : Prop:=SBr g x y w /\ P4 w ga u /\ P4 w gb v
theorem SXU.ext {g ga gb : Nat} {x y u v : PE} {w w' : World} (h : SXU g ga gb x y u v w) (he : Ext w w') : SXU g ga gb x y u v w':=⟨h.1.ext he,h.2.1.ext he,h.2.2.ext he⟩
def SKR (ga gb o gr : Nat) (za zb : PE) (r : RE) (w : World) : Prop:=(qaV w ga o za /\ ga < w.heap.size) /\ (qaV w gb o zb /\ gb < w.heap.size) /\ R3 gr r w
theorem SKR.ext {ga gb o gr : Nat} {za zb : PE} {r : RE} {w w' : World} (h : SKR ga gb o gr za zb r w) (he : Ext w w') : SKR ga gb o gr za zb r w':=⟨⟨h.1.1.ext h.1.2 he,Nat.lt_of_lt_of_le h.1.2 he.size⟩,⟨h.2.1.1.ext h.2.1.2 he,Nat.lt_of_lt_of_le h.2.1.2 he.size⟩,h.2.2.ext he⟩
structure ReC (W : World) (x y u v : PE) (z : Int) (N : Nat) (F G : Nat -> List Tm) : Prop where
 c1 : ∀ wk,Ext W wk -> Calls Tryz.prog 11 #[.agg (peA x),.agg (peA y),.int .i64 2] wk (qeC M0 wk N F 0)
 c2 : ∀ wk,Ext W wk -> Calls Tryz.prog 11 #[.agg (peA u),.agg (peA v),.int .i64 2] wk (qeC M0 wk N G 0)
 N6 : N <= 6
 fin : ∀ j,j < N -> dlen (nrm (F j)) <= 1000 /\ Deg 1000 (F j) /\ Sim (qch z (F j)) (G j)
theorem qn2 {l : List Tm} {z : Int} (hl : SmD 3 l) (hz : z.natAbs <= 128) : ∃ r,Sim r (qch z l) /\ Sz 3 1000 r:=by
 obtain ⟨r,hs,hn⟩:=qpg hl.nn hl.deg hz
 refine ⟨r,hs,(qcl hl.nn).sim hs.symm,(qpR hl.nn hl.deg).sim hs.symm,?_⟩
 refine Nat.le_trans (qan hn) (Nat.le_trans (qbb _ _) ?_)
 have h1:=hl.dl
 have h2 : dlen (128 ^ 3) <= 1:=by decide
 omega
theorem qqI {f g : List Tm} {z : Int} (hf : SmD 3 f) (hg : SmD 3 g) (hz : z.natAbs <= 128) (zu : ¬ Sim (qch z f) []) (zv : ¬ Sim (qch z g) []) {m n : Nat} (df : DgR 2 f m) (dg : DgR 2 g n) (du : DgR 2 (qch z f) m) (dv : DgR 2 (qch z g) n) (x y u v : PE) (W : World) (hx : CRx M0 W 4 x f) (hy : CRx M0 W 4 y g) (hu : CRx M0 W 4 u (qch z f)) (hv : CRx M0 W 4 v (qch z g)) : ∃ N F G,ReC W x y u v z N F G:=by
 have zf : ¬ Sim f []:=fun h=>zu (qcr (z:=z) (r:=[]) h)
 have zg : ¬ Sim g []:=fun h=>zv (qcr (z:=z) (r:=[]) h)
 have hm3 : m <= 3:=ql4 df hf.deg
 have hn3 : n <= 3:=ql4 dg hg.deg
 have H : Gn 2 m n 3 f g:=⟨by decide,by decide,⟨hf.nn,hf.deg,Nat.le_trans hf.dl (by decide)⟩,⟨hg.nn,hg.deg,Nat.le_trans hg.dl (by decide)⟩,zf,zg,df,dg,by omega,by omega,fun h=>qrT m hm3 n h,fun h=>qrT n hn3 m h⟩
 obtain ⟨fr,hfr,sfr⟩:=qn2 hf hz
 obtain ⟨gr,hgr,sgr⟩:=qn2 hg hz
 have H' : Gn 2 m n 3 fr gr:=⟨by decide,by decide,sfr,sgr,fun h=>zu (hfr.symm.trans h),fun h=>zv (hgr.symm.trans h),du.sim hfr.symm,dv.sim hgr.symm,by omega,by omega,fun h=>qrT m hm3 n h,fun h=>qrT n hn3 m h⟩
 refine ⟨min m n,fun j=>SJ 2 j m n f g,fun j=>SJ 2 j m n fr gr,fun wk he=>H.chain M0 x y wk (mb0 _) (hx.ext he) (hy.ext he),fun wk he=>H'.chain M0 u v wk (mb0 _) ((hu.ext he).sim hfr.symm) ((hv.ext he).sim hgr.symm),by omega,fun j hj=>⟨?_,(H.bound (by omega) (by omega)).d,?_⟩⟩
 ·refine Nat.le_trans (qpN (A:=5) hf.dl hg.dl (by omega)) ?_
  have:=Nat.mul_le_mul_right 5 (show n - j + (m - j) <= 6 by omega)
  omega
 ·refine (qqx z hf.nn hg.nn j m n).trans (qdq (qa2 (by decide) (by decide) (qcl hf.nn) (qcl hg.nn) _ _ _) (qa2 (by decide) (by decide) sfr.n sgr.n _ _ _) fun e=>?_)
  rw [qez (by decide) (by decide) e (qcl hf.nn) (qcl hg.nn),qez (by decide) (by decide) e sfr.n sgr.n,qgV hfr,qgV hgr]


set_option maxRecDepth 100000 in
set_option maxHeartbeats 64000000 in
theorem qh1 (a1 a2 : Option Addr) (n1 p1 n2 p2 : Nat) (X1 X2 : Nat -> TE) (z : Int) (w : World) (h1 : qqd w a1 n1 p1 X1) (h2 : qqd w a2 n2 p2 X2) (hz : -128 <= z /\ z <= 127) :
  Calls Tryz.prog 7 #[.slice a1 n1 p1,.slice a2 n2 p2,.int .i8 z] w fun e w'=>e = .returned (.bool true) /\ Ext w w':=by
 have HR1:=Lib.hid h1
 have HR2:=Lib.hid h2
 have HZ8 : Hid (z.natAbs <= 128 /\ -9223372036854775808 <= z /\ z <= 9223372036854775807):=⟨by omega,by omega,by omega⟩
 have hzw : IntKind.i64.wrap z = z:=IntWalk.i64_in _ (by omega)
 clear h1 h2 hz
 go_enter Tryz.func7,Tryz.ntmps7
 go_wp2_with (fail)
 refine (qnn _).mono ?_
 rintro e w1 ⟨rfl,he1⟩
 have HE1:=Lib.hid (he1)
 have CF1:=Lib.hid (qg9 a1 n1 p1 X1 5 3 w1 (HR1.out.1.ext HE1.out) HR1.out.2.1)
 have CF2:=Lib.hid (qg9 a2 n2 p2 X2 5 3 w1 (HR2.out.1.ext HE1.out) HR2.out.2.1)
 rw [show ((5 : Nat) : Int) = 5 from rfl,show ((3 : Nat) : Int) = 3 from rfl] at CF1 CF2
 clear he1
 go_wp2_with (fail)
 refine CF1.out.mono ?_
 rintro e w2 ⟨b,rfl,hb1,rfl⟩
 cases b with
 | false=>
  clear hb1 CF1 CF2
  go_wp2
  go_ret
  exact ⟨rfl,HE1.out⟩
 | true=>
 have HF1:=Lib.hid (hb1.1 rfl)
 clear hb1 CF1
 go_wp2_with (fail)
 refine CF2.out.mono ?_
 rintro e w2 ⟨b,rfl,hb2,rfl⟩
 cases b with
 | false=>
  clear hb2 CF2
  go_wp2
  go_ret
  exact ⟨rfl,HE1.out⟩
 | true=>
 have HF2:=Lib.hid (hb2.1 rfl)
 clear hb2 CF2
 obtain ⟨l1,hl1,HS1,hd1,hx1⟩:=HR1.out.smD (B:=3) HF1.out (by omega) (by omega)
 obtain ⟨l2,hl2,HS2,hd2,hx2⟩:=HR2.out.smD (B:=3) HF2.out (by omega) (by omega)
 have hlD1:=hl1.ext HE1.out
 have hlD2:=hl2.ext HE1.out
 have HS1:=Lib.hid HS1
 have HS2:=Lib.hid HS2
 have CO1 : Hid (Calls Tryz.prog 10 #[.slice a1 n1 p1] w1 (qbe M0 w1 4 (norm l1))):=qqF M0 _ l1 w1 (mb0 _) hlD1 hd1 hx1
 have CO2 : Hid (∀ W,Ext w1 W -> Calls Tryz.prog 10 #[.slice a2 n2 p2] W (qbe M0 W 4 (norm l2))):=fun W h=>qqF M0 _ l2 W (mb0 _) (hlD2.ext h) hd2 hx2
 have CRt : Hid (∀ W,Calls Tryz.prog 26 #[.int .i64 z] W (qnV M0 W (z : Rat))):=fun W=>qqJ z W (mb0 _) HZ8.out.2.1 HZ8.out.2.2
 clear hl1 hd1 hx1 hl2 hd2 hx2 HF1 HF2 HR1 HR2 hlD1 hlD2
 generalize norm l1 = f at *
 generalize norm l2 = g at *
 go_wp2_with (fail)
 refine CO1.out.mono ?_
 rintro e w2 ⟨x,rfl,hx,e2⟩
 have HX2:=Lib.hid hx
 have HE2:=Lib.hid e2
 clear hx e2 CO1
 go_wp2_with (fail)
 refine (CO2.out w2 HE2.out).mono ?_
 rintro e w3 ⟨y,rfl,hy,e3⟩
 have HX3:=Lib.hid (HX2.out.ext e3)
 have HY3:=Lib.hid hy
 have HE3:=Lib.hid (HE1.out.trans (HE2.out.trans e3))
 clear HX2 hy e3 CO2 HE2 HE1
 go_wp2_with (fail)
 refine (CRt.out w3).mono ?_
 rintro e w4 ⟨r,rfl,hr,e4⟩
 have HX4:=Lib.hid (HX3.out.ext e4)
 have HY4:=Lib.hid (HY3.out.ext e4)
 have HR4 : Hid (qfq M0 w4 1 r (z : Rat)):=hr.toX ⟨by
  rw [Rat.num_intCast]
  exact Nat.le_trans (qan HZ8.out.1) (by decide),by
  rw [Rat.den_intCast];decide⟩
 have HE4:=Lib.hid (HE3.out.trans e4)
 clear HX3 HY3 hr e4 CRt HE3 hzw
 go_upto_region 6 with (fail)
 obtain ⟨W,hW⟩ : ∃ W,W = ((w4.alloc (.cells #[.int .i64 x.lv,.bool x.b,.slice x.a x.n x.p,.slice x.ka x.kn x.kp] 32)).alloc (.cells #[.int .i64 y.lv,.bool y.b,.slice y.a y.n y.p,.slice y.ka y.kn y.kp] 32)).alloc (.cells #[.bool r.b,.slice r.a r.n r.p,.slice r.da r.dn r.dp] 58):=⟨_,rfl⟩
 have hEW : Ext w4 W:=by rw [hW];exact (((Ext.refl w4).alloc _).alloc _).alloc _
 obtain ⟨g0,hg0⟩ : ∃ g0,g0 = w4.heap.size:=⟨_,rfl⟩
 have HSB : Hid (SXR g0 x y r W):=by rw [hW,hg0];exact qpj w4 x y r
 have HX:=Lib.hid (HX4.out.ext hEW)
 have HY:=Lib.hid (HY4.out.ext hEW)
 have HRX:=Lib.hid (HR4.out.ext hEW)
 have HE:=Lib.hid (HE4.out.trans hEW)
 rw [<- hW,<- hg0]
 clear hW hg0 hEW HX4 HY4 HR4 HE4
 have HDW : Hid (Ext W W.drew):=(Ext.refl _).drew
 go_cut [10,11] (qse (qch z f) (qch z g) W.drew)
 case first=>
  have CC : Hid (∀ A B wk,S7 W.drew wk A B -> Calls Tryz.prog 27 #[.agg (peA x),.int .i64 1,.agg (reA r)] wk (qbe (M7 A B) wk 4 (qch z f))):=fun A B wk h=>qmp (B:=3) (Nat.le_refl 1) (by decide) (M7 A B) x f wk h.mb (h.old (HX.out.ext HDW.out)) (((HRX.out.ext HDW.out).more fun g hg=>.inr (h.lt g hg).1).ext h.e) (Nat.le_trans HS1.out.dl (by decide)) HS1.out.deg (by decide)
  have CD : Hid (∀ A B wk,S7 W.drew wk A B -> Calls Tryz.prog 27 #[.agg (peA y),.int .i64 1,.agg (reA r)] wk (qbe (M7 A B) wk 4 (qch z g))):=fun A B wk h=>qmp (B:=3) (Nat.le_refl 1) (by decide) (M7 A B) y g wk h.mb (h.old (HY.out.ext HDW.out)) (((HRX.out.ext HDW.out).more fun g hg=>.inr (h.lt g hg).1).ext h.e) (Nat.le_trans HS2.out.dl (by decide)) HS2.out.deg (by decide)
  have S0:=S7.start W.drew
  have HS7 : Hid (SXR g0 x y r W.drew):=HSB.out.ext HDW.out
  refine qae (SXR g0 x y r) 10 (by kernel_rfl) HS7.out (fun hHeld=>?_)
  clear HS7 HX HY HS1 HS2 HE HDW HSB HRX HZ8
  generalize qch z f = fu at *
  generalize qch z g = gu at *
  generalize W.drew = wd at *
  (refine tkB [0,1,3,4] ?_;(iterate 4 (refine tk1 (oi:=?_) (v:=?_) (by kernel_rfl) (by first | exact hSn | exact hHeld) ?_ ?_ ?_ ?_ ?_;rotate_left 2;(simp only [xgA,xgB,xgC];rfl);rfl;(intro wS hSw;obtain ⟨⟨⟨A0,A1,A2,A3⟩,B0,B1,B2,B3⟩,C0,C1,C2⟩:=hSw;go_simp;try with_reducible rfl);(exact fun _ _ _ h=>h);(try simp only [Act.put,xgD,xgE,xgF])));refine tkE ?_)
  have SX:=S0
  clear S0
  (refine qd5 2 6 7 (oi:=?_) (oj:=?_) (ok:=?_) (by kernel_rfl) ?_ ?_ ?_ ?_ ?_ ?_;rotate_left 3;(simp only [xgA,xgB,xgC];rfl);(simp only [xgA,xgB,xgC];rfl);(simp only [xgA,xgB,xgC];rfl);all_goals intro K hK)
  all_goals (go_simp;(first | (obtain ⟨v,g,hv,hg,SX,hkp⟩:=SX.nA;rw [hv];(try replace hc:=hkp _ _ hc);(try replace hd:=hkp _ _ hd);rw [hg];clear hv hg hkp) | (obtain ⟨v,g,hv,hg,SX,hkp⟩:=SX.nB;rw [hv];(try replace hc:=hkp _ _ hc);(try replace hd:=hkp _ _ hd);rw [hg];clear hv hg hkp) | (have _h:=hc;clear _h;refine (CD.out _ _ _ SX).mono ?_;rintro e v ⟨zd,rfl,hd,D⟩;go_wp2_with (fail);replace SX:=SX.call D;replace hc:=hc.ext D;clear D) | (refine (CC.out _ _ _ SX).mono ?_;rintro e v ⟨zc,rfl,hc,D⟩;go_wp2_with (fail);replace SX:=SX.call D;clear D));(try clear hSn);have hSn:=hHeld.ext SX.e;refine hK.out _ _ (fun _=>hSn) ?_;clear hK K;(try simp only [Act.put,xgD,xgE,xgF]))
  focus (refine qd5 5 6 7 (oi:=?_) (oj:=?_) (ok:=?_) (by kernel_rfl) ?_ ?_ ?_ ?_ ?_ ?_;rotate_left 3;(simp only [xgA,xgB,xgC];rfl);(simp only [xgA,xgB,xgC];rfl);(simp only [xgA,xgB,xgC];rfl);all_goals intro K hK)
  rotate_left 3
  focus (refine qax 2 7 (oi:=?_) (oj:=?_) (by kernel_rfl) ?_ ?_ ?_ ?_;rotate_left 2;(simp only [xgA,xgB,xgC];rfl);(simp only [xgA,xgB,xgC];rfl);all_goals intro K hK)
  rotate_left 2
  focus (refine qax 2 6 (oi:=?_) (oj:=?_) (by kernel_rfl) ?_ ?_ ?_ ?_;rotate_left 2;(simp only [xgA,xgB,xgC];rfl);(simp only [xgA,xgB,xgC];rfl);all_goals intro K hK)
  rotate_left 2
  all_goals (go_simp;(first | (obtain ⟨v,g,hv,hg,SX,hkp⟩:=SX.nA;rw [hv];(try replace hc:=hkp _ _ hc);(try replace hd:=hkp _ _ hd);rw [hg];clear hv hg hkp) | (obtain ⟨v,g,hv,hg,SX,hkp⟩:=SX.nB;rw [hv];(try replace hc:=hkp _ _ hc);(try replace hd:=hkp _ _ hd);rw [hg];clear hv hg hkp) | (have _h:=hc;clear _h;refine (CD.out _ _ _ SX).mono ?_;rintro e v ⟨zd,rfl,hd,D⟩;go_wp2_with (fail);replace SX:=SX.call D;replace hc:=hc.ext D;clear D) | (refine (CC.out _ _ _ SX).mono ?_;rintro e v ⟨zc,rfl,hc,D⟩;go_wp2_with (fail);replace SX:=SX.call D;clear D));(try clear hSn);have hSn:=hHeld.ext SX.e;refine hK.out _ _ (fun _=>hSn) ?_;clear hK K;(try simp only [Act.put,xgD,xgE,xgF]))
  focus (refine qax 6 7 (oi:=?_) (oj:=?_) (by kernel_rfl) ?_ ?_ ?_ ?_;rotate_left 2;(simp only [xgA,xgB,xgC];rfl);(simp only [xgA,xgB,xgC];rfl);all_goals intro K hK)
  rotate_left 2
  focus (refine qax 5 7 (oi:=?_) (oj:=?_) (by kernel_rfl) ?_ ?_ ?_ ?_;rotate_left 2;(simp only [xgA,xgB,xgC];rfl);(simp only [xgA,xgB,xgC];rfl);all_goals intro K hK)
  rotate_left 2
  focus (refine qax 5 6 (oi:=?_) (oj:=?_) (by kernel_rfl) ?_ ?_ ?_ ?_;rotate_left 2;(simp only [xgA,xgB,xgC];rfl);(simp only [xgA,xgB,xgC];rfl);all_goals intro K hK)
  rotate_left 2
  focus (refine qax 5 7 (oi:=?_) (oj:=?_) (by kernel_rfl) ?_ ?_ ?_ ?_;rotate_left 2;(simp only [xgA,xgB,xgC];rfl);(simp only [xgA,xgB,xgC];rfl);all_goals intro K hK)
  rotate_left 2
  focus (refine qaa 2 (o:=?_) (by kernel_rfl) ?_ ?_;rotate_left 1;(simp only [xgA,xgB,xgC];rfl);intro K hK)
  rotate_left
  focus (refine qax 5 6 (oi:=?_) (oj:=?_) (by kernel_rfl) ?_ ?_ ?_ ?_;rotate_left 2;(simp only [xgA,xgB,xgC];rfl);(simp only [xgA,xgB,xgC];rfl);all_goals intro K hK)
  rotate_left 2
  focus (refine qaa 2 (o:=?_) (by kernel_rfl) ?_ ?_;rotate_left 1;(simp only [xgA,xgB,xgC];rfl);intro K hK)
  rotate_left
  all_goals (go_simp;(first | (obtain ⟨v,g,hv,hg,SX,hkp⟩:=SX.nA;rw [hv];(try replace hc:=hkp _ _ hc);(try replace hd:=hkp _ _ hd);rw [hg];clear hv hg hkp) | (obtain ⟨v,g,hv,hg,SX,hkp⟩:=SX.nB;rw [hv];(try replace hc:=hkp _ _ hc);(try replace hd:=hkp _ _ hd);rw [hg];clear hv hg hkp) | (have _h:=hc;clear _h;refine (CD.out _ _ _ SX).mono ?_;rintro e v ⟨zd,rfl,hd,D⟩;go_wp2_with (fail);replace SX:=SX.call D;replace hc:=hc.ext D;clear D) | (refine (CC.out _ _ _ SX).mono ?_;rintro e v ⟨zc,rfl,hc,D⟩;go_wp2_with (fail);replace SX:=SX.call D;clear D));(try clear hSn);have hSn:=hHeld.ext SX.e;refine hK.out _ _ (fun _=>hSn) ?_;clear hK K;(try simp only [Act.put,xgD,xgE,xgF]))
  focus (refine qaa 7 (o:=?_) (by kernel_rfl) ?_ ?_;rotate_left 1;(simp only [xgA,xgB,xgC];rfl);intro K hK)
  rotate_left
  focus (refine qaa 6 (o:=?_) (by kernel_rfl) ?_ ?_;rotate_left 1;(simp only [xgA,xgB,xgC];rfl);intro K hK)
  rotate_left
  focus (refine qaa 7 (o:=?_) (by kernel_rfl) ?_ ?_;rotate_left 1;(simp only [xgA,xgB,xgC];rfl);intro K hK)
  rotate_left
  focus (refine qaa 5 (o:=?_) (by kernel_rfl) ?_ ?_;rotate_left 1;(simp only [xgA,xgB,xgC];rfl);intro K hK)
  rotate_left
  focus (refine qaa 6 (o:=?_) (by kernel_rfl) ?_ ?_;rotate_left 1;(simp only [xgA,xgB,xgC];rfl);intro K hK)
  rotate_left
  focus (refine qaa 5 (o:=?_) (by kernel_rfl) ?_ ?_;rotate_left 1;(simp only [xgA,xgB,xgC];rfl);intro K hK)
  rotate_left
  focus (refine qaa 7 (o:=?_) (by kernel_rfl) ?_ ?_;rotate_left 1;(simp only [xgA,xgB,xgC];rfl);intro K hK)
  rotate_left
  focus (refine qaa 5 (o:=?_) (by kernel_rfl) ?_ ?_;rotate_left 1;(simp only [xgA,xgB,xgC];rfl);intro K hK)
  rotate_left
  focus (refine qaa 5 (o:=?_) (by kernel_rfl) ?_ ?_;rotate_left 1;(simp only [xgA,xgB,xgC];rfl);intro K hK)
  rotate_left
  focus (refine qaa 6 (o:=?_) (by kernel_rfl) ?_ ?_;rotate_left 1;(simp only [xgA,xgB,xgC];rfl);intro K hK)
  rotate_left
  focus (refine qaa 5 (o:=?_) (by kernel_rfl) ?_ ?_;rotate_left 1;(simp only [xgA,xgB,xgC];rfl);intro K hK)
  rotate_left
  focus (refine qaa 5 (o:=?_) (by kernel_rfl) ?_ ?_;rotate_left 1;(simp only [xgA,xgB,xgC];rfl);intro K hK)
  rotate_left
  all_goals (go_simp;(first | (obtain ⟨v,g,hv,hg,SX,hkp⟩:=SX.nA;rw [hv];(try replace hc:=hkp _ _ hc);(try replace hd:=hkp _ _ hd);rw [hg];clear hv hg hkp) | (obtain ⟨v,g,hv,hg,SX,hkp⟩:=SX.nB;rw [hv];(try replace hc:=hkp _ _ hc);(try replace hd:=hkp _ _ hd);rw [hg];clear hv hg hkp) | (have _h:=hc;clear _h;refine (CD.out _ _ _ SX).mono ?_;rintro e v ⟨zd,rfl,hd,D⟩;go_wp2_with (fail);replace SX:=SX.call D;replace hc:=hc.ext D;clear D) | (refine (CC.out _ _ _ SX).mono ?_;rintro e v ⟨zc,rfl,hc,D⟩;go_wp2_with (fail);replace SX:=SX.call D;clear D));(try clear hSn);have hSn:=hHeld.ext SX.e;refine hK.out _ _ (fun _=>hSn) ?_;clear hK K;(try simp only [Act.put,xgD,xgE,xgF]))
  all_goals (first | (obtain ⟨W1,hW1,⟨q0,q1,q2,q3⟩,⟨f0,f1,f2,f3⟩,E1,⟨r0,r1,r2,r3⟩,⟨k0,k1,k2,k3⟩,W2,hW2,HP2⟩:=SX.put2 hc hd;unfold set4 at hW1 hW2;have hSn1:=hHeld.ext E1;have hSn2:=hHeld.ext HP2.e;clear hSn;(refine qaa 8 (o:=?_) (by kernel_rfl) ?_ ?_;rotate_left 1;(simp only [xgA,xgB,xgC];rfl);intro K hK);go_simp;rw [<- hW1];clear hW1;refine hK.out _ _ (fun _=>hSn1) ?_;clear hK K q0 q1 q2 q3 f0 f1 f2 f3;(try simp only [Act.put,xgD,xgE,xgF]);(refine qaa 9 (o:=?_) (by kernel_rfl) ?_ ?_;rotate_left 1;(simp only [xgA,xgB,xgC];rfl);intro K hK);go_simp;rw [<- hW2];clear hW2;refine hK.out _ _ (fun _=>hSn2) ?_;clear hK K r0 r1 r2 r3 k0 k1 k2 k3;(try simp only [Act.put,xgD,xgE,xgF]);refine qac (by kernel_rfl) ?_ _;go_wp2_with (fail);go_meet;exact ⟨_,_,zc,zd,rfl,rfl,HP2⟩) | (obtain ⟨W1,hW1,⟨q0,q1,q2,q3⟩,⟨f0,f1,f2,f3⟩,E1,⟨r0,r1,r2,r3⟩,⟨k0,k1,k2,k3⟩,W2,hW2,HP2⟩:=SX.sw.put2 hc.sw7 hd.sw7;unfold set4 at hW1 hW2;have hSn1:=hHeld.ext E1;have hSn2:=hHeld.ext HP2.e;clear hSn;(refine qaa 8 (o:=?_) (by kernel_rfl) ?_ ?_;rotate_left 1;(simp only [xgA,xgB,xgC];rfl);intro K hK);go_simp;rw [<- hW1];clear hW1;refine hK.out _ _ (fun _=>hSn1) ?_;clear hK K q0 q1 q2 q3 f0 f1 f2 f3;(try simp only [Act.put,xgD,xgE,xgF]);(refine qaa 9 (o:=?_) (by kernel_rfl) ?_ ?_;rotate_left 1;(simp only [xgA,xgB,xgC];rfl);intro K hK);go_simp;rw [<- hW2];clear hW2;refine hK.out _ _ (fun _=>hSn2) ?_;clear hK K r0 r1 r2 r3 k0 k1 k2 k3;(try simp only [Act.put,xgD,xgE,xgF]);refine qac (by kernel_rfl) ?_ _;go_wp2_with (fail);go_meet;exact ⟨_,_,zc,zd,rfl,rfl,HP2⟩))
 case rest=>
  obtain ⟨ga,gb,u,v,rfl,rfl,hput⟩:=hcut
  have HPU:=Lib.hid hput
  have HWC:=Lib.hid (HDW.out.trans hput.e)
  have HSC:=Lib.hid (HSB.out.ext HWC.out)
  have HXC:=Lib.hid (HX.out.ext HWC.out)
  have HYC:=Lib.hid (HY.out.ext HWC.out)
  have HRC:=Lib.hid (HRX.out.ext HWC.out)
  have HEC:=Lib.hid (HE.out.trans HWC.out)
  clear hput HX HY HE HSB HWC HDW HRX
  obtain ⟨m,hm⟩:=qc9 (k:=2) HS1.out.nn
  have CZ1 : Hid (∀ wk,Ext wc wk -> Calls Tryz.prog 15 #[.agg (peA u)] wk fun e w'=>∃ b : Bool,e = .returned (.bool b) /\ (b = true ↔ Sim (qch z f) []) /\ Ext wk w'):=fun wk he=>qbo M0 u _ wk (mb0 _) (HPU.out.x.ext he).pi
  have CZ2 : Hid (∀ wk,Ext wc wk -> Calls Tryz.prog 15 #[.agg (peA v)] wk fun e w'=>∃ b : Bool,e = .returned (.bool b) /\ (b = true ↔ Sim (qch z g) []) /\ Ext wk w'):=fun wk he=>qbo M0 v _ wk (mb0 _) (HPU.out.y.ext he).pi
  have HDC : Hid (Ext wc wc.drew):=(Ext.refl _).drew
  have HSU : Hid (SXU g0 ga gb x y u v wc.drew):=SXU.ext ⟨HSC.out.1,HPU.out.p,HPU.out.q⟩ HDC.out
  clear hm
  go_upto_region 7 with (fail)
  refine qae (SXU g0 ga gb x y u v) 15 (by kernel_rfl) HSU.out (fun hHeld=>?_)
  generalize wc.drew = wd at *
  (refine tkB [0] ?_;(iterate 1 (refine tk1 (oi:=?_) (v:=?_) (by kernel_rfl) (by first | exact hSn | exact hHeld) ?_ ?_ ?_ ?_ ?_;rotate_left 2;(simp only [xgA,xgB,xgC];rfl);rfl;(intro wS hSw;obtain ⟨⟨⟨A0,A1,A2,A3⟩,B0,B1,B2,B3⟩,⟨C0,C1,C2,C3⟩,D0,D1,D2,D3⟩:=hSw;go_simp;try with_reducible rfl);(exact fun _ _ _ h=>h);(try simp only [Act.put,xgD,xgE,xgF])));refine tkE ?_)
  ((refine qaa 1 (o:=?_) (by kernel_rfl) ?_ ?_;rotate_left 1;(simp only [xgA,xgB,xgC];rfl);intro K hK);go_simp;(refine (CZ1.out wd HDC.out).mono ?_);rintro e_ v1 ⟨bz,rfl,hbz,d1⟩;go_wp2_with (fail);(try clear hSn);(have hSn:=hHeld.ext d1);(refine hK.out _ _ (fun _=>hSn) ?_);clear hK K;(try simp only [Act.put,xgD,xgE,xgF]))
  have HBZ:=Lib.hid hbz
  clear hbz
  cases bz with
  | true=>
   (refine tkB [2] ?_;(iterate 1 (refine tk1 (oi:=?_) (v:=?_) (by kernel_rfl) (by first | exact hSn | exact hHeld) ?_ ?_ ?_ ?_ ?_;rotate_left 2;(simp only [xgA,xgB,xgC];rfl);rfl;(intro wS hSw;obtain ⟨⟨⟨A0,A1,A2,A3⟩,B0,B1,B2,B3⟩,⟨C0,C1,C2,C3⟩,D0,D1,D2,D3⟩:=hSw;go_simp;try with_reducible rfl);(exact fun _ _ _ h=>h);(try simp only [Act.put,xgD,xgE,xgF])));refine tkE ?_)
   (refine tkB [3,4] ?_;(iterate 2 (refine ts1 (oi:=?_) (by kernel_rfl) (by first | exact hSn | exact hHeld) ?_ ?_ ?_ ?_;rotate_left 1;(simp only [xgA,xgB,xgC];rfl);rfl;(exact fun _ _ _ h=>h);(try simp only [Act.put,xgD,xgE,xgF])));refine tkE ?_)
   (refine tkB [5,6] ?_;(iterate 2 (refine tk1 (oi:=?_) (v:=?_) (by kernel_rfl) (by first | exact hSn | exact hHeld) ?_ ?_ ?_ ?_ ?_;rotate_left 2;(simp only [xgA,xgB,xgC];rfl);rfl;(intro wS hSw;obtain ⟨⟨⟨A0,A1,A2,A3⟩,B0,B1,B2,B3⟩,⟨C0,C1,C2,C3⟩,D0,D1,D2,D3⟩:=hSw;go_simp;try with_reducible rfl);(exact fun _ _ _ h=>h);(try simp only [Act.put,xgD,xgE,xgF])));refine tkE ?_)
   (refine tkB [7,8,9,10,11,12,13] ?_;(iterate 7 (refine ts1 (oi:=?_) (by kernel_rfl) (by first | exact hSn | exact hHeld) ?_ ?_ ?_ ?_;rotate_left 1;(simp only [xgA,xgB,xgC];rfl);rfl;(exact fun _ _ _ h=>h);(try simp only [Act.put,xgD,xgE,xgF])));refine tkE ?_)
   (refine tkB [14] ?_;(iterate 1 (refine tk1 (oi:=?_) (v:=?_) (by kernel_rfl) (by first | exact hSn | exact hHeld) ?_ ?_ ?_ ?_ ?_;rotate_left 2;(simp only [xgA,xgB,xgC];rfl);rfl;(intro wS hSw;obtain ⟨⟨⟨A0,A1,A2,A3⟩,B0,B1,B2,B3⟩,⟨C0,C1,C2,C3⟩,D0,D1,D2,D3⟩:=hSw;go_simp;try with_reducible rfl);(exact fun _ _ _ h=>h);(try simp only [Act.put,xgD,xgE,xgF])));refine tkE ?_)
   refine qac (by kernel_rfl) ?_ _
   have HF:=Lib.hid (HEC.out.trans (HDC.out.trans d1))
   clear d1 hHeld hSn HBZ
   go_wp2
   go_ret
   exact ⟨rfl,HF.out⟩
  | false=>
  have HN1 : Hid (¬ Sim (qch z f) []):=fun hh=>by have:=HBZ.out.2 hh;cases this
  clear HBZ
  (refine tkB [2,3] ?_;(iterate 2 (refine tk1 (oi:=?_) (v:=?_) (by kernel_rfl) (by first | exact hSn | exact hHeld) ?_ ?_ ?_ ?_ ?_;rotate_left 2;(simp only [xgA,xgB,xgC];rfl);rfl;(intro wS hSw;obtain ⟨⟨⟨A0,A1,A2,A3⟩,B0,B1,B2,B3⟩,⟨C0,C1,C2,C3⟩,D0,D1,D2,D3⟩:=hSw;go_simp;try with_reducible rfl);(exact fun _ _ _ h=>h);(try simp only [Act.put,xgD,xgE,xgF])));refine tkE ?_)
  ((refine qaa 4 (o:=?_) (by kernel_rfl) ?_ ?_;rotate_left 1;(simp only [xgA,xgB,xgC];rfl);intro K hK);go_simp;(refine (CZ2.out v1 (HDC.out.trans d1)).mono ?_);rintro e_ v2 ⟨bz,rfl,hbz,d2⟩;go_wp2_with (fail);(try clear hSn);(have hSn:=hHeld.ext (d1.trans d2));(refine hK.out _ _ (fun _=>hSn) ?_);clear hK K;(try simp only [Act.put,xgD,xgE,xgF]))
  have HBZ:=Lib.hid hbz
  clear hbz
  cases bz with
  | true=>
   (refine tkB [5,6] ?_;(iterate 2 (refine tk1 (oi:=?_) (v:=?_) (by kernel_rfl) (by first | exact hSn | exact hHeld) ?_ ?_ ?_ ?_ ?_;rotate_left 2;(simp only [xgA,xgB,xgC];rfl);rfl;(intro wS hSw;obtain ⟨⟨⟨A0,A1,A2,A3⟩,B0,B1,B2,B3⟩,⟨C0,C1,C2,C3⟩,D0,D1,D2,D3⟩:=hSw;go_simp;try with_reducible rfl);(exact fun _ _ _ h=>h);(try simp only [Act.put,xgD,xgE,xgF])));refine tkE ?_)
   (refine tkB [7,8,9,10,11,12,13] ?_;(iterate 7 (refine ts1 (oi:=?_) (by kernel_rfl) (by first | exact hSn | exact hHeld) ?_ ?_ ?_ ?_;rotate_left 1;(simp only [xgA,xgB,xgC];rfl);rfl;(exact fun _ _ _ h=>h);(try simp only [Act.put,xgD,xgE,xgF])));refine tkE ?_)
   (refine tkB [14] ?_;(iterate 1 (refine tk1 (oi:=?_) (v:=?_) (by kernel_rfl) (by first | exact hSn | exact hHeld) ?_ ?_ ?_ ?_ ?_;rotate_left 2;(simp only [xgA,xgB,xgC];rfl);rfl;(intro wS hSw;obtain ⟨⟨⟨A0,A1,A2,A3⟩,B0,B1,B2,B3⟩,⟨C0,C1,C2,C3⟩,D0,D1,D2,D3⟩:=hSw;go_simp;try with_reducible rfl);(exact fun _ _ _ h=>h);(try simp only [Act.put,xgD,xgE,xgF])));refine tkE ?_)
   refine qac (by kernel_rfl) ?_ _
   have HF:=Lib.hid (HEC.out.trans (HDC.out.trans (d1.trans d2)))
   clear d1 d2 hHeld hSn HBZ
   go_wp2
   go_ret
   exact ⟨rfl,HF.out⟩
  | false=>
  have HN2 : Hid (¬ Sim (qch z g) []):=fun hh=>by have:=HBZ.out.2 hh;cases this
  clear HBZ
  obtain ⟨m,hm⟩:=qc9 (k:=2) HS1.out.nn
  obtain ⟨n,hn⟩:=qc9 (k:=2) HS2.out.nn
  obtain ⟨m',hm'⟩:=qc9 (k:=2) (qcl (z:=z) HS1.out.nn)
  obtain ⟨n',hn'⟩:=qc9 (k:=2) (qcl (z:=z) HS2.out.nn)
  have CD1 : Hid (∀ wk,Ext wc wk -> Calls Tryz.prog 12 #[.agg (peA x),.agg (peA y),.int .i64 2] wk fun e w'=>e = .returned (.agg #[.int .i64 (m : Int),.int .i64 (n : Int)]) /\ Ext wk w'):=fun wk he=>qfc wk x y 2 m n (fun wl hl=>qb3 M0 x f 2 (m : Int) wl (by decide) (by decide) HS1.out.nn (.inr ⟨fun h=>HN1.out (qcr (z:=z) (r:=[]) h),m,hm,rfl⟩) (mb0 _) (HXC.out.ext (he.trans hl)).pi) fun wl hl=>qb3 M0 y g 2 (n : Int) wl (by decide) (by decide) HS2.out.nn (.inr ⟨fun h=>HN2.out (qcr (z:=z) (r:=[]) h),n,hn,rfl⟩) (mb0 _) (HYC.out.ext (he.trans hl)).pi
  have CD2 : Hid (∀ wk,Ext wc wk -> Calls Tryz.prog 12 #[.agg (peA u),.agg (peA v),.int .i64 2] wk fun e w'=>e = .returned (.agg #[.int .i64 (m' : Int),.int .i64 (n' : Int)]) /\ Ext wk w'):=fun wk he=>qfc wk u v 2 m' n' (fun wl hl=>qb3 M0 u _ 2 (m' : Int) wl (by decide) (by decide) (qcl HS1.out.nn) (.inr ⟨HN1.out,m',hm',rfl⟩) (mb0 _) (HPU.out.x.ext (he.trans hl)).pi) fun wl hl=>qb3 M0 v _ 2 (n' : Int) wl (by decide) (by decide) (qcl HS2.out.nn) (.inr ⟨HN2.out,n',hn',rfl⟩) (mb0 _) (HPU.out.y.ext (he.trans hl)).pi
  have HDM:=Lib.hid hm
  have HDN:=Lib.hid hn
  have HDM':=Lib.hid hm'
  have HDN':=Lib.hid hn'
  clear hm hn hm' hn'
  (refine tkB [5,6,7,8,10,11] ?_;(iterate 6 (refine tk1 (oi:=?_) (v:=?_) (by kernel_rfl) (by first | exact hSn | exact hHeld) ?_ ?_ ?_ ?_ ?_;rotate_left 2;(simp only [xgA,xgB,xgC];rfl);rfl;(intro wS hSw;obtain ⟨⟨⟨A0,A1,A2,A3⟩,B0,B1,B2,B3⟩,⟨C0,C1,C2,C3⟩,D0,D1,D2,D3⟩:=hSw;go_simp;try with_reducible rfl);(exact fun _ _ _ h=>h);(try simp only [Act.put,xgD,xgE,xgF])));refine tkE ?_)
  ((refine qaa 9 (o:=?_) (by kernel_rfl) ?_ ?_;rotate_left 1;(simp only [xgA,xgB,xgC];rfl);intro K hK);go_simp;(refine (CD1.out v2 (HDC.out.trans (d1.trans d2))).mono ?_);rintro e_ v3 ⟨rfl,d3⟩;go_wp2_with (fail);(try clear hSn);(have hSn:=hHeld.ext ((d1.trans d2).trans d3));(refine hK.out _ _ (fun _=>hSn) ?_);clear hK K;(try simp only [Act.put,xgD,xgE,xgF]))
  ((refine qaa 12 (o:=?_) (by kernel_rfl) ?_ ?_;rotate_left 1;(simp only [xgA,xgB,xgC];rfl);intro K hK);go_simp;(refine (CD2.out v3 (HDC.out.trans ((d1.trans d2).trans d3))).mono ?_);rintro e_ v4 ⟨rfl,d4⟩;go_wp2_with (fail);(try clear hSn);(have hSn:=hHeld.ext (((d1.trans d2).trans d3).trans d4));(refine hK.out _ _ (fun _=>hSn) ?_);clear hK K;(try simp only [Act.put,xgD,xgE,xgF]))
  have hq:=fun w=>qpJ (m : Int) (n : Int) (m' : Int) (n' : Int) w
  have HE8:=Lib.hid (HDC.out.trans (((d1.trans d2).trans d3).trans d4))
  clear d1 d2 d3 d4 CD1 CD2 CZ1 CZ2 HSU HDC
  by_cases hmm : (m : Int) = (m' : Int) /\ (n : Int) = (n' : Int)
  case neg=>
   rw [decide_eq_false hmm] at hq
   clear hmm
   (refine tkB [13,14] ?_;(iterate 2 (refine tk1 (oi:=?_) (v:=?_) (by kernel_rfl) (by first | exact hSn | exact hHeld) ?_ ?_ ?_ ?_ ?_;rotate_left 2;(simp only [xgA,xgB,xgC];rfl);rfl;(intro wS hSw;obtain ⟨⟨⟨A0,A1,A2,A3⟩,B0,B1,B2,B3⟩,⟨C0,C1,C2,C3⟩,D0,D1,D2,D3⟩:=hSw;go_simp;try with_reducible rfl);(exact fun _ _ _ h=>h);(try simp only [Act.put,xgD,xgE,xgF])));refine tkE ?_)
   refine qac (by kernel_rfl) ?_ _
   have HF:=Lib.hid (HEC.out.trans HE8.out)
   clear hHeld hSn hq
   go_wp2
   go_ret
   exact ⟨rfl,HF.out⟩
  rw [decide_eq_true hmm] at hq
  obtain ⟨hm1,hn1⟩:=hmm
  obtain rfl : m = m':=by omega
  obtain rfl : n = n':=by omega
  clear hm1 hn1
  (refine tkB [13,14] ?_;(iterate 2 (refine tk1 (oi:=?_) (v:=?_) (by kernel_rfl) (by first | exact hSn | exact hHeld) ?_ ?_ ?_ ?_ ?_;rotate_left 2;(simp only [xgA,xgB,xgC];rfl);rfl;(intro wS hSw;obtain ⟨⟨⟨A0,A1,A2,A3⟩,B0,B1,B2,B3⟩,⟨C0,C1,C2,C3⟩,D0,D1,D2,D3⟩:=hSw;go_simp;try with_reducible rfl);(exact fun _ _ _ h=>h);(try simp only [Act.put,xgD,xgE,xgF])));refine tkE ?_)
  refine qac (by kernel_rfl) ?_ _
  obtain ⟨N,F,G,HH⟩:=qqI HS1.out HS2.out HZ8.out.1 HN1.out HN2.out HDM.out HDN.out HDM'.out HDN'.out x y u v wc HXC.out HYC.out HPU.out.x HPU.out.y
  have HC:=Lib.hid HH
  clear HH HS1 HS2 HN1 HN2 HDM HDN HDM' HDN' HXC HYC hHeld hSn hq
  obtain ⟨⟨x0,x1,x2,x3⟩,y0,y1,y2,y3⟩:=HSC.out.1.ext HE8.out
  go_wp2_with (fail)
  refine (HC.out.c1 v4 HE8.out).mono ?_
  rintro e w10 ⟨v6,rfl,hv6,e10⟩
  obtain ⟨u6,rfl,HA6⟩:=hv6.open
  have HE10:=Lib.hid (HE8.out.trans e10)
  clear x0 x1 x2 x3 y0 y1 y2 y3 hv6 e10 HE8
  obtain ⟨x0,x1,x2,x3⟩:=HPU.out.p.ext HE10.out
  obtain ⟨y0,y1,y2,y3⟩:=HPU.out.q.ext HE10.out
  go_wp2_with (fail)
  refine (HC.out.c2 w10 HE10.out).mono ?_
  rintro e w11 ⟨v7,rfl,hv7,e11⟩
  obtain ⟨u7,rfl,HA7⟩:=hv7.open
  have HE11:=Lib.hid (HE10.out.trans e11)
  have HA6F : Hid (0 < N -> ∃ gl : Nat,u6 = some ⟨gl,0,none⟩ /\ qaC (fun b=>M0 b ∨ b = gl) w11 4 gl N F):=fun hi=>by
   obtain ⟨gl,h1,h2⟩:=HA6.out hi
   exact ⟨gl,h1,h2.ext e11⟩
  have hN6:=HC.out.N6
  clear x0 x1 x2 x3 y0 y1 y2 y3 hv7 e11 HE10 HA6
  go_wp2
  go_loopw [82] (fun iv wr=>∃ j : Nat,j <= N /\ iv = .int .i64 (j : Int) /\ Hid (Ext w11 wr)) (fun iv _=>N - (intOf iv).toNat)
  case atStart=>exact ⟨0,Nat.zero_le _,rfl,Ext.refl _⟩
  case round=>
   obtain ⟨j,hj,rfl,HER⟩:=hrel
   have hj0 : (0 : Int) <= (j : Int):=Int.natCast_nonneg _
   by_cases hjN : j < N
   ·have hjI : (j : Int) < (N : Int):=by omega
    obtain ⟨hdl,hdg,hsim⟩:=HC.out.fin j hjN
    obtain ⟨la,rfl,hka⟩:=HA6F.out (by omega)
    obtain ⟨lb,rfl,hkb⟩:=HA7.out (by omega)
    obtain ⟨za,hza,hxa⟩:=hka.cel j hjN
    obtain ⟨zb,hzb,hxb⟩:=hkb.cel j hjN
    have HXA : Hid (CRx M0 wr 4 za (F j)):=(hxa.more fun b hb=>.inl (.inl hb)).ext HER.out
    have HXB : Hid (CRx M0 wr 4 zb (G j)):=(hxb.more fun b hb=>.inl (.inl hb)).ext HER.out
    have HDR : Hid (Ext wr wr.drew):=(Ext.refl _).drew
    have HSR : Hid (SKR la lb (j * 4) (g0 + 2) za zb r wr.drew):=SKR.ext ⟨⟨hza,hka.lt⟩,⟨hzb,hkb.lt⟩,HSC.out.2.ext HE11.out⟩ (HER.out.trans HDR.out)
    have HSIM:=Lib.hid hsim
    have HJN : Hid (j < N):=hjN
    have CA : Hid (∀ wk,Ext wr wk -> Calls Tryz.prog 27 #[.agg (peA za),.int .i64 1,.agg (reA r)] wk (qbe M0 wk 4 (qch z (F j)))):=fun wk he=>qmp (B:=1000) (Nat.le_refl 1) (by decide) M0 za (F j) wk (mb0 _) (HXA.out.ext he) (HRC.out.ext (HE11.out.trans (HER.out.trans he))) hdl hdg (by decide)
    clear hdl hdg hsim hka hkb hza hxa hzb hxb hj
    go_upto_region 16 with (fail)
    refine qae (SKR la lb (j * 4) (g0 + 2) za zb r) 12 (by kernel_rfl) HSR.out (fun hHeld=>?_)
    generalize wr.drew = wd at *
    (refine tkB [0,1,2,3,4,6,7,8,9] ?_;(iterate 9 (refine tk1 (oi:=?_) (v:=?_) (by kernel_rfl) (by first | exact hSn | exact hHeld) ?_ ?_ ?_ ?_ ?_;rotate_left 2;(simp only [xgA,xgB,xgC];rfl);rfl;(intro wS hSw;obtain ⟨⟨⟨A0,A1,A2,A3⟩,A4⟩,⟨⟨B0,B1,B2,B3⟩,B4⟩,C0,C1,C2⟩:=hSw;go_simp;try with_reducible rfl);(exact fun _ _ _ h=>h);(try simp only [Act.put,xgD,xgE,xgF])));refine tkE ?_)
    ((refine qaa 5 (o:=?_) (by kernel_rfl) ?_ ?_;rotate_left 1;(simp only [xgA,xgB,xgC];rfl);intro K hK);go_simp;(refine (CA.out wd HDR.out).mono ?_);rintro e_ v1 ⟨t1,rfl,ht1,e1⟩;go_wp2_with (fail);(try clear hSn);(have hSn:=hHeld.ext e1);(refine hK.out _ _ (fun _=>hSn) ?_);clear hK K;(try simp only [Act.put,xgD,xgE,xgF]))
    have CS:=Lib.hid (qn5 t1 zb (qch z (F j)) (G j) v1 true ht1.pi (HXB.out.ext (HDR.out.trans e1)).pi ⟨fun _=>HSIM.out,fun _=>rfl⟩)
    ((refine qaa 10 (o:=?_) (by kernel_rfl) ?_ ?_;rotate_left 1;(simp only [xgA,xgB,xgC];rfl);intro K hK);go_simp;(refine (CS.out).mono ?_);rintro e_ v2 ⟨rfl,e2⟩;go_wp2_with (fail);(try clear hSn);(have hSn:=hHeld.ext (e1.trans e2));(refine hK.out _ _ (fun _=>hSn) ?_);clear hK K;(try simp only [Act.put,xgD,xgE,xgF]))
    (refine tkB [11] ?_;(iterate 1 (refine tk1 (oi:=?_) (v:=?_) (by kernel_rfl) (by first | exact hSn | exact hHeld) ?_ ?_ ?_ ?_ ?_;rotate_left 2;(simp only [xgA,xgB,xgC];rfl);rfl;(intro wS hSw;obtain ⟨⟨⟨A0,A1,A2,A3⟩,A4⟩,⟨⟨B0,B1,B2,B3⟩,B4⟩,C0,C1,C2⟩:=hSw;go_simp;try with_reducible rfl);(exact fun _ _ _ h=>h);(try simp only [Act.put,xgD,xgE,xgF])));refine tkE ?_)
    refine qac (by kernel_rfl) ?_ _
    have HEV:=Lib.hid (HER.out.trans (HDR.out.trans (e1.trans e2)))
    clear hHeld hSn e1 e2 ht1 CS CA HSR HDR HXA HXB HER
    go_wp2
    go_roundw
    case rel=>exact ⟨j + 1,HJN.out,by go_num,HEV.out⟩
    case measure=>have:=HJN.out;simp [intOf];omega
   ·have hjI : ¬ (j : Int) < (N : Int):=by omega
    have HF:=Lib.hid (HEC.out.trans (HE11.out.trans HER.out))
    clear HER hj hjN
    go_wp2
    go_ret
    exact ⟨rfl,HF.out⟩
end Go.Proofs.YtjhhekmfdhfjpaaGreat

namespace Go.Proofs.YtjhhekmfdhfjpaaGreat
open Go.ChangeShapes Go.WideShapes Go.ChangeAt Go.RowKit Go.Deep

section
variable {H : Type} {enc : TypeId × Value -> H} {W : World}
set_option linter.constructorNameAsVariable false in
set_option maxRecDepth 10000 in
theorem qm5 {base : Nat} {v : Value} {d : DataW H} {ps : List MemPlace} (hv : Value.okWide Tryz.prog W .any base 56 v) (h : DataW.Trod enc Tryz.prog W 0 (fun _=>true) true 56 v d ps) : ∃ z : Int,v = .int .i8 z /\ (-128 <= z /\ z <= 127):=by
 obtain ⟨fuel,h⟩:=h
 obtain ⟨y,rfl⟩:=okWide_int Tryz.underlying56 hv
 obtain ⟨z,hz,_,hw⟩:=DataW.trod_int Tryz.underlying56 h
 have hz' : [Value.int .i8 y] = [.int .i8 z]:=hz
 simp [Lit.wf,IntKind.min,IntKind.max,IntKind.signed,IntKind.bits] at hw
 exact ⟨z,by simpa using hz',by omega,by omega⟩
end
namespace subresultantReplace
theorem own : ownKnob Tryz.prog.godebug = none:=by kernel_rfl
set_option maxRecDepth 100000 in
theorem contract (H : Type) (enc : TypeId × Value -> H) (W : World) (base : Nat) (args : Array Value) (ds gs : List (DataW H)) (before : List MemPlace)
  (hval : ∀ (j : Nat) t v,Tryz.f7.params[j]? = some t -> args[j]? = some v -> Value.okWide Tryz.prog W .any base t v)
  (hW : DataW.Whole enc Tryz.prog Tryz.f7.params.toList Rows.subresultantReplaceSpec.vars false W args.toList ds gs before) :
  Calls Tryz.prog 7 args W fun e W'=>∃ v,e = .returned v /\ Rows.subresultantReplaceSpec.post enc Tryz.prog Tryz.f7 false true false false W args v W':=by
 have hW':=hW
 obtain ⟨p,q,hA0,hV,rfl,hfz,hnd⟩:=hW
 have hA : DataW.TrodAll enc Tryz.prog W 0 (fun _=>true) true Tryz.f7.params.toList args.toList ds p:=hA0
 rw [Tryz.params7] at hA hval
 obtain ⟨v0,vs0,d0,ds0,p0,q0,hargs,rfl,rfl,h0,r0⟩:=trodAll_cons hA
 obtain ⟨v1,vs1,d1,ds1,p1,q1,rfl,rfl,rfl,h1,r1⟩:=trodAll_cons r0
 obtain ⟨v2,vs2,d2,ds2,p2,q2,rfl,rfl,rfl,h2,r2⟩:=trodAll_cons r1
 obtain ⟨rfl,rfl,rfl⟩:=trodAll_nil r2
 obtain rfl : args = #[v0,v1,v2]:=by cases args;simp_all
 obtain ⟨rfl,rfl⟩:=trodVars_none hV
 obtain ⟨a0,n0,c0,X0,rfl,g0⟩:=qg0 (hval 0 23 v0 rfl rfl) h0
 obtain ⟨a1,n1,c1,X1,rfl,g1⟩:=qg0 (hval 1 23 v1 rfl rfl) h1
 obtain ⟨z2,rfl,g2⟩:=qm5 (hval 2 56 v2 rfl rfl) h2
 refine (qh1 a0 a1 n0 c0 n1 c1 X0 X1 z2 W g0 g1 g2).mono fun e W' ⟨he,hg⟩=>?_
 subst he
 refine ⟨_,rfl,qk0 (tb:=4) (by kernel_rfl) ?_ rfl rfl (by kernel_rfl) Tryz.underlying4 hW' hg⟩
 rw [Tryz.params7]
 intro t ht
 simp only [List.mem_cons,List.not_mem_nil,or_false,or_self,or_self_left] at ht
 rcases ht with rfl | rfl
 ·exact ⟨by kernel_rfl,of_decide_eq_true (by kernel_rfl)⟩
 ·exact ⟨by kernel_rfl,of_decide_eq_true (by kernel_rfl)⟩
set_option maxRecDepth 100000 in
theorem lifted (os : Os) (started : os.Started) (H : Type) (enc : TypeId × Value -> H) :
  ReturnsInHanded {} Tryz.checked os 7 .any (Rows.subresultantReplaceSpec.pre6 enc Tryz.prog Tryz.f7 Rows.subresultantReplaceRow.domain false) (Rows.subresultantReplaceSpec.post enc Tryz.prog Tryz.f7 false true false false):=by
 refine returnsInHanded_of_change (C:=Tryz.checked) own started (by kernel_rfl) Tryz.func7
  (ChangeSpec.witness6 (enc:=enc) (C:=Tryz.checked) false ⟨#[],#[.slice none 0 0,.slice none 0 0,.int .i8 0],[]⟩ 8 (by kernel_rfl) (by kernel_rfl) (by kernel_rfl) (by kernel_rfl)) ?_
 intro W base args ds gs before hval hW _ _
 exact contract H enc W base args ds gs before hval hW
theorem kInp : (Rows.subresultantReplaceRow.inPlace == Tryz.pinned.checked.prog.inPlace 7) = true:=by kernel_rfl
theorem kUnf : (Rows.subresultantReplaceRow.unfollowed == Tryz.pinned.checked.prog.unfollowed 7) = true:=by kernel_rfl
theorem kRec : (Rows.subresultantReplaceRow.recurses == Tryz.pinned.checked.prog.recurses 7) = true:=by kernel_rfl
theorem kNam : (Rows.subresultantReplaceRow.named == Tryz.pinned.checked.prog.varsNamed 7) = true:=by kernel_rfl
theorem kLaid : laidOutB Tryz.pinned.checked.prog = true:=by kernel_rfl
theorem closed : joinedFacts Tryz.pinned.checked.prog 7 Tryz.f7 Rows.subresultantReplaceSpec Rows.subresultantReplaceRow = true:=by
 unfold joinedFacts
 rw [kInp,kUnf,kRec,kNam,kLaid]
 kernel_rfl
theorem proved : Rows.SubresultantReplaceSaid:=
 OpenClaim.holds_of_wide (p:=Tryz.pinned) (s:=Rows.subresultantReplaceSpec) (c:=Rows.subresultantReplaceRow) 7 Tryz.f7 rfl rfl rfl rfl rfl rfl rfl ⟨rfl,rfl,rfl,rfl,rfl⟩ rfl rfl rfl rfl rfl (by kernel_rfl) Tryz.func7 closed
  (of_decide_eq_true (by kernel_rfl)) (by unfold Func.isWrapper;first | (rw [if_pos (by decide +kernel)];kernel_rfl) | (rw [if_neg (by decide +kernel)];exact ⟨rfl,rfl⟩))
  (fun os started H enc _=>lifted os started H enc)
end subresultantReplace

end Go.Proofs.YtjhhekmfdhfjpaaGreat
