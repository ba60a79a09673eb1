/- rational: numbers in memory; parts, reduce, From, Of, Normal, Mul, Add, Cmp. rational: reduce, From, Of, Normal. rational: Mul, Add, Cmp. rows of rational numbers; recpoly.Eval. -/
import Derived.Test.YtjhhekmfdhfjpaaGreatNr
import Derived.Test.YtjhhekmfdhfjpaaGreatNb
set_option linter.unusedVariables false
set_option linter.unusedSimpArgs false

namespace Go.Proofs.YtjhhekmfdhfjpaaGreat
open Go.RowKit

structure RE where
 b : Bool
 a : Option Addr
 n : Nat
 p : Nat
 da : Option Addr
 dn : Nat
 dp : Nat
instance : Inhabited RE:=⟨⟨false,none,0,0,none,0,0⟩⟩
abbrev reA (r : RE) : Array Value:=#[.bool r.b,.slice r.a r.n r.p,.slice r.da r.dn r.dp]
def qfq (M : Nat -> Prop) (w : World) (N : Nat) (r : RE) (q : Rat) : Prop:=∃ (z : Int) (d : Nat),qbl M w (.bool r.b) (.slice r.a r.n r.p) z /\ qb1 M w (.slice r.da r.dn r.dp) d /\ dlen z.natAbs <= N /\ dlen d <= N /\ q = mkRat z d
def qkj (M : Nat -> Prop) (w : World) (r : RE) (q : Rat) : Prop:=qbK M w (.bool r.b) (.slice r.a r.n r.p) q.num /\ qcx M w (.slice r.da r.dn r.dp) q.den
section
variable {M M' : Nat -> Prop} {w w' : World} {N : Nat} {r : RE} {q : Rat}
theorem qfq.kp (h : qfq M w N r q) (he : Kp M w w') : qfq M w' N r q:=by
 obtain ⟨z,d,h1,h2,h3⟩:=h;exact ⟨z,d,h1.kp he,h2.kp he,h3⟩
theorem qfq.ext (h : qfq M w N r q) (he : Ext w w') : qfq M w' N r q:=h.kp (Kp.of_ext he)
theorem qfq.more (h : qfq M w N r q) (hm : ∀ g,M' g -> M g ∨ w.heap.size <= g) : qfq M' w N r q:=by
 obtain ⟨z,d,h1,h2,h3⟩:=h;exact ⟨z,d,h1.more hm,h2.more hm,h3⟩
theorem qfq.mono {K : Nat} (h : qfq M w N r q) (hk : N <= K) : qfq M w K r q:=by
 obtain ⟨z,d,h1,h2,h3,h4,h5⟩:=h;exact ⟨z,d,h1,h2,Nat.le_trans h3 hk,Nat.le_trans h4 hk,h5⟩
theorem qfq.rb (h : qfq M w N r q) (hN : 1 <= N) : rb N q:=by
 obtain ⟨z,d,h1,h2,h3,h4,rfl⟩:=h;exact qmW h3 h4 hN
theorem qkj.kp (h : qkj M w r q) (he : Kp M w w') : qkj M w' r q:=⟨h.1.kp he,h.2.kp he⟩
theorem qkj.ext (h : qkj M w r q) (he : Ext w w') : qkj M w' r q:=h.kp (Kp.of_ext he)
theorem qkj.more (h : qkj M w r q) (hm : ∀ g,M' g -> M g ∨ w.heap.size <= g) : qkj M' w r q:=⟨h.1.more hm,h.2.more hm⟩
theorem qkj.toX (h : qkj M w r q) (hb : Go.Proofs.YtjhhekmfdhfjpaaGreat.rb N q) : qfq M w N r q:=⟨q.num,q.den,h.1.toV,h.2.toV,hb.1,hb.2,(Rat.mkRat_self q).symm⟩
end
def qnV (M : Nat -> Prop) (w : World) (q : Rat) (e : Ending) (w' : World) : Prop:=∃ r : RE,e = .returned (.agg (reA r)) /\ qkj M w' r q /\ Ext w w'
def qgx (M : Nat -> Prop) (w : World) (N : Nat) (q : Rat) (e : Ending) (w' : World) : Prop:=∃ (b : Bool) (a : Option Addr) (n p : Nat) (b2 : Bool) (a2 : Option Addr) (n2 p2 : Nat) (z : Int) (d : Nat),e = .returned (.tuple #[.agg #[.bool b,.slice a n p],.agg #[.bool b2,.slice a2 n2 p2]]) /\
 qbl M w' (.bool b) (.slice a n p) z /\ qbl M w' (.bool b2) (.slice a2 n2 p2) (d : Int) /\ d ≠ 0 /\ dlen z.natAbs <= N /\ dlen d <= N /\ q = mkRat z d /\ Ext w w'
def R3 (g : Nat) (r : RE) (w : World) : Prop:=w.cell? ⟨g,0,none⟩ = some (.bool r.b) /\ w.cell? ⟨g,1,none⟩ = some (.slice r.a r.n r.p) /\ w.cell? ⟨g,2,none⟩ = some (.slice r.da r.dn r.dp)
theorem R3.ext {g : Nat} {r : RE} {w w' : World} (k : R3 g r w) (he : Ext w w') : R3 g r w':=by
 have h1:=World.block_lt_of_cell? _ _ k.1
 exact ⟨by rw [he.cell h1];exact k.1,by rw [he.cell h1];exact k.2.1,by rw [he.cell h1];exact k.2.2⟩
theorem Blk.r3 {w : World} {g : Nat} {t : TypeId} {r : RE} (h : Blk w g t 3 (arr (reA r))) : R3 g r w:=⟨h.cell (i:=0) (by omega),h.cell (i:=1) (by omega),h.cell (i:=2) (by omega)⟩
set_option maxRecDepth 100000 in
set_option maxHeartbeats 4000000 in
theorem qkT {M : Nat -> Prop} (N : Nat) (r : RE) (q : Rat) (w : World) (hM : Mb M w) (h : qfq M w N r q) (hN : 1 <= N) :
  Calls Tryz.prog 75 #[.agg (reA r)] w (qgx M w N q):=by
 have hB0:=((Blk.of_arr w (reA r) 58 3 rfl).alloc (.cells zI 29)).alloc (.cells zI 29)
 have hB1:=(Blk.of_arr (w.alloc (.cells (reA r) 58)) zI 29 2 rfl).alloc (.cells zI 29)
 have hB2:=Blk.of_arr ((w.alloc (.cells (reA r) 58)).alloc (.cells zI 29)) zI 29 2 rfl
 have hE0 : Ext w (((w.alloc (.cells (reA r) 58)).alloc (.cells zI 29)).alloc (.cells zI 29)):=(((Ext.refl w).alloc _).alloc _).alloc _
 simp only [World.size_alloc] at hB1 hB2
 have hM0 : Mb (Mx M w.heap.size (w.heap.size + 3)) (((w.alloc (.cells (reA r) 58)).alloc (.cells zI 29)).alloc (.cells zI 29)):=Mx.mb hM (by simp;omega) (by simp)
 have h0:=(h.more (M':=Mx M w.heap.size (w.heap.size + 3)) (Mx.more (Nat.le_refl _))).ext hE0
 generalize hW0 : ((w.alloc (.cells (reA r) 58)).alloc (.cells zI 29)).alloc (.cells zI 29) = W0 at *
 have HW0:=Lib.hid hW0
 have HB1:=Lib.hid hB1
 have HB2:=Lib.hid hB2
 have HE0:=Lib.hid hE0
 have HM0:=Lib.hid hM0
 obtain ⟨z,d,hz,hd,hzN,hdN,hq⟩:=h0
 have HZ:=Lib.hid hz
 have HD:=Lib.hid hd
 have HQ:=Lib.hid hq
 obtain ⟨c0,c1,c2⟩:=hB0.r3
 have HR3 : Hid (R3 w.heap.size r W0):=⟨c0,c1,c2⟩
 have g0:=hB0.lt
 have CTR:=Lib.hid (qbA (.slice r.da r.dn r.dp) d W0 hd)
 clear h hM hW0 hB0 hB1 hB2 hE0 hM0 hz hd hq
 by_cases hd0 : d = 0
 ·have hdb : decide (d = 0) = true:=by simp [hd0]
  rw [hdb] at CTR
  have HQ0 : Hid (q = mkRat 0 1):=by show q = mkRat 0 1;rw [HQ.out,hd0];simp
  clear hdb hd0 HD HZ HQ hzN hdN
  go_enter Tryz.func75,Tryz.ntmps75
  go_upto_region 1 with (fail)
  rw [HW0.out]
  go_wp2_with (fail)
  refine CTR.out.mono ?_
  rintro e w1 ⟨rfl,rfl⟩
  clear CTR
  have CT2:=Lib.hid (qeq 1 W0 HM0.out (by omega) (by omega))
  go_wp2_with (fail)
  refine CT2.out.mono ?_
  rintro e w2 ⟨k0,k1,rfl,hk,he2⟩
  obtain ⟨kb,ka,kn,kp,rfl,rfl⟩:=hk.form
  obtain ⟨WA,WB,hWA,hWB,⟨q0,q1,q2,q3⟩,⟨p0,p1,p2,p3⟩,⟨r0,r1,r2,r3⟩,hkp,hext,hcA,hcB,_⟩:=qpG (M':=Mx M w.heap.size (w.heap.size + 3)) (w:=w) (.bool false) (.slice none 0 0) (.bool kb) (.slice ka kn kp) (HB1.out.ext he2) (HB2.out.ext he2) (by omega) (Mx.at (by omega)) (Mx.at (by omega)) (by omega) (by omega) (HE0.out.trans he2)
  have HF : Hid (qgx M w N q (.returned (.tuple #[.agg #[.bool false,.slice none 0 0],.agg #[.bool kb,.slice ka kn kp]])) WB):=
   ⟨_,_,_,_,_,_,_,_,0,1,rfl,(qbK.zero M WB).toV,((hk.kp hkp).more Mx.less).toV,by omega,by show 0 <= N;omega,by rw [qgi];exact hN,HQ0.out,hext⟩
  have s0:=(HB2.out.ext he2).cell (i:=0) (by omega)
  have s1:=(HB2.out.ext he2).cell (i:=1) (by omega)
  have s2:=(HB2.out.ext he2).frozen 0
  have s3:=(HB2.out.ext he2).frozen 1
  rw [hWA] at hWB
  have HWB:=Lib.hid hWB
  simp only [arr] at q0 q1 s0 s1
  clear CT2 hk he2 hkp hext hcA hcB p0 p1 p2 p3 hWA hWB c0 c1 c2 g0 HR3
  go_wp2
  rw [<- HWB.out]
  exact bodyPost_ret (v:=.tuple #[.agg #[.bool false,.slice none 0 0],.agg #[.bool kb,.slice ka kn kp]]) (by simp [results,Tryz.results75,go_sem,r0,r1,r2,r3]) rfl HF.out
 ·have hdb : decide (d = 0) = false:=by simp [hd0]
  rw [hdb] at CTR
  clear hdb
  go_enter Tryz.func75,Tryz.ntmps75
  go_upto_region 1 with (fail)
  rw [HW0.out]
  go_wp2_with (fail)
  refine CTR.out.mono ?_
  rintro e w1 ⟨rfl,rfl⟩
  clear CTR
  obtain ⟨WA,WB,hWA,hWB,⟨q0,q1,q2,q3⟩,⟨p0,p1,p2,p3⟩,⟨r0,r1,r2,r3⟩,hkp,hext,hcA,hcB,_⟩:=qpG (M':=Mx M w.heap.size (w.heap.size + 3)) (w:=w) (.bool r.b) (.slice r.a r.n r.p) (.bool false) (.slice r.da r.dn r.dp) (HB1.out.ext (Ext.refl _).drew) (HB2.out.ext (Ext.refl _).drew) (by omega) (Mx.at (by omega)) (Mx.at (by omega)) (by omega) (by omega) (HE0.out.drew)
  have HSS : Hid (R3 w.heap.size r W0.drew):=HR3.out.ext (Ext.refl _).drew
  have HSA : Hid (R3 w.heap.size r WA):=⟨by rw [hcA _ _ (by omega)];exact HSS.out.1,by rw [hcA _ _ (by omega)];exact HSS.out.2.1,by rw [hcA _ _ (by omega)];exact HSS.out.2.2⟩
  have HF : Hid (qgx M w N q (.returned (.tuple #[.agg #[.bool r.b,.slice r.a r.n r.p],.agg #[.bool false,.slice r.da r.dn r.dp]])) WB):=
   ⟨_,_,_,_,_,_,_,_,z,d,rfl,((HZ.out.ext (Ext.refl _).drew).kp hkp).more Mx.less,⟨false,d,rfl,((HD.out.ext (Ext.refl _).drew).kp hkp).more Mx.less,by simp [sgn]⟩,hd0,hzN,hdN,HQ.out,hext⟩
  have HWA:=Lib.hid hWA
  have HWB:=Lib.hid hWB
  have HPA : Hid ((WA.cell? ⟨w.heap.size + 1 + 1,0,none⟩ = some (.bool false) /\ WA.cell? ⟨w.heap.size + 1 + 1,1,none⟩ = some (.slice none 0 0)) /\ WA.frozen? ⟨w.heap.size + 1 + 1,0,none⟩ = false /\ WA.frozen? ⟨w.heap.size + 1 + 1,1,none⟩ = false):=⟨⟨p0,p1⟩,p2,p3⟩
  simp only [arr] at q0 q1
  clear hkp hext hcA hcB p0 p1 p2 p3 hWA hWB c0 c1 c2 HR3
  go_wp2
  refine qae (R3 w.heap.size r) 6 (by kernel_rfl) HSS.out (fun hHeld=>?_)
  generalize W0.drew = WD at *
  (refine tkB [0,1,2,3,4] ?_;(iterate 5 (refine tk1 (oi:=?_) (v:=?_) (by kernel_rfl) (by first | exact hSn | exact hHeld) ?_ ?_ ?_ ?_ ?_;rotate_left 2;(simp only [xgA,xgB,xgC];rfl);rfl;(intro wS hSw;obtain ⟨S1,S2,S3⟩:=hSw;go_simp;try with_reducible rfl);(exact fun _ _ _ h=>h);(try simp only [Act.put,xgD,xgE,xgF])));refine tkE ?_)
  (refine qaa 5 (o:=?_) (by kernel_rfl) ?_ ?_;rotate_left 1;(simp only [xgA,xgB,xgC];rfl);intro K hK)
  go_simp
  rw [<- HWA.out]
  refine hK.out _ _ (fun _=>HSA.out) ?_
  clear hK K q0 q1 q2 q3 HWA
  (try simp only [Act.put,xgD,xgE,xgF])
  obtain ⟨⟨p0,p1⟩,p2,p3⟩:=HPA.out
  (refine qaa 6 (o:=?_) (by kernel_rfl) ?_ ?_;rotate_left 1;(simp only [xgA,xgB,xgC];rfl);intro K hK)
  go_simp
  rw [<- HWB.out]
  refine hK.out _ _ (fun h=>absurd rfl h) ?_
  clear hK K p0 p1 p2 p3 HWB
  refine qac (by kernel_rfl) ?_ _
  go_wp2
  exact bodyPost_ret (v:=.tuple #[.agg #[.bool r.b,.slice r.a r.n r.p],.agg #[.bool false,.slice r.da r.dn r.dp]]) (by simp [results,Tryz.results75,go_sem,r0,r1,r2,r3]) rfl HF.out


theorem Blk.set2 {w : World} {g : Nat} {t : TypeId} {f : Nat -> Value} (h : Blk w g t 2 f) (A B : Value) : Blk ((w.setCell ⟨g,0,none⟩ A).setCell ⟨g,1,none⟩ B) g t 2 (arr #[A,B]):=
 ((h.set 0 A).set 1 B).congr fun i hi=>by
  have : i = 0 ∨ i = 1:=by omega
  rcases this with rfl | rfl <;> rfl
theorem Blk.set2_other {w : World} {g h : Nat} {t : TypeId} {n : Nat} {f : Nat -> Value} (k : Blk w h t n f) (hne : h ≠ g) (A B : Value) : Blk ((w.setCell ⟨g,0,none⟩ A).setCell ⟨g,1,none⟩ B) h t n f:=
 (k.set_other (p:=⟨g,0,none⟩) hne A).set_other (p:=⟨g,1,none⟩) hne B
theorem qq4 {M' : Nat -> Prop} {w W : World} {g : Nat} {t : TypeId} {f : Nat -> Value} (A B C : Value) (hB : Blk W g t 3 f) (hg : M' g) (hw : w.heap.size <= g) (he : Ext w W) :
  (W.cell? ⟨g,0,none⟩ = some (f 0) /\ W.cell? ⟨g,1,none⟩ = some (f 1) /\ W.cell? ⟨g,2,none⟩ = some (f 2) /\ W.frozen? ⟨g,0,none⟩ = false /\ W.frozen? ⟨g,1,none⟩ = false /\ W.frozen? ⟨g,2,none⟩ = false) /\
  ((((W.setCell ⟨g,0,none⟩ A).setCell ⟨g,1,none⟩ B).setCell ⟨g,2,none⟩ C).cell? ⟨g,0,none⟩ = some A /\ (((W.setCell ⟨g,0,none⟩ A).setCell ⟨g,1,none⟩ B).setCell ⟨g,2,none⟩ C).cell? ⟨g,1,none⟩ = some B /\ (((W.setCell ⟨g,0,none⟩ A).setCell ⟨g,1,none⟩ B).setCell ⟨g,2,none⟩ C).cell? ⟨g,2,none⟩ = some C) /\
  Kp M' W (((W.setCell ⟨g,0,none⟩ A).setCell ⟨g,1,none⟩ B).setCell ⟨g,2,none⟩ C) /\ Ext w (((W.setCell ⟨g,0,none⟩ A).setCell ⟨g,1,none⟩ B).setCell ⟨g,2,none⟩ C):=by
 have hB3:=((hB.set 0 A).set 1 B).set 2 C
 refine ⟨⟨hB.cell (by omega),hB.cell (by omega),hB.cell (by omega),hB.frozen 0,hB.frozen 1,hB.frozen 2⟩,⟨?_,?_,?_⟩,((Kp.set _ _ hg _).trans (Kp.set _ _ hg _)).trans (Kp.set _ _ hg _),((he.set hw _).set hw _).set hw _⟩
 ·rw [hB3.cell (i:=0) (by omega)];simp [upd]
 ·rw [hB3.cell (i:=1) (by omega)];simp [upd]
 ·rw [hB3.cell (i:=2) (by omega)];simp [upd]
theorem qoX (z : Int) (d : Nat) (hd : d ≠ 0) : z.tdiv (Nat.gcd z.natAbs d : Nat) = (mkRat z d).num:=by
 rw [Rat.num_mkRat,if_neg hd,Nat.gcd_comm]
 exact Int.tdiv_eq_ediv_of_dvd (Int.ofNat_dvd_left.2 (Nat.gcd_dvd_right _ _))
theorem qoY (z : Int) (d : Nat) (hd : d ≠ 0) : ((d : Int).tdiv (Nat.gcd z.natAbs d : Nat)).natAbs = (mkRat z d).den:=by
 rw [Rat.den_mkRat,if_neg hd,Nat.gcd_comm,Int.natAbs_tdiv];rfl
abbrev zR : Array Value:=#[.bool false,.slice none 0 0,.slice none 0 0]
set_option maxRecDepth 100000 in
set_option maxHeartbeats 8000000 in
theorem qjO {M : Nat -> Prop} (b : Bool) (a : Option Addr) (n p : Nat) (z : Int) (b' : Bool) (a' : Option Addr) (n' p' : Nat) (d : Nat) (w : World) (hM : Mb M w) (h : qbl M w (.bool b) (.slice a n p) z) (h' : qbl M w (.bool b') (.slice a' n' p') (d : Int)) (hd : d ≠ 0) (hL : dlen z.natAbs + 1 <= 1099511627776) (hL' : dlen d + 1 <= 1099511627776) :
  Calls Tryz.prog 74 #[.agg #[.bool b,.slice a n p],.agg #[.bool b',.slice a' n' p']] w (qnV M w (mkRat z d)):=by
 have hB0:=((Blk.of_arr w #[.bool b,.slice a n p] 29 2 rfl).alloc (.cells #[.bool b',.slice a' n' p'] 29)).alloc (.cells zR 58)
 have hB1:=(Blk.of_arr (w.alloc (.cells #[.bool b,.slice a n p] 29)) #[.bool b',.slice a' n' p'] 29 2 rfl).alloc (.cells zR 58)
 have hB2:=Blk.of_arr ((w.alloc (.cells #[.bool b,.slice a n p] 29)).alloc (.cells #[.bool b',.slice a' n' p'] 29)) zR 58 3 rfl
 have hE0 : Ext w (((w.alloc (.cells #[.bool b,.slice a n p] 29)).alloc (.cells #[.bool b',.slice a' n' p'] 29)).alloc (.cells zR 58)):=(((Ext.refl w).alloc _).alloc _).alloc _
 simp only [World.size_alloc] at hB1 hB2
 have hM0 : Mb (Mx M w.heap.size (w.heap.size + 3)) (((w.alloc (.cells #[.bool b,.slice a n p] 29)).alloc (.cells #[.bool b',.slice a' n' p'] 29)).alloc (.cells zR 58)):=Mx.mb hM (by simp;omega) (by simp)
 have h0:=(h.more (M':=Mx M w.heap.size (w.heap.size + 3)) (Mx.more (Nat.le_refl _))).ext hE0
 have h0':=(h'.more (M':=Mx M w.heap.size (w.heap.size + 3)) (Mx.more (Nat.le_refl _))).ext hE0
 generalize hW0 : ((w.alloc (.cells #[.bool b,.slice a n p] 29)).alloc (.cells #[.bool b',.slice a' n' p'] 29)).alloc (.cells zR 58) = W0 at *
 have HW0:=Lib.hid hW0
 have HB0:=Lib.hid hB0
 have HB1:=Lib.hid hB1
 have HB2:=Lib.hid hB2
 have HE0:=Lib.hid hE0
 have HM0:=Lib.hid hM0
 have HI0:=Lib.hid h0
 have HI1:=Lib.hid h0'
 have c0:=hB0.cell (i:=0) (by omega)
 have c1:=hB0.cell (i:=1) (by omega)
 have c2:=hB1.cell (i:=0) (by omega)
 have c3:=hB1.cell (i:=1) (by omega)
 simp only [arr] at c0 c1 c2 c3
 have g0:=hB0.lt
 have g1:=hB1.lt
 have ctr:=qrh b a n p z b' a' n' p' (d : Int) W0 hM0 h0 h0' hL (by rw [Int.natAbs_natCast];exact hL')
 have CTR:=Lib.hid ctr
 clear h h' hM hW0 hB0 hB1 hB2 hE0 hM0 h0 h0' ctr
 go_enter Tryz.func74,Tryz.ntmps74
 go_upto_region 1 with (fail)
 rw [HW0.out]
 go_wp2_with (fail)
 refine CTR.out.mono ?_
 rintro e w1 ⟨gb,ga,gn,gp,rfl,hg,he1⟩
 clear CTR c0 c1 c2 c3 g0 g1
 rw [Int.natAbs_natCast] at hg
 go_upto_region 2 with (fail)
 have hEA : Ext w1 (w1.alloc (.cells #[.bool gb,.slice ga gn gp] 29)):=(Ext.refl _).alloc _
 have hBg:=Blk.of_arr w1 #[.bool gb,.slice ga gn gp] 29 2 rfl
 have hb0:=(HB0.out.ext he1).ext hEA
 have hb1:=(HB1.out.ext he1).ext hEA
 have hb2:=(HB2.out.ext he1).ext hEA
 have hE1:=he1.trans hEA
 have hg1:=hg.ext hEA
 have hng : w.heap.size + 3 <= w1.heap.size:=by have:=(HB2.out.ext he1).lt;omega
 generalize hG : w1.heap.size = G at *
 generalize hW1 : w1.alloc (.cells #[.bool gb,.slice ga gn gp] 29) = W1 at *
 clear hW1 hG hEA he1 hg
 have HG:=Lib.hid hBg
 have HB0:=Lib.hid hb0
 have HB1:=Lib.hid hb1
 have HB2:=Lib.hid hb2
 have HE1:=Lib.hid hE1
 have HGI:=Lib.hid hg1
 have c0:=hb0.cell (i:=0) (by omega)
 have c1:=hb0.cell (i:=1) (by omega)
 have c2:=hBg.cell (i:=0) (by omega)
 have c3:=hBg.cell (i:=1) (by omega)
 simp only [arr] at c0 c1 c2 c3
 have g0:=hb0.lt
 have g1:=hBg.lt
 have hgz : (((Nat.gcd z.natAbs d : Nat)) : Int) ≠ 0:=by
  have:=Nat.gcd_pos_of_pos_right z.natAbs (Nat.pos_of_ne_zero hd)
  omega
 have CTR:=Lib.hid (qlV b a n p z gb ga gn gp _ W1 (HM0.out.ext hE1) (HI0.out.ext hE1) hg1.toV hgz hL)
 clear hBg hb0 hb1 hb2 hE1 hg1
 go_wp2_with (fail)
 refine CTR.out.mono ?_
 rintro e w2 ⟨qb,qa,qn,qp,sb,sa,sn,sp,rfl,hq,_,he2⟩
 rw [qoX z d hd] at hq
 have hb0:=HB0.out.ext he2
 obtain ⟨⟨q0,q1,f0,f1⟩,⟨r0,r1⟩,hkp,hext⟩:=qhB (M':=Mx M w.heap.size (w.heap.size + 3)) (w:=w) (.bool qb) (.slice qa qn qp) hb0 (Mx.at (by omega)) (by omega) ((HE0.out.trans HE1.out).trans he2)
 have HB0':=Lib.hid (hb0.set2 (.bool qb) (.slice qa qn qp))
 have HB1':=Lib.hid ((HB1.out.ext he2).set2_other (g:=w.heap.size) (by omega) (.bool qb) (.slice qa qn qp))
 have HB2':=Lib.hid ((HB2.out.ext he2).set2_other (g:=w.heap.size) (by omega) (.bool qb) (.slice qa qn qp))
 have HG':=Lib.hid ((HG.out.ext he2).set2_other (g:=w.heap.size) (by omega) (.bool qb) (.slice qa qn qp))
 have HQ:=Lib.hid (hq.kp hkp)
 have HGI':=Lib.hid ((HGI.out.ext he2).kp hkp)
 have HI1':=Lib.hid (((HI1.out.ext HE1.out).ext he2).kp hkp)
 have HX2:=Lib.hid hext
 have HM2 : Hid (Mb (Mx M w.heap.size (w.heap.size + 3)) ((w2.setCell ⟨w.heap.size,0,none⟩ (.bool qb)).setCell ⟨w.heap.size,1,none⟩ (.slice qa qn qp))):=((HM0.out.ext HE1.out).ext he2).size hkp.1
 simp only [arr] at q0 q1
 have g2:=hb0.lt
 clear c0 c1 c2 c3 g0 g1 r0 r1 hq he2 hb0 hkp hext CTR HB0 HB1 HB2 HG HGI HI0 HI1 HE0
 go_upto_region 3 with (fail)
 generalize (w2.setCell ⟨w.heap.size,0,none⟩ (.bool qb)).setCell ⟨w.heap.size,1,none⟩ (.slice qa qn qp) = W2 at *
 clear q0 q1 f0 f1 g2
 have c0:=HB1'.out.cell (i:=0) (by omega)
 have c1:=HB1'.out.cell (i:=1) (by omega)
 have c2:=HG'.out.cell (i:=0) (by omega)
 have c3:=HG'.out.cell (i:=1) (by omega)
 simp only [arr] at c0 c1 c2 c3
 have g0:=HB1'.out.lt
 have g1:=HG'.out.lt
 have CTR:=Lib.hid (qlV b' a' n' p' (d : Int) gb ga gn gp _ W2 HM2.out HI1'.out HGI'.out.toV hgz (by rw [Int.natAbs_natCast];exact hL'))
 go_wp2_with (fail)
 refine CTR.out.mono ?_
 rintro e w3 ⟨db,da,dn,dp,sb2,sa2,sn2,sp2,rfl,hdq,_,he3⟩
 have hdq:=hdq.1
 rw [qoY z d hd] at hdq
 have hb1:=HB1'.out.ext he3
 obtain ⟨⟨q0,q1,f0,f1⟩,⟨r0,r1⟩,hkp,hext⟩:=qhB (M':=Mx M w.heap.size (w.heap.size + 3)) (w:=w) (.bool db) (.slice da dn dp) hb1 (Mx.at (by omega)) (by omega) (HX2.out.trans he3)
 have HB0'':=Lib.hid ((HB0'.out.ext he3).set2_other (g:=w.heap.size + 1) (by omega) (.bool db) (.slice da dn dp))
 have HB1'':=Lib.hid (hb1.set2 (.bool db) (.slice da dn dp))
 have HB2'':=Lib.hid ((HB2'.out.ext he3).set2_other (g:=w.heap.size + 1) (by omega) (.bool db) (.slice da dn dp))
 have HQ'':=Lib.hid ((HQ.out.ext he3).kp hkp)
 have HDQ:=Lib.hid (hdq.kp hkp)
 have HX3:=Lib.hid hext
 simp only [arr] at q0 q1
 have g2:=hb1.lt
 clear c0 c1 c2 c3 g0 g1 r0 r1 hdq he3 hb1 hkp hext CTR HB0' HB1' HB2' HG' HGI' HI1' HQ
 go_upto_region 4 with (fail)
 generalize (w3.setCell ⟨w.heap.size + 1,0,none⟩ (.bool db)).setCell ⟨w.heap.size + 1,1,none⟩ (.slice da dn dp) = W3 at *
 clear q0 q1 f0 f1 g2
 have c0:=HB0''.out.cell (i:=0) (by omega)
 have c1:=HB0''.out.cell (i:=1) (by omega)
 have c3:=HB1''.out.cell (i:=1) (by omega)
 have g0:=HB0''.out.lt
 have g1:=HB1''.out.lt
 obtain ⟨⟨q0,q1,q2,f0,f1,f2⟩,⟨r0,r1,r2⟩,hkp,hext⟩:=qq4 (M':=Mx M w.heap.size (w.heap.size + 3)) (w:=w) (.bool qb) (.slice qa qn qp) (.slice da dn dp) HB2''.out (Mx.at (by omega)) (by omega) HX3.out
 have HF : Hid (qnV M w (mkRat z d) (.returned (.agg #[.bool qb,.slice qa qn qp,.slice da dn dp])) (((W3.setCell ⟨w.heap.size + 1 + 1,0,none⟩ (.bool qb)).setCell ⟨w.heap.size + 1 + 1,1,none⟩ (.slice qa qn qp)).setCell ⟨w.heap.size + 1 + 1,2,none⟩ (.slice da dn dp))):=
  ⟨⟨qb,qa,qn,qp,da,dn,dp⟩,rfl,⟨(HQ''.out.kp hkp).more Mx.less,(HDQ.out.kp hkp).more Mx.less⟩,hext⟩
 simp only [arr] at c0 c1 c3 q0 q1 q2
 clear hkp hext
 go_wp2
 exact bodyPost_ret (v:=.agg #[.bool qb,.slice qa qn qp,.slice da dn dp]) (by simp [results,Tryz.results74,go_sem,r0,r1,r2]) rfl HF.out
set_option maxRecDepth 100000 in
set_option maxHeartbeats 4000000 in
theorem qmX {M : Nat -> Prop} (b : Bool) (a : Option Addr) (n p : Nat) (z : Int) (w : World) (hM : Mb M w) (h : qbl M w (.bool b) (.slice a n p) z) :
  Calls Tryz.prog 51 #[.agg #[.bool b,.slice a n p]] w (qnV M w (z : Rat)):=by
 have hE0 : Ext w ((w.alloc (.cells #[.bool b,.slice a n p] 29)).alloc (.cells zR 58)):=((Ext.refl w).alloc _).alloc _
 have hB1:=Blk.of_arr (w.alloc (.cells #[.bool b,.slice a n p] 29)) zR 58 3 rfl
 simp only [World.size_alloc] at hB1
 have hM0 : Mb (Mx M w.heap.size (w.heap.size + 2)) ((w.alloc (.cells #[.bool b,.slice a n p] 29)).alloc (.cells zR 58)):=Mx.mb hM (by simp;omega) (by simp)
 have h0:=(h.more (M':=Mx M w.heap.size (w.heap.size + 2)) (Mx.more (Nat.le_refl _))).ext hE0
 have CTR:=Lib.hid (qdk _ _ z _ hM0 h0)
 have HB:=Lib.hid hB1
 have HM:=Lib.hid hM0
 have HE:=Lib.hid hE0
 clear hE0 hB1 hM0 h0 h hM
 go_enter Tryz.func51,Tryz.ntmps51
 go_wp2_with (fail)
 refine CTR.out.mono ?_
 rintro e w1 ⟨d0,d1,rfl,hc,he1⟩
 obtain ⟨kb,ka,kn,kp,rfl,rfl⟩:=hc.form
 have CT2:=Lib.hid (qg3 (M:=Mx M w.heap.size (w.heap.size + 2)) 1 w1 (HM.out.ext he1) (by omega))
 rw [show (((1 : Nat) : Int)) = 1 from rfl] at CT2
 clear CTR
 go_wp2_with (fail)
 refine CT2.out.mono ?_
 rintro e w2 ⟨u,rfl,hu,he2⟩
 obtain ⟨ua,un,up,rfl⟩:=hu.toV.form
 obtain ⟨⟨q0,q1,q2,f0,f1,f2⟩,⟨r0,r1,r2⟩,hkp,hext⟩:=qq4 (M':=Mx M w.heap.size (w.heap.size + 2)) (w:=w) (.bool kb) (.slice ka kn kp) (.slice ua un up) ((HB.out.ext he1).ext he2) (Mx.at (by omega)) (by omega) ((HE.out.trans he1).trans he2)
 have HF : Hid (qnV M w (z : Rat) (.returned (.agg #[.bool kb,.slice ka kn kp,.slice ua un up])) (((w2.setCell ⟨w.heap.size + 1,0,none⟩ (.bool kb)).setCell ⟨w.heap.size + 1,1,none⟩ (.slice ka kn kp)).setCell ⟨w.heap.size + 1,2,none⟩ (.slice ua un up))):=
  ⟨⟨kb,ka,kn,kp,ua,un,up⟩,rfl,⟨((hc.ext he2).kp hkp).more Mx.less,(hu.kp hkp).more Mx.less⟩,hext⟩
 simp only [arr] at q0 q1 q2
 clear CT2 hc hu he1 he2 hkp hext
 go_wp2
 exact bodyPost_ret (v:=.agg #[.bool kb,.slice ka kn kp,.slice ua un up]) (by simp [results,Tryz.results51,go_sem,r0,r1,r2]) rfl HF.out
set_option maxRecDepth 100000 in
set_option maxHeartbeats 4000000 in
theorem qqJ {M : Nat -> Prop} (z : Int) (w : World) (hM : Mb M w) (h1 : -9223372036854775808 <= z) (h2 : z <= 9223372036854775807) :
  Calls Tryz.prog 26 #[.int .i64 z] w (qnV M w (z : Rat)):=by
 have hE0 : Ext w (w.alloc (.cells zR 58)):=(Ext.refl w).alloc _
 have hB1:=Blk.of_arr w zR 58 3 rfl
 have hM0 : Mb (Mx M w.heap.size (w.heap.size + 1)) (w.alloc (.cells zR 58)):=Mx.mb hM (by simp) (by simp)
 have CTR:=Lib.hid (qeq z _ hM0 h1 h2)
 have HB:=Lib.hid hB1
 have HM:=Lib.hid hM0
 have HE:=Lib.hid hE0
 clear hE0 hB1 hM0 hM
 go_enter Tryz.func26,Tryz.ntmps26
 go_wp2_with (fail)
 refine CTR.out.mono ?_
 rintro e w1 ⟨d0,d1,rfl,hc,he1⟩
 obtain ⟨kb,ka,kn,kp,rfl,rfl⟩:=hc.form
 have CT2:=Lib.hid (qmX kb ka kn kp z w1 (HM.out.ext he1) hc.toV)
 clear CTR hc
 go_wp2_with (fail)
 refine CT2.out.mono ?_
 rintro e w2 ⟨r,rfl,hr,he2⟩
 obtain ⟨⟨q0,q1,q2,f0,f1,f2⟩,⟨r0,r1,r2⟩,hkp,hext⟩:=qq4 (M':=Mx M w.heap.size (w.heap.size + 1)) (w:=w) (.bool r.b) (.slice r.a r.n r.p) (.slice r.da r.dn r.dp) ((HB.out.ext he1).ext he2) (Mx.at (by omega)) (by omega) ((HE.out.trans he1).trans he2)
 have HF : Hid (qnV M w (z : Rat) (.returned (.agg (reA r))) (((w2.setCell ⟨w.heap.size,0,none⟩ (.bool r.b)).setCell ⟨w.heap.size,1,none⟩ (.slice r.a r.n r.p)).setCell ⟨w.heap.size,2,none⟩ (.slice r.da r.dn r.dp))):=
  ⟨r,rfl,(hr.kp hkp).more Mx.less,hext⟩
 simp only [arr] at q0 q1 q2
 clear CT2 hr he1 he2 hkp hext
 go_wp2
 exact bodyPost_ret (v:=.agg (reA r)) (by simp [results,Tryz.results26,go_sem,r0,r1,r2]) rfl HF.out
set_option maxRecDepth 100000 in
set_option maxHeartbeats 4000000 in
theorem qjP {M : Nat -> Prop} (N : Nat) (r : RE) (q : Rat) (w : World) (hM : Mb M w) (h : qfq M w N r q) (hN : 1 <= N) (hL : N + 1 <= 1099511627776) :
  Calls Tryz.prog 53 #[.agg (reA r)] w (qnV M w q):=by
 have hE0 : Ext w ((w.alloc (.cells (reA r) 58)).alloc (.cells zR 58)):=((Ext.refl w).alloc _).alloc _
 have hB1:=Blk.of_arr (w.alloc (.cells (reA r) 58)) zR 58 3 rfl
 simp only [World.size_alloc] at hB1
 have hM0 : Mb (Mx M w.heap.size (w.heap.size + 2)) ((w.alloc (.cells (reA r) 58)).alloc (.cells zR 58)):=Mx.mb hM (by simp;omega) (by simp)
 have h0:=(h.more (M':=Mx M w.heap.size (w.heap.size + 2)) (Mx.more (Nat.le_refl _))).ext hE0
 have CTR:=Lib.hid (qkT N r q _ hM0 h0 hN)
 have HB:=Lib.hid hB1
 have HM:=Lib.hid hM0
 have HE:=Lib.hid hE0
 clear hE0 hB1 hM0 h0 h hM
 go_enter Tryz.func53,Tryz.ntmps53
 go_wp2_with (fail)
 refine CTR.out.mono ?_
 rintro e w1 ⟨b1,a1,n1,p1,b2,a2,n2,p2,z,d,rfl,hz,hd,hd0,hzN,hdN,rfl,he1⟩
 have CT2:=Lib.hid (qjO b1 a1 n1 p1 z b2 a2 n2 p2 d w1 (HM.out.ext he1) hz hd hd0 (by omega) (by omega))
 clear CTR hz hd
 go_wp2_with (fail)
 refine CT2.out.mono ?_
 rintro e w2 ⟨s,rfl,hr,he2⟩
 obtain ⟨⟨q0,q1,q2,f0,f1,f2⟩,⟨r0,r1,r2⟩,hkp,hext⟩:=qq4 (M':=Mx M w.heap.size (w.heap.size + 2)) (w:=w) (.bool s.b) (.slice s.a s.n s.p) (.slice s.da s.dn s.dp) ((HB.out.ext he1).ext he2) (Mx.at (by omega)) (by omega) ((HE.out.trans he1).trans he2)
 have HF : Hid (qnV M w (mkRat z d) (.returned (.agg (reA s))) (((w2.setCell ⟨w.heap.size + 1,0,none⟩ (.bool s.b)).setCell ⟨w.heap.size + 1,1,none⟩ (.slice s.a s.n s.p)).setCell ⟨w.heap.size + 1,2,none⟩ (.slice s.da s.dn s.dp))):=
  ⟨s,rfl,(hr.kp hkp).more Mx.less,hext⟩
 simp only [arr] at q0 q1 q2
 clear CT2 hr he1 he2 hkp hext
 go_wp2
 exact bodyPost_ret (v:=.agg (reA s)) (by simp [results,Tryz.results53,go_sem,r0,r1,r2]) rfl HF.out


structure S44 (g1 g2 g3 g4 : Nat) (x1 x2 x3 x4 : I4) (w : World) : Prop where
 a : C2 g1 x1 w
 b : C2 g2 x2 w
 c : C2 g3 x3 w
 d : C2 g4 x4 w
theorem S44.ext {g1 g2 g3 g4 : Nat} {x1 x2 x3 x4 : I4} {w w' : World} (k : S44 g1 g2 g3 g4 x1 x2 x3 x4 w) (he : Ext w w') : S44 g1 g2 g3 g4 x1 x2 x3 x4 w':=⟨k.a.ext he,k.b.ext he,k.c.ext he,k.d.ext he⟩


def R3o (w : World) (b o : Nat) (r : RE) : Prop:=w.cell? ⟨b,o,none⟩ = some (.bool r.b) /\ w.cell? ⟨b,o + 1,none⟩ = some (.slice r.a r.n r.p) /\ w.cell? ⟨b,o + 2,none⟩ = some (.slice r.da r.dn r.dp)
theorem R3o.ext {w w' : World} {b o : Nat} {r : RE} (h : R3o w b o r) (he : Ext w w') : R3o w' b o r:=by
 have hb:=World.block_lt_of_cell? _ _ h.1
 unfold R3o;rw [he.cell hb,he.cell hb,he.cell hb];exact h
def qeu (M : Nat -> Prop) (w : World) (A : Nat) (a : Option Addr) (n cap : Nat) (X : Nat -> RE) (q : Nat -> Rat) : Prop:=
 n <= 1099511627776 /\ ∀ i,i < n -> (∃ b off,a = some ⟨b,off,none⟩ /\ n <= cap /\ cap <= maxLen /\ b < w.heap.size /\ ¬ M b /\ R3o w b (off + i * 3) (X i)) /\ qfq M w A (X i) (q i)
section
variable {M M' : Nat -> Prop} {w w' : World} {A n cap : Nat} {a : Option Addr} {X : Nat -> RE} {q : Nat -> Rat}
theorem qeu.ext (h : qeu M w A a n cap X q) (he : Ext w w') : qeu M w' A a n cap X q:=by
 refine ⟨h.1,fun i hi=>?_⟩
 obtain ⟨⟨b,off,h1,h2,h3,h4,h5,h6⟩,h7⟩:=h.2 i hi
 exact ⟨⟨b,off,h1,h2,h3,Nat.lt_of_lt_of_le h4 he.size,h5,h6.ext he⟩,h7.ext he⟩
theorem qeu.more (h : qeu M w A a n cap X q) (hm : ∀ g,M' g -> M g ∨ w.heap.size <= g) : qeu M' w A a n cap X q:=by
 refine ⟨h.1,fun i hi=>?_⟩
 obtain ⟨⟨b,off,h1,h2,h3,h4,h5,h6⟩,h7⟩:=h.2 i hi
 exact ⟨⟨b,off,h1,h2,h3,h4,fun k=>(hm b k).elim h5 (by omega),h6⟩,h7.more hm⟩
end
def aq (q : Nat -> Rat) (n : Nat) : Nat -> Rat:=fun k=>if k < n then q k else 0
theorem qeu.rb {M : Nat -> Prop} {w : World} {A n cap : Nat} {a : Option Addr} {X : Nat -> RE} {q : Nat -> Rat} (h : qeu M w A a n cap X q) (hA : 1 <= A) (k : Nat) : Go.Proofs.YtjhhekmfdhfjpaaGreat.rb A (aq q n k):=by
 unfold aq
 split
 ·rename_i hk;exact (h.2 k hk).2.rb hA
 ·exact qoZ.mono hA
structure SEv (G P : Nat) (s : RE) (Lm : Nat) (kb koff kn kp : Nat) (ab ao : Nat) (r : RE) (ko : Nat) (y : PE) (w : World) : Prop where
 sum : R3 G s w
 lv : w.cell? ⟨P,0,none⟩ = some (.int .i64 ((Lm : Int) + 1))
 cf : w.cell? ⟨P,3,none⟩ = some (.slice (some ⟨kb,koff,none⟩) kn kp)
 at' : R3o w ab ao r
 k0 : w.cell? ⟨kb,ko,none⟩ = some (.int .i64 y.lv)
 k1 : w.cell? ⟨kb,ko + 1,none⟩ = some (.bool y.b)
 k2 : w.cell? ⟨kb,ko + 2,none⟩ = some (.slice y.a y.n y.p)
 k3 : w.cell? ⟨kb,ko + 3,none⟩ = some (.slice y.ka y.kn y.kp)
theorem SEv.ext {G P : Nat} {s : RE} {Lm : Nat} {kb koff kn kp : Nat} {ab ao : Nat} {r : RE} {ko : Nat} {y : PE} {w w' : World} (h : SEv G P s Lm kb koff kn kp ab ao r ko y w) (he : Ext w w') : SEv G P s Lm kb koff kn kp ab ao r ko y w':=by
 obtain ⟨h1,h2,h3,h4,h5,h6,h7,h8⟩:=h
 have b2:=World.block_lt_of_cell? _ _ h2
 have b5:=World.block_lt_of_cell? _ _ h5
 exact ⟨h1.ext he,by rw [he.cell b2];exact h2,by rw [he.cell b2];exact h3,h4.ext he,by rw [he.cell b5];exact h5,by rw [he.cell b5];exact h6,by rw [he.cell b5];exact h7,by rw [he.cell b5];exact h8⟩
end Go.Proofs.YtjhhekmfdhfjpaaGreat
