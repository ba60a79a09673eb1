/- recpoly.at: a variable replaced by a fraction. recpoly.at: the coefficients one by one. recpoly.at: Horner's rule. recpoly.At. -/
import Derived.Test.YtjhhekmfdhfjpaaGreatAb
import Derived.Test.YtjhhekmfdhfjpaaGreatNc
import Derived.Test.YtjhhekmfdhfjpaaGreatMv
set_option linter.unusedVariables false
set_option linter.unusedSimpArgs false

namespace Go.Proofs.YtjhhekmfdhfjpaaGreat
open Go.RowKit

theorem qiA (l : List Tm) (z : Int) : Sim (pmul l [(z,Mo.zero)]) (smul z l):=by
 have h:=qb7 l (z,Mo.zero)
 rwa [qb2] at h
theorem qjn {B : Nat} {l : List Tm} (h : Deg B l) (c : Int) : Deg B (smul c l):=fun m hm k=>h m (fun h0=>hm (by rw [qaj,h0,Int.mul_zero])) k
theorem qdW (x : Int) (n : Nat) : dlen (x ^ n).natAbs <= n * dlen x.natAbs + 1:=by rw [Int.natAbs_pow];exact qgh _ n
theorem qq3 {u d : Int} {P : Nat -> List Tm} {m A Z : Nat} (hA : ∀ i,i <= m -> dlen (nrm (P i)) <= A) (hu : dlen u.natAbs <= Z) (hd : dlen d.natAbs <= Z) : ∀ k,k <= m -> dlen (nrm (hL u d P m k)) <= A + k * (Z + 1) + 2
 | 0,_=>by show dlen (nrm (P m)) <= _;have:=hA m (Nat.le_refl _);omega
 | k + 1,h=>by
  have ih:=qq3 hA hu hd k (by omega)
  have h1:=hA (m - 1 - k) (by omega)
  have h2:=qdW d (k + 1)
  have h3 : (k + 1) * dlen d.natAbs <= (k + 1) * Z:=Nat.mul_le_mul_left _ hd
  show dlen (nrm (smul u (hL u d P m k) ++ smul (d ^ (k + 1)) (P (m - 1 - k)))) <= _
  rw [qal,qeH,qeH]
  refine Nat.le_trans (qdm _ _) ?_
  have h4:=qbb u.natAbs (nrm (hL u d P m k))
  have h5:=qbb (d ^ (k + 1)).natAbs (nrm (P (m - 1 - k)))
  have e1 : (k + 1) * (Z + 1) = (k + 1) * Z + (k + 1):=by rw [Nat.mul_add,Nat.mul_one]
  have e2 : k * (Z + 1) = k * Z + k:=by rw [Nat.mul_add,Nat.mul_one]
  have e3 : (k + 1) * Z = k * Z + Z:=by rw [Nat.add_mul,Nat.one_mul]
  omega
theorem qop {u d : Int} {P : Nat -> List Tm} {m B : Nat} (hB : ∀ i,i <= m -> Deg B (P i)) : ∀ k,k <= m -> Deg B (hL u d P m k)
 | 0,_=>hB m (Nat.le_refl _)
 | k + 1,h=>(qjn (qop hB k (by omega)) u).append (qjn (hB (m - 1 - k) (by omega)) _)
theorem CRx.lowT {M : Nat -> Prop} {w : World} {L : Nat} {x : PE} {l : List Tm} (h : CRx M w L x l) : ∃ T,Sim T l /\ ∀ t ∈ T,∀ k : Nat,x.lv < k -> k <= 4 -> t.2.get k = 0:=by
 obtain ⟨t,h1,h2,h3,h4⟩:=h
 obtain ⟨e0,_⟩:=h1.form
 simp only [Value.int.injEq,true_and] at e0
 have hl:=qdb _ t h2
 have h0:=qcT h2
 exact ⟨_,h4,fun s hs k hk hk4=>hl s hs k (by show t.1.toNat < k;omega) hk4⟩
theorem qmo {L n : Nat} {u d : Int} {l r : List Tm} (h : Sim l r) : Sim (atL L n u d l) (atL L n u d r):=h.lin _
def UC (b o : Nat) (y : IE) (w : World) : Prop:=w.cell? ⟨b,o,none⟩ = some (.bool y.b) /\ w.cell? ⟨b,o + 1,none⟩ = some (.slice y.a y.n y.p)
theorem UC.ext {b o : Nat} {y : IE} {w w' : World} (h : UC b o y w) (he : Ext w w') : UC b o y w':=by
 have hb:=World.block_lt_of_cell? _ _ h.1
 exact ⟨by rw [he.cell hb];exact h.1,by rw [he.cell hb];exact h.2⟩
theorem qhC.uc {M : Nat -> Prop} {w : World} {a : Option Addr} {n cap : Nat} {X : Nat -> IE} {z : Nat -> Int} (h : qhC M w a n cap X z) (h0 : 0 < n) : ∃ b off,a = some ⟨b,off,none⟩ /\ b < w.heap.size /\ ∀ i,i < n -> UC b (off + i * 2) (X i) w /\ qbl M w (.bool (X i).b) (.slice (X i).a (X i).n (X i).p) (z i):=by
 obtain ⟨h1,h2,h3,h4,h5⟩:=h
 obtain ⟨b,off,e,hb,_⟩:=h5 0 h0
 refine ⟨b,off,e,hb,fun i hi=>?_⟩
 obtain ⟨b',off',e',hb',hm',c0,c1,hv⟩:=h5 i hi
 rw [e] at e'
 simp only [Option.some.injEq,Addr.mk.injEq,and_true] at e'
 obtain ⟨rfl,rfl⟩:=e'
 exact ⟨⟨c0,c1⟩,hv⟩
def qrR (L D : Nat) : Prop:=∀ (M : Nat -> Prop) (l : List Tm) (x : PE) (c : IE) (u d : Int) (a : Option Addr) (n cap : Nat) (X : Nat -> IE) (B A Z : Nat) (w : World),Mb M w -> CRx M w D x l -> qbl M w (.bool c.b) (.slice c.a c.n c.p) u -> qhC M w a (n + 1) cap X (fun i=>d ^ i) ->
 (∀ m,qab l m ≠ 0 -> m.get L <= n) -> Deg B l -> dlen (nrm l) <= A -> dlen u.natAbs <= Z -> dlen d.natAbs <= Z -> B + 1 <= 1099511627776 -> A + (n + 2) * (Z + 1) + 4 <= 1099511627776 ->
 Calls Tryz.prog 57 #[.agg (peA x),.int .i64 L,.agg #[.bool c.b,.slice c.a c.n c.p],.slice a (n + 1) cap] w (qbe M w D (atL L n u d l))
set_option maxRecDepth 100000 in
set_option maxHeartbeats 4000000 in
theorem qp6 (L : Nat) (hL1 : 1 <= L) (hL4 : L <= 4) (D : Nat) (M : Nat -> Prop) (l : List Tm) (x : PE) (c : IE) (u d : Int) (a : Option Addr) (n cap : Nat) (X : Nat -> IE) (B A Z : Nat) (w : World) (hM : Mb M w) (h : CRx M w D x l) (hu : qbl M w (.bool c.b) (.slice c.a c.n c.p) u) (hr : qhC M w a (n + 1) cap X (fun i => d ^ i))
  (hB : Deg B l) (hA : dlen (nrm l) <= A) (hd : dlen d.natAbs <= Z) (hB1 : B + 1 <= 1099511627776) (hS : A + (n + 2) * (Z + 1) + 4 <= 1099511627776) (h1 : x.lv < L) :
  Calls Tryz.prog 57 #[.agg (peA x),.int .i64 L,.agg #[.bool c.b,.slice c.a c.n c.p],.slice a (n + 1) cap] w (qbe M w D (atL L n u d l)):=by
 obtain ⟨hE0,hS0,hB0,hM0⟩:=qrs hM x (.bool c.b) (.slice c.a c.n c.p)
 have hr2:=(hr.more (M':=Mx M w.heap.size (w.heap.size + 3)) (Mx.more (Nat.le_refl _))).ext hE0
 have hx2:=(h.more (M':=Mx M w.heap.size (w.heap.size + 3)) (Mx.more (Nat.le_refl _))).ext hE0
 obtain ⟨T,hT1,hT2⟩:=h.lowT
 have HAT : Hid (Sim (pmul l [(d ^ n,Mo.zero)]) (atL L n u d l)):=(qiA l _).trans ((hT1.smul _).symm.trans (by rw [<- qrw (u:=u) hL1 hL4 (fun t ht=>hT2 t ht L h1 hL4)];exact qmo hT1))
 generalize hW : ((w.alloc (.cells (peA x) 32)).alloc (.cells #[.bool c.b,.slice c.a c.n c.p] 29)).alloc (.cells zA 32) = W at *
 have HW:=Lib.hid hW
 have hEd : Ext W W.drew:=(Ext.refl _).drew
 obtain ⟨b,off,rfl,hb,hcell⟩:=(hr2.ext hEd).uc (by omega)
 obtain ⟨hc,hv⟩:=hcell n (by omega)
 have hcap : n + 1 <= cap /\ cap <= maxLen:=⟨hr2.2.1,hr2.2.2.1⟩
 have HS : Hid (SPI w.heap.size x (.bool c.b) (.slice c.a c.n c.p) W.drew /\ UC b (off + n * 2) (X n) W.drew):=⟨hS0.ext hEd,hc⟩
 have HE:=Lib.hid (hE0.trans hEd)
 have HBd:=Lib.hid (hB0.ext hEd)
 have HM:=Lib.hid (hM0.ext hEd)
 have HX:=Lib.hid (hx2.ext hEd)
 have HV:=Lib.hid hv
 have HDB:=Lib.hid hB
 have HSZ : Hid (dlen (nrm l) + dlen (d ^ n).natAbs <= 1099511627776):=by
  show _ <= _
  have h3:=qdW d n
  have h4 : n * dlen d.natAbs <= n * Z:=Nat.mul_le_mul_left _ hd
  have e2 : (n + 2) * (Z + 1) = n * Z + n + 2 * Z + 2:=by rw [Nat.add_mul,Nat.mul_add,Nat.mul_add];omega
  omega
 obtain ⟨⟨x0,x1,x2,x3⟩,x4,x5⟩:=hS0
 have hn0 : (n : Int) < (n : Int) + 1:=by omega
 have kw : IntKind.i64.wrap (n : Int) = n:=IntWalk.i64_in _ (by unfold maxLen at hcap;omega)
 obtain ⟨hcap1,hcap2⟩:=hcap
 unfold maxLen at hcap2
 clear hE0 hB0 hM0 h hu hr hr2 hx2 hT1 hT2 hW hEd hc hv hcell hB hA hd hS hM
 go_enter Tryz.func57,Tryz.ntmps57
 go_upto_region 1 with (fail)
 rw [HW.out]
 go_upto_region 3 with (fail)
 refine qae (fun w'=>SPI w.heap.size x (.bool c.b) (.slice c.a c.n c.p) w' /\ UC b (off + n * 2) (X n) w') 6 (by kernel_rfl) HS.out (fun hHeld=>?_)
 generalize W.drew = WD at *
 clear x0 x1 x2 x3 x4 x5
 (refine tkB [0,1,2,3,4] ?_;(iterate 5 (refine tk1 (oi:=?_) (v:=?_) (by kernel_rfl) (by first | exact hSn | exact hHeld) ?_ ?_ ?_ ?_ ?_;rotate_left 2;(simp only [xgA,xgB,xgC];rfl);rfl;(intro wS hSw;obtain ⟨⟨⟨S1,S2,S3,S4⟩,S5,S6⟩,S7,S8⟩:=hSw;go_simp;try with_reducible rfl);(exact fun _ _ _ h=>h);(try simp only [Act.put,xgD,xgE,xgF])));refine tkE ?_)
 ((refine qaa 5 (o:=?_) (by kernel_rfl) ?_ ?_;rotate_left 1;(simp only [xgA,xgB,xgC];rfl);intro K hK);go_simp;(refine (qdd _ D x l B (X n).b (X n).a (X n).n (X n).p (d ^ n) _ HM.out HX.out HV.out HSZ.out HDB.out hB1).mono ?_);rintro e_ wz ⟨v,rfl,hv,he1⟩;go_wp2_with (fail);(refine hK.out _ _ (fun _=>⟨hHeld.1.ext he1,hHeld.2.ext he1⟩) ?_);clear hK K;(try simp only [Act.put,xgD,xgE,xgF]))
 obtain ⟨⟨q0,q1,q2,q3⟩,⟨f0,f1,f2,f3⟩,⟨r0,r1,r2,r3⟩,HF⟩:=qcs (M:=M) (w:=w) (HBd.out.ext he1) (Mx.at (by omega)) (by omega) (HE.out.trans he1) (hv.sim HAT.out) Mx.sub
 ((refine qaa 6 (o:=?_) (by kernel_rfl) ?_ ?_;rotate_left 1;(simp only [xgA,xgB,xgC];rfl);intro K hK);go_simp;(refine hK.out _ _ (fun h=>absurd rfl h) ?_);clear hK K;refine qac (by kernel_rfl) ?_ _)
 clear he1 hv hHeld
 go_wp2
 exact bodyPost_ret (v:=.agg (peA v)) (by simp [results,Tryz.results57,go_sem,r0,r1,r2,r3]) rfl HF.out


theorem SPI.kept {b : Nat} {x : PE} {c0 c1 : Value} {w w' : World} (h : SPI b x c0 c1 w) (h0 : w'.heap[b]? = w.heap[b]?) (h1 : w'.heap[b + 1]? = w.heap[b + 1]?) : SPI b x c0 c1 w':=by
 have hc:=fun o=>World.cell?_of_block (w:=w) (w':=w') (a:=⟨b + 1,o,none⟩) h1
 exact ⟨h.1.of_heap h0,(hc 0).trans h.2.1,(hc 1).trans h.2.2⟩
set_option maxRecDepth 100000 in
set_option maxHeartbeats 8000000 in
theorem qp7 (L : Nat) (hL1 : 1 <= L) (hL4 : L <= 4) (D : Nat) (ih : ∀ E, E < D -> qrR L E) (M : Nat -> Prop) (l : List Tm) (x : PE) (c : IE) (u d : Int) (a : Option Addr) (n cap : Nat) (X : Nat -> IE) (B A Z : Nat) (w : World) (hM : Mb M w) (h : CRx M w D x l) (hu : qbl M w (.bool c.b) (.slice c.a c.n c.p) u) (hr : qhC M w a (n + 1) cap X (fun i => d ^ i))
  (hdg : ∀ m,qab l m ≠ 0 -> m.get L <= n) (hB : Deg B l) (hA : dlen (nrm l) <= A) (hz : dlen u.natAbs <= Z) (hd : dlen d.natAbs <= Z) (hB1 : B + 1 <= 1099511627776) (hS : A + (n + 2) * (Z + 1) + 4 <= 1099511627776) (h1 : (L : Int) < x.lv) :
  Calls Tryz.prog 57 #[.agg (peA x),.int .i64 L,.agg #[.bool c.b,.slice c.a c.n c.p],.slice a (n + 1) cap] w (qbe M w D (atL L n u d l)):=by
 obtain ⟨i0,hi,hz0,hz1,hz2⟩:=info_parts Tryz.info32
 obtain ⟨hE0,hS0,hB0,hM0⟩:=qrs hM x (.bool c.b) (.slice c.a c.n c.p)
 obtain ⟨E,b,off,P,hlv,hE4,hEL,hb0,hn0,hka,hn2,hnL,hnc,hcm,hb,hMb,hlow,hnz,hsim,hnr,hkid⟩:=h.node (by omega)
 have HAT : Hid (Sim (poly (E + 1) x.kn fun i=>atL L n u d (P i)) (atL L n u d l)):=by
  rw [<- qd2 hL1 hL4 (by omega) hE4 (by omega)];exact qmo hsim
 have hbk:=Nat.lt_of_lt_of_le hb hE0.size
 have HDK : Hid (∀ i,i < x.kn -> Deg B (P i)):=(qbw hE4 (by omega) hlow hnz (hB.sim hsim.symm)).2
 have HCALL : Hid (∀ i,i < x.kn -> ∃ y,qaV w b (off + i * 4) y /\ ∀ (M' : Nat -> Prop) W,Mb M' W -> (∀ g,M' g -> M g ∨ w.heap.size <= g) -> Ext w W -> Calls Tryz.prog 57 #[.agg (peA y),.int .i64 L,.agg #[.bool c.b,.slice c.a c.n c.p],.slice a (n + 1) cap] W (qbe M' W E (atL L n u d (P i)))):=fun i hi'=>by
  obtain ⟨y,hy1,hy2,_⟩:=hkid i hi'
  refine ⟨y,hy1,fun M' W hMW hmore he=>ih E (by omega) M' (P i) y c u d a n cap X B A Z W hMW ((hy2.more hmore).ext he) ((hu.more hmore).ext he) ((hr.more hmore).ext he) (fun m hm=>?_) (HDK.out i hi') ?_ hz hd hB1 hS⟩
  ·have h2:=hdg _ (by rw [<- hsim];exact qeL hE4 hlow hi' hm)
   rwa [qap,qav _ _ _ (by omega) hE4,if_neg (by omega),Int.add_zero] at h2
  ·exact Nat.le_trans (qan (Nat.le_trans (qaY (E + 1) x.kn P i hi') hnr)) hA
 have HMM:=Lib.hid hM
 obtain ⟨x0,x1,x2,x3⟩:=hS0.1
 obtain ⟨_,x4,x5⟩:=hS0
 have hsz0 : w.heap.size + 3 = ((((w.alloc (.cells (peA x) 32)).alloc (.cells #[.bool c.b,.slice c.a c.n c.p] 29)).alloc (.cells zA 32))).heap.size:=by simp
 generalize hW : ((w.alloc (.cells (peA x) 32)).alloc (.cells #[.bool c.b,.slice c.a c.n c.p] 29)).alloc (.cells zA 32) = W at *
 have HW:=Lib.hid hW
 have HE:=Lib.hid hE0
 have HS : Hid (SPI w.heap.size x (.bool c.b) (.slice c.a c.n c.p) W):=⟨⟨x0,x1,x2,x3⟩,x4,x5⟩
 have HB0:=Lib.hid hB0
 have HM0:=Lib.hid hM0
 rw [hka] at x3
 have hLx : (L : Int) < (E : Int) + 1:=by omega
 rw [hlv] at x0
 have hd1 : decide ((E : Int) + 1 < (L : Int)) = false:=decide_eq_false (by omega)
 have hd2 : decide ((L : Int) < (E : Int) + 1) = true:=decide_eq_true hLx
 clear hE0 hB0 hM0 h hu hr hdg hB hA hz hd hS hM hlow hnz hsim hnr hkid hW ih h1
 go_enter Tryz.func57,Tryz.ntmps57
 go_upto_region 1 with (fail)
 rw [HW.out]
 go_wp2_with (first | (refine wpList_make_full _ rfl _ _ _ rfl (w.heap.size + 3) 32 i0 (.agg #[.int .i64 0,.bool false,.slice none 0 0,.slice none 0 0]) 4 Tryz.underlying30 hi hz0 hz1 .i64 .i64 _ _ x.kn rfl rfl ?c4 ?c5 ?c2 ?c3 ?c6 ?_))
 case c2=>rw [hz2];omega
 case c3=>unfold maxLen;omega
 case c4=>simp
 case c5=>simp
 case c6=>omega
 intro w1 hown hgrow
 rw [<- hsz0] at hown ⊢
 have hBk:=(Blk.made hown rfl (by omega)).congr (f':=zc4) (fun i _=>qcq i)
 have he1:=qaz hgrow
 have HB1:=Lib.hid (HB0.out.ext he1)
 have HS1:=Lib.hid (HS.out.ext he1)
 have HE1:=Lib.hid (HE.out.trans he1)
 have hs1 : w.heap.size + 4 <= w1.heap.size:=by have:=hBk.lt;omega
 have HKF : Hid (qaC (Mx M w.heap.size (w.heap.size + 4)) w1 E (w.heap.size + 3) x.kn (fun _=>[])):=qaC.fresh hBk
 clear x0 x1 x2 x3 x4 x5
 obtain ⟨⟨x0,x1,x2,x3⟩,x4,x5⟩:=HS1.out
 rw [hka] at x3
 clear hown hgrow hBk he1 HB0 HM0 HS HE
 go_wp2
 go_loopw [42] (fun i wr=>∃ k : Nat,k <= x.kn /\ i = .int .i64 k /\ w.heap.size + 4 <= wr.heap.size /\ Hid (qaC (Mx M w.heap.size (w.heap.size + 4)) wr E (w.heap.size + 3) x.kn (fun i=>if i < k then atL L n u d (P i) else [])) /\ Hid (Ext w wr) /\ Hid (SPI w.heap.size x (.bool c.b) (.slice c.a c.n c.p) wr) /\ Hid (Blk wr (w.heap.size + 2) 32 4 (arr zA))) (fun i _=>x.kn - (intOf i).toNat)
 case atStart=>exact ⟨0,Nat.zero_le _,rfl,hs1,HKF.out.congr fun i _=>by rw [if_neg (by omega)];exact Sim.refl _,HE1,HS1,HB1⟩
 case round=>
  clear HKF HE1 HS1 HB1 x0 x1 x2 x3 x4 x5 hs1
  obtain ⟨k,hk,rfl,hsz,HK,HEW,HSW,HBR⟩:=hrel
  by_cases hlt : k < x.kn
  ·obtain ⟨y,hy,hcall⟩:=HCALL.out k hlt
   obtain ⟨y0,y1,y2,y3⟩:=hy.ext hb HEW.out
   have hbw : b < wr.heap.size:=Nat.lt_of_lt_of_le hb HEW.out.size
   obtain ⟨_,x4,x5⟩:=HSW.out
   have hEa:=(Ext.refl wr).alloc (.cells (peA y) 32)
   have hltI : (k : Int) < (x.kn : Int):=by omega
   have hw1 : w.heap.size + 1 < wr.heap.size:=by omega
   have hw0 : w.heap.size < wr.heap.size:=by omega
   have CTR:=Lib.hid (hcall (Mx M w.heap.size (w.heap.size + 4)) _ (Mx.mb (k:=w.heap.size + 4) HMM.out (HEW.out.trans hEa).size (by simp;omega)) (Mx.more (Nat.le_refl _)) (HEW.out.trans hEa))
   have HEA:=Lib.hid hEa
   clear hcall hEa hy
   go_wp2_with (fail)
   refine (CTR.out).mono ?_
   rintro e w4 ⟨v,rfl,hCR,he4⟩
   have he5:=HEA.out.trans he4
   have hK4:=HK.out.ext he5
   obtain ⟨⟨_,k0⟩,⟨_,k1⟩,⟨_,k2⟩,⟨_,k3⟩,hfr,hg4⟩:=hK4.at k hlt
   have hf0:=hfr (k * 4)
   have hf1:=hfr (k * 4 + 1)
   have hf2:=hfr (k * 4 + 2)
   have hf3:=hfr (k * 4 + 3)
   have HK5 : Hid (qaC (Mx M w.heap.size (w.heap.size + 4)) (set4 w4 (w.heap.size + 3) (k * 4) (.int .i64 v.lv) (.bool v.b) (.slice v.a v.n v.p) (.slice v.ka v.kn v.kp)) E (w.heap.size + 3) x.kn (fun i=>if i < k + 1 then atL L n u d (P i) else [])):=by
    refine (hK4.set (Mx.at (by omega)) k hlt hCR).congr fun i _=>?_
    by_cases hik : i = k
    ·subst hik;rw [if_pos rfl,if_pos (by omega)];exact Sim.refl _
    ·rw [if_neg hik]
     by_cases h3 : i < k
     ·rw [if_pos h3,if_pos (by omega)];exact Sim.refl _
     ·rw [if_neg h3,if_neg (by omega)];exact Sim.refl _
   have HE5 : Hid (Ext w (set4 w4 (w.heap.size + 3) (k * 4) (.int .i64 v.lv) (.bool v.b) (.slice v.a v.n v.p) (.slice v.ka v.kn v.kp))):=(HEW.out.trans he5).set4 (by omega) _ _ _ _ _
   have HB5 : Hid (SPI w.heap.size x (.bool c.b) (.slice c.a c.n c.p) (set4 w4 (w.heap.size + 3) (k * 4) (.int .i64 v.lv) (.bool v.b) (.slice v.a v.n v.p) (.slice v.ka v.kn v.kp))):=(HSW.out.ext he5).kept (qag _ _ _ _ _ _ _ _ (by omega)) (qag _ _ _ _ _ _ _ _ (by omega))
   have HB6 : Hid (Blk (set4 w4 (w.heap.size + 3) (k * 4) (.int .i64 v.lv) (.bool v.b) (.slice v.a v.n v.p) (.slice v.ka v.kn v.kp)) (w.heap.size + 2) _ _ _):=(HBR.out.ext he5).of_heap (qag _ _ _ _ _ _ _ _ (by omega))
   have HSZ5 : Hid (w.heap.size + 4 <= (set4 w4 (w.heap.size + 3) (k * 4) (.int .i64 v.lv) (.bool v.b) (.slice v.a v.n v.p) (.slice v.ka v.kn v.kp)).heap.size):=by show _ <= _;rw [qay];have:=he5.size;omega
   clear hK4 hfr hCR he4 he5 HK HEW HSW HBR HCALL y0 y1 y2 y3 x4 x5 hlv hka hn0 hb0 hsz0 hw1 hw0 HDK HAT HW
   go_wp2
   go_roundw
   case rel=>exact ⟨k + 1,by omega,by go_num,HSZ5.out,HK5,HE5,HB5,HB6⟩
   case measure=>simp [intOf];omega
  ·obtain rfl : k = x.kn:=by omega
   obtain ⟨⟨x0,_⟩,_⟩:=HSW.out
   rw [hlv] at x0
   have hkr : qbL (Mx M w.heap.size (w.heap.size + 3)) wr E (.slice (some ⟨w.heap.size + 3,0,none⟩) x.kn x.kn) x.kn (fun i=>if i < x.kn then atL L n u d (P i) else []):=HK.out.krow (fun g hg=>.inl (hg.imp id fun h=>by omega)) (fun hh=>hh.elim (HMM.out.new (by omega)) (by omega)) hnL
   have CTR:=Lib.hid (qhK _ E _ x.kn _ wr (Mx.mb HMM.out HEW.out.size (by omega)) hE4 hkr)
   have HAT2 : Hid (Sim (poly (E + 1) x.kn fun i=>if i < x.kn then atL L n u d (P i) else []) (atL L n u d l)):=(qaJ _ _ _ _ fun i hi=>by rw [if_pos hi];exact Sim.refl _).trans HAT.out
   clear hkr HCALL HK hlv hka hn0 hb0 hsz0 HDK HAT HW hlt
   go_wp2_with (fail)
   refine CTR.out.mono ?_
   rintro e w5 hp
   obtain ⟨v,rfl,hv,he5⟩:=hp.x
   obtain ⟨⟨q0,q1,q2,q3⟩,⟨f0,f1,f2,f3⟩,⟨r0,r1,r2,r3⟩,HF⟩:=qcs (M:=M) (w:=w) (L:=D) (HBR.out.ext he5) (Mx.at (by omega)) (by omega) (HEW.out.trans he5) ((hv.sim HAT2.out).up hEL) Mx.sub
   clear he5 hv hp CTR x0
   go_wp2
   exact bodyPost_ret (v:=.agg (peA v)) (by simp [results,Tryz.results57,go_sem,r0,r1,r2,r3]) rfl HF.out


structure AtS (M : Nat -> Prop) (w : World) (x : PE) (c : IE) (E : Nat) (z : PE) (r : List Tm) (wr : World) : Prop where
 p : SPI w.heap.size x (.bool c.b) (.slice c.a c.n c.p) wr
 q : Blk wr (w.heap.size + 2) 32 4 (arr zA)
 b : Blk wr (w.heap.size + 3) 32 4 (arr (peA z))
 cz : CRx (Mx M w.heap.size (w.heap.size + 4)) wr E z r
 m : Mb (Mx M w.heap.size (w.heap.size + 4)) wr
 e : Ext w wr
section
variable {M : Nat -> Prop} {w wr w' : World} {x z z' : PE} {c : IE} {E : Nat} {r r' : List Tm}
theorem AtS.ext (h : AtS M w x c E z r wr) (he : Ext wr w') : AtS M w x c E z r w':=⟨h.p.ext he,h.q.ext he,h.b.ext he,h.cz.ext he,h.m.ext he,h.e.trans he⟩
theorem AtS.put (h : AtS M w x c E z r wr) (hz : CRx (Mx M w.heap.size (w.heap.size + 4)) wr E z' r') : AtS M w x c E z' r' (set4 wr (w.heap.size + 3) 0 (.int .i64 z'.lv) (.bool z'.b) (.slice z'.a z'.n z'.p) (.slice z'.ka z'.kn z'.kp)):=by
 have hM : Mx M w.heap.size (w.heap.size + 4) (w.heap.size + 3):=Mx.at (by omega)
 have hk : Kp (Mx M w.heap.size (w.heap.size + 4)) wr (set4 wr (w.heap.size + 3) 0 (.int .i64 z'.lv) (.bool z'.b) (.slice z'.a z'.n z'.p) (.slice z'.ka z'.kn z'.kp)):=Kp.set4 hM 0 _ _ _ _
 have h1:=qag wr (w.heap.size + 3) 0 (.int .i64 z'.lv) (.bool z'.b) (.slice z'.a z'.n z'.p) (.slice z'.ka z'.kn z'.kp) w.heap.size (by omega)
 have h1':=qag wr (w.heap.size + 3) 0 (.int .i64 z'.lv) (.bool z'.b) (.slice z'.a z'.n z'.p) (.slice z'.ka z'.kn z'.kp) (w.heap.size + 1) (by omega)
 have h2:=qag wr (w.heap.size + 3) 0 (.int .i64 z'.lv) (.bool z'.b) (.slice z'.a z'.n z'.p) (.slice z'.ka z'.kn z'.kp) (w.heap.size + 2) (by omega)
 have h3:=h.b.set4 0 (.int .i64 z'.lv) (.bool z'.b) (.slice z'.a z'.n z'.p) (.slice z'.ka z'.kn z'.kp)
 have h4:=h3.congr (f':=arr (peA z')) (fun i hi=>qsm i hi)
 have h5:=h.e.set4 (g:=w.heap.size + 3) (by omega) 0 (.int .i64 z'.lv) (.bool z'.b) (.slice z'.a z'.n z'.p) (.slice z'.ka z'.kn z'.kp)
 have h6:=hz.kp hk
 have h7:=h.m.size hk.1
 generalize set4 wr (w.heap.size + 3) 0 (.int .i64 z'.lv) (.bool z'.b) (.slice z'.a z'.n z'.p) (.slice z'.ka z'.kn z'.kp) = W at *
 exact ⟨h.p.kept h1 h1',h.q.of_heap h2,h4,h6,h7,h5⟩
end
def SHo (s : Nat) (z : PE) (c : IE) (v3 : Value) (b o : Nat) (y : PE) (bp op : Nat) (X : IE) (w : World) : Prop:=P4 w (s + 3) z /\ (w.cell? ⟨s + 1,0,none⟩ = some (.bool c.b) /\ w.cell? ⟨s + 1,1,none⟩ = some (.slice c.a c.n c.p)) /\ w.cell? ⟨s,3,none⟩ = some v3 /\ qaV w b o y /\ UC bp op X w
theorem SHo.ext {s : Nat} {z : PE} {c : IE} {v3 : Value} {b o : Nat} {y : PE} {bp op : Nat} {X : IE} {w w' : World} (h : SHo s z c v3 b o y bp op X w) (he : Ext w w') : SHo s z c v3 b o y bp op X w':=by
 obtain ⟨h1,⟨h2,h3⟩,h4,h5,h6⟩:=h
 have b1:=World.block_lt_of_cell? _ _ h2
 have b2:=World.block_lt_of_cell? _ _ h4
 have b3:=World.block_lt_of_cell? _ _ h5.1
 exact ⟨h1.ext he,⟨by rw [he.cell b1];exact h2,by rw [he.cell b1];exact h3⟩,by rw [he.cell b2];exact h4,h5.ext b3 he,h6.ext he⟩
set_option maxRecDepth 100000 in
set_option maxHeartbeats 8000000 in
theorem qp5 (L : Nat) (hL1 : 1 <= L) (hL4 : L <= 4) (D : Nat) (M : Nat -> Prop) (l : List Tm) (x : PE) (c : IE) (u d : Int) (a : Option Addr) (n cap : Nat) (X : Nat -> IE) (B A Z : Nat) (w : World) (hM : Mb M w) (h : CRx M w D x l) (hu : qbl M w (.bool c.b) (.slice c.a c.n c.p) u) (hr : qhC M w a (n + 1) cap X (fun i => d ^ i))
  (hdg : ∀ m,qab l m ≠ 0 -> m.get L <= n) (hB : Deg B l) (hA : dlen (nrm l) <= A) (hz : dlen u.natAbs <= Z) (hd : dlen d.natAbs <= Z) (hB1 : B + 1 <= 1099511627776) (hS : A + (n + 2) * (Z + 1) + 4 <= 1099511627776) (h1 : (L : Int) = x.lv) :
  Calls Tryz.prog 57 #[.agg (peA x),.int .i64 L,.agg #[.bool c.b,.slice c.a c.n c.p],.slice a (n + 1) cap] w (qbe M w D (atL L n u d l)):=by
 obtain ⟨hE0,hS0,hB0,hM0⟩:=qrs hM x (.bool c.b) (.slice c.a c.n c.p)
 obtain ⟨E,b,off,P,hlv,hE4,hEL,hb0,hn0,hka,hn2,hnL,hnc,hcm,hb,hMb,hlow,hnz,hsim,hnr,hkid⟩:=h.node (by omega)
 obtain ⟨m,hm⟩ : ∃ m,x.kn = m + 1:=⟨x.kn - 1,by omega⟩
 have hLE : L = E + 1:=by omega
 have hmn : m <= n:=by
  obtain ⟨q,hq1,hq2⟩:=(qhm hE4 (by omega) hlow hnz).2.resolve_left (by omega)
  have:=hdg q (by rw [<- hsim q];exact hq1)
  rw [hLE,hq2] at this
  omega
 have HDK : Hid (∀ i,i <= m -> Deg B (P i)):=fun i hi=>(qbw hE4 (by omega) hlow hnz (hB.sim hsim.symm)).2 i (by omega)
 have HNR : Hid (∀ i,i <= m -> dlen (nrm (P i)) <= A):=fun i hi=>Nat.le_trans (qan (Nat.le_trans (qaY (E + 1) x.kn P i (by omega)) hnr)) hA
 have HHL : Hid (∀ k,k <= m -> dlen (nrm (hL u d P m k)) <= A + k * (Z + 1) + 2):=qq3 HNR.out hz hd
 have HHD : Hid (∀ k,k <= m -> Deg B (hL u d P m k)):=qop HDK.out
 have HAT : Hid (Sim (smul (d ^ (n - m)) (hL u d P m m)) (atL L n u d l)):=by
  refine (qr8 hL1 hL4 hmn fun i hi t ht=>hlow i (by omega) t ht L (by omega) hL4).trans (qmo ?_)
  rw [<- hm,hLE];exact hsim
 have HZL : Hid (∀ k,k <= n + 1 -> k * (Z + 1) + (Z + 1) <= (n + 2) * (Z + 1)):=fun k hk=>by
  have:=Nat.mul_le_mul_right (Z + 1) (show k + 1 <= n + 2 by omega)
  rwa [Nat.add_mul,Nat.one_mul] at this
 have HPW : Hid (∀ k,k <= n -> dlen (d ^ k).natAbs <= k * (Z + 1) + 1):=fun k _=>by
  have h3:=qdW d k
  have h4 : k * dlen d.natAbs <= k * (Z + 1):=Nat.mul_le_mul_left _ (by omega)
  show _ <= _
  omega
 have HKK : Hid (∀ i,i <= m -> ∃ y,qaV w b (off + i * 4) y /\ CRx M w E y (P i)):=fun i hi=>by
  obtain ⟨y,hy1,hy2,_⟩:=hkid i (by omega)
  exact ⟨y,hy1,hy2⟩
 obtain ⟨bp,op,hpa,hbp,hpc⟩:=hr.uc (by omega)
 have HPC:=Lib.hid hpc
 have hcap : n + 1 <= cap /\ cap <= maxLen:=⟨hr.2.1,hr.2.2.1⟩
 obtain ⟨hcap1,hcap2⟩:=hcap
 unfold maxLen at hcap2
 have HU:=Lib.hid hu
 have hz':=hz
 rw [hm] at hnL hnc
 have hsz0 : ((((w.alloc (.cells (peA x) 32)).alloc (.cells #[.bool c.b,.slice c.a c.n c.p] 29)).alloc (.cells zA 32))).heap.size = w.heap.size + 3:=by simp
 generalize hW : ((w.alloc (.cells (peA x) 32)).alloc (.cells #[.bool c.b,.slice c.a c.n c.p] 29)).alloc (.cells zA 32) = W at *
 have HW:=Lib.hid hW
 have HE:=Lib.hid hE0
 have HS:=Lib.hid hS0
 have HB0:=Lib.hid hB0
 have HMM:=Lib.hid hM
 have HSZ:=Lib.hid hsz0
 have HLV : Hid (x.lv = (L : Int)):=h1.symm
 obtain ⟨⟨x0,x1,x2,x3⟩,x4,x5⟩:=hS0
 rw [hka,hm] at x3
 rw [<- h1] at x0
 obtain ⟨ym,hym,hymc⟩:=HKK.out m (Nat.le_refl _)
 obtain ⟨y0,y1,y2,y3⟩:=hym.ext hb hE0
 have HYM:=Lib.hid hymc
 have hbW : b < W.heap.size:=Nat.lt_of_lt_of_le hb hE0.size
 have hmm : (m : Int) < (m : Int) + 1:=by omega
 have v3e : Hid (Value.slice x.ka x.kn x.kp = .slice (some ⟨b,off,none⟩) (m + 1) x.kp):=by show _ = _;rw [hka,hm]
 have kwm : IntKind.i64.wrap (m : Int) = m:=IntWalk.i64_in _ (by omega)
 subst hpa
 have hS2:=hS
 clear hE0 hB0 hM0 h hu hr hdg hB hA hz hd hS hM hlow hnz hsim hnr hkid hW h1 hsz0 hym hymc hlv hka hm hn0 hb0 hLE hpc hn2
 go_enter Tryz.func57,Tryz.ntmps57
 go_upto_region 1 with (fail)
 rw [HW.out]
 go_upto_region 14 with (fail)
 rw [HSZ.out]
 have hBs:=Blk.of_arr W (peA ym) 32 4 rfl
 rw [HSZ.out] at hBs
 have hEs:=(Ext.refl W).alloc (.cells (peA ym) 32)
 have hAS : AtS M w x c E ym (hL u d P m 0) (W.alloc (.cells (peA ym) 32)):=⟨HS.out.ext hEs,HB0.out.ext hEs,hBs,(HYM.out.more (Mx.more (Nat.le_refl _))).ext (HE.out.trans hEs),Mx.mb HMM.out (HE.out.trans hEs).size (by have:=hBs.lt;omega),HE.out.trans hEs⟩
 obtain ⟨W2,hW2⟩ : ∃ W2,W2 = W.alloc (.cells (peA ym) 32):=⟨_,rfl⟩
 rw [<- hW2] at hAS
 have hg2 : W.alloc (.cells #[.int .i64 ym.lv,.bool ym.b,.slice ym.a ym.n ym.p,.slice ym.ka ym.kn ym.kp] 32) = W2:=hW2.symm
 rw [hg2]
 have HAS:=Lib.hid hAS
 clear hBs hEs hAS hW2 hg2 HB0 HS HE HYM HW x0 x1 x2 x3 x4 x5 y0 y1 y2 y3 HLV
 have HMU : Hid (∀ g,Mx M w.heap.size (w.heap.size + 4) g -> M g ∨ w.heap.size <= g):=Mx.more (Nat.le_refl _)
 go_wp2
 go_loopw [15] (fun i wr=>∃ (q : Nat) (z : PE),q <= m /\ i = .int .i64 ((q : Int) - 1) /\ Hid (AtS M w x c E z (hL u d P m (m - q)) wr)) (fun i _=>(intOf i + 1).toNat)
 case atStart=>exact ⟨m,ym,Nat.le_refl _,rfl,by rw [Nat.sub_self];exact HAS⟩
 case round=>
  clear HAS
  obtain ⟨q,z,hq,rfl,HAS⟩:=hrel
  have HEd:=Lib.hid ((Ext.refl wr).drew)
  have hEW:=HAS.out.e.trans HEd.out
  by_cases hq0 : q = 0
  ·subst hq0
   rw [Nat.sub_zero] at HAS
   obtain ⟨uc,uv⟩:=HPC.out (n - m) (by omega)
   have hms:=HAS.out
   have HVV:=Lib.hid ((uv.more HMU.out).ext hEW)
   have HSS : Hid (P4 wr.drew (w.heap.size + 3) z /\ UC bp (op + (n - m) * 2) (X (n - m)) wr.drew):=⟨hms.b.p4.ext HEd.out,uc.ext hEW⟩
   have HSD:=Lib.hid (HAS.out.ext HEd.out)
   obtain ⟨f,hf⟩ : ∃ f,f = n - m:=⟨_,rfl⟩
   rw [<- hf] at HSS HVV HAT
   have kwf : IntKind.i64.wrap ((n : Int) - (m : Int)) = (f : Int):=by rw [IntWalk.i64_in _ (by omega)];omega
   have hfn : (f : Int) < (n : Int) + 1:=by omega
   have HSZZ : Hid (dlen (nrm (hL u d P m m)) + dlen (d ^ f).natAbs <= 1099511627776):=by
    show _ <= _
    have h3:=HHL.out m (Nat.le_refl _)
    have h4:=HPW.out f (by omega)
    have h5:=Nat.mul_le_mul_right (Z + 1) (show m + f <= n by omega)
    rw [Nat.add_mul] at h5
    have e2 : (n + 2) * (Z + 1) = n * (Z + 1) + 2 * (Z + 1):=Nat.add_mul _ _ _
    omega
   have HDm:=Lib.hid (HHD.out m (Nat.le_refl _))
   clear uc uv hms hEW HAS hf HPC HKK HHL HHD HPW HZL HNR
   go_upto_region 18 with (fail)
   refine qae (fun w'=>P4 w' (w.heap.size + 3) z /\ UC bp (op + f * 2) (X f) w') 8 (by kernel_rfl) HSS.out (fun hHeld=>?_)
   generalize wr.drew = wd at *
   (refine tkB [0,1,2,3,4,5,6] ?_;(iterate 7 (refine tk1 (oi:=?_) (v:=?_) (by kernel_rfl) (by first | exact hSn | exact hHeld) ?_ ?_ ?_ ?_ ?_;rotate_left 2;(simp only [xgA,xgB,xgC];rfl);rfl;(intro wS hSw;obtain ⟨⟨S1,S2,S3,S4⟩,S5,S6⟩:=hSw;go_simp;try with_reducible rfl);(exact fun _ _ _ h=>h);(try simp only [Act.put,xgD,xgE,xgF])));refine tkE ?_)
   ((refine qaa 7 (o:=?_) (by kernel_rfl) ?_ ?_;rotate_left 1;(simp only [xgA,xgB,xgC];rfl);intro K hK);go_simp;(refine (qdd _ E z (hL u d P m m) B (X f).b (X f).a (X f).n (X f).p (d ^ f) _ HSD.out.m HSD.out.cz HVV.out HSZZ.out HDm.out hB1).mono ?_);rintro e_ wz ⟨v,rfl,hv,he1⟩;go_wp2_with (fail);(refine hK.out _ _ (fun _=>⟨hHeld.1.ext he1,hHeld.2.ext he1⟩) ?_);clear hK K;(try simp only [Act.put,xgD,xgE,xgF]))
   obtain ⟨⟨q0,q1,q2,q3⟩,⟨f0,f1,f2,f3⟩,⟨r0,r1,r2,r3⟩,HF⟩:=qcs (M:=M) (w:=w) (L:=D) (HSD.out.q.ext he1) (Mx.at (by omega)) (by omega) (HSD.out.e.trans he1) ((hv.sim ((qiA _ _).trans HAT.out)).up (by omega)) Mx.sub
   ((refine qaa 8 (o:=?_) (by kernel_rfl) ?_ ?_;rotate_left 1;(simp only [xgA,xgB,xgC];rfl);intro K hK);go_simp;(refine hK.out _ _ (fun h=>absurd rfl h) ?_);clear hK K;refine qac (by kernel_rfl) ?_ _)
   clear he1 hv hHeld
   go_wp2
   exact bodyPost_ret (v:=.agg (peA v)) (by simp [results,Tryz.results57,go_sem,r0,r1,r2,r3]) rfl HF.out
  ·obtain ⟨j,rfl⟩ : ∃ j,q = j + 1:=⟨q - 1,by omega⟩
   rw [show ((j + 1 : Nat) : Int) - 1 = (j : Int) by omega]
   obtain ⟨k,hk⟩ : ∃ k,k = m - (j + 1):=⟨_,rfl⟩
   rw [<- hk] at HAS
   have hjk : m - 1 - k = j:=by omega
   obtain ⟨y,hy,hyc⟩:=HKK.out j (by omega)
   obtain ⟨uc,uv⟩:=HPC.out (k + 1) (by omega)
   have HVV:=Lib.hid ((uv.more HMU.out).ext hEW)
   have HYY:=Lib.hid ((hyc.more HMU.out).ext hEW)
   have HUU:=Lib.hid ((HU.out.more HMU.out).ext hEW)
   have hms:=HAS.out.ext HEd.out
   have HSS : Hid (SHo w.heap.size z c (.slice (some ⟨b,off,none⟩) (m + 1) x.kp) b (off + j * 4) y bp (op + (k + 1) * 2) (X (k + 1)) wr.drew):=⟨hms.b.p4,⟨hms.p.2.1,hms.p.2.2⟩,by rw [<- v3e.out];exact hms.p.1.2.2.2,hy.ext hb hEW,uc.ext hEW⟩
   have HSD:=Lib.hid hms
   have kwe : IntKind.i64.wrap ((m : Int) - (j : Int)) = ((k + 1 : Nat) : Int):=by rw [IntWalk.i64_in _ (by omega)];omega
   have kwj : IntKind.i64.wrap (j : Int) = j:=IntWalk.i64_in _ (by omega)
   obtain ⟨ke,hke⟩ : ∃ ke,ke = k + 1:=⟨_,rfl⟩
   rw [<- hke] at HSS HVV kwe
   have hken : (ke : Int) < (n : Int) + 1:=by omega
   have hjm : (j : Int) < (m : Int) + 1:=by omega
   have H1 : Hid (dlen (nrm (hL u d P m k)) + dlen u.natAbs <= 1099511627776):=by
    show _ <= _
    have h3:=HHL.out k (by omega)
    have h5:=HZL.out k (by omega)
    omega
   have H2 : Hid (dlen (nrm (P j)) + dlen (d ^ ke).natAbs <= 1099511627776):=by
    show _ <= _
    have h3:=HNR.out j (by omega)
    have h4:=HPW.out ke (by omega)
    have h5:=HZL.out ke (by omega)
    omega
   have HDk:=Lib.hid (HHD.out k (by omega))
   have HDj:=Lib.hid (HDK.out j (by omega))
   have HNX : Hid (hL u d P m (m - j) = smul u (hL u d P m k) ++ smul (d ^ ke) (P j)):=by
    show _ = _
    rw [show m - j = k + 1 by omega,hke,<- hjk];rfl
   have H3 : Hid (dlen (nrm (smul u (hL u d P m k) ++ smul (d ^ ke) (P j))) <= 1099511627776):=by
    show _ <= _
    rw [<- HNX.out]
    have h3:=HHL.out (m - j) (by omega)
    have h5:=HZL.out (m - j) (by omega)
    omega
   clear uc uv hms hEW HAS hke hk hjk hy hyc HPC HKK HHL HHD HPW HZL HNR HAT HDK HU v3e HSZ HMU
   go_upto_region 17 with (fail)
   refine qae (SHo w.heap.size z c (.slice (some ⟨b,off,none⟩) (m + 1) x.kp) b (off + j * 4) y bp (op + ke * 2) (X ke)) 17 (by kernel_rfl) HSS.out (fun hHeld=>?_)
   generalize wr.drew = wd at *
   (refine tkB [0,1,3,4,5,6,7,8,9,10,11,12,13] ?_;(iterate 13 (refine tk1 (oi:=?_) (v:=?_) (by kernel_rfl) (by first | exact hSn | exact hHeld) ?_ ?_ ?_ ?_ ?_;rotate_left 2;(simp only [xgA,xgB,xgC];rfl);rfl;(intro wS hSw;obtain ⟨⟨S1,S2,S3,S4⟩,⟨S5,S6⟩,S7,⟨S8,S9,S10,S11⟩,S12,S13⟩:=hSw;go_simp;try with_reducible rfl);(exact fun _ _ _ h=>h);(try simp only [Act.put,xgD,xgE,xgF])));refine tkE ?_)
   ((refine qaa 2 (o:=?_) (by kernel_rfl) ?_ ?_;rotate_left 1;(simp only [xgA,xgB,xgC];rfl);intro K hK);go_simp;(refine (qdd _ E z (hL u d P m k) B c.b c.a c.n c.p u _ HSD.out.m HSD.out.cz HUU.out H1.out HDk.out hB1).mono ?_);rintro e_ wz ⟨v1,rfl,hv1,he1⟩;go_wp2_with (fail);(try clear hSn);(have hSn:=hHeld.ext he1);(refine hK.out _ _ (fun _=>hSn) ?_);clear hK K;(try simp only [Act.put,xgD,xgE,xgF]))
   ((refine qaa 14 (o:=?_) (by kernel_rfl) ?_ ?_;rotate_left 1;(simp only [xgA,xgB,xgC];rfl);intro K hK);go_simp;(refine (qdd _ E y (P j) B (X ke).b (X ke).a (X ke).n (X ke).p (d ^ ke) _ (HSD.out.m.ext he1) (HYY.out.ext he1) (HVV.out.ext he1) H2.out HDj.out hB1).mono ?_);rintro e_ wz ⟨v2,rfl,hv2,he2⟩;go_wp2_with (fail);(try clear hSn);(have hSn:=hHeld.ext (he1.trans he2));(refine hK.out _ _ (fun _=>hSn) ?_);clear hK K;(try simp only [Act.put,xgD,xgE,xgF]))
   rename_i wz
   have hM3:=HSD.out.m.ext (he1.trans he2)
   have hkr:=qnp hM3 ((hv1.sim (qiA _ _)).ext he2) (hv2.sim (qiA _ _))
   have he3 : Ext _ (wz.alloc (.cells #[.int .i64 v1.lv,.bool v1.b,.slice v1.a v1.n v1.p,.slice v1.ka v1.kn v1.kp,.int .i64 v2.lv,.bool v2.b,.slice v2.a v2.n v2.p,.slice v2.ka v2.kn v2.kp] 32)):=(he1.trans he2).alloc _
   (refine qaa 15 (o:=?_) (by kernel_rfl) ?_ ?_;rotate_left 1;(simp only [xgA,xgB,xgC];rfl);intro K hK)
   go_simp
   refine hK.out _ _ (fun _=>hHeld.ext he3) ?_
   clear hK K
   (try simp only [Act.put,xgD,xgE,xgF])
   ((refine qaa 16 (o:=?_) (by kernel_rfl) ?_ ?_;rotate_left 1;(simp only [xgA,xgB,xgC];rfl);intro K hK);go_simp;(refine (qhL _ E _ 2 _ _ (HSD.out.m.ext he3) hkr (by rw [qde];exact H3.out)).mono ?_);rintro e_ wz ⟨v3,rfl,hv3,he4⟩;go_wp2_with (fail);(try clear hSn);(have hSn:=hHeld.ext (he3.trans he4));(refine hK.out _ _ (fun _=>hSn) ?_);clear hK K;(try simp only [Act.put,xgD,xgE,xgF]))
   rw [qde] at hv3
   have hS3:=HSD.out.ext (he3.trans he4)
   obtain ⟨⟨q0,q1,q2,q3⟩,⟨f0,f1,f2,f3⟩,_,_,_⟩:=qkp (M':=Mx M w.heap.size (w.heap.size + 4)) (w:=w) (.int .i64 v3.lv) (.bool v3.b) (.slice v3.a v3.n v3.p) (.slice v3.ka v3.kn v3.kp) hS3.b (Mx.at (by omega)) (by omega) hS3.e
   have hP3:=hS3.put hv3
   rw [<- HNX.out] at hP3
   generalize hW3 : set4 _ (w.heap.size + 3) 0 (.int .i64 v3.lv) (.bool v3.b) (.slice v3.a v3.n v3.p) (.slice v3.ka v3.kn v3.kp) = W3 at hP3
   unfold set4 at hW3
   have HW3:=Lib.hid hW3
   have HP3:=Lib.hid hP3
   simp only [arr] at q0 q1 q2 q3
   clear hW3 hP3 hS3 he1 he2 he3 he4 hv1 hv2 hv3 hkr hM3 hHeld hSn H1 H2 H3 HNX HSS HSD HVV HYY HUU HDk HDj
   ((refine qaa 17 (o:=?_) (by kernel_rfl) ?_ ?_;rotate_left 1;(simp only [xgA,xgB,xgC];rfl);intro K hK);go_simp;(refine hK.out _ _ (fun h=>absurd rfl h) ?_);clear hK K;refine qac (by kernel_rfl) ?_ _)
   rw [HW3.out]
   clear q0 q1 q2 q3 f0 f1 f2 f3 HW3
   go_wp2
   go_roundw
   case rel=>exact ⟨j,v3,by omega,rfl,HP3⟩
   case measure=>simp [intOf]


theorem qqE (L : Nat) (hL1 : 1 <= L) (hL4 : L <= 4) (D : Nat) : qrR L D:=by
 induction D using Nat.strongRecOn with
 | _ D ih=>
  intro M l x c u d a n cap X B A Z w hM h hu hr hdg hB hA hz hd hB1 hS
  by_cases h1 : x.lv < L
  ·exact qp6 L hL1 hL4 D M l x c u d a n cap X B A Z w hM h hu hr hB hA hd hB1 hS h1
  ·by_cases h2 : (L : Int) < x.lv
   ·exact qp7 L hL1 hL4 D ih M l x c u d a n cap X B A Z w hM h hu hr hdg hB hA hz hd hB1 hS h2
   ·exact qp5 L hL1 hL4 D M l x c u d a n cap X B A Z w hM h hu hr hdg hB hA hz hd hB1 hS (by omega)
theorem UK.uc {M : Nat -> Prop} {w : World} {g N k : Nat} {z : Nat -> Int} (h : UK M w g N k z) (hk : k <= N) (i : Nat) (hi : i < k) : ∃ y : IE,UC g (i * 2) y w /\ qbl M w (.bool y.b) (.slice y.a y.n y.p) (z i):=by
 obtain ⟨X,f,hB,hf⟩:=h
 obtain ⟨h1,h2,h3⟩:=hf i hi
 exact ⟨X i,⟨by rw [hB.cell (by omega),h1],by rw [hB.cell (by omega),h2]⟩,h3⟩
theorem qsu {M : Nat -> Prop} {w : World} (hM : Mb M w) (x : PE) (r : RE) : Ext w (((w.alloc (.cells (peA x) 32)).alloc (.cells (reA r) 58)).alloc (.cells zA 32)) /\ Blk (((w.alloc (.cells (peA x) 32)).alloc (.cells (reA r) 58)).alloc (.cells zA 32)) w.heap.size 32 4 (arr (peA x)) /\
  Blk (((w.alloc (.cells (peA x) 32)).alloc (.cells (reA r) 58)).alloc (.cells zA 32)) (w.heap.size + 1) 58 3 (arr (reA r)) /\ Blk (((w.alloc (.cells (peA x) 32)).alloc (.cells (reA r) 58)).alloc (.cells zA 32)) (w.heap.size + 2) 32 4 (arr zA) /\
  Mb (Mx M w.heap.size (w.heap.size + 3)) (((w.alloc (.cells (peA x) 32)).alloc (.cells (reA r) 58)).alloc (.cells zA 32)):=by
 have h1:=Blk.of_arr ((w.alloc (.cells (peA x) 32)).alloc (.cells (reA r) 58)) zA 32 4 rfl
 have h2:=(Blk.of_arr (w.alloc (.cells (peA x) 32)) (reA r) 58 3 rfl).alloc (.cells zA 32)
 simp only [World.size_alloc] at h1 h2
 exact ⟨(((Ext.refl w).alloc _).alloc _).alloc _,((Blk.of_arr w (peA x) 32 4 rfl).alloc _).alloc _,h2,h1,Mx.mb hM (by simp;omega) (by simp)⟩
structure AtP (M : Nat -> Prop) (w : World) (l : List Tm) (y : PE) (r : RE) (wr : World) : Prop where
 p : P4 wr w.heap.size y
 a : Blk wr (w.heap.size + 1) 58 3 (arr (reA r))
 q : Blk wr (w.heap.size + 2) 32 4 (arr zA)
 cy : CRx (Mx M w.heap.size (w.heap.size + 3)) wr 4 y l
 m : Mb (Mx M w.heap.size (w.heap.size + 3)) wr
 e : Ext w wr
theorem AtP.ext {M : Nat -> Prop} {w wr w' : World} {l : List Tm} {y : PE} {r : RE} (h : AtP M w l y r wr) (he : Ext wr w') : AtP M w l y r w':=⟨h.p.ext he,h.a.ext he,h.q.ext he,h.cy.ext he,h.m.ext he,h.e.trans he⟩
structure AtQ (M : Nat -> Prop) (w : World) (l : List Tm) (y : PE) (r : RE) (q : Rat) (G : Nat) (den : IE) (g n k : Nat) (wr : World) : Prop where
 p : P4 wr w.heap.size y
 a : Blk wr (w.heap.size + 1) 58 3 (arr (reA r))
 qb : Blk wr (w.heap.size + 2) 32 4 (arr zA)
 c : UC G 0 den wr
 cy : CRx (fun b=>Mx M w.heap.size (w.heap.size + 3) b ∨ b = g) wr 4 y l
 rc : qkj (fun b=>Mx M w.heap.size (w.heap.size + 3) b ∨ b = g) wr r q
 dc : qbl (fun b=>Mx M w.heap.size (w.heap.size + 3) b ∨ b = g) wr (.bool den.b) (.slice den.a den.n den.p) (q.den : Int)
 uk : UK (fun b=>Mx M w.heap.size (w.heap.size + 3) b ∨ b = g) wr g (n + 1) k (fun i=>(q.den : Int) ^ i)
 m : Mb (fun b=>Mx M w.heap.size (w.heap.size + 3) b ∨ b = g) wr
 e : Ext w wr
 hg : w.heap.size + 3 <= g /\ G < g
section
variable {M : Nat -> Prop} {w wr w' : World} {l : List Tm} {y : PE} {r : RE} {q : Rat} {G : Nat} {den : IE} {g n k : Nat}
theorem AtQ.ext (h : AtQ M w l y r q G den g n k wr) (he : Ext wr w') : AtQ M w l y r q G den g n k w':=
 ⟨h.p.ext he,h.a.ext he,h.qb.ext he,h.c.ext he,h.cy.ext he,h.rc.ext he,h.dc.ext he,h.uk.ext he,h.m.ext he,h.e.trans he,h.hg⟩
theorem qlx (wr : World) (g o : Nat) (e0 e1 : Value) (b : Nat) (hb : b ≠ g) : (set2 wr g o e0 e1).heap[b]? = wr.heap[b]?:=by
 unfold set2
 rw [Below.heap_setCell _ _ _ _ hb,Below.heap_setCell _ _ _ _ hb]
theorem AtQ.put (h : AtQ M w l y r q G den g n k wr) {b : Bool} {a : Option Addr} {nn p : Nat} (hc : qbl (fun b=>Mx M w.heap.size (w.heap.size + 3) b ∨ b = g) wr (.bool b) (.slice a nn p) ((q.den : Int) ^ k)) : AtQ M w l y r q G den g n (k + 1) (set2 wr g (k * 2) (.bool b) (.slice a nn p)):=by
 obtain ⟨g1,g2⟩:=h.hg
 have hk : Kp (fun b=>Mx M w.heap.size (w.heap.size + 3) b ∨ b = g) wr (set2 wr g (k * 2) (.bool b) (.slice a nn p)):=(Kp.set _ wr (p:=⟨g,k * 2,none⟩) (.inr rfl) _).trans (Kp.set _ _ (p:=⟨g,k * 2 + 1,none⟩) (.inr rfl) _)
 have hu:=h.uk.set (.inr rfl) hc
 have hh:=fun c hcg=>qlx wr g (k * 2) (.bool b) (.slice a nn p) c hcg
 have he:=h.e.set2 (g:=g) (by omega) (k * 2) (.bool b) (.slice a nn p)
 generalize set2 wr g (k * 2) (.bool b) (.slice a nn p) = W at *
 have hcG:=fun o=>World.cell?_of_block (w:=wr) (w':=W) (a:=⟨G,o,none⟩) (hh G (by omega))
 exact ⟨h.p.of_heap (hh _ (by omega)),h.a.of_heap (hh _ (by omega)),h.qb.of_heap (hh _ (by omega)),⟨(hcG 0).trans h.c.1,(hcG 1).trans h.c.2⟩,h.cy.kp hk,h.rc.kp hk,h.dc.kp hk,hu,h.m.size hk.1,he,h.hg⟩
end
def qqb (M : Nat -> Prop) (w : World) (lv : Int) (q : Rat) (l : List Tm) (e : Ending) (w' : World) : Prop:=
 (qaE lv = false ∨ Sim l []) /\ qbe M w 4 l e w' ∨ ∃ L n : Nat,lv = L /\ 1 <= L /\ L <= 4 /\ ¬ Sim l [] /\ DgR L l n /\ qbe M w 4 (atL L n q.num q.den l) e w'
set_option maxRecDepth 100000 in
set_option maxHeartbeats 8000000 in
theorem qrW (M : Nat -> Prop) (x : PE) (l : List Tm) (r : RE) (q : Rat) (lv : Int) (N B : Nat) (w : World) (hM : Mb M w) (h : PI M w x l) (hr : qfq M w N r q) (hN : 1 <= N) (hN2 : N <= 1000) (hL : dlen (nrm l) <= 1000) (hB : Deg B l) (hB1 : B <= 1000) :
  Calls Tryz.prog 27 #[.agg (peA x),.int .i64 lv,.agg (reA r)] w (qqb M w lv q l):=by
 obtain ⟨i0,hi,hz0,hz1,hz2⟩:=info_parts Tryz.info29
 obtain ⟨hE0,hX0,hR0,hB0,hM0⟩:=qsu hM x r
 have h2:=(h.more (M':=Mx M w.heap.size (w.heap.size + 3)) (Mx.more (Nat.le_refl _))).ext hE0
 have hr2:=(hr.more (M':=Mx M w.heap.size (w.heap.size + 3)) (Mx.more (Nat.le_refl _))).ext hE0
 have HRB:=Lib.hid (hr.rb hN)
 have HDB:=Lib.hid hB
 have HL:=Lib.hid hL
 generalize hW : ((w.alloc (.cells (peA x) 32)).alloc (.cells (reA r) 58)).alloc (.cells zA 32) = W at *
 have HW:=Lib.hid hW
 have HE:=Lib.hid hE0
 have HX0:=Lib.hid hX0
 have HR0:=Lib.hid hR0
 have HB0:=Lib.hid hB0
 have HM:=Lib.hid hM0
 have HMM:=Lib.hid hM
 have HRX:=Lib.hid hr2
 have CT:=Lib.hid (qcy _ x l _ hM0 h2)
 obtain ⟨x0,x1,x2,x3⟩:=hX0.p4
 clear hE0 hX0 hR0 hB0 hM0 hM h hr h2 hr2 hB hL hW
 go_enter Tryz.func27,Tryz.ntmps27
 go_upto_region 1 with (fail)
 rw [HW.out]
 go_wp2_with (fail)
 refine CT.out.mono ?_
 rintro e w1 ⟨y,rfl,hy,he1⟩
 have hB1':=HX0.out.ext he1
 obtain ⟨⟨q0,q1,q2,q3⟩,⟨f0,f1,f2,f3⟩,⟨r0,r1,r2,r3⟩,hk,hf⟩:=qkp (M':=Mx M w.heap.size (w.heap.size + 3)) (w:=w) (.int .i64 y.lv) (.bool y.b) (.slice y.a y.n y.p) (.slice y.ka y.kn y.kp) hB1' (Mx.at (by omega)) (Nat.le_refl _) (HE.out.trans he1)
 have hA : AtP M w l y r (set4 w1 w.heap.size 0 (.int .i64 y.lv) (.bool y.b) (.slice y.a y.n y.p) (.slice y.ka y.kn y.kp)):=
  ⟨⟨r0,r1,r2,r3⟩,(HR0.out.ext he1).of_heap (qag _ _ _ _ _ _ _ _ (by omega)),(HB0.out.ext he1).of_heap (qag _ _ _ _ _ _ _ _ (by omega)),hy.kp hk,(HM.out.ext he1).size hk.1,hf⟩
 have hRX:=(HRX.out.ext he1).kp hk
 clear q0 q1 q2 q3
 obtain ⟨q0,q1,q2,q3⟩:=hB1'.p4
 have hlt1:=hB1'.lt
 generalize hW1 : set4 w1 w.heap.size 0 (.int .i64 y.lv) (.bool y.b) (.slice y.a y.n y.p) (.slice y.ka y.kn y.kp) = W1 at hA hRX
 unfold set4 at hW1
 have HW1:=Lib.hid hW1
 have HA:=Lib.hid hA
 have HRX1:=Lib.hid hRX
 clear hW1 hA hRX he1 hy hk hf hB1' r0 r1 r2 r3 x0 x1 x2 x3 HX0 HR0 HB0 HM HRX HE CT HW
 go_upto_region 2 with (fail)
 rw [HW1.out]
 clear q0 q1 q2 q3 f0 f1 f2 f3 hlt1 HW1
 have CTL:=Lib.hid (qd8 lv W1)
 obtain ⟨ib,hib⟩ : ∃ ib,ib = qaE lv:=⟨_,rfl⟩
 rw [<- hib] at CTL
 have HIB:=Lib.hid hib
 clear hib
 obtain ⟨x0,x1,x2,x3⟩:=HA.out.p
 cases ib
 ·go_wp2_with (fail)
  refine CTL.out.mono ?_
  rintro e w2 ⟨rfl,rfl⟩
  go_wp2_with (fail)
  refine (qc3 _ 4 y l _ HA.out.m HA.out.cy).mono ?_
  rintro e w5 ⟨v,rfl,hv,he5⟩
  obtain ⟨⟨q0,q1,q2,q3⟩,⟨f0,f1,f2,f3⟩,⟨r0,r1,r2,r3⟩,HF⟩:=qcs (M:=M) (w:=w) (HA.out.q.ext he5) (Mx.at (by omega)) (by omega) (HA.out.e.trans he5) hv Mx.sub
  clear he5 hv x0 x1 x2 x3
  go_wp2
  exact bodyPost_ret (v:=.agg (peA v)) (by simp [results,Tryz.results27,go_sem,r0,r1,r2,r3]) rfl (.inl ⟨.inl HIB.out.symm,HF.out⟩)
 have CTZ:=Lib.hid (qbC y.lv y.b y.a y.n y.p y.ka y.kn y.kp W1)
 have HZ : Hid (qey y.lv y.n = true ↔ Sim l []):=CR.isz HA.out.cy
 obtain ⟨zb,hzb⟩ : ∃ zb,zb = qey y.lv y.n:=⟨_,rfl⟩
 rw [<- hzb] at CTZ HZ
 clear hzb
 go_wp2_with (fail)
 refine CTL.out.mono ?_
 rintro e w2 ⟨rfl,rfl⟩
 go_wp2_with (fail)
 refine CTZ.out.mono ?_
 rintro e w2 ⟨rfl,he2⟩
 have HA2:=Lib.hid (HA.out.ext he2)
 have HRX2:=Lib.hid (HRX1.out.ext he2)
 clear x0 x1 x2 x3 he2 HA HRX1 CTL CTZ
 obtain ⟨x0,x1,x2,x3⟩:=HA2.out.p
 cases zb
 case true=>
  go_wp2_with (fail)
  refine (qc3 _ 4 y l _ HA2.out.m HA2.out.cy).mono ?_
  rintro e w5 ⟨v,rfl,hv,he5⟩
  obtain ⟨⟨q0,q1,q2,q3⟩,⟨f0,f1,f2,f3⟩,⟨r0,r1,r2,r3⟩,HF⟩:=qcs (M:=M) (w:=w) (HA2.out.q.ext he5) (Mx.at (by omega)) (by omega) (HA2.out.e.trans he5) hv Mx.sub
  clear he5 hv x0 x1 x2 x3
  go_wp2
  exact bodyPost_ret (v:=.agg (peA v)) (by simp [results,Tryz.results27,go_sem,r0,r1,r2,r3]) rfl (.inl ⟨.inr (by have:=HZ.out;simpa using this),HF.out⟩)
 case false=>
  obtain ⟨L,rfl,hL1,hL4⟩ : ∃ L : Nat,lv = L /\ 1 <= L /\ L <= 4:=by
   have:=HIB.out
   unfold qaE at this
   simp at this
   exact ⟨lv.toNat,by omega,by omega,by omega⟩
  have HNZ : Hid (¬ Sim l []):=fun hs=>by have:=HZ.out;simp at this;exact this hs
  clear HZ HIB x0 x1 x2 x3
  have CTR:=Lib.hid (qjP N r q _ HA2.out.m HRX2.out hN (by omega))
  obtain ⟨a0,a1,a2⟩:=HA2.out.a.r3
  go_wp2_with (fail)
  refine CTR.out.mono ?_
  rintro e w3 ⟨r',rfl,hr',he3⟩
  have hA3:=HA2.out.ext he3
  obtain ⟨⟨q0,q1,q2,f0,f1,f2⟩,⟨r0,r1,r2⟩,hkp,hext⟩:=qq4 (M':=Mx M w.heap.size (w.heap.size + 3)) (w:=w) (.bool r'.b) (.slice r'.a r'.n r'.p) (.slice r'.da r'.dn r'.dp) hA3.a (Mx.at (by omega)) (by omega) hA3.e
  have hB3:=(((hA3.a.set 0 (.bool r'.b)).set 1 (.slice r'.a r'.n r'.p)).set 2 (.slice r'.da r'.dn r'.dp)).congr (f':=arr (reA r')) (fun i hi=>by
   rcases (show i = 0 ∨ i = 1 ∨ i = 2 by omega) with rfl | rfl | rfl <;> simp [upd,arr])
  have hP3 : P4 (((w3.setCell ⟨w.heap.size + 1,0,none⟩ (.bool r'.b)).setCell ⟨w.heap.size + 1,1,none⟩ (.slice r'.a r'.n r'.p)).setCell ⟨w.heap.size + 1,2,none⟩ (.slice r'.da r'.dn r'.dp)) w.heap.size y:=hA3.p.of_heap (by
   rw [Below.heap_setCell _ _ _ _ (by simp),Below.heap_setCell _ _ _ _ (by simp),Below.heap_setCell _ _ _ _ (by simp)])
  have hQ3:=((hA3.q.set_other (p:=⟨w.heap.size + 1,0,none⟩) (by simp) (.bool r'.b)).set_other (p:=⟨w.heap.size + 1,1,none⟩) (by simp) (.slice r'.a r'.n r'.p)).set_other (p:=⟨w.heap.size + 1,2,none⟩) (by simp) (.slice r'.da r'.dn r'.dp)
  have hA4 : AtP M w l y r' (((w3.setCell ⟨w.heap.size + 1,0,none⟩ (.bool r'.b)).setCell ⟨w.heap.size + 1,1,none⟩ (.slice r'.a r'.n r'.p)).setCell ⟨w.heap.size + 1,2,none⟩ (.slice r'.da r'.dn r'.dp)):=⟨hP3,hB3,hQ3,hA3.cy.kp hkp,hA3.m.size hkp.1,hext⟩
  have hr4:=hr'.kp hkp
  clear q0 q1 q2
  obtain ⟨q0,q1,q2⟩:=hA3.a.r3
  have hl3:=hA3.a.lt
  generalize hW4 : ((w3.setCell ⟨w.heap.size + 1,0,none⟩ (.bool r'.b)).setCell ⟨w.heap.size + 1,1,none⟩ (.slice r'.a r'.n r'.p)).setCell ⟨w.heap.size + 1,2,none⟩ (.slice r'.da r'.dn r'.dp) = W4 at hA4 hr4
  have HW4:=Lib.hid hW4
  have HA4:=Lib.hid hA4
  have HR4:=Lib.hid hr4
  clear hW4 hA4 hr4 hA3 hr' he3 hkp hext hB3 hP3 hQ3 r0 r1 r2 a0 a1 a2 CTR HA2 HRX2
  go_upto_region 5 with (fail)
  rw [HW4.out]
  clear q0 q1 q2 f0 f1 f2 hl3 HW4
  obtain ⟨a0,a1,a2⟩:=HA4.out.a.r3
  have CTD:=Lib.hid (qdl false _ q.den W4 HA4.out.m HR4.out.2.toV)
  go_wp2_with (fail)
  refine CTD.out.mono ?_
  rintro e w5 ⟨d0,d1,rfl,hc,he5⟩
  obtain ⟨db,da,dn,dp,rfl,rfl⟩:=hc.form
  have hsgn : sgn false q.den = (q.den : Int):=rfl
  rw [hsgn] at hc
  clear CTD a0 a1 a2
  go_upto_region 6 with (fail)
  have hE6:=he5.trans ((Ext.refl w5).alloc (.cells #[.bool db,.slice da dn dp] 29))
  have hC6:=Blk.of_arr w5 #[.bool db,.slice da dn dp] 29 2 rfl
  have hD6:=hc.toV.ext ((Ext.refl w5).alloc (.cells #[.bool db,.slice da dn dp] 29))
  have hg5 : w.heap.size + 3 <= w5.heap.size:=by have:=(HA4.out.q.ext he5).lt;omega
  obtain ⟨W6,hW6⟩ : ∃ W6,W6 = w5.alloc (.cells #[.bool db,.slice da dn dp] 29):=⟨_,rfl⟩
  rw [<- hW6] at hE6 hC6 hD6
  rw [<- hW6]
  obtain ⟨G5,hG5⟩ : ∃ G5,G5 = w5.heap.size:=⟨_,rfl⟩
  rw [<- hG5] at hC6 hg5
  rw [<- hG5]
  have HA6:=Lib.hid (HA4.out.ext hE6)
  have HR6:=Lib.hid (HR4.out.ext hE6)
  have HC6:=Lib.hid hC6
  have HD6:=Lib.hid hD6
  clear hE6 hC6 hD6 hW6 hG5 he5 hc HA4 HR4
  obtain ⟨x0,x1,x2,x3⟩:=HA6.out.p
  have CTG:=Lib.hid (qkP L hL1 hL4 4 _ l y W6 HA6.out.cy)
  go_wp2_with (first | fail)
  refine CTG.out.mono ?_
  rintro e w7 ⟨n,rfl,hn,hnL,he7⟩
  have HDG:=Lib.hid hn
  have hn1000 : n <= 1000:=by
   rcases hn.2 with h0 | ⟨m,hm,hmn⟩
   ·omega
   ·have:=HDB.out m hm L;omega
  have HA7:=Lib.hid (HA6.out.ext he7)
  have HR7:=Lib.hid (HR6.out.ext he7)
  have HC7:=Lib.hid (HC6.out.ext he7)
  have HD7:=Lib.hid (HD6.out.ext he7)
  clear x0 x1 x2 x3 CTG hn he7 HA6 HR6 HC6 HD6
  go_wp2_with (first | (refine wpList_make_full _ rfl _ _ _ rfl (w.heap.size + 3) 29 i0 (.agg #[.bool false,.slice none 0 0]) 2 Tryz.underlying80 hi hz0 hz1 .i64 .i64 _ _ (n + 1) rfl rfl ?c4 ?c5 ?c2 ?c3 ?c6 ?_))
  case c2=>rw [hz2];omega
  case c3=>unfold maxLen;omega
  case c4=>simp
  case c5=>simp
  case c6=>have:=HA7.out.q.lt;omega
  intro w8 hown hgrow
  have hBk:=Blk.made hown rfl (by omega)
  have he8:=qaz hgrow
  obtain ⟨g,hg⟩ : ∃ g,g = w7.heap.size:=⟨_,rfl⟩
  rw [<- hg] at hBk
  rw [<- hg]
  have hgs : w.heap.size + 3 <= g:=by have:=HA7.out.q.lt;omega
  have hgG : G5 < g:=by have:=HC7.out.lt;omega
  have hM8 : Mb (fun b=>Mx M w.heap.size (w.heap.size + 3) b ∨ b = g) w8:=fun b hb=>hb.elim (fun h=>(HA7.out.m.ext he8) b h) (fun h=>by rw [h];exact hBk.lt)
  have HMO : Hid (∀ b,(Mx M w.heap.size (w.heap.size + 3) b ∨ b = g) -> Mx M w.heap.size (w.heap.size + 3) b ∨ w7.heap.size <= b):=fun b hb=>hb.imp id (fun h=>by omega)
  have HK8 : Hid (UK (fun b=>Mx M w.heap.size (w.heap.size + 3) b ∨ b = g) w8 g (n + 1) 0 (fun i=>(q.den : Int) ^ i)):=UK.fresh hBk
  have HA8:=Lib.hid (HA7.out.ext he8)
  have HR8:=Lib.hid ((HR7.out.more HMO.out).ext he8)
  have HC8:=Lib.hid (HC7.out.ext he8)
  have HD8:=Lib.hid ((HD7.out.more HMO.out).ext he8)
  have HY8:=Lib.hid ((HA7.out.cy.more HMO.out).ext he8)
  have HM8:=Lib.hid hM8
  clear hown hgrow hBk he8 hM8 HMO HA7 HR7 HC7 HD7 hg
  have CTO:=Lib.hid (qeq 1 w8 HM8.out (by omega) (by omega))
  go_wp2_with (fail)
  refine CTO.out.mono ?_
  rintro e w9 ⟨d0,d1,rfl,hc,he9⟩
  obtain ⟨ob,oa,on,op,rfl,rfl⟩:=hc.form
  have hQ9 : AtQ M w l y r' q G5 ⟨db,da,dn,dp⟩ g n 0 w9:=(⟨HA8.out.p,HA8.out.a,HA8.out.q,⟨HC8.out.cell (i:=0) (by omega),HC8.out.cell (i:=1) (by omega)⟩,HY8.out,HR8.out,HD8.out,HK8.out,HM8.out,HA8.out.e,hgs,hgG⟩ : AtQ M w l y r' q G5 ⟨db,da,dn,dp⟩ g n 0 w8).ext he9
  have hQ10:=hQ9.put (b:=ob) (a:=oa) (nn:=on) (p:=op) (by rw [Int.pow_zero];exact hc.toV)
  obtain ⟨⟨_,k0⟩,⟨_,k1⟩,hfr,hg4⟩:=hQ9.uk.at (j:=0) (by omega)
  have hf0:=hfr 0
  have hf1:=hfr 1
  rw [Nat.zero_mul] at k0 k1
  have hW10 : (w9.setCell ⟨g,0,none⟩ (.bool ob)).setCell ⟨g,1,none⟩ (.slice oa on op) = set2 w9 g (0 * 2) (.bool ob) (.slice oa on op):=by unfold set2;rw [Nat.zero_mul]
  obtain ⟨W10,hW10'⟩ : ∃ W10,W10 = set2 w9 g (0 * 2) (.bool ob) (.slice oa on op):=⟨_,rfl⟩
  rw [<- hW10'] at hQ10 hW10
  have HW10:=Lib.hid hW10
  have HQ10:=Lib.hid hQ10
  clear hW10 hW10' hQ10 hQ9 hfr hc he9 HA8 HC8 HY8 HR8 HD8 HK8 HM8 CTO
  have hn0 : (0 : Int) < (n : Int) + 1:=by omega
  go_upto_region 8 with (fail)
  rw [HW10.out]
  clear k0 k1 hf0 hf1 hg4 HW10 hn0
  go_wp2
  go_loopw [9] (fun i wr=>∃ k : Nat,1 <= k /\ k <= n + 1 /\ i = .int .i64 k /\ Hid (AtQ M w l y r' q G5 ⟨db,da,dn,dp⟩ g n k wr)) (fun i _=>n + 1 - (intOf i).toNat)
  case atStart=>exact ⟨1,by omega,by omega,rfl,HQ10⟩
  case round=>
   clear HQ10
   obtain ⟨k,hk1,hkn,rfl,HQ⟩:=hrel
   have HEd:=Lib.hid ((Ext.refl wr).drew)
   by_cases hlt : k < n + 1
   ·obtain ⟨j,rfl⟩ : ∃ j,k = j + 1:=⟨k - 1,by omega⟩
    have hQd:=HQ.out.ext HEd.out
    obtain ⟨pv,hpc,hpv⟩:=hQd.uk.uc hkn j (by omega)
    have HSS : Hid (UC g (j * 2) pv wr.drew /\ UC G5 0 ⟨db,da,dn,dp⟩ wr.drew):=⟨hpc,hQd.c⟩
    have HPV:=Lib.hid hpv
    have HQd:=Lib.hid hQd
    have kwj : IntKind.i64.wrap (j : Int) = j:=IntWalk.i64_in _ (by omega)
    have kwk : IntKind.i64.wrap ((j : Int) + 1) = (j : Int) + 1:=IntWalk.i64_in _ (by omega)
    have hjn : (j : Int) < (n : Int) + 1:=by omega
    have hjn1 : (j : Int) < (n : Int):=by omega
    have hjt : ((j : Int) + 1).toNat = j + 1:=by omega
    have hj1p : (0 : Int) <= (j : Int) + 1:=by omega
    have HSZ : Hid (dlen ((q.den : Int) ^ j).natAbs + dlen (q.den : Int).natAbs <= 1099511627776):=by
     show _ <= _
     have h3:=qdW (q.den : Int) j
     have h4:=HRB.out.2
     rw [Int.natAbs_natCast] at h3 ⊢
     have h5 : j * dlen q.den <= 1000 * 1000:=Nat.mul_le_mul (by omega) (by omega)
     omega
    clear hQd hpc hpv HQ
    go_upto_region 11 with (fail)
    refine qae (fun w'=>UC g (j * 2) pv w' /\ UC G5 0 ⟨db,da,dn,dp⟩ w') 10 (by kernel_rfl) HSS.out (fun hHeld=>?_)
    generalize wr.drew = wd at *
    (refine tkB [0,1,2,3,4,5,6,7] ?_;(iterate 8 (refine tk1 (oi:=?_) (v:=?_) (by kernel_rfl) (by first | exact hSn | exact hHeld) ?_ ?_ ?_ ?_ ?_;rotate_left 2;(simp only [xgA,xgB,xgC];rfl);rfl;(intro wS hSw;obtain ⟨⟨S1,S2⟩,S3,S4⟩:=hSw;go_simp;try with_reducible rfl);(exact fun _ _ _ h=>h);(try simp only [Act.put,xgD,xgE,xgF])));refine tkE ?_)
    ((refine qaa 8 (o:=?_) (by kernel_rfl) ?_ ?_;rotate_left 1;(simp only [xgA,xgB,xgC];rfl);intro K hK);go_simp;(refine (qlr _ _ _ _ ((q.den : Int) ^ j) (q.den : Int) _ HQd.out.m HPV.out HQd.out.dc HSZ.out).mono ?_);rintro e_ wz ⟨u0,u1,rfl,hu,he1⟩;obtain ⟨b5,a5,n5,p5,rfl,rfl⟩:=hu.form;go_wp2_with (fail);(have hSn:=(⟨hHeld.1.ext he1,hHeld.2.ext he1⟩ : UC g (j * 2) pv wz /\ UC G5 0 ⟨db,da,dn,dp⟩ wz));(refine hK.out _ _ (fun _=>hSn) ?_);clear hK K;(try simp only [Act.put,xgD,xgE,xgF]))
    have hQz:=HQd.out.ext he1
    have hQp:=hQz.put (b:=b5) (a:=a5) (nn:=n5) (p:=p5) (by rw [Int.pow_succ];exact hu.toV)
    obtain ⟨⟨_,k0⟩,⟨_,k1⟩,hfr,hg4⟩:=hQz.uk.at (j:=j + 1) (by omega)
    have hf0:=hfr ((j + 1) * 2)
    have hf1:=hfr ((j + 1) * 2 + 1)
    generalize hW11 : set2 wz g ((j + 1) * 2) (.bool b5) (.slice a5 n5 p5) = W11 at hQp
    unfold set2 at hW11
    have HW11:=Lib.hid hW11
    have HQp:=Lib.hid hQp
    clear hW11 hQp hQz hfr hu he1 hHeld HQd HPV HSS HSZ
    (refine tkB [9] ?_;(iterate 1 (refine tk1 (oi:=?_) (v:=?_) (by kernel_rfl) (by first | exact hSn | exact hHeld) ?_ ?_ ?_ ?_ ?_;rotate_left 2;(simp only [xgA,xgB,xgC];rfl);rfl;(intro wS hSw;obtain ⟨⟨S1,S2⟩,S3,S4⟩:=hSw;go_simp;try with_reducible rfl);(exact fun _ _ _ h=>h);(try simp only [Act.put,xgD,xgE,xgF])));refine tkE ?_)
    clear hSn
    ((refine qaa 10 (o:=?_) (by kernel_rfl) ?_ ?_;rotate_left 1;(simp only [xgA,xgB,xgC];rfl);intro K hK);go_simp;(refine hK.out _ _ (fun h=>absurd rfl h) ?_);clear hK K;refine qac (by kernel_rfl) ?_ _)
    rw [HW11.out]
    clear k0 k1 hf0 hf1 hg4 HW11
    go_wp2
    go_roundw
    case rel=>exact ⟨j + 1 + 1,by omega,by omega,by go_num,HQp⟩
    case measure=>simp [intOf];omega
   ·obtain rfl : k = n + 1:=by omega
    have hq:=HQ.out
    obtain ⟨Xp,hrow⟩:=hq.uk.row (M':=Mx M w.heap.size (w.heap.size + 3)) (fun b hb=>.inl (.inl hb)) (fun hh=>hh.elim (HMM.out.new (by omega)) (by omega)) (by omega)
    have hmo : ∀ b,Mx M w.heap.size (w.heap.size + 3) b -> (Mx M w.heap.size (w.heap.size + 3) b ∨ b = g) ∨ wr.heap.size <= b:=fun b hb=>.inl (.inl hb)
    have hMr : Mb (Mx M w.heap.size (w.heap.size + 3)) wr:=fun b hb=>hq.m b (.inl hb)
    have CTA:=Lib.hid (qqE L hL1 hL4 4 (Mx M w.heap.size (w.heap.size + 3)) l y ⟨r'.b,r'.a,r'.n,r'.p⟩ q.num q.den (some ⟨g,0,none⟩) n (n + 1) Xp B 1000 1000 wr hMr (hq.cy.more hmo) (hq.rc.1.toV.more hmo) hrow HDG.out.1 HDB.out HL.out (by have:=HRB.out.1;omega) (by have:=HRB.out.2;rw [Int.natAbs_natCast];omega) (by omega) (by omega))
    obtain ⟨x0,x1,x2,x3⟩:=hq.p
    obtain ⟨a0,a1,a2⟩:=hq.a.r3
    have HMr:=Lib.hid hMr
    clear hrow hq hmo hMr
    go_wp2_with (fail)
    refine CTA.out.mono ?_
    rintro e w12 ⟨v,rfl,hv,he12⟩
    clear x0 x1 x2 x3 a0 a1 a2 CTA
    go_wp2_with (fail)
    refine (qc3 _ 4 v _ _ (HMr.out.ext he12) hv).mono ?_
    rintro e w13 ⟨u,rfl,hu,he13⟩
    obtain ⟨⟨q0,q1,q2,q3⟩,⟨f0,f1,f2,f3⟩,⟨r0,r1,r2,r3⟩,HF⟩:=qcs (M:=M) (w:=w) ((HQ.out.qb.ext he12).ext he13) (Mx.at (by omega)) (by omega) ((HQ.out.e.trans he12).trans he13) hu Mx.sub
    clear he12 he13 hv hu
    go_wp2
    exact bodyPost_ret (v:=.agg (peA u)) (by simp [results,Tryz.results27,go_sem,r0,r1,r2,r3]) rfl (.inr ⟨L,n,rfl,hL1,hL4,HNZ.out,HDG.out,HF.out⟩)
end Go.Proofs.YtjhhekmfdhfjpaaGreat
