/- A range over a function whose body ends normally, where each element comes with what holds of it in the world (a number that has just been made). sparse.Terms as an iterator whose coefficients are told. integer.Neg, division.Exact. sparse.Content. Regions that draw their order, where an operation that reads no memory may come up behind the last one that counts. sparse.SignNormal. mainvar.SignNormal. -/
import Derived.Test.YtmcfpnmoklnhoaaGreatMn
import Derived.Test.YtmcfpnmoklnhoaaGreatNb
set_option linter.unusedVariables false
set_option maxRecDepth 100000
set_option maxHeartbeats 400000000
set_option linter.unusedSimpArgs false

namespace Go.Proofs.YtmcfpnmoklnhoaaGreat
open Go.RowKit

section
variable {F:Fence} {n:Nat} {P:Program} {α:Type}
end




def qhd (M:Nat->Prop) (w:World) (y z:Int) (e:Ending) (w':World):Prop:=∃ (b:Bool) (a:Option Addr) (n p:Nat) (er:Int),e = .returned (.tuple #[.agg #[.bool b,.slice a n p],.int .i64 er]) /\
 (y.tmod z=0->er=0/\qbw M w' (.bool b) (.slice a n p) (y.tdiv z))/\(y.tmod z≠0->er=3/\qbw M w' (.bool b) (.slice a n p) 0)/\Ext w w'
theorem qjZ {M : Nat -> Prop} (b : Bool) (a : Option Addr) (n p : Nat) (y : Int) (b' : Bool) (a' : Option Addr) (n' p' : Nat) (z : Int) (w : World) (hM : Mb M w) (h : qbq M w (.bool b) (.slice a n p) y) (h' : qbq M w (.bool b') (.slice a' n' p') z) (hz : z ≠ 0) (hL : dlen y.natAbs + 1 <= 1099511627776) :
  Calls Tryz.prog 69 #[.agg #[.bool b,.slice a n p],.agg #[.bool b',.slice a' n' p']] w (qhd M w y z):=by
 have hB0:=((Blk.of_arr w #[.bool b,.slice a n p] 30 2 rfl).alloc (.cells #[.bool b',.slice a' n' p'] 30)).alloc (.cells zI 30);have hB1:=(Blk.of_arr (w.alloc (.cells #[.bool b,.slice a n p] 30)) #[.bool b',.slice a' n' p'] 30 2 rfl).alloc (.cells zI 30);have hB2:=Blk.of_arr ((w.alloc (.cells #[.bool b,.slice a n p] 30)).alloc (.cells #[.bool b',.slice a' n' p'] 30)) zI 30 2 rfl;have hE0:Ext w (((w.alloc (.cells #[.bool b,.slice a n p] 30)).alloc (.cells #[.bool b',.slice a' n' p'] 30)).alloc (.cells zI 30)):=(((Ext.refl w).alloc _).alloc _).alloc _;simp only [World.size_alloc] at hB1 hB2;have hM0:Mb (Mx M w.heap.size (w.heap.size+3)) (((w.alloc (.cells #[.bool b,.slice a n p] 30)).alloc (.cells #[.bool b',.slice a' n' p'] 30)).alloc (.cells zI 30)):=Mx.mb hM (by simp;omega) (by simp);have h0:=(h.more (M':=Mx M w.heap.size (w.heap.size+3)) (Mx.more (Nat.le_refl _))).ext hE0;have h0':=(h'.more (M':=Mx M w.heap.size (w.heap.size+3)) (Mx.more (Nat.le_refl _))).ext hE0;generalize hW0:((w.alloc (.cells #[.bool b,.slice a n p] 30)).alloc (.cells #[.bool b',.slice a' n' p'] 30)).alloc (.cells zI 30)=W0 at *;have HW0:=Lib.hid hW0;have HB2:=Lib.hid hB2;have HE0:=Lib.hid hE0;have HM0:=Lib.hid hM0;have c0:=hB0.cell (i:=0) (by omega);have c1:=hB0.cell (i:=1) (by omega);have c2:=hB1.cell (i:=0) (by omega);have c3:=hB1.cell (i:=1) (by omega);simp only [arr] at c0 c1 c2 c3;have g0:=hB0.lt;have g1:=hB1.lt;have CTR:=Lib.hid (qsK b a n p y b' a' n' p' z W0 hM0 h0 h0' hz hL);clear h h' hM hW0 hB0 hB1 hB2 hE0 hM0 h0 h0' hz hL
 go_enter Tryz.func69,Tryz.ntmps69
 go_upto_region 1 with (fail)
 rw [HW0.out];go_wp2_with (fail);refine CTR.out.mono ?_;rintro e w1 ⟨qb,qa,qn,qp,rb,ra,rn,rp,rfl,hq,hr,he1⟩;clear CTR c0 c1 c2 c3 g0 g1
 go_upto_region 2 with (fail)
 have hG1:=(Blk.of_arr w1 #[.bool qb,.slice qa qn qp] 30 2 rfl).alloc (.cells #[.bool rb,.slice ra rn rp] 30);have hG2:=Blk.of_arr (w1.alloc (.cells #[.bool qb,.slice qa qn qp] 30)) #[.bool rb,.slice ra rn rp] 30 2 rfl;have hEA:Ext w1 ((w1.alloc (.cells #[.bool qb,.slice qa qn qp] 30)).alloc (.cells #[.bool rb,.slice ra rn rp] 30)):=((Ext.refl _).alloc _).alloc _;simp only [World.size_alloc] at hG2;have hq2:=hq.ext hEA;have hr2:=hr.ext hEA;have hb2:=(HB2.out.ext he1).ext hEA;have hE1:=he1.trans hEA
 have hng:w.heap.size+3<=w1.heap.size:=by have:=(HB2.out.ext he1).lt;omega
 generalize hG:w1.heap.size=G at *;generalize hW1:(w1.alloc (.cells #[.bool qb,.slice qa qn qp] 30)).alloc (.cells #[.bool rb,.slice ra rn rp] 30)=W1 at *;have c0:=hG1.cell (i:=0) (by omega);have c1:=hG1.cell (i:=1) (by omega);have c2:=hG2.cell (i:=0) (by omega);have c3:=hG2.cell (i:=1) (by omega);simp only [arr] at c0 c1 c2 c3;have g1:=hG1.lt;have g2:=hG2.lt;have HQ:=Lib.hid hq2;have HB:=Lib.hid hb2;have HE1:=Lib.hid hE1;have CT2:=Lib.hid (qhY rb ra rn rp (y.tmod z) W1 hr2.toV);have HG1:=Lib.hid hG1;clear hG1 hG2 hEA hq2 hr2 hb2 hE1 hG hW1 hq hr he1;go_wp2_with (fail);refine CT2.out.mono ?_;rintro e w2 ⟨rfl,he2⟩;clear CT2 c2 c3 g2
 by_cases hm:y.tmod z=0
 ·have hmd:decide (y.tmod z=0)=true:=by simp [hm]
  have HMZ:=Lib.hid hm;clear hm;obtain ⟨⟨q0,q1,f0,f1⟩,⟨r0,r1⟩,hkp,hext⟩:=qgL (M':=Mx M w.heap.size (w.heap.size+3)) (w:=w) (.bool qb) (.slice qa qn qp) (HB.out.ext he2) (Mx.at (by omega)) (by omega) ((HE0.out.trans HE1.out).trans he2)
  have HF:Hid (qhd M w y z (.returned (.tuple #[.agg #[.bool qb,.slice qa qn qp],.int .i64 0])) ((w2.setCell ⟨w.heap.size+1+1,0,none⟩ (.bool qb)).setCell ⟨w.heap.size+1+1,1,none⟩ (.slice qa qn qp))):=
   ⟨_,_,_,_,0,rfl,fun _=>⟨rfl,((HQ.out.ext he2).kp hkp).more Mx.less⟩,fun h=>absurd HMZ.out h,hext⟩
  rw [<- he2.cell g1] at c0 c1;have g1':=Nat.lt_of_lt_of_le g1 he2.size;simp only [arr] at q0 q1;clear hkp hext g1 he2;go_wp2;exact bodyPost_ret (v:=.tuple #[.agg #[.bool qb,.slice qa qn qp],.int .i64 0]) (by simp [results,Tryz.results69,go_sem,r0,r1]) rfl HF.out
 ·have hmd:decide (y.tmod z=0)=false:=by simp [hm]
  have HMZ:=Lib.hid hm;clear hm c0 c1 g1;obtain ⟨⟨q0,q1,f0,f1⟩,⟨r0,r1⟩,hkp,hext⟩:=qgL (M':=Mx M w.heap.size (w.heap.size+3)) (w:=w) (.bool false) (.slice none 0 0) (HB.out.ext he2) (Mx.at (by omega)) (by omega) ((HE0.out.trans HE1.out).trans he2)
  have HF:Hid (qhd M w y z (.returned (.tuple #[.agg #[.bool false,.slice none 0 0],.int .i64 3])) ((w2.setCell ⟨w.heap.size+1+1,0,none⟩ (.bool false)).setCell ⟨w.heap.size+1+1,1,none⟩ (.slice none 0 0))):=
   ⟨_,_,_,_,3,rfl,fun h=>absurd h HMZ.out,fun _=>⟨rfl,qbw.zero _ _⟩,hext⟩
  simp only [arr] at q0 q1;clear hkp hext he2;go_wp2;exact bodyPost_ret (v:=.tuple #[.agg #[.bool false,.slice none 0 0],.int .i64 3]) (by simp [results,Tryz.results69,go_sem,r0,r1]) rfl HF.out

attribute [local go_sem] Oper.semAt_some

section
variable {M M':Nat->Prop} {w w':World} {v:Value} {l:List Tm}
end
end Go.Proofs.YtmcfpnmoklnhoaaGreat

namespace Go.Proofs.YtmcfpnmoklnhoaaGreat
open Go.RowKit

section
variable {P:Program} {ops:Array Oper} {Q:Exit->Act->World->Prop} {md:Region.Mode} {S:World->Prop} {last:Nat}
end




end Go.Proofs.YtmcfpnmoklnhoaaGreat
