/- subresultant.Chain where both degrees are at least 1. subresultant.Chain where it refuses or the list is empty; Psc. subresultant.GcdDegree. Chain, Psc and GcdDegree of polynomials of degree 2 at most. cylinderlaw25.fit, by the general walk of descend. SubresultantChain: the walk. -/
import Derived.Test.YtlmipmebdelgbaaGreatSa
set_option linter.unusedVariables false
set_option linter.unusedSimpArgs false

namespace Go.Proofs.YtlmipmebdelgbaaGreat
open Go.RowKit

def qsX (a c:List Tm):Prop:=∀ (M:Nat->Prop) (W:World) (x:PE),Mb M W->CRx M W 4 x a->Calls Tryz.prog 45 #[.agg (peA x)] W (qa3 M W 4 c)
structure ChN (M:Nat->Prop) (w:World) (x y:PE) (J m n N:Nat) (F:Nat->List Tm):Prop where
 ck : ∀ wk,Ext w wk->Calls Tryz.prog 83 #[.agg (peA x),.agg (peA y),.int .i64 (J:Int)] wk fun e w'=>e = .returned (.int .i64 0)/\Ext wk w'
 dx : ∀ wk,Ext w wk->Calls Tryz.prog 14 #[.agg (peA x),.int .i64 (J:Int)] wk fun e w'=>e = .returned (.int .i64 (m:Int))/\Ext wk w'
 dy : ∀ wk,Ext w wk->Calls Tryz.prog 14 #[.agg (peA y),.int .i64 (J:Int)] wk fun e w'=>e = .returned (.int .i64 (n:Int))/\Ext wk w'
 ds:n<=m -> ∀ wk,Ext w wk->Calls Tryz.prog 84 #[.agg (peA x),.agg (peA y),.int .i64 (J:Int),.int .i64 (m:Int),.int .i64 (n:Int)] wk (qiu M wk N F)
 dt:m<n -> ∀ wk,Ext w wk->Calls Tryz.prog 84 #[.agg (peA y),.agg (peA x),.int .i64 (J:Int),.int .i64 (n:Int),.int .i64 (m:Int)] wk (qiu M wk N F)
def qob (M:Nat->Prop) (w:World) (N:Nat) (F:Nat->List Tm) (e:Ending) (w':World):Prop:=∃ gl:Nat,e = .returned (.tuple #[.slice (some ⟨gl,0,none⟩) N N,.int .i64 0])/\w.heap.size<=gl/\qaB (fun b=>M b∨b=gl) w' 4 gl N F/\Ext w w'
def SgC (m n N:Nat) (F F':Nat->List Tm):Prop:=∀ j,j<N->(m<n/\((m - j)*(n - j)) % 2=1/\qsX (F j) (F' j))∨(¬ (m<n/\((m - j)*(n - j)) % 2=1)/\Sim (F j) (F' j))
def qeR (k:Nat) (F F':Nat->List Tm):Nat->List Tm:=fun i=>if i<k then F' i else F i
theorem qeQ (k:Nat) (F F':Nat->List Tm) (i:Nat):Sim (if i=k then F' k else qeR k F F' i) (qeR (k+1) F F' i):=by
 unfold qeR
 by_cases h:i=k
 ·subst h;rw [if_pos rfl,if_pos (by omega)];exact Sim.refl _
 ·rw [if_neg h]
  by_cases h2:i<k
  ·rw [if_pos h2,if_pos (by omega)];exact Sim.refl _
  ·rw [if_neg h2,if_neg (by omega)];exact Sim.refl _
theorem qkI {a b:Nat} (ha:a<=100) (hb:b<=100):IntKind.i64.wrap ((a:Int)*(b:Int))=((a*b:Nat):Int):=by
 have h:a*b<=10000:=Nat.mul_le_mul ha hb
 rw [<- Int.natCast_mul,IntWalk.i64_in _ (by omega)]
theorem qmZ {p:Nat} (h:p % 2=1):((p:Nat):Int).tmod 2=1:=by
 rw [Int.tmod_eq_emod_of_nonneg (Int.natCast_nonneg _)];omega
theorem qkL {p:Nat} (h:p % 2=0):((p:Nat):Int).tmod 2=0:=by
 rw [Int.tmod_eq_emod_of_nonneg (Int.natCast_nonneg _)];omega
set_option maxRecDepth 100000 in
set_option maxHeartbeats 32000000 in
theorem qgX (M : Nat -> Prop) (x y : PE) (J m n N : Nat) (F F' : Nat -> List Tm) (w : World) (hM : Mb M w) (hm : 1 <= m) (hn : 1 <= n) (hm2 : m <= 100) (hn2 : n <= 100) (hN : N = min m n) (H : ChN M w x y J m n N F) (S : SgC m n N F F') :
  Calls Tryz.prog 59 #[.agg (peA x),.agg (peA y),.int .i64 (J:Int)] w (qob M w N F'):=by
 have hE:=((Ext.refl w).alloc (.cells (peA x) 33)).alloc (.cells (peA y) 33)
 have hBx:=qc7 w x y
 generalize hW:(w.alloc (.cells (peA x) 33)).alloc (.cells (peA y) 33)=W at *
 have HW:=Lib.hid hW
 have HE:=Lib.hid hE
 have HBX:Hid (SBr w.heap.size x y W):=hBx
 have HM:=Lib.hid hM
 have HH:=Lib.hid H
 have HSG:=Lib.hid S
 have HMM:Hid (1<=m/\1<=n/\m<=100/\n<=100/\N<=m/\N<=n):=⟨hm,hn,hm2,hn2,by omega,by omega⟩
 clear hE hBx hW hM H S hm hn hm2 hn2 hN
 go_enter Tryz.func59,Tryz.ntmps59
 go_upto_region 1 with (fail)
 rw [HW.out]
 obtain ⟨g0,hg0⟩ : ∃ g0,g0=w.heap.size:=⟨_,rfl⟩
 rw [<- hg0] at HBX ⊢
 clear hg0 HW
 obtain ⟨⟨x0,x1,x2,x3⟩,y0,y1,y2,y3⟩:=HBX.out
 go_wp2_with (fail)
 refine (HH.out.ck W HE.out).mono ?_
 rintro e w1 ⟨rfl,e1⟩
 have HB1:=Lib.hid (HBX.out.ext e1)
 have HE1:=Lib.hid (HE.out.trans e1)
 clear x0 x1 x2 x3 y0 y1 y2 y3 HBX HE e1
 go_upto_region 4 with (fail)
 have HPd:Hid (SBr g0 x y w1.drew):=HB1.out.ext (Ext.refl _).drew
 have HD0:Hid (Ext w w1.drew):=HE1.out.trans (Ext.refl _).drew
 refine qae (SBr g0 x y) 8 (by kernel_rfl) HPd.out (fun hHeld=>?_)
 generalize w1.drew=wd at *
 (refine tkB [0,1,3,4] ?_;(iterate 4 (refine tk1 (oi:=?_) (v:=?_) (by kernel_rfl) (by first | exact hSn | exact hHeld) ?_ ?_ ?_ ?_ ?_;rotate_left 2;(simp only [xgA,xgB,xgC];rfl);rfl;(intro wS hSw;obtain ⟨⟨A0,A1,A2,A3⟩,B0,B1,B2,B3⟩:=hSw;go_simp;try with_reducible rfl);(exact fun _ _ _ h=>h);(try simp only [Act.put,xgD,xgE,xgF])));refine tkE ?_)
 ((refine qaa 2 (o:=?_) (by kernel_rfl) ?_ ?_;rotate_left 1;(simp only [xgA,xgB,xgC];rfl);intro K hK);go_simp;(refine (HH.out.dx wd HD0.out).mono ?_);rintro e_ w5 ⟨rfl,e2⟩;go_wp2_with (fail);(try clear hSn);(have hSn:=hHeld.ext e2);(refine hK.out _ _ (fun _=>hSn) ?_);clear hK K;(try simp only [Act.put,xgD,xgE,xgF]))
 ((refine qaa 5 (o:=?_) (by kernel_rfl) ?_ ?_;rotate_left 1;(simp only [xgA,xgB,xgC];rfl);intro K hK);go_simp;(refine (HH.out.dy w5 (HD0.out.trans e2)).mono ?_);rintro e_ w6 ⟨rfl,e5⟩;go_wp2_with (fail);(try clear hSn);(have hSn:=hHeld.ext (e2.trans e5));(refine hK.out _ _ (fun _=>hSn) ?_);clear hK K;(try simp only [Act.put,xgD,xgE,xgF]))
 (refine tkB [6,7] ?_;(iterate 2 (refine tk1 (oi:=?_) (v:=?_) (by kernel_rfl) (by first | exact hSn | exact hHeld) ?_ ?_ ?_ ?_ ?_;rotate_left 2;(simp only [xgA,xgB,xgC];rfl);rfl;(intro wS hSw;obtain ⟨⟨A0,A1,A2,A3⟩,B0,B1,B2,B3⟩:=hSw;go_simp;try with_reducible rfl);(exact fun _ _ _ h=>h);(try simp only [Act.put,xgD,xgE,xgF])));refine tkE ?_)
 refine qac (by kernel_rfl) ?_ _
 have HE6:=Lib.hid (HD0.out.trans (e2.trans e5))
 have HB6:=Lib.hid (hHeld.ext (e2.trans e5))
 clear hHeld hSn e2 e5 HPd HD0 HB1 HE1
 obtain ⟨mn,hmn⟩ : ∃ mn:Int,mn=min (m:Int) (n:Int):=⟨_,rfl⟩
 have hmn0 : ¬ min (m:Int) (n:Int)=0:=by have:=HMM.out;omega
 have hmnb:(min (m:Int) (n:Int) == 0)=false:=beq_eq_false_iff_ne.2 hmn0
 clear hmn
 go_upto_if 32 with (fail)
 clear hmn0 hmnb
 go_cut [11] (fun s11 wx=>∃ gl:Nat,s11 = .slice (some ⟨gl,0,none⟩) N N/\w.heap.size<=gl/\qaB (fun b=>M b∨b=gl) wx 4 gl N F/\Ext w wx)
 case first=>
  by_cases hnm:n<=m
  ·have hge:(m:Int) ≥ (n:Int):=by omega
   have CD:=Lib.hid (HH.out.ds hnm w6 HE6.out)
   obtain ⟨⟨x0,x1,x2,x3⟩,y0,y1,y2,y3⟩:=HB6.out
   clear hnm HH HSG
   go_wp2_with (fail)
   refine CD.out.mono ?_
   rintro e w7 ⟨gl,rfl,hgl,hk,e7⟩
   have HF:Hid (w.heap.size<=gl/\qaB (fun b=>M b∨b=gl) w7 4 gl N F/\Ext w w7):=⟨Nat.le_trans HE6.out.size hgl,hk,HE6.out.trans e7⟩
   clear hgl hk e7 x0 x1 x2 x3 y0 y1 y2 y3 CD
   go_wp2_with (fail)
   go_meet
   exact ⟨gl,rfl,HF.out⟩
  ·have hge : ¬ (m:Int) ≥ (n:Int):=by omega
   have CD:=Lib.hid (HH.out.dt (by omega) w6 HE6.out)
   obtain ⟨⟨x0,x1,x2,x3⟩,y0,y1,y2,y3⟩:=HB6.out
   clear hnm HH HSG
   go_wp2_with (fail)
   refine CD.out.mono ?_
   rintro e w7 ⟨gl,rfl,hgl,hk,e7⟩
   have HF:Hid (w.heap.size<=gl/\qaB (fun b=>M b∨b=gl) w7 4 gl N F/\Ext w w7):=⟨Nat.le_trans HE6.out.size hgl,hk,HE6.out.trans e7⟩
   clear hgl hk e7 x0 x1 x2 x3 y0 y1 y2 y3 CD
   go_wp2_with (fail)
   go_meet
   exact ⟨gl,rfl,HF.out⟩
 case rest=>
  obtain ⟨gl,rfl,hgl,hk,e7⟩:=hcut
  have hglt:=hk.lt
  have HGL:Hid (w.heap.size<=gl):=hgl
  have HM7:Hid (Mb (fun b=>M b∨b=gl) wc):=qdJ (HM.out.ext e7) hglt
  have HK7:Hid (qaB (fun b=>M b∨b=gl) wc 4 gl N (qeR 0 F F')):=hk.congr fun i _=>by unfold qeR;rw [if_neg (Nat.not_lt_zero _)];exact Sim.refl _
  have HE7:=Lib.hid e7
  have HMG:Hid ((fun b=>M b∨b=gl) gl):=.inr rfl
  have HMQ:Hid (∀ b,M b∨b=gl->(fun b=>M b∨b=gl) b):=fun b h=>h
  have hN0:(0:Int)<=(N:Int):=Int.natCast_nonneg _
  have hN1:(N:Int)<=100:=by have:=HMM.out;omega
  clear hgl hk e7 HE6 HH HM HB6 hglt
  generalize (fun b=>M b∨b=gl)=M' at *
  go_wp2
  go_loopw [47] (fun iv wr=>∃ k:Nat,k<=N/\iv = .int .i64 (k:Int)/\Hid (qaB M' wr 4 gl N (qeR k F F'))/\Hid (Mb M' wr)/\Hid (Ext w wr)) (fun iv _=>N - (intOf iv).toNat)
  case atStart=>exact ⟨0,by omega,rfl,HK7,HM7,HE7⟩
  case round=>
   clear HK7 HM7 HE7
   obtain ⟨k,hk1,rfl,HK,HMB,HE⟩:=hrel
   have hk0:(0:Int)<=(k:Int):=Int.natCast_nonneg _
   by_cases hkN:k<N
   ·have hkI:(k:Int)<(N:Int):=by omega
    obtain ⟨z,⟨z0,z1,z2,z3⟩,hz⟩:=HK.out.cel k hkN
    have hz2:CRx M' wr 4 z (F k):=by
     have h:qeR k F F' k=F k:=if_neg (Nat.lt_irrefl _)
     rw [h] at hz;exact hz
    have HKN:Hid (k<N):=hkN
    rcases HSG.out k hkN with ⟨hlt,hodd,hng⟩ | ⟨hno,hsim⟩
    ·have CN:=Lib.hid (hng M' wr z HMB.out hz2)
     have hmnI:(m:Int)<(n:Int):=by omega
     have hm3:=HMM.out
     obtain ⟨a,ha⟩ : ∃ a,a=m - k:=⟨_,rfl⟩
     obtain ⟨b,hb⟩ : ∃ b,b=n - k:=⟨_,rfl⟩
     rw [<- ha,<- hb] at hodd
     have hw1:IntKind.i64.wrap ((m:Int) - (k:Int))=(a:Int):=by rw [IntWalk.i64_in _ (by omega)];omega
     have hw2:IntKind.i64.wrap ((n:Int) - (k:Int))=(b:Int):=by rw [IntWalk.i64_in _ (by omega)];omega
     have hw3:IntKind.i64.wrap ((a:Int)*(b:Int))=((a*b:Nat):Int):=qkI (by omega) (by omega)
     have hw4:((a*b:Nat):Int).tmod 2=1:=qmZ hodd
     obtain ⟨ab,hab⟩ : ∃ ab,ab=a*b:=⟨_,rfl⟩
     rw [<- hab] at hw3 hw4
     clear ha hb hodd hab hm3 hng hz hz2 hlt hkN hk1 HMM HSG
     go_wp2_with (fail)
     refine CN.out.mono ?_
     rintro e w8 ⟨u,rfl,hu,e8⟩
     have HK8:=Lib.hid (HK.out.ext e8)
     obtain ⟨⟨_,q0⟩,⟨_,q1⟩,⟨_,q2⟩,⟨_,q3⟩,hfz,_⟩:=HK8.out.at k HKN.out
     have f0:=hfz (k*4)
     have f1:=hfz (k*4+1)
     have f2:=hfz (k*4+2)
     have f3:=hfz (k*4+3)
     have hT9:=HK8.out.set HMG.out k HKN.out hu
     have hE9:=(HE.out.trans e8).set4 (g:=gl) HGL.out (k*4) (.int .i64 u.lv) (.bool u.b) (.slice u.a u.n u.p) (.slice u.ka u.kn u.kp)
     have hM9:=(HMB.out.ext e8).size (Kp.set4 (M:=M') HMG.out (k*4) (.int .i64 u.lv) (.bool u.b) (.slice u.a u.n u.p) (.slice u.ka u.kn u.kp)).1
     obtain ⟨W9,hW9⟩ : ∃ W9,W9=set4 w8 gl (k*4) (.int .i64 u.lv) (.bool u.b) (.slice u.a u.n u.p) (.slice u.ka u.kn u.kp):=⟨_,rfl⟩
     rw [<- hW9] at hT9 hE9 hM9
     unfold set4 at hW9
     have HW9:=Lib.hid hW9
     have HF:Hid (qaB M' W9 4 gl N (qeR (k+1) F F')/\Mb M' W9/\Ext w W9):=⟨hT9.congr fun i hi=>qeQ k F F' i,hM9,hE9⟩
     clear hT9 hE9 hM9 hW9 hfz hu e8 HK8 HK HMB HE CN z0 z1 z2 z3
     go_wp2
     rw [<- HW9.out]
     clear HW9 q0 q1 q2 q3 f0 f1 f2 f3
     go_roundw
     case rel=>exact ⟨k+1,HKN.out,by go_num,HF.out.1,HF.out.2.1,HF.out.2.2⟩
     case measure=>have:=HKN.out;simp [intOf];omega
    ·have CN:Hid (Calls Tryz.prog 49 #[.agg (peA z)] wr (qa3 M' wr 4 (F' k))):=(qbS M' z (F k) wr HMB.out hz2.pi).mono fun _ _ h=>h.sim hsim
     by_cases hlt:m<n
     ·have hodd : (m - k) * (n - k) % 2 = 0 := by
       have : ¬ (m - k)*(n - k) % 2=1:=fun h=>hno ⟨hlt,h⟩
       omega
      have hmnI:(m:Int)<(n:Int):=by omega
      have hm3:=HMM.out
      obtain ⟨a,ha⟩ : ∃ a,a=m - k:=⟨_,rfl⟩
      obtain ⟨b,hb⟩ : ∃ b,b=n - k:=⟨_,rfl⟩
      rw [<- ha,<- hb] at hodd
      have hw1:IntKind.i64.wrap ((m:Int) - (k:Int))=(a:Int):=by rw [IntWalk.i64_in _ (by omega)];omega
      have hw2:IntKind.i64.wrap ((n:Int) - (k:Int))=(b:Int):=by rw [IntWalk.i64_in _ (by omega)];omega
      have hw3:IntKind.i64.wrap ((a:Int)*(b:Int))=((a*b:Nat):Int):=qkI (by omega) (by omega)
      have hw4:((a*b:Nat):Int).tmod 2=0:=qkL hodd
      obtain ⟨ab,hab⟩ : ∃ ab,ab=a*b:=⟨_,rfl⟩
      rw [<- hab] at hw3 hw4
      clear ha hb hodd hab hm3 hno hsim hz hz2 hlt hkN hk1 HMM HSG
      go_wp2_with (fail)
      refine CN.out.mono ?_
      rintro e w8 ⟨u,rfl,hu,e8⟩
      have HK8:=Lib.hid (HK.out.ext e8)
      obtain ⟨⟨_,q0⟩,⟨_,q1⟩,⟨_,q2⟩,⟨_,q3⟩,hfz,_⟩:=HK8.out.at k HKN.out
      have f0:=hfz (k*4)
      have f1:=hfz (k*4+1)
      have f2:=hfz (k*4+2)
      have f3:=hfz (k*4+3)
      have hT9:=HK8.out.set HMG.out k HKN.out hu
      have hE9:=(HE.out.trans e8).set4 (g:=gl) HGL.out (k*4) (.int .i64 u.lv) (.bool u.b) (.slice u.a u.n u.p) (.slice u.ka u.kn u.kp)
      have hM9:=(HMB.out.ext e8).size (Kp.set4 (M:=M') HMG.out (k*4) (.int .i64 u.lv) (.bool u.b) (.slice u.a u.n u.p) (.slice u.ka u.kn u.kp)).1
      obtain ⟨W9,hW9⟩ : ∃ W9,W9=set4 w8 gl (k*4) (.int .i64 u.lv) (.bool u.b) (.slice u.a u.n u.p) (.slice u.ka u.kn u.kp):=⟨_,rfl⟩
      rw [<- hW9] at hT9 hE9 hM9
      unfold set4 at hW9
      have HW9:=Lib.hid hW9
      have HF:Hid (qaB M' W9 4 gl N (qeR (k+1) F F')/\Mb M' W9/\Ext w W9):=⟨hT9.congr fun i hi=>qeQ k F F' i,hM9,hE9⟩
      clear hT9 hE9 hM9 hW9 hfz hu e8 HK8 HK HMB HE CN z0 z1 z2 z3
      go_wp2
      rw [<- HW9.out]
      clear HW9 q0 q1 q2 q3 f0 f1 f2 f3
      go_roundw
      case rel=>exact ⟨k+1,HKN.out,by go_num,HF.out.1,HF.out.2.1,HF.out.2.2⟩
      case measure=>have:=HKN.out;simp [intOf];omega
     ·have hmnI : ¬ (m:Int)<(n:Int):=by omega
      clear hno hsim hz hz2 hlt hkN hk1 HMM HSG
      go_wp2_with (fail)
      refine CN.out.mono ?_
      rintro e w8 ⟨u,rfl,hu,e8⟩
      have HK8:=Lib.hid (HK.out.ext e8)
      obtain ⟨⟨_,q0⟩,⟨_,q1⟩,⟨_,q2⟩,⟨_,q3⟩,hfz,_⟩:=HK8.out.at k HKN.out
      have f0:=hfz (k*4)
      have f1:=hfz (k*4+1)
      have f2:=hfz (k*4+2)
      have f3:=hfz (k*4+3)
      have hT9:=HK8.out.set HMG.out k HKN.out hu
      have hE9:=(HE.out.trans e8).set4 (g:=gl) HGL.out (k*4) (.int .i64 u.lv) (.bool u.b) (.slice u.a u.n u.p) (.slice u.ka u.kn u.kp)
      have hM9:=(HMB.out.ext e8).size (Kp.set4 (M:=M') HMG.out (k*4) (.int .i64 u.lv) (.bool u.b) (.slice u.a u.n u.p) (.slice u.ka u.kn u.kp)).1
      obtain ⟨W9,hW9⟩ : ∃ W9,W9=set4 w8 gl (k*4) (.int .i64 u.lv) (.bool u.b) (.slice u.a u.n u.p) (.slice u.ka u.kn u.kp):=⟨_,rfl⟩
      rw [<- hW9] at hT9 hE9 hM9
      unfold set4 at hW9
      have HW9:=Lib.hid hW9
      have HF:Hid (qaB M' W9 4 gl N (qeR (k+1) F F')/\Mb M' W9/\Ext w W9):=⟨hT9.congr fun i hi=>qeQ k F F' i,hM9,hE9⟩
      clear hT9 hE9 hM9 hW9 hfz hu e8 HK8 HK HMB HE CN z0 z1 z2 z3
      go_wp2
      rw [<- HW9.out]
      clear HW9 q0 q1 q2 q3 f0 f1 f2 f3
      go_roundw
      case rel=>exact ⟨k+1,HKN.out,by go_num,HF.out.1,HF.out.2.1,HF.out.2.2⟩
      case measure=>have:=HKN.out;simp [intOf];omega
   ·obtain rfl:k=N:=by omega
    have hge' : ¬ (k:Int)<(k:Int):=by omega
    have HF:Hid (qob M w k F' (.returned (.tuple #[.slice (some ⟨gl,0,none⟩) k k,.int .i64 0])) wr):=⟨gl,rfl,HGL.out,(HK.out.more fun b hb=>.inl (HMQ.out b hb)).congr fun i hi=>by unfold qeR;rw [if_pos hi];exact Sim.refl _,HE.out⟩
    clear HK HMB HE HMG HMQ HGL HMM HSG hk1 hkN
    go_wp2
    exact bodyPost_ret (v:=.tuple #[.slice (some ⟨gl,0,none⟩) k k,.int .i64 0]) (by simp [results,Tryz.results59,go_sem]) rfl HF.out


def LiV (M:Nat->Prop) (w w':World) (v:Value) (N:Nat) (F:Nat->List Tm):Prop:=(N=0/\v = .slice none 0 0) ∨ ∃ gl:Nat,v = .slice (some ⟨gl,0,none⟩) N N/\w.heap.size<=gl/\qaB (fun b=>M b∨b=gl) w' 4 gl N F
def qmG (M:Nat->Prop) (w:World) (N:Nat) (F:Nat->List Tm) (er:Int) (e:Ending) (w':World):Prop:=∃ v,e = .returned (.tuple #[v,.int .i64 er])/\LiV M w w' v N F/\Ext w w'
theorem qob.li {M:Nat->Prop} {w w':World} {N:Nat} {F:Nat->List Tm} {e:Ending} (h:qob M w N F e w'):qmG M w N F 0 e w':=by
 obtain ⟨gl,rfl,h1,h2,h3⟩:=h
 exact ⟨_,rfl,.inr ⟨gl,rfl,h1,h2⟩,h3⟩
set_option maxRecDepth 100000 in
set_option maxHeartbeats 16000000 in
theorem qkU (M : Nat -> Prop) (x y : PE) (J m n : Nat) (F : Nat -> List Tm) (w : World) (hmn : m = 0 ∨ n = 0)
  (hck : ∀ wk,Ext w wk->Calls Tryz.prog 83 #[.agg (peA x),.agg (peA y),.int .i64 (J:Int)] wk fun e w'=>e = .returned (.int .i64 0)/\Ext wk w')
  (hdx : ∀ wk,Ext w wk->Calls Tryz.prog 14 #[.agg (peA x),.int .i64 (J:Int)] wk fun e w'=>e = .returned (.int .i64 (m:Int))/\Ext wk w')
  (hdy : ∀ wk,Ext w wk->Calls Tryz.prog 14 #[.agg (peA y),.int .i64 (J:Int)] wk fun e w'=>e = .returned (.int .i64 (n:Int))/\Ext wk w') :
  Calls Tryz.prog 59 #[.agg (peA x),.agg (peA y),.int .i64 (J:Int)] w (qmG M w 0 F 0):=by
 have hE:=((Ext.refl w).alloc (.cells (peA x) 33)).alloc (.cells (peA y) 33)
 have hBx:=qc7 w x y
 generalize hW:(w.alloc (.cells (peA x) 33)).alloc (.cells (peA y) 33)=W at *
 have HW:=Lib.hid hW
 have HE:=Lib.hid hE
 have HBX:Hid (SBr w.heap.size x y W):=hBx
 have HCK:=Lib.hid hck
 have HDX:=Lib.hid hdx
 have HDY:=Lib.hid hdy
 have hmn0:min (m:Int) (n:Int)=0:=by omega
 clear hE hBx hW hck hdx hdy hmn
 go_enter Tryz.func59,Tryz.ntmps59
 go_upto_region 1 with (fail)
 rw [HW.out]
 obtain ⟨g0,hg0⟩ : ∃ g0,g0=w.heap.size:=⟨_,rfl⟩
 rw [<- hg0] at HBX ⊢
 clear hg0 HW
 obtain ⟨⟨x0,x1,x2,x3⟩,y0,y1,y2,y3⟩:=HBX.out
 go_wp2_with (fail)
 refine (HCK.out W HE.out).mono ?_
 rintro e w1 ⟨rfl,e1⟩
 have HB1:=Lib.hid (HBX.out.ext e1)
 have HE1:=Lib.hid (HE.out.trans e1)
 clear x0 x1 x2 x3 y0 y1 y2 y3 HBX HE e1
 go_upto_region 4 with (fail)
 have HPd:Hid (SBr g0 x y w1.drew):=HB1.out.ext (Ext.refl _).drew
 have HD0:Hid (Ext w w1.drew):=HE1.out.trans (Ext.refl _).drew
 refine qae (SBr g0 x y) 8 (by kernel_rfl) HPd.out (fun hHeld=>?_)
 generalize w1.drew=wd at *
 (refine tkB [0,1,3,4] ?_;(iterate 4 (refine tk1 (oi:=?_) (v:=?_) (by kernel_rfl) (by first | exact hSn | exact hHeld) ?_ ?_ ?_ ?_ ?_;rotate_left 2;(simp only [xgA,xgB,xgC];rfl);rfl;(intro wS hSw;obtain ⟨⟨A0,A1,A2,A3⟩,B0,B1,B2,B3⟩:=hSw;go_simp;try with_reducible rfl);(exact fun _ _ _ h=>h);(try simp only [Act.put,xgD,xgE,xgF])));refine tkE ?_)
 ((refine qaa 2 (o:=?_) (by kernel_rfl) ?_ ?_;rotate_left 1;(simp only [xgA,xgB,xgC];rfl);intro K hK);go_simp;(refine (HDX.out wd HD0.out).mono ?_);rintro e_ w5 ⟨rfl,e2⟩;go_wp2_with (fail);(try clear hSn);(have hSn:=hHeld.ext e2);(refine hK.out _ _ (fun _=>hSn) ?_);clear hK K;(try simp only [Act.put,xgD,xgE,xgF]))
 ((refine qaa 5 (o:=?_) (by kernel_rfl) ?_ ?_;rotate_left 1;(simp only [xgA,xgB,xgC];rfl);intro K hK);go_simp;(refine (HDY.out w5 (HD0.out.trans e2)).mono ?_);rintro e_ w6 ⟨rfl,e5⟩;go_wp2_with (fail);(try clear hSn);(have hSn:=hHeld.ext (e2.trans e5));(refine hK.out _ _ (fun _=>hSn) ?_);clear hK K;(try simp only [Act.put,xgD,xgE,xgF]))
 (refine tkB [6,7] ?_;(iterate 2 (refine tk1 (oi:=?_) (v:=?_) (by kernel_rfl) (by first | exact hSn | exact hHeld) ?_ ?_ ?_ ?_ ?_;rotate_left 2;(simp only [xgA,xgB,xgC];rfl);rfl;(intro wS hSw;obtain ⟨⟨A0,A1,A2,A3⟩,B0,B1,B2,B3⟩:=hSw;go_simp;try with_reducible rfl);(exact fun _ _ _ h=>h);(try simp only [Act.put,xgD,xgE,xgF])));refine tkE ?_)
 refine qac (by kernel_rfl) ?_ _
 have HF:Hid (qmG M w 0 F 0 (.returned (.tuple #[.slice none 0 0,.int .i64 0])) w6):=⟨_,rfl,.inl ⟨rfl,rfl⟩,HD0.out.trans (e2.trans e5)⟩
 clear hHeld hSn e2 e5 HPd HD0 HB1 HE1 HCK HDX HDY
 go_wp2
 exact bodyPost_ret (v:=.tuple #[.slice none 0 0,.int .i64 0]) (by simp [results,Tryz.results59,go_sem]) rfl HF.out
set_option maxRecDepth 100000 in
set_option maxHeartbeats 16000000 in
theorem sr_Psc (M : Nat -> Prop) (x y : PE) (L er : Int) (N : Nat) (F G : Nat -> List Tm) (w : World) (hM : Mb M w) (hN : N <= 100)
  (HC : ∀ wk,Ext w wk->Calls Tryz.prog 59 #[.agg (peA x),.agg (peA y),.int .i64 L] wk (qmG M wk N F er))
  (HG : ∀ j,j<N -> ∀ (Mk:Nat->Prop) (wk:World) (z:PE),Mb Mk wk->CRx Mk wk 4 z (F j)->Calls Tryz.prog 85 #[.agg (peA z),.int .i64 L,.int .i64 (j:Int)] wk (qa3 Mk wk 4 (G j))) :
  Calls Tryz.prog 86 #[.agg (peA x),.agg (peA y),.int .i64 L] w (qmG M w N G er):=by
 have hE:=((Ext.refl w).alloc (.cells (peA x) 33)).alloc (.cells (peA y) 33)
 have hBx:=qc7 w x y
 generalize hW:(w.alloc (.cells (peA x) 33)).alloc (.cells (peA y) 33)=W at *
 have HW:=Lib.hid hW
 have HE:=Lib.hid hE
 have HBX:Hid (SBr w.heap.size x y W):=hBx
 have HM:=Lib.hid hM
 have HNN:=Lib.hid hN
 have HH:=Lib.hid HC
 have HGG:=Lib.hid HG
 clear hE hBx hW hM HC HG hN
 go_enter Tryz.func86,Tryz.ntmps86
 go_upto_region 1 with (fail)
 rw [HW.out]
 obtain ⟨g0,hg0⟩ : ∃ g0,g0=w.heap.size:=⟨_,rfl⟩
 rw [<- hg0] at HBX ⊢
 clear hg0 HW
 obtain ⟨⟨x0,x1,x2,x3⟩,y0,y1,y2,y3⟩:=HBX.out
 go_wp2_with (fail)
 refine (HH.out W HE.out).mono ?_
 rintro e w7 ⟨v,rfl,hv,e7⟩
 clear x0 x1 x2 x3 y0 y1 y2 y3 HBX HH
 rcases hv with ⟨rfl,rfl⟩ | ⟨gl,rfl,hgl,hk⟩
 ·have HF:Hid (qmG M w 0 G er (.returned (.tuple #[.slice none 0 0,.int .i64 er])) w7):=⟨_,rfl,.inl ⟨rfl,rfl⟩,HE.out.trans e7⟩
  clear e7 HE HM HGG
  go_wp2
  go_loopw [20] (fun iv wr=>iv = .int .i64 0/\wr=w7) (fun _ _=>0)
  case atStart=>exact ⟨rfl,rfl⟩
  case round=>
   obtain ⟨rfl,rfl⟩:=hrel
   go_wp2
   exact bodyPost_ret (v:=.tuple #[.slice none 0 0,.int .i64 er]) (by simp [results,Tryz.results86,go_sem]) rfl HF.out
 ·have hglt:=hk.lt
  have HGL:Hid (w.heap.size<=gl):=Nat.le_trans HE.out.size hgl
  have HM7:Hid (Mb (fun b=>M b∨b=gl) w7):=qdJ (HM.out.ext (HE.out.trans e7)) hglt
  have HK7:Hid (qaB (fun b=>M b∨b=gl) w7 4 gl N (qeR 0 F G)):=hk.congr fun i _=>by unfold qeR;rw [if_neg (Nat.not_lt_zero _)];exact Sim.refl _
  have HE7:=Lib.hid (HE.out.trans e7)
  have HMG:Hid ((fun b=>M b∨b=gl) gl):=.inr rfl
  have HMQ:Hid (∀ b,M b∨b=gl->(fun b=>M b∨b=gl) b):=fun b h=>h
  have hN0:(0:Int)<=(N:Int):=Int.natCast_nonneg _
  have hN1:(N:Int)<=100:=by have:=HNN.out;omega
  clear hgl hk e7 HE HM hglt
  generalize (fun b=>M b∨b=gl)=M' at *
  go_wp2
  go_loopw [20] (fun iv wr=>∃ k:Nat,k<=N/\iv = .int .i64 (k:Int)/\Hid (qaB M' wr 4 gl N (qeR k F G))/\Hid (Mb M' wr)/\Hid (Ext w wr)) (fun iv _=>N - (intOf iv).toNat)
  case atStart=>exact ⟨0,by omega,rfl,HK7,HM7,HE7⟩
  case round=>
   clear HK7 HM7 HE7
   obtain ⟨k,hk1,rfl,HK,HMB,HE⟩:=hrel
   have hk0:(0:Int)<=(k:Int):=Int.natCast_nonneg _
   by_cases hkN:k<N
   ·have hkI:(k:Int)<(N:Int):=by omega
    obtain ⟨z,⟨z0,z1,z2,z3⟩,hz⟩:=HK.out.cel k hkN
    have hz2:CRx M' wr 4 z (F k):=by
     have h:qeR k F G k=F k:=if_neg (Nat.lt_irrefl _)
     rw [h] at hz;exact hz
    have HKN:Hid (k<N):=hkN
    have CN:=Lib.hid (HGG.out k hkN M' wr z HMB.out hz2)
    clear hz hz2 hkN hk1 HGG
    go_wp2_with (fail)
    refine CN.out.mono ?_
    rintro e w8 ⟨u,rfl,hu,e8⟩
    have HK8:=Lib.hid (HK.out.ext e8)
    obtain ⟨⟨_,q0⟩,⟨_,q1⟩,⟨_,q2⟩,⟨_,q3⟩,hfz,_⟩:=HK8.out.at k HKN.out
    have f0:=hfz (k*4)
    have f1:=hfz (k*4+1)
    have f2:=hfz (k*4+2)
    have f3:=hfz (k*4+3)
    have hT9:=HK8.out.set HMG.out k HKN.out hu
    have hE9:=(HE.out.trans e8).set4 (g:=gl) HGL.out (k*4) (.int .i64 u.lv) (.bool u.b) (.slice u.a u.n u.p) (.slice u.ka u.kn u.kp)
    have hM9:=(HMB.out.ext e8).size (Kp.set4 (M:=M') HMG.out (k*4) (.int .i64 u.lv) (.bool u.b) (.slice u.a u.n u.p) (.slice u.ka u.kn u.kp)).1
    obtain ⟨W9,hW9⟩ : ∃ W9,W9=set4 w8 gl (k*4) (.int .i64 u.lv) (.bool u.b) (.slice u.a u.n u.p) (.slice u.ka u.kn u.kp):=⟨_,rfl⟩
    rw [<- hW9] at hT9 hE9 hM9
    unfold set4 at hW9
    have HW9:=Lib.hid hW9
    have HF:Hid (qaB M' W9 4 gl N (qeR (k+1) F G)/\Mb M' W9/\Ext w W9):=⟨hT9.congr fun i hi=>qeQ k F G i,hM9,hE9⟩
    clear hT9 hE9 hM9 hW9 hfz hu e8 HK8 HK HMB HE CN z0 z1 z2 z3
    go_wp2
    rw [<- HW9.out]
    clear HW9 q0 q1 q2 q3 f0 f1 f2 f3
    go_roundw
    case rel=>exact ⟨k+1,HKN.out,by go_num,HF.out.1,HF.out.2.1,HF.out.2.2⟩
    case measure=>have:=HKN.out;simp [intOf];omega
   ·obtain rfl:k=N:=by omega
    have hge' : ¬ (k:Int)<(k:Int):=by omega
    have HF:Hid (qmG M w k G er (.returned (.tuple #[.slice (some ⟨gl,0,none⟩) k k,.int .i64 er])) wr):=⟨_,rfl,.inr ⟨gl,rfl,HGL.out,(HK.out.more fun b hb=>.inl (HMQ.out b hb)).congr fun i hi=>by unfold qeR;rw [if_pos hi];exact Sim.refl _⟩,HE.out⟩
    clear HK HMB HE HMG HMQ HGL HGG hk1 hkN HNN
    go_wp2
    exact bodyPost_ret (v:=.tuple #[.slice (some ⟨gl,0,none⟩) k k,.int .i64 er]) (by simp [results,Tryz.results86,go_sem]) rfl HF.out


def LzK (N:Nat) (G:Nat->List Tm) (k:Nat):Prop:=k<=N/\(∀ j,j<k->Sim (G j) [])/\(k<N -> ¬ Sim (G k) [])
theorem LzK.uniq {N:Nat} {G:Nat->List Tm} {k l:Nat} (h:LzK N G k) (h':LzK N G l):k=l:=by
 rcases Nat.lt_trichotomy k l with hl | hl | hl
 ·exact absurd (h'.2.1 k hl) (h.2.2 (by have:=h'.1;omega))
 ·exact hl
 ·exact absurd (h.2.1 l hl) (h'.2.2 (by have:=h.1;omega))
def RetGd (w:World) (N:Nat) (G:Nat->List Tm) (er:Int) (e:Ending) (w':World):Prop:=∃ k:Nat,e = .returned (.tuple #[.int .i64 (k:Int),.int .i64 er])/\(er≠0->k=0)/\(er=0->LzK N G k)/\Ext w w'
set_option maxRecDepth 100000 in
set_option maxHeartbeats 32000000 in
theorem sr_Gcd (M : Nat -> Prop) (x y : PE) (L er : Int) (N m n : Nat) (G : Nat -> List Tm) (w : World) (hM : Mb M w) (hN : N <= 100) (hmn : er = 0 -> N = min m n)
  (HP : ∀ wk,Ext w wk->Calls Tryz.prog 86 #[.agg (peA x),.agg (peA y),.int .i64 L] wk (qmG M wk N G er))
  (HX:er=0 -> ∀ wk,Ext w wk->Calls Tryz.prog 14 #[.agg (peA x),.int .i64 L] wk fun e w'=>e = .returned (.int .i64 (m:Int))/\Ext wk w')
  (HY:er=0 -> ∀ wk,Ext w wk->Calls Tryz.prog 14 #[.agg (peA y),.int .i64 L] wk fun e w'=>e = .returned (.int .i64 (n:Int))/\Ext wk w') :
  Calls Tryz.prog 62 #[.agg (peA x),.agg (peA y),.int .i64 L] w (RetGd w N G er):=by
 have hE:=((Ext.refl w).alloc (.cells (peA x) 33)).alloc (.cells (peA y) 33)
 have hBx:=qc7 w x y
 generalize hW:(w.alloc (.cells (peA x) 33)).alloc (.cells (peA y) 33)=W at *
 have HW:=Lib.hid hW
 have HE:=Lib.hid hE
 have HBX:Hid (SBr w.heap.size x y W):=hBx
 have HM:=Lib.hid hM
 have HNN:=Lib.hid hN
 have HH:=Lib.hid HP
 have HDX:=Lib.hid HX
 have HDY:=Lib.hid HY
 have HMN:=Lib.hid hmn
 clear hE hBx hW hM HP HX HY hN hmn
 go_enter Tryz.func62,Tryz.ntmps62
 go_upto_region 1 with (fail)
 rw [HW.out]
 obtain ⟨g0,hg0⟩ : ∃ g0,g0=w.heap.size:=⟨_,rfl⟩
 rw [<- hg0] at HBX ⊢
 clear hg0 HW
 obtain ⟨⟨x0,x1,x2,x3⟩,y0,y1,y2,y3⟩:=HBX.out
 go_wp2_with (fail)
 refine (HH.out W HE.out).mono ?_
 rintro e w7 ⟨v,rfl,hv,e7⟩
 clear x0 x1 x2 x3 y0 y1 y2 y3
 have HE7:=Lib.hid (HE.out.trans e7)
 have HB7:=Lib.hid (HBX.out.ext e7)
 by_cases her:er=0
 rotate_left
 ·have hern:(er != 0)=true:=by simp [her]
  have hn0 : ∃ u,v = .slice u N N:=by
   rcases hv with ⟨rfl,rfl⟩ | ⟨gl,rfl,_⟩
   ·exact ⟨_,rfl⟩
   ·exact ⟨_,rfl⟩
  obtain ⟨u,rfl⟩:=hn0
  have HF:Hid (RetGd w N G er (.returned (.tuple #[.int .i64 0,.int .i64 er])) w7):=⟨0,rfl,fun _=>rfl,fun h=>absurd h her,HE7.out⟩
  clear hv e7 HE HM HBX HH HDX HDY HMN HE7 HB7 HNN her
  go_wp2
  exact bodyPost_ret (v:=.tuple #[.int .i64 0,.int .i64 er]) (by simp [results,Tryz.results62,go_sem]) rfl HF.out
 ·subst her
  have HNM:=Lib.hid (HMN.out rfl)
  have hDX:=Lib.hid (HDX.out rfl)
  have hDY:=Lib.hid (HDY.out rfl)
  have hN0:(0:Int)<=(N:Int):=Int.natCast_nonneg _
  have hN1:(N:Int)<=100:=by have:=HNN.out;omega
  obtain ⟨a,rfl,HA⟩ : ∃ a,v = .slice a N N/\Hid (0<N -> ∃ gl:Nat,a=some ⟨gl,0,none⟩/\Mb (fun b=>M b∨b=gl) w7/\qaB (fun b=>M b∨b=gl) w7 4 gl N G):=by
   rcases hv with ⟨rfl,rfl⟩ | ⟨gl,rfl,hgl,hk⟩
   ·exact ⟨_,rfl,fun h=>absurd h (Nat.lt_irrefl _)⟩
   ·exact ⟨_,rfl,fun _=>⟨gl,rfl,qdJ (HM.out.ext (HE.out.trans e7)) hk.lt,hk⟩⟩
  clear hv e7 HE HM HBX HH HDX HDY HMN
  go_wp2
  go_loopw [24] (fun iv wr=>∃ k:Nat,k<=N/\iv = .int .i64 (k:Int)/\Hid (∀ j,j<k->Sim (G j) [])/\Hid (Ext w7 wr)) (fun iv _=>N - (intOf iv).toNat)
  case atStart=>exact ⟨0,by omega,rfl,fun j hj=>absurd hj (Nat.not_lt_zero _),Ext.refl _⟩
  case round=>
   obtain ⟨k,hk1,rfl,HZ,HE⟩:=hrel
   have hk0:(0:Int)<=(k:Int):=Int.natCast_nonneg _
   by_cases hkN:k<N
   ·have hkI:(k:Int)<(N:Int):=by omega
    obtain ⟨gl,rfl,hmb,hkd⟩:=HA.out (by omega)
    obtain ⟨z,⟨z0,z1,z2,z3⟩,hz⟩:=(hkd.ext HE.out).cel k hkN
    obtain ⟨W8,hW8⟩ : ∃ W8,W8=wr.alloc (.cells #[.int .i64 z.lv,.bool z.b,.slice z.a z.n z.p,.slice z.ka z.kn z.kp] 33):=⟨_,rfl⟩
    have hEA:Ext wr W8:=by rw [hW8];exact (Ext.refl wr).alloc _
    have hB8:Blk W8 wr.heap.size 33 4 (arr (peA z)):=by rw [hW8];exact Blk.of_arr wr (peA z) 33 4 rfl
    have CZ:=Lib.hid (qaQ _ z (G k) W8 (hmb.ext (HE.out.trans hEA)) (hz.ext hEA).pi)
    have HW8:=Lib.hid hW8
    have HEA:=Lib.hid hEA
    obtain ⟨g11,hg11⟩ : ∃ g11,g11=wr.heap.size:=⟨_,rfl⟩
    rw [<- hg11] at hB8
    have HG11:=Lib.hid hg11
    have HB8:=Lib.hid hB8
    have HKN:Hid (k<N):=hkN
    clear hW8 hEA hB8 hg11 hz hmb hkd hkN hk1
    go_upto_region 7 with (fail)
    rw [<- HW8.out,<- HG11.out]
    clear HW8 HG11 z0 z1 z2 z3
    obtain ⟨b0,b1,b2,b3⟩:=HB8.out.p4
    go_wp2_with (fail)
    refine CZ.out.mono ?_
    rintro e w9 ⟨bz,rfl,hb,e9⟩
    have HE9:=Lib.hid ((HE.out.trans HEA.out).trans e9)
    clear b0 b1 b2 b3 HB8 CZ e9 HEA HE
    cases bz with
    | true=>
     have HZ9:Hid (∀ j,j<k+1->Sim (G j) []):=fun j hj=>by
      by_cases h:j<k
      ·exact HZ.out j h
      ·obtain rfl:j=k:=by omega
       exact hb.1 rfl
     clear hb HZ
     go_wp2
     go_roundw
     case rel=>exact ⟨k+1,HKN.out,by go_num,HZ9.out,HE9.out⟩
     case measure=>have:=HKN.out;simp [intOf];omega
    | false=>
     have HF:Hid (RetGd w N G 0 (.returned (.tuple #[.int .i64 (k:Int),.int .i64 0])) w9):=⟨k,rfl,fun h=>absurd rfl h,fun _=>⟨Nat.le_of_lt HKN.out,HZ.out,fun _ h=>absurd (hb.2 h) (by decide)⟩,HE7.out.trans HE9.out⟩
     clear hb HZ HE9 HE7 HA HB7 HNM hDX hDY HNN HKN
     go_wp2
     exact bodyPost_ret (v:=.tuple #[.int .i64 (k:Int),.int .i64 0]) (by simp [results,Tryz.results62,go_sem]) rfl HF.out
   ·obtain rfl:k=N:=by omega
    have hge' : ¬ (k:Int)<(k:Int):=by omega
    have HPd:Hid (SBr g0 x y wr.drew):=HB7.out.ext (HE.out.trans (Ext.refl _).drew)
    have HD0:Hid (Ext w wr.drew):=HE7.out.trans (HE.out.trans (Ext.refl _).drew)
    clear hk1 hkN HE HE7 HA HB7 HNN
    go_upto_region 10 with (fail)
    refine qae (SBr g0 x y) 9 (by kernel_rfl) HPd.out (fun hHeld=>?_)
    generalize wr.drew=wd at *
    (refine tkB [0,1,3,4] ?_;(iterate 4 (refine tk1 (oi:=?_) (v:=?_) (by kernel_rfl) (by first | exact hSn | exact hHeld) ?_ ?_ ?_ ?_ ?_;rotate_left 2;(simp only [xgA,xgB,xgC];rfl);rfl;(intro wS hSw;obtain ⟨⟨A0,A1,A2,A3⟩,B0,B1,B2,B3⟩:=hSw;go_simp;try with_reducible rfl);(exact fun _ _ _ h=>h);(try simp only [Act.put,xgD,xgE,xgF])));refine tkE ?_)
    ((refine qaa 2 (o:=?_) (by kernel_rfl) ?_ ?_;rotate_left 1;(simp only [xgA,xgB,xgC];rfl);intro K hK);go_simp;(refine (hDX.out wd HD0.out).mono ?_);rintro e_ w5 ⟨rfl,e2⟩;go_wp2_with (fail);(try clear hSn);(have hSn:=hHeld.ext e2);(refine hK.out _ _ (fun _=>hSn) ?_);clear hK K;(try simp only [Act.put,xgD,xgE,xgF]))
    ((refine qaa 5 (o:=?_) (by kernel_rfl) ?_ ?_;rotate_left 1;(simp only [xgA,xgB,xgC];rfl);intro K hK);go_simp;(refine (hDY.out w5 (HD0.out.trans e2)).mono ?_);rintro e_ w6 ⟨rfl,e5⟩;go_wp2_with (fail);(try clear hSn);(have hSn:=hHeld.ext (e2.trans e5));(refine hK.out _ _ (fun _=>hSn) ?_);clear hK K;(try simp only [Act.put,xgD,xgE,xgF]))
    (refine tkB [6,7,8] ?_;(iterate 3 (refine tk1 (oi:=?_) (v:=?_) (by kernel_rfl) (by first | exact hSn | exact hHeld) ?_ ?_ ?_ ?_ ?_;rotate_left 2;(simp only [xgA,xgB,xgC];rfl);rfl;(intro wS hSw;obtain ⟨⟨A0,A1,A2,A3⟩,B0,B1,B2,B3⟩:=hSw;go_simp;try with_reducible rfl);(exact fun _ _ _ h=>h);(try simp only [Act.put,xgD,xgE,xgF])));refine tkE ?_)
    refine qac (by kernel_rfl) ?_ _
    have hmin:min (m:Int) (n:Int)=(k:Int):=by have:=HNM.out;omega
    have HF:Hid (RetGd w k G 0 (.returned (.tuple #[.int .i64 (k:Int),.int .i64 0])) w6):=⟨k,rfl,fun h=>absurd rfl h,fun _=>⟨Nat.le_refl _,HZ.out,fun h=>absurd h (Nat.lt_irrefl _)⟩,HD0.out.trans (e2.trans e5)⟩
    clear hHeld hSn e2 e5 HPd HD0 HZ hDX hDY HNM
    go_wp2
    exact bodyPost_ret (v:=.tuple #[.int .i64 (k:Int),.int .i64 0]) (by simp [results,Tryz.results62,go_sem,hmin]) rfl HF.out






end Go.Proofs.YtlmipmebdelgbaaGreat
