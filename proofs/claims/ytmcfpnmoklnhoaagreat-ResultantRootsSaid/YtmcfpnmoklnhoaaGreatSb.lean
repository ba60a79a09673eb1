/- subresultant.Chain where both degrees are at least 1. subresultant.Chain where it refuses or the list is empty; Psc. subresultant.GcdDegree. Chain, Psc and GcdDegree of polynomials of degree 2 at most. cylinderlaw25.fit, by the general walk of descend. SubresultantChain: the walk. -/
import Derived.Test.YtmcfpnmoklnhoaaGreatSa
set_option linter.unusedVariables false
set_option maxRecDepth 100000
set_option maxHeartbeats 400000000
set_option linter.unusedSimpArgs false

namespace Go.Proofs.YtmcfpnmoklnhoaaGreat
open Go.RowKit

def qtW (a c:List Tm):Prop:=∀ (M:Nat->Prop) (W:World) (x:PE),Mb M W->CRx M W 4 x a->Calls Tryz.prog 116 #[.agg (peA x)] W (qa8 M W 4 c)
structure ChN (M:Nat->Prop) (w:World) (x y:PE) (J m n N:Nat) (F:Nat->List Tm):Prop where
 ck : ∀ wk,Ext w wk->Calls Tryz.prog 163 #[.agg (peA x),.agg (peA y),.int .i64 (J:Int)] wk fun e w'=>e = .returned (.int .i64 0)/\Ext wk w'
 dx : ∀ wk,Ext w wk->Calls Tryz.prog 43 #[.agg (peA x),.int .i64 (J:Int)] wk fun e w'=>e = .returned (.int .i64 (m:Int))/\Ext wk w'
 dy : ∀ wk,Ext w wk->Calls Tryz.prog 43 #[.agg (peA y),.int .i64 (J:Int)] wk fun e w'=>e = .returned (.int .i64 (n:Int))/\Ext wk w'
 ds:n<=m -> ∀ wk,Ext w wk->Calls Tryz.prog 164 #[.agg (peA x),.agg (peA y),.int .i64 (J:Int),.int .i64 (m:Int),.int .i64 (n:Int)] wk (qi0 M wk N F)
 dt:m<n -> ∀ wk,Ext w wk->Calls Tryz.prog 164 #[.agg (peA y),.agg (peA x),.int .i64 (J:Int),.int .i64 (n:Int),.int .i64 (m:Int)] wk (qi0 M wk N F)
def qo0 (M:Nat->Prop) (w:World) (N:Nat) (F:Nat->List Tm) (e:Ending) (w':World):Prop:=∃ gl:Nat,e = .returned (.tuple #[.slice (some ⟨gl,0,none⟩) N N,.int .i64 0])/\w.heap.size<=gl/\qax (fun b=>M b∨b=gl) w' 4 gl N F/\Ext w w'
def SgC (m n N:Nat) (F F':Nat->List Tm):Prop:=∀ j,j<N->(m<n/\((m - j)*(n - j)) % 2=1/\qtW (F j) (F' j))∨(¬ (m<n/\((m - j)*(n - j)) % 2=1)/\Sim (F j) (F' j))
def qe5 (k:Nat) (F F':Nat->List Tm):Nat->List Tm:=fun i=>if i<k then F' i else F i
theorem qe4 (k:Nat) (F F':Nat->List Tm) (i:Nat):Sim (if i=k then F' k else qe5 k F F' i) (qe5 (k+1) F F' i):=by
 unfold qe5
 by_cases h:i=k
 ·subst h;rw [if_pos rfl,if_pos (by omega)];exact Sim.refl _
 ·rw [if_neg h]
  by_cases h2:i<k
  ·rw [if_pos h2,if_pos (by omega)];exact Sim.refl _
  ·rw [if_neg h2,if_neg (by omega)];exact Sim.refl _
theorem qlk {a b:Nat} (ha:a<=100) (hb:b<=100):IntKind.i64.wrap ((a:Int)*(b:Int))=((a*b:Nat):Int):=by
 have h:a*b<=10000:=Nat.mul_le_mul ha hb;rw [<- Int.natCast_mul,IntWalk.i64_in _ (by omega)]
theorem qnP {p:Nat} (h:p % 2=1):((p:Nat):Int).tmod 2=1:=by
 rw [Int.tmod_eq_emod_of_nonneg (Int.natCast_nonneg _)];omega
theorem qlp {p:Nat} (h:p % 2=0):((p:Nat):Int).tmod 2=0:=by
 rw [Int.tmod_eq_emod_of_nonneg (Int.natCast_nonneg _)];omega
theorem qhu (M : Nat -> Prop) (x y : PE) (J m n N : Nat) (F F' : Nat -> List Tm) (w : World) (hM : Mb M w) (hm : 1 <= m) (hn : 1 <= n) (hm2 : m <= 100) (hn2 : n <= 100) (hN : N = min m n) (H : ChN M w x y J m n N F) (S : SgC m n N F F') :
  Calls Tryz.prog 133 #[.agg (peA x),.agg (peA y),.int .i64 (J:Int)] w (qo0 M w N F'):=by
 have hE:=((Ext.refl w).alloc (.cells (peA x) 33)).alloc (.cells (peA y) 33);have hBx:=qeI w x y;generalize hW:(w.alloc (.cells (peA x) 33)).alloc (.cells (peA y) 33)=W at *;have HW:=Lib.hid hW;have HE:=Lib.hid hE;have HBX:Hid (SBr w.heap.size x y W):=hBx;have HM:=Lib.hid hM;have HH:=Lib.hid H;have HSG:=Lib.hid S;have HMM:Hid (1<=m/\1<=n/\m<=100/\n<=100/\N<=m/\N<=n):=⟨hm,hn,hm2,hn2,by omega,by omega⟩;clear hE hBx hW hM H S hm hn hm2 hn2 hN
 go_enter Tryz.func133,Tryz.ntmps133
 go_upto_region 1 with (fail)
 rw [HW.out];obtain ⟨g0,hg0⟩ : ∃ g0,g0=w.heap.size:=⟨_,rfl⟩;rw [<- hg0] at HBX ⊢;clear hg0 HW;obtain ⟨⟨x0,x1,x2,x3⟩,y0,y1,y2,y3⟩:=HBX.out;go_wp2_with (fail);refine (HH.out.ck W HE.out).mono ?_;rintro e w1 ⟨rfl,e1⟩;have HB1:=Lib.hid (HBX.out.ext e1);have HE1:=Lib.hid (HE.out.trans e1);clear x0 x1 x2 x3 y0 y1 y2 y3 HBX HE e1
 go_upto_region 4 with (fail)
 have HPd:Hid (SBr g0 x y w1.drew):=HB1.out.ext (Ext.refl _).drew;have HD0:Hid (Ext w w1.drew):=HE1.out.trans (Ext.refl _).drew;refine qad (SBr g0 x y) 8 (by kernel_rfl) HPd.out (fun hHeld=>?_);generalize w1.drew=wd at *;(refine tkB [0,1,3,4] ?_;(iterate 4 (refine tk1 (oi:=?_) (v:=?_) (by kernel_rfl) (by first | exact hSn | exact hHeld) ?_ ?_ ?_ ?_ ?_;rotate_left 2;(simp only [xgA,xgB,xgC];rfl);rfl;(intro wS hSw;obtain ⟨⟨A0,A1,A2,A3⟩,B0,B1,B2,B3⟩:=hSw;go_simp;try with_reducible rfl);(exact fun _ _ _ h=>h);(try simp only [Act.put,xgD,xgE,xgF])));refine tkE ?_);((refine qaa 2 (o:=?_) (by kernel_rfl) ?_ ?_;rotate_left 1;(simp only [xgA,xgB,xgC];rfl);intro K hK);go_simp;(refine (HH.out.dx wd HD0.out).mono ?_);rintro e_ w5 ⟨rfl,e2⟩;go_wp2_with (fail);(try clear hSn);(have hSn:=hHeld.ext e2);(refine hK.out _ _ (fun _=>hSn) ?_);clear hK K;(try simp only [Act.put,xgD,xgE,xgF]));((refine qaa 5 (o:=?_) (by kernel_rfl) ?_ ?_;rotate_left 1;(simp only [xgA,xgB,xgC];rfl);intro K hK);go_simp;(refine (HH.out.dy w5 (HD0.out.trans e2)).mono ?_);rintro e_ w6 ⟨rfl,e5⟩;go_wp2_with (fail);(try clear hSn);(have hSn:=hHeld.ext (e2.trans e5));(refine hK.out _ _ (fun _=>hSn) ?_);clear hK K;(try simp only [Act.put,xgD,xgE,xgF]));(refine tkB [6,7] ?_;(iterate 2 (refine tk1 (oi:=?_) (v:=?_) (by kernel_rfl) (by first | exact hSn | exact hHeld) ?_ ?_ ?_ ?_ ?_;rotate_left 2;(simp only [xgA,xgB,xgC];rfl);rfl;(intro wS hSw;obtain ⟨⟨A0,A1,A2,A3⟩,B0,B1,B2,B3⟩:=hSw;go_simp;try with_reducible rfl);(exact fun _ _ _ h=>h);(try simp only [Act.put,xgD,xgE,xgF])));refine tkE ?_)
 refine qac (by kernel_rfl) ?_ _;have HE6:=Lib.hid (HD0.out.trans (e2.trans e5));have HB6:=Lib.hid (hHeld.ext (e2.trans e5));clear hHeld hSn e2 e5 HPd HD0 HB1 HE1;obtain ⟨mn,hmn⟩ : ∃ mn:Int,mn=min (m:Int) (n:Int):=⟨_,rfl⟩
 have hmn0 : ¬ min (m:Int) (n:Int)=0:=by have:=HMM.out;omega
 have hmnb:(min (m:Int) (n:Int) == 0)=false:=beq_eq_false_iff_ne.2 hmn0;clear hmn
 go_upto_if 32 with (fail)
 clear hmn0 hmnb
 go_cut [11] (fun s11 wx=>∃ gl:Nat,s11 = .slice (some ⟨gl,0,none⟩) N N/\w.heap.size<=gl/\qax (fun b=>M b∨b=gl) wx 4 gl N F/\Ext w wx)
 case first=>
  by_cases hnm:n<=m
  ·have hge:(m:Int) ≥ (n:Int):=by omega
   have CD:=Lib.hid (HH.out.ds hnm w6 HE6.out);obtain ⟨⟨x0,x1,x2,x3⟩,y0,y1,y2,y3⟩:=HB6.out;clear hnm HH HSG;go_wp2_with (fail);refine CD.out.mono ?_;rintro e w7 ⟨gl,rfl,hgl,hk,e7⟩;have HF:Hid (w.heap.size<=gl/\qax (fun b=>M b∨b=gl) w7 4 gl N F/\Ext w w7):=⟨Nat.le_trans HE6.out.size hgl,hk,HE6.out.trans e7⟩;clear hgl hk e7 x0 x1 x2 x3 y0 y1 y2 y3 CD;go_wp2_with (fail)
   go_meet
   exact ⟨gl,rfl,HF.out⟩
  ·have hge : ¬ (m:Int) ≥ (n:Int):=by omega
   have CD:=Lib.hid (HH.out.dt (by omega) w6 HE6.out);obtain ⟨⟨x0,x1,x2,x3⟩,y0,y1,y2,y3⟩:=HB6.out;clear hnm HH HSG;go_wp2_with (fail);refine CD.out.mono ?_;rintro e w7 ⟨gl,rfl,hgl,hk,e7⟩;have HF:Hid (w.heap.size<=gl/\qax (fun b=>M b∨b=gl) w7 4 gl N F/\Ext w w7):=⟨Nat.le_trans HE6.out.size hgl,hk,HE6.out.trans e7⟩;clear hgl hk e7 x0 x1 x2 x3 y0 y1 y2 y3 CD;go_wp2_with (fail)
   go_meet
   exact ⟨gl,rfl,HF.out⟩
 case rest=>
  obtain ⟨gl,rfl,hgl,hk,e7⟩:=hcut;have hglt:=hk.lt;have HGL:Hid (w.heap.size<=gl):=hgl;have HM7:Hid (Mb (fun b=>M b∨b=gl) wc):=qb9 (HM.out.ext e7) hglt
  have HK7:Hid (qax (fun b=>M b∨b=gl) wc 4 gl N (qe5 0 F F')):=hk.congr fun i _=>by unfold qe5;rw [if_neg (Nat.not_lt_zero _)];exact Sim.refl _
  have HE7:=Lib.hid e7;have HMG:Hid ((fun b=>M b∨b=gl) gl):=.inr rfl;have HMQ:Hid (∀ b,M b∨b=gl->(fun b=>M b∨b=gl) b):=fun b h=>h;have hN0:(0:Int)<=(N:Int):=Int.natCast_nonneg _
  have hN1:(N:Int)<=100:=by have:=HMM.out;omega
  clear hgl hk e7 HE6 HH HM HB6 hglt;generalize (fun b=>M b∨b=gl)=M' at *;go_wp2
  go_loopw [47] (fun iv wr=>∃ k:Nat,k<=N/\iv = .int .i64 (k:Int)/\Hid (qax M' wr 4 gl N (qe5 k F F'))/\Hid (Mb M' wr)/\Hid (Ext w wr)) (fun iv _=>N - (intOf iv).toNat)
  case atStart=>exact ⟨0,by omega,rfl,HK7,HM7,HE7⟩
  case round=>
   clear HK7 HM7 HE7;obtain ⟨k,hk1,rfl,HK,HMB,HE⟩:=hrel;have hk0:(0:Int)<=(k:Int):=Int.natCast_nonneg _
   by_cases hkN:k<N
   ·have hkI:(k:Int)<(N:Int):=by omega
    obtain ⟨z,⟨z0,z1,z2,z3⟩,hz⟩:=HK.out.cel k hkN
    have hz2:CRx M' wr 4 z (F k):=by
     have h:qe5 k F F' k=F k:=if_neg (Nat.lt_irrefl _);rw [h] at hz;exact hz
    have HKN:Hid (k<N):=hkN;rcases HSG.out k hkN with ⟨hlt,hodd,hng⟩ | ⟨hno,hsim⟩
    ·have CN:=Lib.hid (hng M' wr z HMB.out hz2)
     have hmnI:(m:Int)<(n:Int):=by omega
     have hm3:=HMM.out;obtain ⟨a,ha⟩ : ∃ a,a=m - k:=⟨_,rfl⟩;obtain ⟨b,hb⟩ : ∃ b,b=n - k:=⟨_,rfl⟩;rw [<- ha,<- hb] at hodd
     have hw1:IntKind.i64.wrap ((m:Int) - (k:Int))=(a:Int):=by rw [IntWalk.i64_in _ (by omega)];omega
     have hw2:IntKind.i64.wrap ((n:Int) - (k:Int))=(b:Int):=by rw [IntWalk.i64_in _ (by omega)];omega
     have hw3:IntKind.i64.wrap ((a:Int)*(b:Int))=((a*b:Nat):Int):=qlk (by omega) (by omega);have hw4:((a*b:Nat):Int).tmod 2=1:=qnP hodd;obtain ⟨ab,hab⟩ : ∃ ab,ab=a*b:=⟨_,rfl⟩;rw [<- hab] at hw3 hw4;clear ha hb hodd hab hm3 hng hz hz2 hlt hkN hk1 HMM HSG;go_wp2_with (fail);refine CN.out.mono ?_;rintro e w8 ⟨u,rfl,hu,e8⟩;have HK8:=Lib.hid (HK.out.ext e8);obtain ⟨⟨_,q0⟩,⟨_,q1⟩,⟨_,q2⟩,⟨_,q3⟩,hfz,_⟩:=HK8.out.at k HKN.out;have f0:=hfz (k*4);have f1:=hfz (k*4+1);have f2:=hfz (k*4+2);have f3:=hfz (k*4+3);have hT9:=HK8.out.set HMG.out k HKN.out hu;have hE9:=(HE.out.trans e8).set4 (g:=gl) HGL.out (k*4) (.int .i64 u.lv) (.bool u.b) (.slice u.a u.n u.p) (.slice u.ka u.kn u.kp);have hM9:=(HMB.out.ext e8).size (Kp.set4 (M:=M') HMG.out (k*4) (.int .i64 u.lv) (.bool u.b) (.slice u.a u.n u.p) (.slice u.ka u.kn u.kp)).1;obtain ⟨W9,hW9⟩ : ∃ W9,W9=set4 w8 gl (k*4) (.int .i64 u.lv) (.bool u.b) (.slice u.a u.n u.p) (.slice u.ka u.kn u.kp):=⟨_,rfl⟩;rw [<- hW9] at hT9 hE9 hM9;unfold set4 at hW9;have HW9:=Lib.hid hW9;have HF:Hid (qax M' W9 4 gl N (qe5 (k+1) F F')/\Mb M' W9/\Ext w W9):=⟨hT9.congr fun i hi=>qe4 k F F' i,hM9,hE9⟩;clear hT9 hE9 hM9 hW9 hfz hu e8 HK8 HK HMB HE CN z0 z1 z2 z3;go_wp2;rw [<- HW9.out];clear HW9 q0 q1 q2 q3 f0 f1 f2 f3
     go_roundw
     case rel=>exact ⟨k+1,HKN.out,by go_num,HF.out.1,HF.out.2.1,HF.out.2.2⟩
     case measure=>have:=HKN.out;simp [intOf];omega
    ·have CN:Hid (Calls Tryz.prog 68 #[.agg (peA z)] wr (qa8 M' wr 4 (F' k))):=(qbV M' z (F k) wr HMB.out hz2.pi).mono fun _ _ h=>h.sim hsim
     by_cases hlt:m<n
     ·have hodd : (m - k) * (n - k) % 2 = 0 := by
       have : ¬ (m - k)*(n - k) % 2=1:=fun h=>hno ⟨hlt,h⟩;omega
      have hmnI:(m:Int)<(n:Int):=by omega
      have hm3:=HMM.out;obtain ⟨a,ha⟩ : ∃ a,a=m - k:=⟨_,rfl⟩;obtain ⟨b,hb⟩ : ∃ b,b=n - k:=⟨_,rfl⟩;rw [<- ha,<- hb] at hodd
      have hw1:IntKind.i64.wrap ((m:Int) - (k:Int))=(a:Int):=by rw [IntWalk.i64_in _ (by omega)];omega
      have hw2:IntKind.i64.wrap ((n:Int) - (k:Int))=(b:Int):=by rw [IntWalk.i64_in _ (by omega)];omega
      have hw3:IntKind.i64.wrap ((a:Int)*(b:Int))=((a*b:Nat):Int):=qlk (by omega) (by omega);have hw4:((a*b:Nat):Int).tmod 2=0:=qlp hodd;obtain ⟨ab,hab⟩ : ∃ ab,ab=a*b:=⟨_,rfl⟩;rw [<- hab] at hw3 hw4;clear ha hb hodd hab hm3 hno hsim hz hz2 hlt hkN hk1 HMM HSG;go_wp2_with (fail);refine CN.out.mono ?_;rintro e w8 ⟨u,rfl,hu,e8⟩;have HK8:=Lib.hid (HK.out.ext e8);obtain ⟨⟨_,q0⟩,⟨_,q1⟩,⟨_,q2⟩,⟨_,q3⟩,hfz,_⟩:=HK8.out.at k HKN.out;have f0:=hfz (k*4);have f1:=hfz (k*4+1);have f2:=hfz (k*4+2);have f3:=hfz (k*4+3);have hT9:=HK8.out.set HMG.out k HKN.out hu;have hE9:=(HE.out.trans e8).set4 (g:=gl) HGL.out (k*4) (.int .i64 u.lv) (.bool u.b) (.slice u.a u.n u.p) (.slice u.ka u.kn u.kp);have hM9:=(HMB.out.ext e8).size (Kp.set4 (M:=M') HMG.out (k*4) (.int .i64 u.lv) (.bool u.b) (.slice u.a u.n u.p) (.slice u.ka u.kn u.kp)).1;obtain ⟨W9,hW9⟩ : ∃ W9,W9=set4 w8 gl (k*4) (.int .i64 u.lv) (.bool u.b) (.slice u.a u.n u.p) (.slice u.ka u.kn u.kp):=⟨_,rfl⟩;rw [<- hW9] at hT9 hE9 hM9;unfold set4 at hW9;have HW9:=Lib.hid hW9;have HF:Hid (qax M' W9 4 gl N (qe5 (k+1) F F')/\Mb M' W9/\Ext w W9):=⟨hT9.congr fun i hi=>qe4 k F F' i,hM9,hE9⟩;clear hT9 hE9 hM9 hW9 hfz hu e8 HK8 HK HMB HE CN z0 z1 z2 z3;go_wp2;rw [<- HW9.out];clear HW9 q0 q1 q2 q3 f0 f1 f2 f3
      go_roundw
      case rel=>exact ⟨k+1,HKN.out,by go_num,HF.out.1,HF.out.2.1,HF.out.2.2⟩
      case measure=>have:=HKN.out;simp [intOf];omega
     ·have hmnI : ¬ (m:Int)<(n:Int):=by omega
      clear hno hsim hz hz2 hlt hkN hk1 HMM HSG;go_wp2_with (fail);refine CN.out.mono ?_;rintro e w8 ⟨u,rfl,hu,e8⟩;have HK8:=Lib.hid (HK.out.ext e8);obtain ⟨⟨_,q0⟩,⟨_,q1⟩,⟨_,q2⟩,⟨_,q3⟩,hfz,_⟩:=HK8.out.at k HKN.out;have f0:=hfz (k*4);have f1:=hfz (k*4+1);have f2:=hfz (k*4+2);have f3:=hfz (k*4+3);have hT9:=HK8.out.set HMG.out k HKN.out hu;have hE9:=(HE.out.trans e8).set4 (g:=gl) HGL.out (k*4) (.int .i64 u.lv) (.bool u.b) (.slice u.a u.n u.p) (.slice u.ka u.kn u.kp);have hM9:=(HMB.out.ext e8).size (Kp.set4 (M:=M') HMG.out (k*4) (.int .i64 u.lv) (.bool u.b) (.slice u.a u.n u.p) (.slice u.ka u.kn u.kp)).1;obtain ⟨W9,hW9⟩ : ∃ W9,W9=set4 w8 gl (k*4) (.int .i64 u.lv) (.bool u.b) (.slice u.a u.n u.p) (.slice u.ka u.kn u.kp):=⟨_,rfl⟩;rw [<- hW9] at hT9 hE9 hM9;unfold set4 at hW9;have HW9:=Lib.hid hW9;have HF:Hid (qax M' W9 4 gl N (qe5 (k+1) F F')/\Mb M' W9/\Ext w W9):=⟨hT9.congr fun i hi=>qe4 k F F' i,hM9,hE9⟩;clear hT9 hE9 hM9 hW9 hfz hu e8 HK8 HK HMB HE CN z0 z1 z2 z3;go_wp2;rw [<- HW9.out];clear HW9 q0 q1 q2 q3 f0 f1 f2 f3
      go_roundw
      case rel=>exact ⟨k+1,HKN.out,by go_num,HF.out.1,HF.out.2.1,HF.out.2.2⟩
      case measure=>have:=HKN.out;simp [intOf];omega
   ·obtain rfl:k=N:=by omega
    have hge' : ¬ (k:Int)<(k:Int):=by omega
    have HF:Hid (qo0 M w k F' (.returned (.tuple #[.slice (some ⟨gl,0,none⟩) k k,.int .i64 0])) wr):=⟨gl,rfl,HGL.out,(HK.out.more fun b hb=>.inl (HMQ.out b hb)).congr fun i hi=>by unfold qe5;rw [if_pos hi];exact Sim.refl _,HE.out⟩;clear HK HMB HE HMG HMQ HGL HMM HSG hk1 hkN;go_wp2;exact bodyPost_ret (v:=.tuple #[.slice (some ⟨gl,0,none⟩) k k,.int .i64 0]) (by simp [results,Tryz.results133,go_sem]) rfl HF.out


def LiV (M:Nat->Prop) (w w':World) (v:Value) (N:Nat) (F:Nat->List Tm):Prop:=(N=0/\v = .slice none 0 0) ∨ ∃ gl:Nat,v = .slice (some ⟨gl,0,none⟩) N N/\w.heap.size<=gl/\qax (fun b=>M b∨b=gl) w' 4 gl N F
def qnu (M:Nat->Prop) (w:World) (N:Nat) (F:Nat->List Tm) (er:Int) (e:Ending) (w':World):Prop:=∃ v,e = .returned (.tuple #[v,.int .i64 er])/\LiV M w w' v N F/\Ext w w'
theorem qo0.li {M:Nat->Prop} {w w':World} {N:Nat} {F:Nat->List Tm} {e:Ending} (h:qo0 M w N F e w'):qnu M w N F 0 e w':=by
 obtain ⟨gl,rfl,h1,h2,h3⟩:=h;exact ⟨_,rfl,.inr ⟨gl,rfl,h1,h2⟩,h3⟩
theorem qly (M : Nat -> Prop) (x y : PE) (J m n : Nat) (F : Nat -> List Tm) (w : World) (hmn : m = 0 ∨ n = 0)
  (hck : ∀ wk,Ext w wk->Calls Tryz.prog 163 #[.agg (peA x),.agg (peA y),.int .i64 (J:Int)] wk fun e w'=>e = .returned (.int .i64 0)/\Ext wk w')
  (hdx : ∀ wk,Ext w wk->Calls Tryz.prog 43 #[.agg (peA x),.int .i64 (J:Int)] wk fun e w'=>e = .returned (.int .i64 (m:Int))/\Ext wk w')
  (hdy : ∀ wk,Ext w wk->Calls Tryz.prog 43 #[.agg (peA y),.int .i64 (J:Int)] wk fun e w'=>e = .returned (.int .i64 (n:Int))/\Ext wk w') :
  Calls Tryz.prog 133 #[.agg (peA x),.agg (peA y),.int .i64 (J:Int)] w (qnu M w 0 F 0):=by
 have hE:=((Ext.refl w).alloc (.cells (peA x) 33)).alloc (.cells (peA y) 33);have hBx:=qeI w x y;generalize hW:(w.alloc (.cells (peA x) 33)).alloc (.cells (peA y) 33)=W at *;have HW:=Lib.hid hW;have HE:=Lib.hid hE;have HBX:Hid (SBr w.heap.size x y W):=hBx;have HCK:=Lib.hid hck;have HDX:=Lib.hid hdx;have HDY:=Lib.hid hdy
 have hmn0:min (m:Int) (n:Int)=0:=by omega
 clear hE hBx hW hck hdx hdy hmn
 go_enter Tryz.func133,Tryz.ntmps133
 go_upto_region 1 with (fail)
 rw [HW.out];obtain ⟨g0,hg0⟩ : ∃ g0,g0=w.heap.size:=⟨_,rfl⟩;rw [<- hg0] at HBX ⊢;clear hg0 HW;obtain ⟨⟨x0,x1,x2,x3⟩,y0,y1,y2,y3⟩:=HBX.out;go_wp2_with (fail);refine (HCK.out W HE.out).mono ?_;rintro e w1 ⟨rfl,e1⟩;have HB1:=Lib.hid (HBX.out.ext e1);have HE1:=Lib.hid (HE.out.trans e1);clear x0 x1 x2 x3 y0 y1 y2 y3 HBX HE e1
 go_upto_region 4 with (fail)
 have HPd:Hid (SBr g0 x y w1.drew):=HB1.out.ext (Ext.refl _).drew;have HD0:Hid (Ext w w1.drew):=HE1.out.trans (Ext.refl _).drew;refine qad (SBr g0 x y) 8 (by kernel_rfl) HPd.out (fun hHeld=>?_);generalize w1.drew=wd at *;(refine tkB [0,1,3,4] ?_;(iterate 4 (refine tk1 (oi:=?_) (v:=?_) (by kernel_rfl) (by first | exact hSn | exact hHeld) ?_ ?_ ?_ ?_ ?_;rotate_left 2;(simp only [xgA,xgB,xgC];rfl);rfl;(intro wS hSw;obtain ⟨⟨A0,A1,A2,A3⟩,B0,B1,B2,B3⟩:=hSw;go_simp;try with_reducible rfl);(exact fun _ _ _ h=>h);(try simp only [Act.put,xgD,xgE,xgF])));refine tkE ?_);((refine qaa 2 (o:=?_) (by kernel_rfl) ?_ ?_;rotate_left 1;(simp only [xgA,xgB,xgC];rfl);intro K hK);go_simp;(refine (HDX.out wd HD0.out).mono ?_);rintro e_ w5 ⟨rfl,e2⟩;go_wp2_with (fail);(try clear hSn);(have hSn:=hHeld.ext e2);(refine hK.out _ _ (fun _=>hSn) ?_);clear hK K;(try simp only [Act.put,xgD,xgE,xgF]));((refine qaa 5 (o:=?_) (by kernel_rfl) ?_ ?_;rotate_left 1;(simp only [xgA,xgB,xgC];rfl);intro K hK);go_simp;(refine (HDY.out w5 (HD0.out.trans e2)).mono ?_);rintro e_ w6 ⟨rfl,e5⟩;go_wp2_with (fail);(try clear hSn);(have hSn:=hHeld.ext (e2.trans e5));(refine hK.out _ _ (fun _=>hSn) ?_);clear hK K;(try simp only [Act.put,xgD,xgE,xgF]));(refine tkB [6,7] ?_;(iterate 2 (refine tk1 (oi:=?_) (v:=?_) (by kernel_rfl) (by first | exact hSn | exact hHeld) ?_ ?_ ?_ ?_ ?_;rotate_left 2;(simp only [xgA,xgB,xgC];rfl);rfl;(intro wS hSw;obtain ⟨⟨A0,A1,A2,A3⟩,B0,B1,B2,B3⟩:=hSw;go_simp;try with_reducible rfl);(exact fun _ _ _ h=>h);(try simp only [Act.put,xgD,xgE,xgF])));refine tkE ?_)
 refine qac (by kernel_rfl) ?_ _;have HF:Hid (qnu M w 0 F 0 (.returned (.tuple #[.slice none 0 0,.int .i64 0])) w6):=⟨_,rfl,.inl ⟨rfl,rfl⟩,HD0.out.trans (e2.trans e5)⟩;clear hHeld hSn e2 e5 HPd HD0 HB1 HE1 HCK HDX HDY;go_wp2;exact bodyPost_ret (v:=.tuple #[.slice none 0 0,.int .i64 0]) (by simp [results,Tryz.results133,go_sem]) rfl HF.out








end Go.Proofs.YtmcfpnmoklnhoaaGreat
