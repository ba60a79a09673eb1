/- Powers of lists of terms; the bits of an exponent (plain). recpoly.Pow. sparse.Pow. sparse.isLevel, sparse.Var. The law RecpolyPower: arguments and the walk. The law RecpolyPower returns true at every input, without a panic, and leaves its arguments as they were; no conditions. -/
import Derived.Test.YtmcfpnmoklnhoaaGreatMt
import Derived.Laws.BitsLemmas
import Derived.Test.YtmcfpnmoklnhoaaGreatMi
set_option linter.unusedVariables false
set_option maxRecDepth 100000
set_option maxHeartbeats 400000000
set_option linter.unusedSimpArgs false

namespace Go.Proofs.YtmcfpnmoklnhoaaGreat
open Go.RowKit

def qbm (l:List Tm):Nat->List Tm
 | 0=>[(1,Mo.zero)]
 | n+1=>pmul (qbm l n) l
theorem qcu (l:List Tm) (n:Nat):qbm l (n+1)=pmul (qbm l n) l:=rfl
theorem qdL (l:List Tm):Sim (pmul l [(1,Mo.zero)]) l:=by
 have h:=qbi l (1,Mo.zero);rw [qbl] at h;refine h.trans fun m=>?_;rw [qao];simp
theorem qjo (l:List Tm) (a:Nat) : ∀ b:Nat,Sim (pmul (qbm l a) (qbm l b)) (qbm l (a+b))
 | 0=>qdL _
 | b+1=>by
  have h:=Sim.pmul_assoc (qbm l a) (qbm l b) l;exact h.symm.trans ((qjo l a b).pmul_left l)
theorem qjt (l:List Tm) : ∀ n:Nat,nrm (qbm l n)=nrm l ^ n
 | 0=>by simp [qbm,nrm]
 | n+1=>by rw [qcu,qbb,qjt l n,Nat.pow_succ]
theorem qj3 (x:Nat) : ∀ n:Nat,dlen (x ^ n)<=n*dlen x+1
 | 0=>by rw [Nat.pow_zero];exact Nat.le_trans ((qan 1 1).2 (by decide)) (by omega)
 | n+1=>by
  rw [Nat.pow_succ];have h1:=qaD (x ^ n) x;have h2:=qj3 x n;have h3:(n+1)*dlen x=n*dlen x+dlen x:=Nat.succ_mul _ _;omega
theorem qfs (l:List Tm) (n:Nat):dlen (nrm (qbm l n))<=n*dlen (nrm l)+1:=by rw [qjt];exact qj3 _ n
theorem ql9 {l:List Tm} (h : ∀ m:Mo,m.nn=false->qab l m=0) : ∀ n:Nat,∀ m:Mo,m.nn=false->qab (qbm l n) m=0
 | 0=>fun m hm=>by
  refine qaB fun s hs e=>?_;rw [List.mem_singleton.1 hs] at e;rw [<- e] at hm;exact absurd hm (by decide)
 | n+1=>qiE (ql9 h n) h
theorem qeS {l:List Tm} {B:Nat} (h:Deg B l) (hn : ∀ m:Mo,m.nn=false->qab l m=0) : ∀ n:Nat,Deg (n*B) (qbm l n)
 | 0=>by rw [Nat.zero_mul];exact qfw 1
 | n+1=>by
  rw [Nat.succ_mul];exact (qeS h hn n).pmul h (ql9 hn n)
def Pw (b:Nat):Prop:=∃ j,b=2 ^ j
theorem qsb:Pw 1:=⟨0,rfl⟩
theorem qsa {b:Nat} (h:Pw b):Pw (b*2):=by
 obtain ⟨j,rfl⟩:=h;exact ⟨j+1,by rw [Nat.pow_succ]⟩
theorem qph {b:Nat} (h:Pw b):0<b:=by
 obtain ⟨j,rfl⟩:=h;exact Nat.pow_pos (by decide)
theorem qlU {b:Nat} (h:Pw b):b=1∨(Pw (b / 2)/\b=b / 2*2):=by
 obtain ⟨j,rfl⟩:=h
 cases j with
 | zero=>exact .inl rfl
 | succ j=>rw [Nat.pow_succ,Nat.mul_div_cancel _ (by decide)];exact .inr ⟨⟨j,rfl⟩,rfl⟩
theorem qsV (n:Nat) {b:Nat} (h:Pw b):(n &&& b=0)↔(n / b) % 2=0:=by
 obtain ⟨j,rfl⟩:=h;have ht:n.testBit j=decide (n / 2 ^ j % 2=1):=Nat.testBit_eq_decide_div_mod_eq;constructor
 ·intro h0
  have h1:(n &&& 2 ^ j).testBit j=false:=by rw [h0];simp
  rw [Nat.testBit_and,Nat.testBit_two_pow_self,Bool.and_true,ht] at h1;have h2:=of_decide_eq_false h1;omega
 ·intro h0;refine Nat.eq_of_testBit_eq fun i=>?_;rw [Nat.testBit_and,Nat.zero_testBit,Nat.testBit_two_pow]
  by_cases hij:j=i
  ·subst hij;rw [ht,decide_eq_false (by omega)];rfl
  ·simp [hij]
theorem qnr (n b:Nat) (hn:n<4611686018427387904) (hb:b<4611686018427387904) (h:Pw b):(bits .and .i64 (n:Int) (b:Int)=0)↔(n / b) % 2=0:=by
 rw [(bits_nat .i64 62 (by decide) (fun z h1 h2=>IntWalk.i64_in z (by omega)) n b (by omega) (by omega)).1,<- qsV n h];omega
theorem qn6 (n b:Nat) (hb:0<b):n / b=(n / (b*2))+(n / (b*2))+(n / b) % 2:=by
 rw [<- Nat.div_div_eq_div_mul];omega


abbrev MPw (M:Nat->Prop) (s g:Nat):Nat->Prop:=Mx (Mx M s (s+2)) g (g+1)
structure qk9 (M:Nat->Prop) (w:World) (g:Nat) (l r:List Tm) (y z:PE) (wr:World):Prop where
 p:P4 wr w.heap.size y
 q:Blk wr (w.heap.size+1) 33 4 (arr zA)
 b:Blk wr g 33 4 (arr (peA z))
 cy:CRx (MPw M w.heap.size g) wr 4 y l
 cz:CRx (MPw M w.heap.size g) wr 4 z r
 m:Mb (MPw M w.heap.size g) wr
 e:Ext w wr
 gs:w.heap.size+2<=g
section
variable {M:Nat->Prop} {w wr w':World} {g:Nat} {l r r':List Tm} {y z z':PE}
theorem qk9.ext (h:qk9 M w g l r y z wr) (he:Ext wr w'):qk9 M w g l r y z w':=
 ⟨h.p.ext he,h.q.ext he,h.b.ext he,h.cy.ext he,h.cz.ext he,h.m.ext he,h.e.trans he,h.gs⟩
theorem qk9.sim (h:qk9 M w g l r y z wr) (hs:Sim r r'):qk9 M w g l r' y z wr:=
 ⟨h.p,h.q,h.b,h.cy,CR.sim h.cz hs,h.m,h.e,h.gs⟩
theorem qtU {f:Nat->Value} {z:PE} : ∀ i,i<4->qk7 f 0 (.int .i64 z.lv) (.bool z.b) (.slice z.a z.n z.p) (.slice z.ka z.kn z.kp) i=arr (peA z) i:=by
 intro i hi
 have:i=0∨i=1∨i=2∨i=3:=by omega
 rcases this with rfl | rfl | rfl | rfl
 ·exact qdF _ 0 _ _ _ _
 ·exact qdE _ 0 _ _ _ _
 ·exact qdD _ 0 _ _ _ _
 ·exact qdC _ 0 _ _ _ _
theorem P4.of_heap {b:Nat} {x:PE} (h:P4 wr b x) (he:w'.heap[b]? = wr.heap[b]?):P4 w' b x:=by
 have hc:=fun o=>World.cell?_of_block (w:=wr) (w':=w') (a:=⟨b,o,none⟩) he;obtain ⟨p0,p1,p2,p3⟩:=h;exact ⟨(hc 0).trans p0,(hc 1).trans p1,(hc 2).trans p2,(hc 3).trans p3⟩
theorem qk9.put (h:qk9 M w g l r y z wr) (hz:CRx (MPw M w.heap.size g) wr 4 z' r'):qk9 M w g l r' y z' (set4 wr g 0 (.int .i64 z'.lv) (.bool z'.b) (.slice z'.a z'.n z'.p) (.slice z'.ka z'.kn z'.kp)):=by
 have hgs:=h.gs;have hM:MPw M w.heap.size g g:=Mx.at ⟨Nat.le_refl _,Nat.lt_succ_self _⟩;have hk:Kp (MPw M w.heap.size g) wr (set4 wr g 0 (.int .i64 z'.lv) (.bool z'.b) (.slice z'.a z'.n z'.p) (.slice z'.ka z'.kn z'.kp)):=Kp.set4 hM 0 _ _ _ _;have h1:=qag wr g 0 (.int .i64 z'.lv) (.bool z'.b) (.slice z'.a z'.n z'.p) (.slice z'.ka z'.kn z'.kp) w.heap.size (by omega);have h2:=qag wr g 0 (.int .i64 z'.lv) (.bool z'.b) (.slice z'.a z'.n z'.p) (.slice z'.ka z'.kn z'.kp) (w.heap.size+1) (by omega);have h3:=h.b.set4 0 (.int .i64 z'.lv) (.bool z'.b) (.slice z'.a z'.n z'.p) (.slice z'.ka z'.kn z'.kp);have h4:=h3.congr (f':=arr (peA z')) (fun i hi=>qtU i hi);have h5:=h.e.set4 (g:=g) (by omega) 0 (.int .i64 z'.lv) (.bool z'.b) (.slice z'.a z'.n z'.p) (.slice z'.ka z'.kn z'.kp);have h6:=h.cy.kp hk;have h7:=hz.kp hk;have h8:=h.m.size hk.1;generalize set4 wr g 0 (.int .i64 z'.lv) (.bool z'.b) (.slice z'.a z'.n z'.p) (.slice z'.ka z'.kn z'.kp)=W at *;exact ⟨h.p.of_heap h1,h.q.of_heap h2,h4,h6,h7,h8,h5,hgs⟩
end
theorem qlJ (M : Nat -> Prop) (x : PE) (l : List Tm) (B : Nat) (n : Int) (w : World) (hM : Mb M w) (h : PI M w x l) (hn : n <= 1000000) (hL : n.toNat * dlen (nrm l) + 2 <= 1099511627776) (hB : Deg B l) (hBC : (n.toNat * B + 1) * (n.toNat * B + 1) <= 1099511627776) :
  Calls Tryz.prog 53 #[.agg (peA x),.int .i64 n] w (qa8 M w 4 (qbm l n.toNat)):=by
 obtain ⟨hE,hP,hQ,hM2⟩:=qro hM x;have hBx:Blk _ w.heap.size 33 4 (arr (peA x)):=(Blk.of_arr w (peA x) 33 4 rfl).alloc (.cells zA 33);have h2:=(h.more (M':=Mx M w.heap.size (w.heap.size+2)) (Mx.more (Nat.le_refl _))).ext hE;have HI:=Lib.hid h2;have HDB:=Lib.hid hB;have HL:=Lib.hid hL;have HBC:=Lib.hid hBC;obtain ⟨x0,x1,x2,x3⟩:=hP;clear h h2 hB hL hBC
 go_enter Tryz.func53,Tryz.ntmps53
 go_wp2_with (fail);refine (qct _ x l _ hM2 HI.out).mono ?_;rintro e w1 ⟨y,rfl,hy,he1⟩;have hE1:=hE.trans he1;have hB1:=hBx.ext he1;have hQ1:=hQ.ext he1;obtain ⟨⟨q0,q1,q2,q3⟩,⟨f0,f1,f2,f3⟩,⟨r0,r1,r2,r3⟩,hk,hf⟩:=qkL (M':=Mx M w.heap.size (w.heap.size+2)) (w:=w) (.int .i64 y.lv) (.bool y.b) (.slice y.a y.n y.p) (.slice y.ka y.kn y.kp) hB1 (Mx.at (by omega)) (Nat.le_refl _) hE1;have hP1:P4 (set4 w1 w.heap.size 0 (.int .i64 y.lv) (.bool y.b) (.slice y.a y.n y.p) (.slice y.ka y.kn y.kp)) w.heap.size y:=⟨r0,r1,r2,r3⟩;have hQ2:=hQ1.of_heap (qag w1 w.heap.size 0 (.int .i64 y.lv) (.bool y.b) (.slice y.a y.n y.p) (.slice y.ka y.kn y.kp) (w.heap.size+1) (by omega));have hY1:=hy.kp hk;have hM4:Mb (Mx M w.heap.size (w.heap.size+2)) (set4 w1 w.heap.size 0 (.int .i64 y.lv) (.bool y.b) (.slice y.a y.n y.p) (.slice y.ka y.kn y.kp)):=(hM2.ext he1).size hk.1;have hlt1:=hB1.lt;clear q0 q1 q2 q3;obtain ⟨q0,q1,q2,q3⟩:=hB1.p4;generalize hW:set4 w1 w.heap.size 0 (.int .i64 y.lv) (.bool y.b) (.slice y.a y.n y.p) (.slice y.ka y.kn y.kp)=W at hP1 hf hQ2 hY1 hM4;unfold set4 at hW;have HW:=Lib.hid hW;have HF4:=Lib.hid hf;have HM:=Lib.hid hM4;have HQ:=Lib.hid hQ2;have HP:=Lib.hid hP1;have HY:=Lib.hid hY1;clear hBx hQ hM2 he1 hE hB1 hQ1 hy HI hk hf hM4 hQ2 hP1 hY1 hE1 hW r0 r1 r2 r3 x0 x1 x2 x3
 go_upto_region 2 with (fail)
 rw [HW.out];clear q0 q1 q2 q3 f0 f1 f2 f3 hlt1 HW;go_wp2_with (fail);refine (qer 1 W HM.out (by omega) (by omega)).mono ?_;rintro e w2 ⟨d0,d1,rfl,hc,he2⟩;obtain ⟨b2,a2,n2,p2,rfl,rfl⟩:=hc.form;go_wp2_with (fail);refine (qdI _ b2 a2 n2 p2 1 w2 (HM.out.ext he2) hc.toV).mono ?_;rintro e w3 ⟨c,rfl,hcc,he3⟩;have he4:Ext w3 (w3.alloc (.cells #[.int .i64 c.lv,.bool c.b,.slice c.a c.n c.p,.slice c.ka c.kn c.kp] 33)):=(Ext.refl w3).alloc _;have hB4:=Blk.of_arr w3 (peA c) 33 4 rfl;have hE4:=(he2.trans he3).trans he4;have hsz3:=(HF4.out.trans (he2.trans he3)).size;have hgs:w.heap.size+2<=w3.heap.size:=Nat.le_trans (by have:=HQ.out.lt;omega) (he2.trans he3).size;have hmore : ∀ g,MPw M w.heap.size w3.heap.size g->Mx M w.heap.size (w.heap.size+2) g∨w3.heap.size<=g:=Mx.more (Nat.le_refl _)
 have hPS:qk9 M w w3.heap.size l (qbm l 0) y c (w3.alloc (.cells #[.int .i64 c.lv,.bool c.b,.slice c.a c.n c.p,.slice c.ka c.kn c.kp] 33)):=
  ⟨HP.out.ext hE4,HQ.out.ext hE4,hB4,(((HY.out.ext (he2.trans he3)).more hmore).ext he4),((hcc.more hmore).ext he4).up (by omega),Mx.mb (HM.out.ext (he2.trans he3)) (by simp) (by simp),HF4.out.trans hE4,hgs⟩
 generalize hW4:w3.alloc (.cells #[.int .i64 c.lv,.bool c.b,.slice c.a c.n c.p,.slice c.ka c.kn c.kp] 33)=W4 at hPS;have HW4:=Lib.hid hW4;have HPS:=Lib.hid hPS;clear he2 he3 he4 hc hcc hB4 hE4 hsz3 hmore hPS hW4 HY HQ HP HM HF4
 go_upto_region 3 with (fail)
 rw [HW4.out]
 by_cases hn0:n<=0
 ·have hnt:n.toNat=0:=by omega
  rw [hnt];obtain ⟨z0,z1,z2,z3⟩:=HPS.out.b.p4;have hgl:=HPS.out.b.lt;go_wp2;refine wp_loop_rounds 1 ?_;rw [rounds_succ];go_wp2;refine wp_loop_rounds 1 ?_;rw [rounds_succ];go_wp2_with (fail);refine (qel _ 4 c (qbm l 0) _ HPS.out.m HPS.out.cz).mono ?_;rintro e w5 ⟨v,rfl,hv,he5⟩;obtain ⟨⟨q0,q1,q2,q3⟩,⟨f0,f1,f2,f3⟩,⟨r0,r1,r2,r3⟩,HF⟩:=qbR (M:=M) (w:=w) (HPS.out.q.ext he5) (.inl (Mx.at (by omega))) (by omega) (HPS.out.e.trans he5) hv (fun g hg=>.inl (.inl hg));clear he5 hv z0 z1 z2 z3 hgl;go_wp2;exact bodyPost_ret (v:=.agg (peA v)) (by simp [results,Tryz.results53,go_sem,r0,r1,r2,r3]) rfl (by rw [hnt];exact HF.out)
 ·obtain ⟨N,rfl⟩ : ∃ N:Nat,n=N:=⟨n.toNat,by omega⟩;rw [Int.toNat_natCast] at *
  have hN0:0<N:=by omega
  have hN1:N<=1000000:=by omega
  clear hn0 hn;go_wp2
  go_loopw [6] (fun i wr=>∃ b:Nat,Pw b/\b<=N/\i = .int .i64 b/\Ext W4 wr) (fun i _=>2000000 - (intOf i).toNat)
  case atStart=>exact ⟨1,qsb,hN0,rfl,Ext.refl _⟩
  case round=>
   obtain ⟨b,hb,hbN,rfl,her⟩:=hrel
   by_cases hle:b<=N / 2
   ·go_wp2
    go_roundw
    case rel=>exact ⟨b*2,qsa hb,by omega,by go_num,her⟩
    case measure=>have:=qph hb;simp [intOf];omega
   ·have hNb:N / (b*2)=0:=Nat.div_eq_of_lt (by omega);have HPb:Hid (Pw b):=hb;clear hb;have HPS2:=Lib.hid (HPS.out.ext her);clear her;go_wp2
    go_loopw [7] (fun i wr=>∃ (b e:Nat) (z:PE),((b=0/\e=N)∨(Pw b/\b<=N/\e=N / (b*2)))/\i = .int .i64 b/\qk9 M w w3.heap.size l (qbm l e) y z wr) (fun i _=>(intOf i).toNat)
    case atStart=>exact ⟨b,0,c,.inr ⟨HPb.out,hbN,hNb.symm⟩,rfl,HPS2.out⟩
    case round=>
     obtain ⟨b,e,z,hbe,rfl,hS⟩:=hrel;have HS:=Lib.hid hS;obtain ⟨z0,z1,z2,z3⟩:=hS.b.p4;have hgl:=hS.b.lt;clear hS HPb HPS2 HPS hNb hle hbN;rcases hbe with ⟨hb0,heN⟩ | ⟨hb,hbN,he⟩
     ·subst hb0;subst heN;go_wp2_with (fail);refine (qel _ 4 z (qbm l e) _ HS.out.m HS.out.cz).mono ?_;rintro e_ w5 ⟨v,rfl,hv,he5⟩;obtain ⟨⟨q0,q1,q2,q3⟩,⟨f0,f1,f2,f3⟩,⟨r0,r1,r2,r3⟩,HF⟩:=qbR (M:=M) (w:=w) (HS.out.q.ext he5) (.inl (Mx.at (by omega))) (by omega) (HS.out.e.trans he5) hv (fun g hg=>.inl (.inl hg));clear he5 hv z0 z1 z2 z3 hgl;go_wp2;exact bodyPost_ret (v:=.agg (peA v)) (by simp [results,Tryz.results53,go_sem,r0,r1,r2,r3]) rfl HF.out
     ·have hbp:=qph hb;have hst:=qn6 N b hbp;rw [<- he] at hst;have hNb1:N / b<=N:=Nat.div_le_self _ _
      have hee:e+e<=N:=by omega
      have HPb:=Lib.hid hb;have HST:=Lib.hid hst;have nny:=HS.out.cy.nn;have HD:Hid (∀ a,Deg (a*B) (qbm l a)):=fun a=>qeS HDB.out nny a
      have HLe:Hid (∀ a b,a+b<=N->dlen (nrm (qbm l a))+dlen (nrm (qbm l b))<=1099511627776):=fun a b hab=>by
       have h1:=qfs l a;have h2:=qfs l b;have h3:=Nat.mul_le_mul_right (dlen (nrm l)) hab;rw [Nat.add_mul] at h3;have:=HL.out;omega
      have HBe:Hid (∀ a b,a+b<=N->(a*B+1)*(b*B+1)<=1099511627776):=fun a b hab=>Nat.le_trans (Nat.mul_le_mul (Nat.add_le_add_right (Nat.mul_le_mul_right B (by omega)) 1) (Nat.add_le_add_right (Nat.mul_le_mul_right B (by omega)) 1)) HBC.out;clear hb hst nny;go_wp2_with (fail);refine (qgm _ 4 z z (qbm l e) (qbm l e) (e*B) (e*B) _ HS.out.m HS.out.cz HS.out.cz (HLe.out e e hee) (HD.out e) (HD.out e) (HBe.out e e hee)).mono ?_;rintro e_ w5 ⟨v,rfl,hv,he5⟩;have hS5:=((HS.out.ext he5).put hv).sim (qjo l e e);clear z0 z1 z2 z3;obtain ⟨z0,z1,z2,z3⟩:=(HS.out.b.ext he5).p4;have g0:=(HS.out.b.ext he5).frozen 0;have g1:=(HS.out.b.ext he5).frozen 1;have g2:=(HS.out.b.ext he5).frozen 2;have g3:=(HS.out.b.ext he5).frozen 3;have hgl5:=(HS.out.b.ext he5).lt;generalize hW5:set4 w5 w3.heap.size 0 (.int .i64 v.lv) (.bool v.b) (.slice v.a v.n v.p) (.slice v.ka v.kn v.kp)=W5 at hS5;unfold set4 at hW5;have HW5:=Lib.hid hW5;have HS5:=Lib.hid hS5;clear hW5 hS5 hv he5 HS
      go_upto_region 10 with (fail)
      rw [HW5.out];clear z0 z1 z2 z3 g0 g1 g2 g3 hgl5 hgl;obtain ⟨z0,z1,z2,z3⟩:=HS5.out.b.p4;obtain ⟨y0,y1,y2,y3⟩:=HS5.out.p;have hgl:=HS5.out.b.lt;have hyl:=World.block_lt_of_cell? _ _ y0
      by_cases hbit:N / b % 2=0
      ·have hz:(bits .and .i64 (N:Int) (b:Int) == 0)=true:=by rw [beq_iff_eq];exact (qnr N b (by omega) (by omega) HPb.out).2 hbit
       clear z0 z1 z2 z3 y0 y1 y2 y3;go_wp2
       go_roundw
       case rel=>
        refine ⟨b / 2,e+e,v,?_,by go_num,HS5.out⟩;rcases qlU HPb.out with h1 | ⟨h1,h2⟩
        ·exact .inl ⟨by omega,by have:=HST.out;rw [h1] at this hbit;omega⟩
        ·exact .inr ⟨h1,by omega,by rw [<- h2];have:=HST.out;omega⟩
       case measure=>simp [intOf];omega
      ·have hz:(bits .and .i64 (N:Int) (b:Int) == 0)=false:=by rw [beq_eq_false_iff_ne];exact fun h=>hbit ((qnr N b (by omega) (by omega) HPb.out).1 h)
       have he1:e+e+1<=N:=by have:=HST.out;omega
       have HL1:Hid (dlen (nrm (qbm l (e+e)))+dlen (nrm l)<=1099511627776):=by
        show _<=_;have h1:=qfs l (e+e);have h3:=Nat.mul_le_mul_right (dlen (nrm l)) he1;rw [Nat.add_mul,Nat.one_mul] at h3;have:=HL.out;omega
       have HB1:Hid (((e+e)*B+1)*(B+1)<=1099511627776):=by
        have h:=HBe.out (e+e) 1 he1
        rwa [Nat.one_mul] at h
       go_wp2_with (fail);refine (qgm _ 4 v y (qbm l (e+e)) l ((e+e)*B) B _ HS5.out.m HS5.out.cz HS5.out.cy HL1.out (HD.out _) HDB.out HB1.out).mono ?_;rintro e_ w6 ⟨u,rfl,hu,he6⟩;have hS6:qk9 M w w3.heap.size l (qbm l (e+e+1)) y u _:=(HS5.out.ext he6).put hu;clear z0 z1 z2 z3 y0 y1 y2 y3;obtain ⟨z0,z1,z2,z3⟩:=(HS5.out.b.ext he6).p4;have g0:=(HS5.out.b.ext he6).frozen 0;have g1:=(HS5.out.b.ext he6).frozen 1;have g2:=(HS5.out.b.ext he6).frozen 2;have g3:=(HS5.out.b.ext he6).frozen 3;have hgl6:=(HS5.out.b.ext he6).lt;generalize hW6:set4 w6 w3.heap.size 0 (.int .i64 u.lv) (.bool u.b) (.slice u.a u.n u.p) (.slice u.ka u.kn u.kp)=W6 at hS6;unfold set4 at hW6;have HW6:=Lib.hid hW6;have HS6:=Lib.hid hS6;clear hW6 hS6 hu he6 HS5 hyl hgl
       go_upto_region 8 with (fail)
       rw [HW6.out];clear z0 z1 z2 z3 g0 g1 g2 g3 hgl6;go_wp2
       go_roundw
       case rel=>
        refine ⟨b / 2,e+e+1,u,?_,by go_num,HS6.out⟩;rcases qlU HPb.out with h1 | ⟨h1,h2⟩
        ·exact .inl ⟨by omega,by have:=HST.out;rw [h1] at this hbit;omega⟩
        ·exact .inr ⟨h1,by omega,by rw [<- h2];have:=HST.out;omega⟩
       case measure=>simp [intOf];omega




end Go.Proofs.YtmcfpnmoklnhoaaGreat

namespace Go.Proofs.YtmcfpnmoklnhoaaGreat
open Go.ChangeShapes Go.WideShapes Go.ChangeAt Go.RowKit Go.Deep

section
variable {H:Type} {enc:TypeId × Value->H} {W:World}
def qtP (W:World) (a:Option Addr) (n c:Nat):Prop:=n<=9223372036854775807/\(n<=1099511627776 -> ∃ d,qbr M0 W (.slice a n c) n d)
end


namespace recpolyPower
end recpolyPower
end Go.Proofs.YtmcfpnmoklnhoaaGreat
