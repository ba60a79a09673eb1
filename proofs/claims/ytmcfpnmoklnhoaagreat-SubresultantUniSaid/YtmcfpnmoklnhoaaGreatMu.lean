/- Mu -/
import Derived.Test.YtmcfpnmoklnhoaaGreatMr
import Derived.Laws.BitsLemmas
import Derived.Test.YtmcfpnmoklnhoaaGreatMi
set_option linter.unusedVariables false
set_option maxRecDepth 100000
set_option maxHeartbeats 400000000
set_option linter.unusedSimpArgs false
namespace Go.Proofs.YtmcfpnmoklnhoaaGreat
open Go.RowKit
def bA(l:List Tm):Nat->List Tm
 |0=>[(1,Mo.zero)]
 |n+1=>ai (bA l n) l
theorem JO(l:List Tm)(n:Nat):bA l (n+1)=ai (bA l n) l:=rfl
theorem Q8(l:List Tm):ae (ai l [(1,Mo.zero)]) l:=by
 have h:=VO l (1,Mo.zero);rw[Rc]at h;refine h.trans λm=>?_;rw[iD];simp
theorem qnp(l:List Tm)(a:Nat):∀b:Nat,ae (ai (bA l a) (bA l b)) (bA l (a+b))
 |0=>Q8 _
 |b+1=>by
  have h:=ae.MO (bA l a) (bA l b) l;exact h.symm.trans ((qnp l a b).mY l)
theorem qmR(l:List Tm):∀n:Nat,aC (bA l n)=aC l^n
 |0=>by simp[bA,aC]
 |n+1=>by rw[JO,Cu,qmR l n,Nat.pow_succ]
theorem qhB(x:Nat):∀n:Nat,az (x^n)<=n*az x+1
 |0=>by rw[Nat.pow_zero];exact Nat.le_trans ((o9 1 1).2 (by decide)) (by omega)
 |n+1=>by
  rw[Nat.pow_succ];have h1:=qJ (x^n) x;have h2:=qhB x n;have h3:(n+1)*az x=n*az x+az x:=Nat.succ_mul _ _;omega
theorem qan(l:List Tm)(n:Nat):az (aC (bA l n))<=n*az (aC l)+1:=by rw[qmR];exact qhB _ n
theorem qmJ{l:List Tm}(h:∀m:Mo,m.nn=false->aB l m=0):∀n:Nat,∀m:Mo,m.nn=false->aB (bA l n) m=0
 |0=>λm hm=>by
  refine qh λs hs e=>?_;rw[List.mem_singleton.1 hs]at e;rw[<-e]at hm;exact absurd hm (by decide)
 |n+1=>Ar (qmJ h n) h
theorem qhn{l:List Tm}{B:Nat}(h:bn B l)(hn:∀m:Mo,m.nn=false->aB l m=0):∀n:Nat,bn (n*B) (bA l n)
 |0=>by rw[Nat.zero_mul];exact qhk 1
 |n+1=>by
  rw[Nat.succ_mul];exact(qhn h hn n).ai h (qmJ hn n)
def Pw(b:Nat):Prop:=∃j,b=2^j
theorem qx0:Pw 1:=⟨0,rfl⟩
theorem qx1{b:Nat}(h:Pw b):Pw (b*2):=by
 obtain⟨j,rfl⟩:=h;exact⟨j+1,by rw[Nat.pow_succ]⟩
theorem qnG{b:Nat}(h:Pw b):0<b:=by
 obtain⟨j,rfl⟩:=h;exact Nat.pow_pos (by decide)
theorem qnF{b:Nat}(h:Pw b):b=1\/(Pw (b/2)/\b=b/2*2):=by
 obtain⟨j,rfl⟩:=h
 cases j with
 |zero=>exact .inl rfl
 |succ j=>rw[Nat.pow_succ,Nat.mul_div_cancel _ (by decide)];exact .inr ⟨⟨j,rfl⟩,rfl⟩
theorem qqW(n:Nat){b:Nat}(h:Pw b):(n&&& b=0)↔(n/b)%2=0:=by
 obtain⟨j,rfl⟩:=h;have ht:n.testBit j=decide (n/2^j%2=1):=Nat.testBit_eq_decide_div_mod_eq;constructor
 ·intro h0
  have h1:(n&&& 2^j).testBit j=false:=by rw[h0];simp
  rw[Nat.testBit_and,Nat.testBit_two_pow_self,Bool.and_true,ht]at h1;have h2:=of_decide_eq_false h1;omega
 ·intro h0;refine Nat.eq_of_testBit_eq λi=>?_;rw[Nat.testBit_and,Nat.zero_testBit,Nat.testBit_two_pow]
  by_cases jL:j=i
  ·subst jL;rw[ht,decide_eq_false (by omega)];rfl
  ·simp[jL]
theorem qgU(n b:Nat)(hn:n<4611686018427387904)(hb:b<4611686018427387904)(h:Pw b):(bits .and .i64 (n:Int) (b:Int)=0)↔(n/b)%2=0:=by
 rw[(bits_nat .i64 62 (by decide) (λz h1 h2=>IntWalk.i64_in z (by omega)) n b (by omega) (by omega)).1, <-qqW n h];omega
theorem qxQ(n b:Nat)(hb:0<b):n/b=(n/(b*2))+(n/(b*2))+(n/b)%2:=by
 rw[<-Nat.div_div_eq_div_mul];omega
abbrev Iz(M:Nat->Prop)(s g:Nat):Nat->Prop:=Mx (Mx M s (s+2)) g (g+1)
structure xJ(M:Nat->Prop)(w:World)(g:Nat)(l r:List Tm)(y z:PE)(wr:World):Prop where
 p:P4 wr w.heap.size y
 q:ak wr (w.heap.size+1) 33 4 (arr zA)
 b:ak wr g 33 4 (arr (ah z))
 cy:aI (Iz M w.heap.size g) wr 4 y l
 cz:aI (Iz M w.heap.size g) wr 4 z r
 m:Mb (Iz M w.heap.size g) wr
 e:Ext w wr
 gs:w.heap.size+2<=g
section
variable{M:Nat->Prop}{w wr w':World}{g:Nat}{l r r':List Tm}{y z z':PE}
theorem xJ.ext(h:xJ M w g l r y z wr)(he:Ext wr w'):xJ M w g l r y z w':=
 ⟨h.p.ext he,h.q.ext he,h.b.ext he,h.cy.ext he,h.cz.ext he,h.m.ext he,h.e.trans he,h.gs⟩
theorem xJ.bZ(h:xJ M w g l r y z wr)(hs:ae r r'):xJ M w g l r' y z wr:=
 ⟨h.p,h.q,h.b,h.cy,CR.bZ h.cz hs,h.m,h.e,h.gs⟩
theorem qgN{f:Nat->Value}{z:PE}:∀i,i<4->wZ f 0 (.int .i64 z.lv) (.bool z.b) (.slice z.a z.n z.p) (.slice z.ka z.kn z.kp) i=arr (ah z) i:=by
 intro i hi
 have:i=0\/i=1\/i=2\/i=3:=by omega
 rcases this with rfl|rfl|rfl|rfl
 ·exact Cy _ 0 _ _ _ _
 ·exact Cz _ 0 _ _ _ _
 ·exact CB _ 0 _ _ _ _
 ·exact CV _ 0 _ _ _ _
theorem P4.of_heap{b:Nat}{x:PE}(h:P4 wr b x)(he:w'.heap[b]?=wr.heap[b]?):P4 w' b x:=by
 have hc:=λo=>World.cell?_of_block (w:=wr) (w':=w') (a:=⟨b,o,none⟩) he;obtain⟨p0,p1,p2,p3⟩:=h;exact⟨(hc 0).trans p0,(hc 1).trans p1,(hc 2).trans p2,(hc 3).trans p3⟩
theorem xJ.put(h:xJ M w g l r y z wr)(hz:aI (Iz M w.heap.size g) wr 4 z' r'):xJ M w g l r' y z' (aH wr g 0 (.int .i64 z'.lv) (.bool z'.b) (.slice z'.a z'.n z'.p) (.slice z'.ka z'.kn z'.kp)):=by
 have yg:=h.gs;have hM:Iz M w.heap.size g g:=Mx.at ⟨Nat.le_refl _,Nat.lt_succ_self _⟩;have hk:Kp (Iz M w.heap.size g) wr (aH wr g 0 (.int .i64 z'.lv) (.bool z'.b) (.slice z'.a z'.n z'.p) (.slice z'.ka z'.kn z'.kp)):=Kp.aH hM 0 _ _ _ _;have h1:=il wr g 0 (.int .i64 z'.lv) (.bool z'.b) (.slice z'.a z'.n z'.p) (.slice z'.ka z'.kn z'.kp) w.heap.size (by omega);have h2:=il wr g 0 (.int .i64 z'.lv) (.bool z'.b) (.slice z'.a z'.n z'.p) (.slice z'.ka z'.kn z'.kp) (w.heap.size+1) (by omega);have h3:=h.b.aH 0 (.int .i64 z'.lv) (.bool z'.b) (.slice z'.a z'.n z'.p) (.slice z'.ka z'.kn z'.kp);have h4:=h3.congr (f':=arr (ah z')) (λi hi=>qgN i hi);have h5:=h.e.aH (g:=g) (by omega) 0 (.int .i64 z'.lv) (.bool z'.b) (.slice z'.a z'.n z'.p) (.slice z'.ka z'.kn z'.kp);have h6:=h.cy.kp hk;have h7:=hz.kp hk;have h8:=h.m.size hk.1;generalize aH wr g 0 (.int .i64 z'.lv) (.bool z'.b) (.slice z'.a z'.n z'.p) (.slice z'.ka z'.kn z'.kp)=W at*;exact⟨h.p.of_heap h1,h.q.of_heap h2,h4,h6,h7,h8,h5,yg⟩
end
theorem qnQ(M:Nat->Prop)(x:PE)(l:List Tm)(B:Nat)(n:Int)(w:World)(hM:Mb M w)(h:PI M w x l)(hn:n<=1000000)(hL:n.toNat*az (aC l)+2<=1099511627776)(hB:bn B l)(mF:(n.toNat*B+1)*(n.toNat*B+1)<=1099511627776):
 Calls Tryz.prog 53 #[.agg (ah x),.int .i64 n] w (dH M w 4 (bA l n.toNat)):=by
 obtain⟨hE,hP,hQ,eG⟩:=OD hM x;have je:ak _ w.heap.size 33 4 (arr (ah x)):=(ak.bf w (ah x) 33 4 rfl).alloc (.cells zA 33);have h2:=(h.more (M':=Mx M w.heap.size (w.heap.size+2)) (Mx.more (Nat.le_refl _))).ext hE;have HI:=Lib.hid h2;have oN:=Lib.hid hB;have HL:=Lib.hid hL;have oL:=Lib.hid mF;obtain⟨x0,x1,x2,x3⟩:=hP;clear h h2 hB hL mF
 go_enter Tryz.func53,Tryz.ntmps53
 go_wp2_with (fail);refine(yx _ x l _ eG HI.out).mono ?_;rintro e w1 ⟨y,rfl,hy,af⟩;have ig:=hE.trans af;have bM:=je.ext af;have hQ1:=hQ.ext af;obtain⟨⟨q0,q1,q2,q3⟩,⟨f0,f1,f2,f3⟩,⟨r0,r1,r2,r3⟩,hk,hf⟩:=BI (M':=Mx M w.heap.size (w.heap.size+2)) (w:=w) (.int .i64 y.lv) (.bool y.b) (.slice y.a y.n y.p) (.slice y.ka y.kn y.kp) bM (Mx.at (by omega)) (Nat.le_refl _) ig;have uA:P4 (aH w1 w.heap.size 0 (.int .i64 y.lv) (.bool y.b) (.slice y.a y.n y.p) (.slice y.ka y.kn y.kp)) w.heap.size y:=⟨r0,r1,r2,r3⟩;have D9:=hQ1.of_heap (il w1 w.heap.size 0 (.int .i64 y.lv) (.bool y.b) (.slice y.a y.n y.p) (.slice y.ka y.kn y.kp) (w.heap.size+1) (by omega));have hY1:=hy.kp hk;have vv:Mb (Mx M w.heap.size (w.heap.size+2)) (aH w1 w.heap.size 0 (.int .i64 y.lv) (.bool y.b) (.slice y.a y.n y.p) (.slice y.ka y.kn y.kp)):=(eG.ext af).size hk.1;have Gq:=bM.lt;clear q0 q1 q2 q3;obtain⟨q0,q1,q2,q3⟩:=bM.p4;generalize hW:aH w1 w.heap.size 0 (.int .i64 y.lv) (.bool y.b) (.slice y.a y.n y.p) (.slice y.ka y.kn y.kp)=W at uA hf D9 hY1 vv;unfold aH at hW;have HW:=Lib.hid hW;have Dj:=Lib.hid hf;have HM:=Lib.hid vv;have HQ:=Lib.hid D9;have HP:=Lib.hid uA;have HY:=Lib.hid hY1;clear je hQ eG af hE bM hQ1 hy HI hk hf vv D9 uA hY1 ig hW r0 r1 r2 r3 x0 x1 x2 x3
 go_upto_region 2 with(fail)
 rw[HW.out];clear q0 q1 q2 q3 f0 f1 f2 f3 Gq HW;go_wp2_with (fail);refine(Jz 1 W HM.out (by omega) (by omega)).mono ?_;rintro e w2 ⟨d0,d1,rfl,hc,aA⟩;obtain⟨b2,a2,n2,p2,rfl,rfl⟩:=hc.form;go_wp2_with (fail);refine(VZ _ b2 a2 n2 p2 1 w2 (HM.out.ext aA) hc.eH).mono ?_;rintro e w3 ⟨c,rfl,fD,aT⟩;have aW:Ext w3 (w3.alloc (.cells #[.int .i64 c.lv,.bool c.b,.slice c.a c.n c.p,.slice c.ka c.kn c.kp] 33)):=(Ext.refl w3).alloc _;have kv:=ak.bf w3 (ah c) 33 4 rfl;have eU:=(aA.trans aT).trans aW;have Qk:=(Dj.out.trans (aA.trans aT)).size;have yg:w.heap.size+2<=w3.heap.size:=Nat.le_trans (by have:=HQ.out.lt;omega) (aA.trans aT).size;have wO:∀g,Iz M w.heap.size w3.heap.size g->Mx M w.heap.size (w.heap.size+2) g\/w3.heap.size<=g:=Mx.more (Nat.le_refl _)
 have hPS:xJ M w w3.heap.size l (bA l 0) y c (w3.alloc (.cells #[.int .i64 c.lv,.bool c.b,.slice c.a c.n c.p,.slice c.ka c.kn c.kp] 33)):=
  ⟨HP.out.ext eU,HQ.out.ext eU,kv,(((HY.out.ext (aA.trans aT)).more wO).ext aW),((fD.more wO).ext aW).up (by omega),Mx.mb (HM.out.ext (aA.trans aT)) (by simp) (by simp),Dj.out.trans eU,yg⟩
 generalize lY:w3.alloc (.cells #[.int .i64 c.lv,.bool c.b,.slice c.a c.n c.p,.slice c.ka c.kn c.kp] 33)=W4 at hPS;have Bi:=Lib.hid lY;have pW:=Lib.hid hPS;clear aA aT aW hc fD kv eU Qk wO hPS lY HY HQ HP HM Dj
 go_upto_region 3 with(fail)
 rw[Bi.out]
 by_cases iw:n<=0
 ·have hnt:n.toNat=0:=by omega
  rw[hnt];obtain⟨z0,z1,z2,z3⟩:=pW.out.b.p4;have dZ:=pW.out.b.lt;go_wp2;refine wp_loop_rounds 1 ?_;rw[rounds_succ];go_wp2;refine wp_loop_rounds 1 ?_;rw[rounds_succ];go_wp2_with (fail);refine(Hd _ 4 c (bA l 0) _ pW.out.m pW.out.cz).mono ?_;rintro e w5 ⟨v,rfl,hv,aR⟩;obtain⟨⟨q0,q1,q2,q3⟩,⟨f0,f1,f2,f3⟩,⟨r0,r1,r2,r3⟩,HF⟩:=iW (M:=M) (w:=w) (pW.out.q.ext aR) (.inl (Mx.at (by omega))) (by omega) (pW.out.e.trans aR) hv (λg hg=>.inl (.inl hg));clear aR hv z0 z1 z2 z3 dZ;go_wp2;exact bodyPost_ret (v:=.agg (ah v)) (by simp[results,Tryz.results53,go_sem,r0,r1,r2,r3]) rfl (by rw[hnt];exact HF.out)
 ·obtain⟨N,rfl⟩:∃N:Nat,n=N:=⟨n.toNat,by omega⟩;rw[Int.toNat_natCast]at*
  have Pm:0<N:=by omega
  have BP:N<=1000000:=by omega
  clear iw hn;go_wp2
  go_loopw [6] (λi wr=>∃b:Nat,Pw b/\b<=N/\i=.int .i64 b/\Ext W4 wr) (λi _=>2000000-(intOf i).toNat)
  case atStart=>exact⟨1,qx0,Pm,rfl,Ext.refl _⟩
  case round=>
   obtain⟨b,hb,UF,rfl,bW⟩:=hrel
   by_cases hle:b<=N/2
   ·go_wp2
    go_roundw
    case rel=>exact⟨b*2,qx1 hb,by omega,by go_num,bW⟩
    case measure=>have:=qnG hb;simp[intOf];omega
   ·have hNb:N/(b*2)=0:=Nat.div_eq_of_lt (by omega);have Ij:Hid (Pw b):=hb;clear hb;have Ba:=Lib.hid (pW.out.ext bW);clear bW;go_wp2
    go_loopw [7] (λi wr=>∃(b e:Nat)(z:PE),((b=0/\e=N)\/(Pw b/\b<=N/\e=N/(b*2)))/\i=.int .i64 b/\xJ M w w3.heap.size l (bA l e) y z wr) (λi _=>(intOf i).toNat)
    case atStart=>exact⟨b,0,c,.inr ⟨Ij.out,UF,hNb.symm⟩,rfl,Ba.out⟩
    case round=>
     obtain⟨b,e,z,hbe,rfl,hS⟩:=hrel;have HS:=Lib.hid hS;obtain⟨z0,z1,z2,z3⟩:=hS.b.p4;have dZ:=hS.b.lt;clear hS Ij Ba pW hNb hle UF;rcases hbe with⟨jZ,heN⟩|⟨hb,UF,he⟩
     ·subst jZ;subst heN;go_wp2_with (fail);refine(Hd _ 4 z (bA l e) _ HS.out.m HS.out.cz).mono ?_;rintro e_ w5 ⟨v,rfl,hv,aR⟩;obtain⟨⟨q0,q1,q2,q3⟩,⟨f0,f1,f2,f3⟩,⟨r0,r1,r2,r3⟩,HF⟩:=iW (M:=M) (w:=w) (HS.out.q.ext aR) (.inl (Mx.at (by omega))) (by omega) (HS.out.e.trans aR) hv (λg hg=>.inl (.inl hg));clear aR hv z0 z1 z2 z3 dZ;go_wp2;exact bodyPost_ret (v:=.agg (ah v)) (by simp[results,Tryz.results53,go_sem,r0,r1,r2,r3]) rfl HF.out
     ·have hbp:=qnG hb;have iT:=qxQ N b hbp;rw[<-he]at iT;have qA3:N/b<=N:=Nat.div_le_self _ _
      have Jh:e+e<=N:=by omega
      have Ij:=Lib.hid hb;have o5:=Lib.hid iT;have nny:=HS.out.cy.nn;have HD:Hid (∀a,bn (a*B) (bA l a)):=λa=>qhn oN.out nny a
      have HLe:Hid (∀a b,a+b<=N->az (aC (bA l a))+az (aC (bA l b))<=1099511627776):=λa b Ga=>by
       have h1:=qan l a;have h2:=qan l b;have h3:=Nat.mul_le_mul_right (az (aC l)) Ga;rw[Nat.add_mul]at h3;have:=HL.out;omega
      have HBe:Hid (∀a b,a+b<=N->(a*B+1)*(b*B+1)<=1099511627776):=λa b Ga=>Nat.le_trans (Nat.mul_le_mul (Nat.add_le_add_right (Nat.mul_le_mul_right B (by omega)) 1) (Nat.add_le_add_right (Nat.mul_le_mul_right B (by omega)) 1)) oL.out;clear hb iT nny;go_wp2_with (fail);refine(V4 _ 4 z z (bA l e) (bA l e) (e*B) (e*B) _ HS.out.m HS.out.cz HS.out.cz (HLe.out e e Jh) (HD.out e) (HD.out e) (HBe.out e e Jh)).mono ?_;rintro e_ w5 ⟨v,rfl,hv,aR⟩;have iE:=((HS.out.ext aR).put hv).bZ (qnp l e e);clear z0 z1 z2 z3;obtain⟨z0,z1,z2,z3⟩:=(HS.out.b.ext aR).p4;have g0:=(HS.out.b.ext aR).frozen 0;have g1:=(HS.out.b.ext aR).frozen 1;have g2:=(HS.out.b.ext aR).frozen 2;have g3:=(HS.out.b.ext aR).frozen 3;have qui:=(HS.out.b.ext aR).lt;generalize kL:aH w5 w3.heap.size 0 (.int .i64 v.lv) (.bool v.b) (.slice v.a v.n v.p) (.slice v.ka v.kn v.kp)=W5 at iE;unfold aH at kL;have sG:=Lib.hid kL;have iC:=Lib.hid iE;clear kL iE hv aR HS
      go_upto_region 10 with(fail)
      rw[sG.out];clear z0 z1 z2 z3 g0 g1 g2 g3 qui dZ;obtain⟨z0,z1,z2,z3⟩:=iC.out.b.p4;obtain⟨y0,y1,y2,y3⟩:=iC.out.p;have dZ:=iC.out.b.lt;have sU:=World.block_lt_of_cell? _ _ y0
      by_cases UG:N/b%2=0
      ·have hz:(bits .and .i64 (N:Int) (b:Int)==0)=true:=by rw[beq_iff_eq];exact(qgU N b (by omega) (by omega) Ij.out).2 UG
       clear z0 z1 z2 z3 y0 y1 y2 y3;go_wp2
       go_roundw
       case rel=>
        refine⟨b/2,e+e,v,?_,by go_num,iC.out⟩;rcases qnF Ij.out with h1|⟨h1,h2⟩
        ·exact .inl ⟨by omega,by have:=o5.out;rw[h1]at this UG;omega⟩
        ·exact .inr ⟨h1,by omega,by rw[<-h2];have:=o5.out;omega⟩
       case measure=>simp[intOf];omega
      ·have hz:(bits .and .i64 (N:Int) (b:Int)==0)=false:=by rw[beq_eq_false_iff_ne];exactλh=>UG ((qgU N b (by omega) (by omega) Ij.out).1 h)
       have af:e+e+1<=N:=by have:=o5.out;omega
       have Ih:Hid (az (aC (bA l (e+e)))+az (aC l)<=1099511627776):=by
        show _<=_;have h1:=qan l (e+e);have h3:=Nat.mul_le_mul_right (az (aC l)) af;rw[Nat.add_mul,Nat.one_mul]at h3;have:=HL.out;omega
       have cB:Hid (((e+e)*B+1)*(B+1)<=1099511627776):=by
        have h:=HBe.out (e+e) 1 af
        rwa[Nat.one_mul]at h
       go_wp2_with (fail);refine(V4 _ 4 v y (bA l (e+e)) l ((e+e)*B) B _ iC.out.m iC.out.cz iC.out.cy Ih.out (HD.out _) oN.out cB.out).mono ?_;rintro e_ w6 ⟨u,rfl,hu,fe⟩;have hS6:xJ M w w3.heap.size l (bA l (e+e+1)) y u _:=(iC.out.ext fe).put hu;clear z0 z1 z2 z3 y0 y1 y2 y3;obtain⟨z0,z1,z2,z3⟩:=(iC.out.b.ext fe).p4;have g0:=(iC.out.b.ext fe).frozen 0;have g1:=(iC.out.b.ext fe).frozen 1;have g2:=(iC.out.b.ext fe).frozen 2;have g3:=(iC.out.b.ext fe).frozen 3;have quj:=(iC.out.b.ext fe).lt;generalize jy:aH w6 w3.heap.size 0 (.int .i64 u.lv) (.bool u.b) (.slice u.a u.n u.p) (.slice u.ka u.kn u.kp)=W6 at hS6;unfold aH at jy;have p9:=Lib.hid jy;have oZ:=Lib.hid hS6;clear jy hS6 hu fe iC sU dZ
       go_upto_region 8 with(fail)
       rw[p9.out];clear z0 z1 z2 z3 g0 g1 g2 g3 quj;go_wp2
       go_roundw
       case rel=>
        refine⟨b/2,e+e+1,u,?_,by go_num,oZ.out⟩;rcases qnF Ij.out with h1|⟨h1,h2⟩
        ·exact .inl ⟨by omega,by have:=o5.out;rw[h1]at this UG;omega⟩
        ·exact .inr ⟨h1,by omega,by rw[<-h2];have:=o5.out;omega⟩
       case measure=>simp[intOf];omega
structure SPw(l:List Tm)(K B e:Nat)(r:List Tm):Prop where
 s:ae r (bA l e)
 n:aC r<=aC (bA l e)
 c:Canon r
 len:r.length<=K^e
 ex:∀t∈r,∀k,t.2.get k<=(e*B:Nat)
theorem SPw.zero(l:List Tm)(K B:Nat):SPw l K B 0 (qrD 1):=
 ⟨ae.refl _,Nat.le_refl _,⟨List.pairwise_singleton ..,λt ht=>by rw[List.mem_singleton.1 ht];exact⟨by decide,by decide⟩⟩,Nat.le_refl _,λt ht k=>by rw[List.mem_singleton.1 ht];simp[ve]⟩
def TD(b:Nat)(m:Mo)(w:World):Prop:=w.cell? ⟨b,0,none⟩=some (.int .i64 m.a)/\w.cell? ⟨b,1,none⟩=some (.int .i64 m.b)/\w.cell? ⟨b,2,none⟩=some (.int .i64 m.c)/\w.cell? ⟨b,3,none⟩=some (.int .i64 m.d)
theorem TD.ext{b:Nat}{m:Mo}{w w':World}(h:TD b m w)(he:Ext w w'):TD b m w':=by
 have h1:=World.block_lt_of_cell? _ _ h.1;unfold TD;rw[he.cell h1,he.cell h1,he.cell h1,he.cell h1];exact h
end Go.Proofs.YtmcfpnmoklnhoaaGreat
namespace Go.Proofs.YtmcfpnmoklnhoaaGreat
open Go.ChangeShapes Go.WideShapes Go.ChangeAt Go.RowKit Go.Deep
section
variable{H:Type}{enc:TypeId × Value->H}{W:World}
def qgj(W:World)(a:Option Addr)(n c:Nat):Prop:=n<=9223372036854775807/\(n<=1099511627776->∃d,dK M0 W (.slice a n c) n d)
end
def Ou(s:Nat)(b:Bool)(a:Option Addr)(n c:Nat)(y z:Int)(w:World):Prop:=(w.cell? ⟨s,0,none⟩=some (.bool b)/\w.cell? ⟨s,1,none⟩=some (.slice a n c))/\w.cell? ⟨s+1,0,none⟩=some (.int .i8 y)/\w.cell? ⟨s+1,1,none⟩=some (.int .i8 z)
theorem Ou.ext{s:Nat}{b:Bool}{a:Option Addr}{n c:Nat}{y z:Int}{w w':World}(h:Ou s b a n c y z w)(he:Ext w w'):Ou s b a n c y z w':=by
 have h1:=World.block_lt_of_cell? _ _ h.1.1;have h2:=World.block_lt_of_cell? _ _ h.2.1;unfold Ou;rw[he.cell h1,he.cell h1,he.cell h2,he.cell h2];exact h
def ZA(s:Nat)(b:Bool)(a:Option Addr)(n c:Nat)(y z:Int)(g:Nat)(r:PE)(w:World):Prop:=Ou s b a n c y z w/\P4 w g r
theorem ZA.ext{s:Nat}{b:Bool}{a:Option Addr}{n c:Nat}{y z:Int}{g:Nat}{r:PE}{w w':World}(h:ZA s b a n c y z g r w)(he:Ext w w'):ZA s b a n c y z g r w':=⟨h.1.ext he,h.2.ext he⟩
namespace recpolyPower
end recpolyPower
end Go.Proofs.YtmcfpnmoklnhoaaGreat
