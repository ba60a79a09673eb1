/- Mu -/
import Derived.Test.YtmcfpnmoklnhoaaGreatMq
import Derived.Laws.BitsLemmas
import Derived.Test.YtmcfpnmoklnhoaaGreatMi
set_option linter.unusedVariables false
set_option maxRecDepth 100000
set_option maxHeartbeats 400000000
set_option linter.unusedSimpArgs false
namespace Go.Proofs.YtmcfpnmoklnhoaaGreat
open Go.RowKit
def bO(l:List Tm):Nat->List Tm
 |0=>[(1,Mo.zero)]
 |n+1=>aF (bO l n) l
theorem Lm(l:List Tm)(n:Nat):bO l (n+1)=aF (bO l n) l:=rfl
theorem OJ(l:List Tm):af (aF l [(1,Mo.zero)]) l:=by
 have h:=I7 l (1,Mo.zero);rw[FZ]at h;refine h.trans λm=>?_;rw[iM];simp
theorem qpr(l:List Tm)(a:Nat):∀b:Nat,af (aF (bO l a) (bO l b)) (bO l (a+b))
 |0=>OJ _
 |b+1=>by
  have h:=af.OI (bO l a) (bO l b) l;exact h.symm.trans ((qpr l a b).oC l)
theorem qoT(l:List Tm):∀n:Nat,aK (bO l n)=aK l^n
 |0=>by simp[bO,aK]
 |n+1=>by rw[Lm,zL,qoT l n,Nat.pow_succ]
theorem qjr(x:Nat):∀n:Nat,aH (x^n)<=n*aH x+1
 |0=>by rw[Nat.pow_zero];exact aR ((lZ 1 1).2 (by decide)) (by omega)
 |n+1=>by
  rw[Nat.pow_succ];have h1:=pQ (x^n) x;have h2:=qjr x n;have h3:(n+1)*aH x=n*aH x+aH x:=Nat.succ_mul _ _;omega
theorem qby(l:List Tm)(n:Nat):aH (aK (bO l n))<=n*aH (aK l)+1:=by rw[qoT];exact qjr _ n
theorem qoL{l:List Tm}(h:∀m:Mo,m.nn=false->aL l m=0):∀n:Nat,∀m:Mo,m.nn=false->aL (bO l n) m=0
 |0=>λm hm=>by
  refine rQ λs hs e=>?_;rw[List.mem_singleton.1 hs]at e;rw[<-e]at hm;exact absurd hm (by decide)
 |n+1=>BO (qoL h n) h
theorem VN{l:List Tm}{B:Nat}(h:bH B l)(hn:∀m:Mo,m.nn=false->aL l m=0):∀n:Nat,bH (n*B) (bO l n)
 |0=>by rw[Nat.zero_mul];exact qbm 1
 |n+1=>by
  rw[Nat.succ_mul];exact(VN h hn n).aF h (qoL hn n)
def Pw(b:Nat):Prop:=∃j,b=2^j
theorem qAA:Pw 1:=⟨0,rfl⟩
theorem qAB{b:Nat}(h:Pw b):Pw (b*2):=by
 obtain⟨j,rfl⟩:=h;exact⟨j+1,by rw[Nat.pow_succ]⟩
theorem qpI{b:Nat}(h:Pw b):0<b:=by
 obtain⟨j,rfl⟩:=h;exact Nat.pow_pos (by decide)
theorem qpH{b:Nat}(h:Pw b):b=1\/(Pw (b/2)/\b=b/2*2):=by
 obtain⟨j,rfl⟩:=h
 cases j with
 |zero=>exact .inl rfl
 |succ j=>rw[Nat.pow_succ,Nat.mul_div_cancel _ (by decide)];exact .inr ⟨⟨j,rfl⟩,rfl⟩
theorem qs5(n:Nat){b:Nat}(h:Pw b):(n&&& b=0)↔(n/b)%2=0:=by
 obtain⟨j,rfl⟩:=h;have ht:n.testBit j=decide (n/2^j%2=1):=Nat.testBit_eq_decide_div_mod_eq;constructor
 ·intro h0
  have h1:(n&&& 2^j).testBit j=false:=by rw[h0];simp
  rw[Nat.testBit_and,Nat.testBit_two_pow_self,Bool.and_true,ht]at h1;have h2:=of_decide_eq_false h1;omega
 ·intro h0;refine Nat.eq_of_testBit_eq λi=>?_;rw[Nat.testBit_and,Nat.zero_testBit,Nat.testBit_two_pow]
  by_cases kP:j=i
  ·subst kP;rw[ht,decide_eq_false (by omega)];rfl
  ·simp[kP]
theorem qiN(n b:Nat)(hn:n<4611686018427387904)(hb:b<4611686018427387904)(h:Pw b):(bits .and .i64 (n:Int) (b:Int)=0)↔(n/b)%2=0:=by
 rw[(bits_nat .i64 62 (by decide) (λz h1 h2=>IntWalk.i64_in z (by omega)) n b (by omega) (by omega)).1, <-qs5 n h];omega
theorem qAo(n b:Nat)(hb:0<b):n/b=(n/(b*2))+(n/(b*2))+(n/b)%2:=by
 rw[<-Nat.div_div_eq_div_mul];omega
abbrev JX(M:Nat->Prop)(s g:Nat):Nat->Prop:=Mx (Mx M s (s+2)) g (g+1)
structure yJ(M:Nat->Prop)(w:World)(g:Nat)(l r:List Tm)(y z:PE)(wr:World):Prop where
 p:P4 wr w.heap.size y
 q:aG wr (w.heap.size+1) 33 4 (arr zA)
 b:aG wr g 33 4 (arr (ak z))
 cy:aN (JX M w.heap.size g) wr 4 y l
 cz:aN (JX M w.heap.size g) wr 4 z r
 m:Mb (JX M w.heap.size g) wr
 e:Ext w wr
 gs:w.heap.size+2<=g
section
variable{M:Nat->Prop}{w wr w':World}{g:Nat}{l r r':List Tm}{y z z':PE}
theorem yJ.ext(h:yJ M w g l r y z wr)(he:Ext wr w'):yJ M w g l r y z w':=
 ⟨h.p.ext he,h.q.ext he,h.b.ext he,h.cy.ext he,h.cz.ext he,h.m.ext he,h.e.trans he,h.gs⟩
theorem yJ.dh(h:yJ M w g l r y z wr)(hs:af r r'):yJ M w g l r' y z wr:=
 ⟨h.p,h.q,h.b,h.cy,CR.dh h.cz hs,h.m,h.e,h.gs⟩
theorem qs6{f:Nat->Value}{z:PE}:∀i,i<4->zU f 0 (.int .i64 z.lv) (.bool z.b) (.slice z.a z.n z.p) (.slice z.ka z.kn z.kp) i=arr (ak z) i:=by
 intro i hi
 have:i=0\/i=1\/i=2\/i=3:=by omega
 rcases this with rfl|rfl|rfl|rfl
 ·exact F4 _ 0 _ _ _ _
 ·exact F5 _ 0 _ _ _ _
 ·exact F6 _ 0 _ _ _ _
 ·exact F7 _ 0 _ _ _ _
theorem P4.of_heap{b:Nat}{x:PE}(h:P4 wr b x)(he:w'.heap[b]?=wr.heap[b]?):P4 w' b x:=by
 have hc:=λo=>World.cell?_of_block (w:=wr) (w':=w') (a:=⟨b,o,none⟩) he;obtain⟨p0,p1,p2,p3⟩:=h;exact⟨(hc 0).trans p0,(hc 1).trans p1,(hc 2).trans p2,(hc 3).trans p3⟩
theorem yJ.put(h:yJ M w g l r y z wr)(hz:aN (JX M w.heap.size g) wr 4 z' r'):yJ M w g l r' y z' (aM wr g 0 (.int .i64 z'.lv) (.bool z'.b) (.slice z'.a z'.n z'.p) (.slice z'.ka z'.kn z'.kp)):=by
 have zn:=h.gs;have hM:JX M w.heap.size g g:=Mx.at ⟨aI _,Nat.lt_succ_self _⟩;have hk:Kp (JX M w.heap.size g) wr (aM wr g 0 (.int .i64 z'.lv) (.bool z'.b) (.slice z'.a z'.n z'.p) (.slice z'.ka z'.kn z'.kp)):=Kp.aM hM 0 _ _ _ _;have h1:=iI wr g 0 (.int .i64 z'.lv) (.bool z'.b) (.slice z'.a z'.n z'.p) (.slice z'.ka z'.kn z'.kp) w.heap.size (by omega);have h2:=iI wr g 0 (.int .i64 z'.lv) (.bool z'.b) (.slice z'.a z'.n z'.p) (.slice z'.ka z'.kn z'.kp) (w.heap.size+1) (by omega);have h3:=h.b.aM 0 (.int .i64 z'.lv) (.bool z'.b) (.slice z'.a z'.n z'.p) (.slice z'.ka z'.kn z'.kp);have h4:=h3.congr (f':=arr (ak z')) (λi hi=>qs6 i hi);have h5:=h.e.aM (g:=g) (by omega) 0 (.int .i64 z'.lv) (.bool z'.b) (.slice z'.a z'.n z'.p) (.slice z'.ka z'.kn z'.kp);have h6:=h.cy.kp hk;have h7:=hz.kp hk;have h8:=h.m.size hk.1;generalize aM wr g 0 (.int .i64 z'.lv) (.bool z'.b) (.slice z'.a z'.n z'.p) (.slice z'.ka z'.kn z'.kp)=W at*;exact⟨h.p.of_heap h1,h.q.of_heap h2,h4,h6,h7,h8,h5,zn⟩
end
theorem qeE(M:Nat->Prop)(x:PE)(l:List Tm)(B:Nat)(n:Int)(w:World)(hM:Mb M w)(h:PI M w x l)(hn:n<=1000000)(hL:n.toNat*aH (aK l)+2<=1099511627776)(hB:bH B l)(oH:(n.toNat*B+1)*(n.toNat*B+1)<=1099511627776):
 Calls Tryz.prog 53 #[.agg (ak x),.int .i64 n] w (dO M w 4 (bO l n.toNat)):=by
 obtain⟨hE,hP,hQ,fu⟩:=Kb hM x;have kM:aG _ w.heap.size 33 4 (arr (ak x)):=(aG.bq w (ak x) 33 4 rfl).alloc (.cells zA 33);have h2:=(h.more (M':=Mx M w.heap.size (w.heap.size+2)) (Mx.more (aI _))).ext hE;have HI:=ae h2;have nZ:=ae hB;have HL:=ae hL;have qg:=ae oH;obtain⟨x0,x1,x2,x3⟩:=hP;clear h h2 hB hL oH
 go_enter Tryz.func53,Tryz.ntmps53
 go_wp2_with (fail);refine(yj _ x l _ fu HI.out).mono ?_;rintro e w1 ⟨y,rfl,hy,az⟩;have iN:=hE.trans az;have dm:=kM.ext az;have hQ1:=hQ.ext az;obtain⟨⟨q0,q1,q2,q3⟩,⟨f0,f1,f2,f3⟩,⟨r0,r1,r2,r3⟩,hk,hf⟩:=AR (M':=Mx M w.heap.size (w.heap.size+2)) (w:=w) (.int .i64 y.lv) (.bool y.b) (.slice y.a y.n y.p) (.slice y.ka y.kn y.kp) dm (Mx.at (by omega)) (aI _) iN;have vH:P4 (aM w1 w.heap.size 0 (.int .i64 y.lv) (.bool y.b) (.slice y.a y.n y.p) (.slice y.ka y.kn y.kp)) w.heap.size y:=⟨r0,r1,r2,r3⟩;have Fg:=hQ1.of_heap (iI w1 w.heap.size 0 (.int .i64 y.lv) (.bool y.b) (.slice y.a y.n y.p) (.slice y.ka y.kn y.kp) (w.heap.size+1) (by omega));have hY1:=hy.kp hk;have pU:Mb (Mx M w.heap.size (w.heap.size+2)) (aM w1 w.heap.size 0 (.int .i64 y.lv) (.bool y.b) (.slice y.a y.n y.p) (.slice y.ka y.kn y.kp)):=(fu.ext az).size hk.1;have DW:=dm.lt;clear q0 q1 q2 q3;obtain⟨q0,q1,q2,q3⟩:=dm.p4;generalize hW:aM w1 w.heap.size 0 (.int .i64 y.lv) (.bool y.b) (.slice y.a y.n y.p) (.slice y.ka y.kn y.kp)=W at vH hf Fg hY1 pU;unfold aM at hW;have HW:=ae hW;have yu:=ae hf;have HM:=ae pU;have HQ:=ae Fg;have HP:=ae vH;have HY:=ae hY1;clear kM hQ fu az hE dm hQ1 hy HI hk hf pU Fg vH hY1 iN hW r0 r1 r2 r3 x0 x1 x2 x3
 go_upto_region 2 with(fail)
 rw[HW.out];clear q0 q1 q2 q3 f0 f1 f2 f3 DW HW;go_wp2_with (fail);refine(IQ 1 W HM.out (by omega) (by omega)).mono ?_;rintro e w2 ⟨d0,d1,rfl,hc,aJ⟩;obtain⟨b2,a2,n2,p2,rfl,rfl⟩:=hc.form;go_wp2_with (fail);refine(OQ _ b2 a2 n2 p2 1 w2 (HM.out.ext aJ) hc.fB).mono ?_;rintro e w3 ⟨c,rfl,gW,bg⟩;have bB:Ext w3 (w3.alloc (.cells #[.int .i64 c.lv,.bool c.b,.slice c.a c.n c.p,.slice c.ka c.kn c.kp] 33)):=(aA w3).alloc _;have kL:=aG.bq w3 (ak c) 33 4 rfl;have fI:=(aJ.trans bg).trans bB;have R5:=(yu.out.trans (aJ.trans bg)).size;have zn:w.heap.size+2<=w3.heap.size:=aR (by have:=HQ.out.lt;omega) (aJ.trans bg).size;have xW:∀g,JX M w.heap.size w3.heap.size g->Mx M w.heap.size (w.heap.size+2) g\/w3.heap.size<=g:=Mx.more (aI _)
 have hPS:yJ M w w3.heap.size l (bO l 0) y c (w3.alloc (.cells #[.int .i64 c.lv,.bool c.b,.slice c.a c.n c.p,.slice c.ka c.kn c.kp] 33)):=
  ⟨HP.out.ext fI,HQ.out.ext fI,kL,(((HY.out.ext (aJ.trans bg)).more xW).ext bB),((gW.more xW).ext bB).up (by omega),Mx.mb (HM.out.ext (aJ.trans bg)) (by simp) (by simp),yu.out.trans fI,zn⟩
 generalize gG:w3.alloc (.cells #[.int .i64 c.lv,.bool c.b,.slice c.a c.n c.p,.slice c.ka c.kn c.kp] 33)=W4 at hPS;have CV:=ae gG;have q9:=ae hPS;clear aJ bg bB hc gW kL fI R5 xW hPS gG HY HQ HP HM yu
 go_upto_region 3 with(fail)
 rw[CV.out]
 by_cases jg:n<=0
 ·have hnt:n.toNat=0:=by omega
  rw[hnt];obtain⟨z0,z1,z2,z3⟩:=q9.out.b.p4;have fA:=q9.out.b.lt;go_wp2;refine wp_loop_rounds 1 ?_;rw[rounds_succ];go_wp2;refine wp_loop_rounds 1 ?_;rw[rounds_succ];go_wp2_with (fail);refine(Je _ 4 c (bO l 0) _ q9.out.m q9.out.cz).mono ?_;rintro e w5 ⟨v,rfl,hv,bn⟩;obtain⟨⟨q0,q1,q2,q3⟩,⟨f0,f1,f2,f3⟩,⟨r0,r1,r2,r3⟩,HF⟩:=iF (M:=M) (w:=w) (q9.out.q.ext bn) (.inl (Mx.at (by omega))) (by omega) (q9.out.e.trans bn) hv (λg hg=>.inl (.inl hg));clear bn hv z0 z1 z2 z3 fA;go_wp2;exact bu (v:=.agg (ak v)) (by simp[results,Tryz.results53,go_sem,r0,r1,r2,r3]) rfl (by rw[hnt];exact HF.out)
 ·obtain⟨N,rfl⟩:∃N:Nat,n=N:=⟨n.toNat,by omega⟩;rw[Int.toNat_natCast]at*
  have Wq:0<N:=by omega
  have Kw:N<=1000000:=by omega
  clear jg hn;go_wp2
  go_loopw [6] (λi wr=>∃b:Nat,Pw b/\b<=N/\i=.int .i64 b/\Ext W4 wr) (λi _=>2000000-(intOf i).toNat)
  case atStart=>exact⟨1,qAA,Wq,rfl,aA _⟩
  case round=>
   obtain⟨b,hb,Wx,rfl,dL⟩:=hrel
   by_cases hle:b<=N/2
   ·go_wp2
    go_roundw
    case rel=>exact⟨b*2,qAB hb,by omega,by go_num,dL⟩
    case measure=>have:=qpI hb;simp[intOf];omega
   ·have hNb:N/(b*2)=0:=Nat.div_eq_of_lt (by omega);have JI:Hid (Pw b):=hb;clear hb;have Ct:=ae (q9.out.ext dL);clear dL;go_wp2
    go_loopw [7] (λi wr=>∃(b e:Nat)(z:PE),((b=0/\e=N)\/(Pw b/\b<=N/\e=N/(b*2)))/\i=.int .i64 b/\yJ M w w3.heap.size l (bO l e) y z wr) (λi _=>(intOf i).toNat)
    case atStart=>exact⟨b,0,c,.inr ⟨JI.out,Wx,hNb.symm⟩,rfl,Ct.out⟩
    case round=>
     obtain⟨b,e,z,hbe,rfl,hS⟩:=hrel;have HS:=ae hS;obtain⟨z0,z1,z2,z3⟩:=hS.b.p4;have fA:=hS.b.lt;clear hS JI Ct q9 hNb hle Wx;rcases hbe with⟨ll,heN⟩|⟨hb,Wx,he⟩
     ·subst ll;subst heN;go_wp2_with (fail);refine(Je _ 4 z (bO l e) _ HS.out.m HS.out.cz).mono ?_;rintro e_ w5 ⟨v,rfl,hv,bn⟩;obtain⟨⟨q0,q1,q2,q3⟩,⟨f0,f1,f2,f3⟩,⟨r0,r1,r2,r3⟩,HF⟩:=iF (M:=M) (w:=w) (HS.out.q.ext bn) (.inl (Mx.at (by omega))) (by omega) (HS.out.e.trans bn) hv (λg hg=>.inl (.inl hg));clear bn hv z0 z1 z2 z3 fA;go_wp2;exact bu (v:=.agg (ak v)) (by simp[results,Tryz.results53,go_sem,r0,r1,r2,r3]) rfl HF.out
     ·have hbp:=qpI hb;have jG:=qAo N b hbp;rw[<-he]at jG;have qDC:N/b<=N:=Nat.div_le_self _ _
      have KI:e+e<=N:=by omega
      have JI:=ae hb;have qA:=ae jG;have nny:=HS.out.cy.nn;have HD:Hid (∀a,bH (a*B) (bO l a)):=λa=>VN nZ.out nny a
      have HLe:Hid (∀a b,a+b<=N->aH (aK (bO l a))+aH (aK (bO l b))<=1099511627776):=λa b Hu=>by
       have h1:=qby l a;have h2:=qby l b;have h3:=eB (aH (aK l)) Hu;rw[Nat.add_mul]at h3;have:=HL.out;omega
      have HBe:Hid (∀a b,a+b<=N->(a*B+1)*(b*B+1)<=1099511627776):=λa b Hu=>aR (Nat.mul_le_mul (Nat.add_le_add_right (eB B (by omega)) 1) (Nat.add_le_add_right (eB B (by omega)) 1)) qg.out;clear hb jG nny;go_wp2_with (fail);refine(Yo _ 4 z z (bO l e) (bO l e) (e*B) (e*B) _ HS.out.m HS.out.cz HS.out.cz (HLe.out e e KI) (HD.out e) (HD.out e) (HBe.out e e KI)).mono ?_;rintro e_ w5 ⟨v,rfl,hv,bn⟩;have jm:=((HS.out.ext bn).put hv).dh (qpr l e e);clear z0 z1 z2 z3;obtain⟨z0,z1,z2,z3⟩:=(HS.out.b.ext bn).p4;have g0:=(HS.out.b.ext bn).frozen 0;have g1:=(HS.out.b.ext bn).frozen 1;have g2:=(HS.out.b.ext bn).frozen 2;have g3:=(HS.out.b.ext bn).frozen 3;have qwN:=(HS.out.b.ext bn).lt;generalize mf:aM w5 w3.heap.size 0 (.int .i64 v.lv) (.bool v.b) (.slice v.a v.n v.p) (.slice v.ka v.kn v.kp)=W5 at jm;unfold aM at mf;have uj:=ae mf;have iG:=ae jm;clear mf jm hv bn HS
      go_upto_region 10 with(fail)
      rw[uj.out];clear z0 z1 z2 z3 g0 g1 g2 g3 qwN fA;obtain⟨z0,z1,z2,z3⟩:=iG.out.b.p4;obtain⟨y0,y1,y2,y3⟩:=iG.out.p;have fA:=iG.out.b.lt;have uF:=oF _ _ y0
      by_cases Wy:N/b%2=0
      ·have hz:(bits .and .i64 (N:Int) (b:Int)==0)=true:=by rw[beq_iff_eq];exact(qiN N b (by omega) (by omega) JI.out).2 Wy
       clear z0 z1 z2 z3 y0 y1 y2 y3;go_wp2
       go_roundw
       case rel=>
        refine⟨b/2,e+e,v,?_,by go_num,iG.out⟩;rcases qpH JI.out with h1|⟨h1,h2⟩
        ·exact .inl ⟨by omega,by have:=qA.out;rw[h1]at this Wy;omega⟩
        ·exact .inr ⟨h1,by omega,by rw[<-h2];have:=qA.out;omega⟩
       case measure=>simp[intOf];omega
      ·have hz:(bits .and .i64 (N:Int) (b:Int)==0)=false:=by rw[beq_eq_false_iff_ne];exactλh=>Wy ((qiN N b (by omega) (by omega) JI.out).1 h)
       have az:e+e+1<=N:=by have:=qA.out;omega
       have JG:Hid (aH (aK (bO l (e+e)))+aH (aK l)<=1099511627776):=by
        show _<=_;have h1:=qby l (e+e);have h3:=eB (aH (aK l)) az;rw[Nat.add_mul,Nat.one_mul]at h3;have:=HL.out;omega
       have dF:Hid (((e+e)*B+1)*(B+1)<=1099511627776):=by
        have h:=HBe.out (e+e) 1 az
        rwa[Nat.one_mul]at h
       go_wp2_with (fail);refine(Yo _ 4 v y (bO l (e+e)) l ((e+e)*B) B _ iG.out.m iG.out.cz iG.out.cy JG.out (HD.out _) nZ.out dF.out).mono ?_;rintro e_ w6 ⟨u,rfl,hu,fO⟩;have hS6:yJ M w w3.heap.size l (bO l (e+e+1)) y u _:=(iG.out.ext fO).put hu;clear z0 z1 z2 z3 y0 y1 y2 y3;obtain⟨z0,z1,z2,z3⟩:=(iG.out.b.ext fO).p4;have g0:=(iG.out.b.ext fO).frozen 0;have g1:=(iG.out.b.ext fO).frozen 1;have g2:=(iG.out.b.ext fO).frozen 2;have g3:=(iG.out.b.ext fO).frozen 3;have qwO:=(iG.out.b.ext fO).lt;generalize gV:aM w6 w3.heap.size 0 (.int .i64 u.lv) (.bool u.b) (.slice u.a u.n u.p) (.slice u.ka u.kn u.kp)=W6 at hS6;unfold aM at gV;have oZ:=ae gV;have qz:=ae hS6;clear gV hS6 hu fO iG uF fA
       go_upto_region 8 with(fail)
       rw[oZ.out];clear z0 z1 z2 z3 g0 g1 g2 g3 qwO;go_wp2
       go_roundw
       case rel=>
        refine⟨b/2,e+e+1,u,?_,by go_num,qz.out⟩;rcases qpH JI.out with h1|⟨h1,h2⟩
        ·exact .inl ⟨by omega,by have:=qA.out;rw[h1]at this Wy;omega⟩
        ·exact .inr ⟨h1,by omega,by rw[<-h2];have:=qA.out;omega⟩
       case measure=>simp[intOf];omega
structure SPw(l:List Tm)(K B e:Nat)(r:List Tm):Prop where
 s:af r (bO l e)
 n:aK r<=aK (bO l e)
 c:Canon r
 len:r.length<=K^e
 ex:∀t∈r,∀k,t.2.get k<=(e*B:Nat)
theorem SPw.zero(l:List Tm)(K B:Nat):SPw l K B 0 (qtO 1):=
 ⟨af.refl _,aI _,⟨List.pairwise_singleton ..,λt ht=>by rw[List.mem_singleton.1 ht];exact⟨by decide,by decide⟩⟩,aI _,λt ht k=>by rw[List.mem_singleton.1 ht];simp[uw]⟩
end Go.Proofs.YtmcfpnmoklnhoaaGreat
namespace Go.Proofs.YtmcfpnmoklnhoaaGreat
open Go.ChangeShapes Go.WideShapes Go.ChangeAt Go.RowKit Go.Deep
section
variable{H:Type}{enc:TypeId × Value->H}{W:World}
def qie(W:World)(a:Option Addr)(n c:Nat):Prop:=n<=9223372036854775807/\(n<=1099511627776->∃d,eu M0 W (.slice a n c) n d)
end
namespace recpolyPower
end recpolyPower
end Go.Proofs.YtmcfpnmoklnhoaaGreat
