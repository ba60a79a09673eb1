/- Wa -/
import Derived.Test.YtmcfpnmoklnhoaaGreatEc
import Derived.Test.YtmcfpnmoklnhoaaGreatAb
import Derived.Test.YtmcfpnmoklnhoaaGreatMv
import Derived.Test.YtmcfpnmoklnhoaaGreatNr
import Derived.Test.YtmcfpnmoklnhoaaGreatQc
import Derived.Test.YtmcfpnmoklnhoaaGreatEe
import Derived.Test.YtmcfpnmoklnhoaaGreatBj
import Derived.Test.YtmcfpnmoklnhoaaGreatDa
set_option linter.unusedVariables false
set_option maxRecDepth 100000
set_option maxHeartbeats 400000000
set_option linter.unusedSimpArgs false
namespace Go.Proofs.YtmcfpnmoklnhoaaGreat
def cst(z:Int):List Tm:=[(z,Mo.zero)]
theorem GY:af (cst 0) []:=Yu
theorem GX(a b:Int):af (aF (cst a) (cst b)) (cst (a*b)):=λm=>by
 simp[aF,cst,smul,shift,aL,Mo.add,Mo.zero]
theorem qtQ(a b:Int):af (cst a++cst b) (cst (a+b)):=λm=>by
 simp only[cst,List.cons_append,List.nil_append,aL]
 split<;>omega
theorem qtT(a b:Int):af (cst a++dN (cst b)) (cst (a-b)):=by
 have h:=(af.refl (cst a)).append (GX b (-1));rw[Int.mul_neg,Int.mul_one]at h;exact h.trans (qtQ a (-b))
def zS(k:Nat)(c top:Int)(G R:Nat->Int)(j i:Nat):Int:=if i<j then(if k<=i then R i*c-top*G (i-k)else R i*c)else R i
def zR(n V:Nat)(G R0:Nat->Int):Nat->Nat->Int
 |0=>R0
 |t+1=>zS (V-1-t) (G n) (zR n V G R0 t (n+(V-1-t))) G (zR n V G R0 t) (n+(V-1-t))
def YO(n V:Nat)(G R0:Nat->Int)(i:Nat):Int:=zR n V G R0 (V-1-i) (n+i)
theorem qz8{k j:Nat}{c top:Int}{G R:Nat->Int}{c' qqH:List Tm}{G' R':Nat->List Tm}(hc:af c' (cst c))(ht:af qqH (cst top))(hG:∀i,af (G' i) (cst (G i)))(hR:∀i,af (R' i) (cst (R i)))(i:Nat):
 af (pF k c' qqH G' R' j i) (cst (zS k c top G R j i)):=by
 unfold pF zS
 split
 ·have h1:=((hR i).aF hc).trans (GX _ _)
  split
  ·exact(h1.append (((ht.aF (hG _)).trans (GX _ _)).oC _)).trans (qtT _ _)
  ·exact h1
 ·exact hR i
theorem qep{n V:Nat}{G R0:Nat->Int}{G' R0':Nat->List Tm}(hG:∀i,af (G' i) (cst (G i)))(hR:∀i,af (R0' i) (cst (R0 i))):∀t i,af (iE n V G' R0' t i) (cst (zR n V G R0 t i))
 |0=>hR
 |t+1=>λi=>qz8 (hG n) (qep hG hR t _) hG (qep hG hR t) i
theorem qyX(D:Nat)(z:Int):eH D (cst z):=(XQ z).mono (bK _)
theorem EU{D:Nat}(hD:D+1<=4)(n:Nat)(z:Nat->Int)(i:Nat):af (gL (D+1) (aU (D+1) n z) i) (cst (if i<n then z i else 0)):=by
 refine(vg hD (λi _=>qyX D (z i)) i).trans ?_
 split
 ·exact af.refl _
 ·exact GY.symm
def aP(n:Nat)(z:Nat->Int)(i:Nat):Int:=if i<n then z i else 0
theorem qAJ{D:Nat}(hD:D+1<=4)(n V m k:Nat)(f g:Nat->Int):
 af (lQ (D+1) n V (aU (D+1) m f) (aU (D+1) k g)) (aU (D+1) n (zR n V (aP k g) (aP m f) V)):=
 tT _ _ _ _ λi _=>qep (EU hD k g) (EU hD m f) V i
theorem quz{a:Int}{A:Nat}(h:aH a.natAbs<=A):aH (-a).natAbs<=A:=by rw[Int.natAbs_neg];exact h
theorem qC2{k j D A:Nat}{c top:Int}{G R:Nat->Int}(hc:aH c.natAbs<=D)(ht:aH top.natAbs<=A)(hG:∀i,aH (G i).natAbs<=D)(hR:∀i,aH (R i).natAbs<=A)(i:Nat):aH (zS k c top G R j i).natAbs<=A+(D+1):=by
 unfold zS
 have h1:aH (R i*c).natAbs<=A+D:=by
  rw[Int.natAbs_mul];have:=pQ (R i).natAbs c.natAbs;have:=hR i;omega
 split
 ·split
  ·have h2:aH (top*G (i-k)).natAbs<=A+D:=by
    rw[Int.natAbs_mul];have:=pQ top.natAbs (G (i-k)).natAbs;have:=hG (i-k);omega
   have h3:=qjo (R i*c) (-(top*G (i-k)));have h4:=quz h2;rw[<-Int.sub_eq_add_neg]at h3;omega
  ·omega
 ·have:=hR i;omega
theorem qfh{n V D A:Nat}{G R0:Nat->Int}(hG:∀i,aH (G i).natAbs<=D)(hR:∀i,aH (R0 i).natAbs<=A):∀t i,aH (zR n V G R0 t i).natAbs<=A+t*(D+1)
 |0=>λi=>by rw[Nat.zero_mul];exact hR i
 |t+1=>λi=>by
  have:=qC2 (k:=V-1-t) (j:=n+(V-1-t)) (hG n) (qfh (n:=n) (V:=V) hG hR t (n+(V-1-t))) hG (qfh (n:=n) (V:=V) hG hR t) i;rw[Nat.succ_mul];unfold zR;omega
def zQ(n V:Nat)(G R0:Nat->Int)(t j:Nat):Int:=if V-t<=j/\j<V then YO n V G R0 j*G n^(j-(V-t))else 0
theorem qCZ(n V:Nat)(G R0:Nat->Int)(j:Nat):zQ n V G R0 0 j=0:=ah (by omega)
theorem qCY{n V t:Nat}(G R0:Nat->Int)(ht:t<V){j:Nat}(hj:j<V):
 zQ n V G R0 (t+1) j=if V-1-t<j then zQ n V G R0 t j*G n else if j=V-1-t then zR n V G R0 t (n+(V-1-t))else zQ n V G R0 t j:=by
 unfold zQ;rcases Nat.lt_trichotomy j (V-1-t)with h|h|h
 ·rw[ah (by omega),ah (by omega),ah (by omega),ah (by omega)]
 ·rw[ai (by omega),ah (by omega),ai h,h,show V-1-t-(V-(t+1))=0 by omega,Int.pow_zero,Int.mul_one];unfold YO;rw[show V-1-(V-1-t)=t by omega]
 ·rw[ai (by omega),ai h,ai (by omega),show j-(V-(t+1))=(j-(V-t))+1 by omega,Int.pow_succ,Int.mul_assoc]
def zC(q g:Nat->Int):Nat->Nat->Int
 |0,_=>0
 |V+1,i=>zC q g V i+(if V<=i then q V*g (i-V)else 0)
def zE(V:Nat)(f g q:Nat->Int):Nat->Nat->Int
 |0,i=>f i
 |t+1,i=>zE V f g q t i-(if V-1-t<=i then q (V-1-t)*g (i-(V-1-t))else 0)
theorem qq9{V:Nat}{f g q:Nat->Int}:∀t i,t<=V->zE V f g q t i=f i-(zC q g V i-zC q g (V-t) i)
 |0,i,_=>by simp[zE]
 |t+1,i,ht=>by
  unfold zE;rw[qq9 t i (by omega),show V-t=(V-1-t)+1 by omega,show V-(t+1)=V-1-t by omega];simp only[zC];omega
theorem qff{q q' g:Nat->Int}{i:Nat}:∀V,(∀k,k<V->q k=q' k)->zC q g V i=zC q' g V i
 |0,_=>rfl
 |V+1,h=>by
  simp only[zC];rw[qff V λk hk=>h k (by omega),h V (by omega)]
theorem qfg{q g:Nat->Int}{n:Nat}(hg:∀i,n<i->g i=0):∀V i,n+V<=i->zC q g V i=0
 |0,_,_=>rfl
 |V+1,i,h=>by
  simp only[zC];rw[qfg hg V i (by omega),hg (i-V) (by omega)];simp
theorem qF6{V n t:Nat}{f g q:Nat->Int}(hg:∀i,n<i->g i=0)(hf:∀i,f i=zC q g V i)(ht:t<V):zE V f g q t (V-1-t+n)=q (V-1-t)*g n:=by
 rw[qq9 t _ (by omega),hf,show V-t=(V-1-t)+1 by omega];simp only[zC];rw[qfg hg (V-1-t) _ (by omega),ai (by omega),Nat.add_sub_cancel_left];omega
theorem Lp(t:Int){a b:Nat->Int}:∀n,(∀i,i<n->a i=b i)->gZ t a n=gZ t b n
 |0,_=>rfl
 |n+1,h=>by
  show gZ t a n+a n*t^n=gZ t b n+b n*t^n;rw[Lp t n λi hi=>h i (by omega),h n (by omega)]
theorem Yh(t:Int):∀n,gZ t (λ_=>0) n=0
 |0=>rfl
 |n+1=>by
  show gZ t (λ_=>0) n+0*t^n=0;rw[Yh t n];simp
theorem Yg(t:Int)(F:Nat->Int)(V:Nat):∀k,gZ t F (V+k)=gZ t F V+t^V*gZ t (λi=>F (V+i)) k
 |0=>by
  show gZ t F V=gZ t F V+t^V*0;simp
 |k+1=>by
  show gZ t F (V+k)+F (V+k)*t^(V+k)=gZ t F V+t^V*(gZ t (λi=>F (V+i)) k+F (V+k)*t^k);rw[Yg t F V k,Int.pow_add,Int.mul_add,Int.mul_left_comm (t^V) (F (V+k)) (t^k)];omega
theorem mO(z:Int):NN (cst z):=λm hm=>by
 show aL [(z,Mo.zero)] m=0;unfold aL aL
 by_cases e:Mo.zero=m
 ·subst e;exact absurd hm (by decide)
 ·rw[ah e];rfl
theorem kE(L n:Nat)(z:Nat->Int):NN (aU L n z):=NN.aQ λi _=>mO (z i)
theorem qvd(x:Nat->Int){L:Nat}(h1:1<=L)(h4:L<=4)(n:Nat)(z:Nat->Int):ev x (aU L n z)=gZ (x (L-1)) z n:=
 (qjQ x L n _ h1 h4 λi _=>mO (z i)).trans (Lp _ _ λi _=>nK x (z i))
def zK(g:Nat->Int)(r:List Tm)(L:Nat)(m:Mo):Nat->Int
 |0=>0
 |k+1=>zK g r L m k+g k*aL r (Mo.sub m (xp L (k:Int)))
theorem qi0(L:Nat)(g:Nat->Int)(r:List Tm)(m:Mo):∀k,aL (aF (aU L k g) r) m=zK g r L m k
 |0=>rfl
 |k+1=>by
  unfold aU;rw[gT,Eg,iZ];have h:=qi0 L g r m k;unfold aU at h;rw[h];show _+aL (aF [(g k,Mo.add Mo.zero (xp L (k:Int)))] r) m=_
  have e:Mo.add Mo.zero (xp L (k:Int))=xp L (k:Int):=by simp[Mo.add,Mo.zero]
  rw[e];show _+aL (shift (xp L (k:Int)) (smul (g k) r)++[]) m=_;rw[List.append_nil,rP,iM];rfl
theorem qBN(L:Nat)(i j:Int):Mo.sub (xp L i) (xp L j)=xp L (i-j):=by
 simp only[Mo.sub,xp,Mo.mk.injEq];refine⟨?_,?_,?_,?_⟩<;>split<;>omega
theorem qzy{L:Nat}(h1:1<=L)(h4:L<=4){i:Int}(hi:i<0):(xp L i).nn=false:=by
 rcases Ow h1 h4 with rfl|rfl|rfl|rfl<;>simp[Mo.nn,xp]<;>omega
theorem qra{L:Nat}(h1:1<=L)(h4:L<=4)(g:Nat->Int){r:List Tm}(hr:NN r)(i:Nat):∀k,zK g r L (xp L (i:Int)) k=zC g (λj=>aL r (xp L (j:Int))) k i
 |0=>rfl
 |k+1=>by
  show zK g r L _ k+g k*aL r (Mo.sub (xp L (i:Int)) (xp L (k:Int)))=zC g _ k i+(if k<=i then g k*aL r (xp L ((i-k:Nat):Int))else 0);rw[qra h1 h4 g hr i k,qBN]
  split
  ·rename_i h;rw[show((i:Int)-(k:Int))=((i-k:Nat):Int) by omega]
  ·rename_i h;rw[hr _ (qzy h1 h4 (i:=(i:Int)-(k:Int)) (by omega))];simp
theorem qq7(f:Nat->Int)(i:Nat):∀m,zC f (λj=>if j=0 then 1 else 0) m i=aP m f i
 |0=>rfl
 |m+1=>by
  show zC f _ m i+(if m<=i then f m*(if i-m=0 then 1 else 0)else 0)=_;rw[qq7 f i m];unfold aP;rcases Nat.lt_trichotomy i m with h|h|h
  ·rw[ai h,ah (by omega),ai (by omega),Int.add_zero]
  ·subst h;rw[ah (by omega),ai (by omega),ai (by omega),ai (by omega),Int.zero_add,Int.mul_one]
  ·rw[ah (by omega),ai (by omega),ah (by omega),ah (by omega),Int.mul_zero,Int.add_zero]
theorem qtJ{L:Nat}(h1:1<=L)(h4:L<=4)(j:Nat):aL [((1:Int),Mo.zero)] (xp L (j:Int))=if j=0 then 1 else 0:=by
 have e:(Mo.zero=xp L (j:Int))↔j=0:=by
  rcases Ow h1 h4 with rfl|rfl|rfl|rfl<;>simp[Mo.zero,xp]<;>omega
 unfold aL aL;simp only[e]
 split<;>rfl
theorem EY{L:Nat}(h1:1<=L)(h4:L<=4)(m:Nat)(f:Nat->Int)(i:Nat):aL (aU L m f) (xp L (i:Int))=aP m f i:=by
 rw[<-OJ (aU L m f) (xp L (i:Int)),qi0,qra h1 h4 f (r:=[((1:Int),Mo.zero)]) (mO 1), <-qq7 f i m]
 congr 1
 funext j
 exact qtJ h1 h4 j
section
variable{L:Nat}(h1:1<=L)(h4:L<=4){f g:Nat->Int}{m k n:Nat}
include h1 h4
theorem zV(hg:aP k g n≠0):¬af (aU L k g) []:=λh=>hg (by rw[<-EY h1 h4 k g n,h];rfl)
theorem qjm(hg:aP k g n≠0)(hn:∀i,n<i->aP k g i=0):bE L (aU L k g) n:=by
 refine⟨λm hm=>?_,.inr ⟨xp L (n:Int),by rw[EY h1 h4];exact hg,by rw[eQ L L _ h1 h4,ai rfl]⟩⟩;obtain⟨t,ht,e⟩:∃t∈aU L k g,t.2=m:=eF λgW=>hm (rQ λt ht e=>gW ⟨t,ht,e⟩);unfold aU aQ at ht;obtain⟨i,hi,ht⟩:=List.mem_flatMap.1 ht;unfold shift at ht;obtain⟨s,hs,rfl⟩:=List.mem_map.1 ht;rw[List.mem_singleton.1 hs]at e
 have e2:m=xp L (i:Int):=by rw[<-e];simp[Mo.add,Mo.zero]
 rw[e2,EY h1 h4]at hm;rw[e2,eQ L L _ h1 h4,ai rfl];have:¬n<i:=λh=>hm (hn i h);omega
end
end Go.Proofs.YtmcfpnmoklnhoaaGreat
namespace Go.Proofs.YtmcfpnmoklnhoaaGreat
open Go.RowKit
def JC(w:World)(b o:Nat)(x:IE):Prop:=w.cell? ⟨b,o,none⟩=some (.bool x.b)/\w.cell? ⟨b,o+1,none⟩=some (.slice x.a x.n x.p)
theorem JC.of_heap{w w':World}{b o:Nat}{x:IE}(h:JC w b o x)(he:w'.heap[b]?=w.heap[b]?):JC w' b o x:=by
 have hc:=λo=>World.cell?_of_block (w:=w) (w':=w') (a:=⟨b,o,none⟩) he;exact⟨(hc _).trans h.1,(hc _).trans h.2⟩
theorem JC.ext{w w':World}{b o:Nat}{x:IE}(h:JC w b o x)(hb:b<w.heap.size)(he:Ext w w'):JC w' b o x:=h.of_heap (he.heap hb)
theorem JC.lt{w:World}{b o:Nat}{x:IE}(h:JC w b o x):b<w.heap.size:=oF _ _ h.1
def IX(M:Nat->Prop)(w:World)(x:IE)(z:Int):Prop:=dQ M w (.bool x.b) (.slice x.a x.n x.p) z
theorem IX.ext{M:Nat->Prop}{w w':World}{x:IE}{z:Int}(h:IX M w x z)(he:Ext w w'):IX M w' x z:=dQ.ext h he
theorem IX.kp{M:Nat->Prop}{w w':World}{x:IE}{z:Int}(h:IX M w x z)(he:Kp M w w'):IX M w' x z:=dQ.kp h he
theorem IX.more{M M':Nat->Prop}{w:World}{x:IE}{z:Int}(h:IX M w x z)(hm:∀g,M' g->M g\/w.heap.size<=g):IX M' w x z:=dQ.more h hm
def lg(M:Nat->Prop)(w:World)(z:Int)(e:Ending)(w':World):Prop:=∃x:IE,e=.returned (.agg #[.bool x.b,.slice x.a x.n x.p])/\IX M w' x z/\Ext w w'
theorem lg.of{M:Nat->Prop}{w:World}{z:Int}{e:Ending}{w':World}(h:∃e0 e1,e=.returned (.agg #[e0,e1])/\ek M w' e0 e1 z/\Ext w w'):lg M w z e w':=by
 obtain⟨e0,e1,rfl,hc,he⟩:=h;obtain⟨b,a,n,p,rfl,rfl⟩:=hc.form;exact⟨⟨b,a,n,p⟩,rfl,hc.fB,he⟩
theorem La{M:Nat->Prop}(x y:IE)(p q:Int)(w:World)(hM:Mb M w)(h:IX M w x p)(k:IX M w y q)(hL:aH p.natAbs+aH q.natAbs<=1099511627776):
 Calls Tryz.prog 65 #[.agg #[.bool x.b,.slice x.a x.n x.p],.agg #[.bool y.b,.slice y.a y.n y.p]] w (lg M w (p*q)):=(qnR _ _ _ _ p q w hM h k hL).mono λ_ _ h=>.of h
theorem qiB{M:Nat->Prop}(x y:IE)(p q:Int)(w:World)(hM:Mb M w)(h:IX M w x p)(k:IX M w y q)(hL:aH p.natAbs+aH q.natAbs+1<=1099511627776):
 Calls Tryz.prog 124 #[.agg #[.bool x.b,.slice x.a x.n x.p],.agg #[.bool y.b,.slice y.a y.n y.p]] w (lg M w (p+q)):=
 (qdW _ _ _ _ p q w hM h k (aR (Nl _ _) (by omega))).mono λ_ _ h=>.of h
theorem qzz{M:Nat->Prop}(x:IE)(p:Int)(w:World)(hM:Mb M w)(h:IX M w x p):
 Calls Tryz.prog 101 #[.agg #[.bool x.b,.slice x.a x.n x.p]] w (lg M w p):=(Ou _ _ p w hM h).mono λ_ _ h=>.of h
theorem qBJ{M:Nat->Prop}(x y:IE)(p q:Int)(w:World)(hM:Mb M w)(h:IX M w x p)(k:IX M w y q)(hL:aH p.natAbs+aH q.natAbs+1<=1099511627776):
 Calls Tryz.prog 66 #[.agg #[.bool x.b,.slice x.a x.n x.p],.agg #[.bool y.b,.slice y.a y.n y.p]] w (lg M w (p-q)):=by
 have aV:Ext w (((w.alloc (.cells #[.bool x.b,.slice x.a x.n x.p] 30)).alloc (.cells #[.bool y.b,.slice y.a y.n y.p] 30)).alloc (.cells zI 30)):=(((aA w).alloc _).alloc _).alloc _;have dm:=aG.bq ((w.alloc (.cells #[.bool x.b,.slice x.a x.n x.p] 30)).alloc (.cells #[.bool y.b,.slice y.a y.n y.p] 30)) zI 30 2 rfl;simp only[World.size_alloc]at dm;have dD:Mb (Mx M w.heap.size (w.heap.size+3)) (((w.alloc (.cells #[.bool x.b,.slice x.a x.n x.p] 30)).alloc (.cells #[.bool y.b,.slice y.a y.n y.p] 30)).alloc (.cells zI 30)):=Mx.mb hM (by simp;omega) (by simp);have hx:IX (Mx M w.heap.size (w.heap.size+3)) (((w.alloc (.cells #[.bool x.b,.slice x.a x.n x.p] 30)).alloc (.cells #[.bool y.b,.slice y.a y.n y.p] 30)).alloc (.cells zI 30)) x p:=(h.more (M':=Mx M w.heap.size (w.heap.size+3)) (Mx.more (aI _))).ext aV
 have hy:IX (Mx M w.heap.size (w.heap.size+3)) (((w.alloc (.cells #[.bool x.b,.slice x.a x.n x.p] 30)).alloc (.cells #[.bool y.b,.slice y.a y.n y.p] 30)).alloc (.cells zI 30)) ⟨!y.b,y.a,y.n,y.p⟩ (-q):=by
  obtain⟨nb,u,hb,hu,rfl⟩:=(k.more (M':=Mx M w.heap.size (w.heap.size+3)) (Mx.more (aI _))).ext aV;simp only[Value.bool.injEq]at hb;subst hb;exact⟨!y.b,u,rfl,hu,(qqf _ _).symm⟩
 have aW:=ae (qiB x ⟨!y.b,y.a,y.n,y.p⟩ p (-q) _ dD hx hy (by rw[Int.natAbs_neg];exact hL));have HB:=ae dm;have HE:=ae aV;clear aV dm dD h k hM hx hy
 go_enter Tryz.func66,Tryz.ntmps66
 go_wp2_with (fail);refine aW.out.mono ?_;rintro e w1 ⟨v,rfl,hc,az⟩;obtain⟨⟨q0,q1,f0,f1⟩,⟨r0,r1⟩,bD,eO⟩:=l6 (M':=Mx M w.heap.size (w.heap.size+3)) (w:=w) (.bool v.b) (.slice v.a v.n v.p) (HB.out.ext az) (Mx.at (by omega)) (by omega) (HE.out.trans az);have HF:Hid (lg M w (p-q) (.returned (.agg #[.bool v.b,.slice v.a v.n v.p])) _):=⟨v,rfl,(by rw[Int.sub_eq_add_neg];exact(hc.kp bD).more Mx.less),eO⟩;have hlt:=(HB.out.ext az).lt;simp only[arr]at q0 q1;clear aW hc az bD eO;go_wp2;exact bu (v:=.agg #[.bool v.b,.slice v.a v.n v.p]) (by simp[results,Tryz.results66,go_sem,r0,r1]) rfl HF.out
section
variable{M M':Nat->Prop}{w w':World}{g N k:Nat}{z z':Nat->Int}
theorem bC.kI{a:Option Addr}{n cap:Nat}{X:Nat->IE}(h:bC M w a n cap X z){i:Nat}(hi:i<n):∃b off,a=some ⟨b,off,none⟩/\JC w b (off+i*2) (X i)/\b<w.heap.size/\IX M w (X i) (z i):=by
 obtain⟨b,off,e,hb,_,h0,h1,h2⟩:=h.2.2.2.2 i hi;exact⟨b,off,e,⟨h0,h1⟩,hb,h2⟩
theorem UK.kI(h:UK M w g N k z){j:Nat}(hj:j<k)(hN:k<=N):∃x:IE,JC w g (j*2) x/\IX M w x (z j):=by
 obtain⟨X,f,hB,hf⟩:=h;obtain⟨h0,h1,h2⟩:=hf j hj;refine⟨X j,⟨?_,?_⟩,h2⟩
 ·rw[hB.cell (by omega),h0]
 ·rw[hB.cell (by omega),h1]
theorem UK.lt(h:UK M w g N k z):g<w.heap.size:=by
 obtain⟨X,f,hB,hf⟩:=h;exact hB.lt
theorem UK.wL(h:UK M w g N k z)(o:Nat):w.frozen? ⟨g,o,none⟩=false:=by
 obtain⟨X,f,hB,hf⟩:=h;exact hB.frozen o
theorem UK.congr(h:UK M w g N k z)(hz:∀i,i<k->z i=z' i):UK M w g N k z':=by
 obtain⟨X,f,hB,hf⟩:=h;exact⟨X,f,hB,λi hi=>by rw[<-hz i hi];exact hf i hi⟩
theorem UK.kp(h:UK M w g N k z)(he:w'.heap[g]?=w.heap[g]?)(hk:Kp M w w'):UK M w' g N k z:=by
 obtain⟨X,f,hB,hf⟩:=h;exact⟨X,f,hB.of_heap he,λi hi=>⟨(hf i hi).1,(hf i hi).2.1,(hf i hi).2.2.kp hk⟩⟩
theorem xU(w:World)(g o:Nat)(e0 e1:Value)(b:Nat)(hb:b≠g):(bW w g o e0 e1).heap[b]?=w.heap[b]?:=by
 unfold bW;rw[Below.heap_setCell _ _ _ _ hb,Below.heap_setCell _ _ _ _ hb]
theorem Kp.bW(hg:M g)(o:Nat)(e0 e1:Value):Kp M w (Go.Proofs.YtmcfpnmoklnhoaaGreat.bW w g o e0 e1):=(Kp.set M w (p:=⟨g,o,none⟩) hg e0).trans (Kp.set M _ (p:=⟨g,o+1,none⟩) hg e1)
theorem UK.put(h:UK M w g N N z)(hg:M g){j:Nat}(hj:j<N){x:IE}{v:Int}(hc:IX M w x v):UK M (bW w g (j*2) (.bool x.b) (.slice x.a x.n x.p)) g N N λi=>if i=j then v else z i:=by
 obtain⟨X,f,hB,hf⟩:=h;have hk:Kp M w (bW w g (j*2) (.bool x.b) (.slice x.a x.n x.p)):=Kp.bW hg _ _ _;refine⟨λi=>if i=j then x else X i,_,(hB.set (j*2) (.bool x.b)).set (j*2+1) (.slice x.a x.n x.p),λi hi=>?_⟩;unfold jr
 by_cases iq:i=j
 ·subst iq;simp only[if_true];exact⟨by rw[ah (by omega)],trivial,hc.kp hk⟩
 ·simp only[ah iq];rw[ah (by omega),ah (by omega),ah (by omega),ah (by omega)];obtain⟨h1,h2,h3⟩:=hf i (by omega);exact⟨h1,h2,h3.kp hk⟩
def O0(i:Nat):Value:=if i%2=0 then .bool false else .slice none 0 0
theorem UK.zero{f:Nat->Value}(hB:aG w g 30 (N*2) f)(hf:∀i,i<N*2->f i=O0 i):UK M w g N N λ_=>0:=by
 refine⟨λ_=>⟨false,none,0,0⟩,f,hB,λi hi=>⟨?_,?_,(ek.zero M w).fB⟩⟩
 ·rw[hf _ (by omega)];unfold O0;rw[ai (by omega)]
 ·rw[hf _ (by omega)];unfold O0;rw[ah (by omega)]
end
theorem qa1(w:World)(N:Nat)(e:TypeId):aG (w.alloc (.cells (madeCells (Value.agg #[.bool false,.slice none 0 0]).cells (N*2)) e)) w.heap.size e (N*2) O0:=
 aG.X8 w _ e O0 (N*2) (by simp[madeCells]) λi hi=>by
  have hm:i%2<2:=Nat.mod_lt _ (by decide);unfold O0;rcases Nat.mod_two_eq_zero_or_one i with h|h<;>simp[madeCells,hi,Array.getD_eq_getD_getElem?,h,Value.cells]
def wX(z:Nat->Int)(n:Nat):Int:=if tz z n=0 then 0 else z (tz z n-1)
theorem YG(M:Nat->Prop)(a:Option Addr)(n cap:Nat)(X:Nat->IE)(z:Nat->Int)(w:World)(hM:Mb M w)(h:bC M w a n cap X z):
 Calls Tryz.prog 64 #[.slice a n cap] w (lg M w (wX z n)):=by
 have aV:Ext w (w.alloc (.cells #[.bool false,.slice none 0 0] 30)):=(aA w).alloc _;have bL:=aG.bq w #[.bool false,.slice none 0 0] 30 2 rfl;have jQ:Mb (Mx M w.heap.size (w.heap.size+1)) (w.alloc (.cells #[.bool false,.slice none 0 0] 30)):=Mx.mb hM (by simp) (by simp);have hU:=(h.more (M':=Mx M w.heap.size (w.heap.size+1)) (Mx.more (aI _))).ext aV;have hn:=h.1;have zm:=h.2.1;have iB:=h.2.2.1;have hle:=iR z n;generalize hW:w.alloc (.cells #[.bool false,.slice none 0 0] 30)=W at*;have HW:=ae hW;have HU:=ae hU;have HE:=ae aV;have HB:=ae bL;have HM:=ae jQ;have CT:=ae (Jm _ a n cap X z W hU);have HL:Hid (wX z n=if tz z n=0 then 0 else z (tz z n-1)):=rfl;unfold maxLen at iB;clear hW hU aV bL jQ h hM
 go_enter Tryz.func64,Tryz.ntmps64
 go_upto_region 1 with(fail)
 rw[HW.out];clear HW;go_wp2_with (fail);refine CT.out.mono ?_;rintro e w1 ⟨rfl,az⟩;have aS:=ae (HE.out.trans az);have dF:=ae (HB.out.ext az);have EI:=ae ((HU.out.ext az).cut hle);have kH:=ae (HM.out.ext az);clear az HE HB HU HM CT;generalize tz z n=m at*
 by_cases h0:m=0
 ·subst h0;obtain⟨⟨s0,s1,g0,g1⟩,⟨t0,t1⟩,jf,iU⟩:=l6 (M':=Mx M w.heap.size (w.heap.size+1)) (w:=w) (.bool false) (.slice none 0 0) dF.out (Mx.at (by omega)) (by omega) aS.out;have HF:Hid (lg M w (wX z n) (.returned (.agg #[.bool false,.slice none 0 0])) _):=⟨⟨false,none,0,0⟩,rfl,(by rw[HL.out,ai rfl];exact(ek.zero _ _).fB),iU⟩;have WX:=dF.out.lt;simp only[arr]at s0 s1;clear jf iU aS dF EI kH HL;go_wp2;exact bu (v:=.agg #[.bool false,.slice none 0 0]) (by simp[results,Tryz.results64,go_sem,t0,t1]) rfl HF.out
 ·obtain⟨b,off,rfl,⟨x0,x1⟩,hb,hx⟩:=EI.out.kI (i:=m-1) (by omega)
  have wR:¬(m:Int)=0:=by omega
  have j1:(0:Int)<=(m:Int)-1:=by omega
  have j2:((m:Int)-1).toNat=m-1:=by omega
  have j3:(m:Int)-1<(m:Int):=by omega
  have HX:=ae hx;clear hx;go_wp2_with (fail);refine(qzz _ _ _ kH.out HX.out).mono ?_;rintro e w2 ⟨y,rfl,hy,aJ⟩;have HY:=ae hy;obtain⟨⟨s0,s1,g0,g1⟩,⟨t0,t1⟩,jf,iU⟩:=l6 (M':=Mx M w.heap.size (w.heap.size+1)) (w:=w) (.bool y.b) (.slice y.a y.n y.p) (dF.out.ext aJ) (Mx.at (by omega)) (by omega) (aS.out.trans aJ);have HF:Hid (lg M w (wX z n) (.returned (.agg #[.bool y.b,.slice y.a y.n y.p])) _):=⟨y,rfl,(by rw[HL.out,ah h0];exact(HY.out.kp jf).more Mx.less),iU⟩;have WX:=(dF.out.ext aJ).lt;simp only[arr]at s0 s1;clear jf iU aS dF EI kH HL HX HY hy aJ x0 x1 hb;go_wp2;exact bu (v:=.agg #[.bool y.b,.slice y.a y.n y.p]) (by simp[results,Tryz.results64,go_sem,t0,t1]) rfl HF.out
theorem qC5(k:Nat)(c top:Int)(G R:Nat->Int)(i:Nat):zS k c top G R 0 i=R i:=ah (by omega)
theorem qC1(k:Nat)(c top:Int)(G R:Nat->Int)(j:Nat):zS k c top G R j j=R j:=ah (by omega)
theorem qC3{k j:Nat}(c top:Int)(G R:Nat->Int)(h:k<=j)(i:Nat):zS k c top G R (j+1) i=if i=j then R j*c-top*G (j-k)else zS k c top G R j i:=by
 unfold zS
 by_cases e:i=j
 ·subst e;rw[ai (by omega),ai h,ai rfl]
 ·rw[ah e]
  by_cases h2:i<j
  ·rw[ai h2,ai (by omega)]
  ·rw[ah h2,ah (by omega)]
theorem qC4{k j:Nat}(c top:Int)(G R:Nat->Int)(h:¬k<=j)(i:Nat):zS k c top G R (j+1) i=if i=j then R j*c else zS k c top G R j i:=by
 unfold zS
 by_cases e:i=j
 ·subst e;rw[ai (by omega),ah h,ai rfl]
 ·rw[ah e]
  by_cases h2:i<j
  ·rw[ai h2,ai (by omega)]
  ·rw[ah h2,ah (by omega)]
theorem qC0{n V k t:Nat}(G R0:Nat->Int)(h:t+(k+1)=V):zR n V G R0 (t+1)=zS k (G n) (zR n V G R0 t (n+k)) G (zR n V G R0 t) (n+k):=by
 show zS (V-1-t) (G n) (zR n V G R0 t (n+(V-1-t))) G (zR n V G R0 t) (n+(V-1-t))=_;rw[show V-1-t=k by omega]
theorem YE(z:Nat->Int)(n:Nat):tz z (tz z n)=tz z n:=by
 rcases Jl z n with h|h
 ·rw[h];rfl
 ·by_cases h0:tz z n=0
  ·rw[h0];rfl
  ·exact LH (by omega) h
theorem Nn{c:Int}{D:Nat}(h:aH c.natAbs<=D):∀k,aH (c^k).natAbs<=k*D+1
 |0=>by simp;decide
 |k+1=>by
  have:=Nn h k;rw[Int.pow_succ,Int.natAbs_mul,Nat.succ_mul];have:=pQ (c^k).natAbs c.natAbs;omega
section
variable{n V A D:Nat}{G R0:Nat->Int}(hG:∀i,aH (G i).natAbs<=D)(hR:∀i,aH (R0 i).natAbs<=A)
include hG hR
theorem YN{t:Nat}(ht:t<=V)(i:Nat):aH (zR n V G R0 t i).natAbs<=A+V*(D+1):=by
 have:=qfh (n:=n) (V:=V) hG hR t i;have:=eB (D+1) ht;omega
theorem qCX(t j:Nat):aH (zQ n V G R0 t j).natAbs<=A+V*(D+1)+(V*D+1):=by
 unfold zQ
 split
 ·rename_i h;have h1:aH (YO n V G R0 j).natAbs<=A+V*(D+1):=YN hG hR (by omega) _;have h2:=Nn (hG n) (j-(V-t));have h3:=eB D (show j-(V-t)<=V by omega);have h4:=pQ (YO n V G R0 j).natAbs (G n^(j-(V-t))).natAbs;rw[Int.natAbs_mul];omega
 ·exact aR (by decide:aH (0:Int).natAbs<=0) (bK _)
end
def zJ(k j:Nat)(c:Int)(q:Nat->Int)(i:Nat):Int:=if k<i/\i<j then q i*c else q i
theorem qCW(k:Nat)(c:Int)(q:Nat->Int)(i:Nat):zJ k (k+1) c q i=q i:=ah (by omega)
theorem qCT(k j:Nat)(c:Int)(q:Nat->Int):zJ k j c q j=q j:=ah (by omega)
theorem qCV{k j:Nat}(c:Int)(q:Nat->Int)(h:k<j)(i:Nat):(if i=j then q j*c else zJ k j c q i)=zJ k (j+1) c q i:=by
 unfold zJ
 by_cases e:i=j
 ·subst e;rw[ai rfl,ai (by omega)]
 ·rw[ah e]
  by_cases h2:k<i/\i<j
  ·rw[ai h2,ai (by omega)]
  ·rw[ah h2,ah (by omega)]
theorem qCU{n V k t:Nat}(G R0:Nat->Int)(h:t+(k+1)=V)(i:Nat)(hi:i<V):(if i=k then zR n V G R0 t (n+k)else zJ k V (G n) (zQ n V G R0 t) i)=zQ n V G R0 (t+1) i:=by
 rw[qCY G R0 (by omega) hi,show V-1-t=k by omega];unfold zJ
 by_cases e:i=k
 ·subst e;rw[ai rfl,ah (by omega),ai rfl]
 ·rw[ah e]
  by_cases h2:k<i
  ·rw[ai (by omega),ai h2]
  ·rw[ah (by omega),ah h2,ah e]
def PsO(M:Nat->Prop)(w':World)(n1:Nat)(z1:Nat->Int)(n2:Nat)(z2:Nat->Int)(au:Option Addr)(nu cu:Nat)(av:Option Addr)(nv cv:Nat)(er:Int):Prop:=
 ∃Xu zu Xv zv,bC M w' au nu cu Xu zu/\bC M w' av nv cv Xv zv/\((tz z2 n2=0/\er=2/\nu=0/\nv=0)\/
  ∃n V,tz z2 n2=n+1/\V=tz z1 n1-n/\er=0/\nv=tz zv nv/\(∀i,aP nu zu i=aP V (zQ n V (aP n2 z2) (aP n1 z1) V) i)/\∀i,aP nv zv i=aP n (zR n V (aP n2 z2) (aP n1 z1) V) i)
def Vm(M:Nat->Prop)(w:World)(n1:Nat)(z1:Nat->Int)(n2:Nat)(z2:Nat->Int)(e:Ending)(w':World):Prop:=
 ∃au nu cu av nv cv er,e=.returned (.tuple #[.slice au nu cu,.slice av nv cv,.int .i64 er])/\PsO M w' n1 z1 n2 z2 au nu cu av nv cv er/\Ext w w'
theorem bC.nil(M:Nat->Prop)(w:World)(X:Nat->IE)(z:Nat->Int):bC M w none 0 0 X z:=⟨bK _,aI _,bK _,λ_=>rfl,λi hi=>absurd hi (Nat.not_lt_zero _)⟩
theorem El(n:Nat)(z:Nat->Int)(i:Nat):aP (tz z n) z i=aP n z i:=by
 unfold aP;have:=iR z n
 by_cases h:i<tz z n
 ·rw[ai h,ai (by omega)]
 ·rw[ah h]
  by_cases h2:i<n
  ·rw[ai h2,TJ z n i (by omega) h2]
  ·rw[ah h2]
theorem xh{n D:Nat}{z:Nat->Int}(h:∀i,i<n->aH (z i).natAbs<=D)(i:Nat):aH (aP n z i).natAbs<=D:=by
 unfold aP
 split
 ·exact h i (by assumption)
 ·exact aR (by decide:aH (0:Int).natAbs<=0) (bK _)
def nH(g o:Nat)(x:IE)(gl:Nat)(c:IE)(w:World):Prop:=JC w g o x/\JC w gl 0 c/\g<w.heap.size/\gl<w.heap.size
theorem nH.ext{g o:Nat}{x:IE}{gl:Nat}{c:IE}{w w':World}(h:nH g o x gl c w)(he:Ext w w'):nH g o x gl c w':=⟨h.1.ext h.2.2.1 he,h.2.1.ext h.2.2.2 he,dH h.2.2.1 he.size,dH h.2.2.2 he.size⟩
def um(g o:Nat)(x:IE)(gp:Nat)(p:IE)(gb o2:Nat)(y:IE)(w:World):Prop:=JC w g o x/\JC w gp 0 p/\JC w gb o2 y/\g<w.heap.size/\gp<w.heap.size/\gb<w.heap.size
theorem um.ext{g o:Nat}{x:IE}{gp:Nat}{p:IE}{gb o2:Nat}{y:IE}{w w':World}(h:um g o x gp p gb o2 y w)(he:Ext w w'):um g o x gp p gb o2 y w':=
 ⟨h.1.ext h.2.2.2.1 he,h.2.1.ext h.2.2.2.2.1 he,h.2.2.1.ext h.2.2.2.2.2 he,dH h.2.2.2.1 he.size,dH h.2.2.2.2.1 he.size,dH h.2.2.2.2.2 he.size⟩
abbrev M3(M:Nat->Prop)(gr gq:Nat):Nat->Prop:=λb=>(M b\/b=gr)\/b=gq
structure qB(M:Nat->Prop)(w:World)(gr gq gl N V:Nat)(c:IE)(C:Int)(a2:Option Addr)(n2 c2:Nat)(X2:Nat->IE)(z2 R Q:Nat->Int)(W:World):Prop where
 r:UK (M3 M gr gq) W gr N N R
 q:UK (M3 M gr gq) W gq V V Q
 l:JC W gl 0 c
 c:IX (M3 M gr gq) W c C
 g:bC (M3 M gr gq) W a2 n2 c2 X2 z2
 m:Mb (M3 M gr gq) W
 e:Ext w W
 d:w.heap.size<=gr/\w.heap.size<=gq/\gr≠gq/\gl≠gr/\gl≠gq
section
variable{M:Nat->Prop}{w:World}{gr gq gl N V:Nat}{c:IE}{C:Int}{a2:Option Addr}{n2 c2:Nat}{X2:Nat->IE}{z2 R Q R' Q':Nat->Int}{W W':World}
theorem qB.ext(h:qB M w gr gq gl N V c C a2 n2 c2 X2 z2 R Q W)(he:Ext W W'):qB M w gr gq gl N V c C a2 n2 c2 X2 z2 R Q W':=
 ⟨h.r.ext he,h.q.ext he,h.l.ext h.l.lt he,h.c.ext he,h.g.ext he,h.m.ext he,h.e.trans he,h.d⟩
theorem qB.congr(h:qB M w gr gq gl N V c C a2 n2 c2 X2 z2 R Q W)(hr:∀i,i<N->R i=R' i)(hq:∀i,i<V->Q i=Q' i):qB M w gr gq gl N V c C a2 n2 c2 X2 z2 R' Q' W:=
 ⟨h.r.congr hr,h.q.congr hq,h.l,h.c,h.g,h.m,h.e,h.d⟩
theorem qB.qpE(h:qB M w gr gq gl N V c C a2 n2 c2 X2 z2 R Q W){j:Nat}(hj:j<N){x:IE}{v:Int}(hx:IX (M3 M gr gq) W x v):
 qB M w gr gq gl N V c C a2 n2 c2 X2 z2 (λi=>if i=j then v else R i) Q (bW W gr (j*2) (.bool x.b) (.slice x.a x.n x.p)):=by
 have hk:Kp (M3 M gr gq) W (bW W gr (j*2) (.bool x.b) (.slice x.a x.n x.p)):=Kp.bW (.inl (.inr rfl)) _ _ _;have hh:=λb hb=>xU W gr (j*2) (.bool x.b) (.slice x.a x.n x.p) b hb;obtain⟨d1,d2,d3,d4,d5⟩:=h.d;exact⟨h.r.put (.inl (.inr rfl)) hj hx,h.q.kp (hh _ d3.symm) hk,h.l.of_heap (hh _ d4),h.c.kp hk,h.g.kp hk,h.m.size (by rw[BU];exact aI _),h.e.bW d1 _ _ _,h.d⟩
theorem qB.qpD(h:qB M w gr gq gl N V c C a2 n2 c2 X2 z2 R Q W){j:Nat}(hj:j<V){x:IE}{v:Int}(hx:IX (M3 M gr gq) W x v):
 qB M w gr gq gl N V c C a2 n2 c2 X2 z2 R (λi=>if i=j then v else Q i) (bW W gq (j*2) (.bool x.b) (.slice x.a x.n x.p)):=by
 have hk:Kp (M3 M gr gq) W (bW W gq (j*2) (.bool x.b) (.slice x.a x.n x.p)):=Kp.bW (.inr rfl) _ _ _;have hh:=λb hb=>xU W gq (j*2) (.bool x.b) (.slice x.a x.n x.p) b hb;obtain⟨d1,d2,d3,d4,d5⟩:=h.d;exact⟨h.r.kp (hh _ d3) hk,h.q.put (.inr rfl) hj hx,h.l.of_heap (hh _ d5),h.c.kp hk,h.g.kp hk,h.m.size (by rw[BU];exact aI _),h.e.bW d2 _ _ _,h.d⟩
end
structure PsN(V A D:Nat):Prop where
 a:A+V*(D+1)+(V*D+1)+D+4<=549755813888
theorem qCk(M:Nat->Prop)(a1:Option Addr)(n1 c1:Nat)(X1:Nat->IE)(z1:Nat->Int)(a2:Option Addr)(n2 c2:Nat)(X2:Nat->IE)(z2:Nat->Int)(A D:Nat)(w:World)(hM:Mb M w)
 (h1:bC M w a1 n1 c1 X1 z1) (h2:bC M w a2 n2 c2 X2 z2) (kT:n1<=1000000) (mg:n2<=1000000) (hA:∀i,i<n1->aH (z1 i).natAbs<=A) (hD:∀i,i<n2->aH (z2 i).natAbs<=D) (hN:PsN n1 A D):
 Calls Tryz.prog 13 #[.slice a1 n1 c1,.slice a2 n2 c2] w (Vm M w n1 z1 n2 z2):=by
 obtain⟨i0,hi,hz0,hz1,hz2⟩:=info_parts Tryz.K5;have H1:=ae h1;have H2:=ae h2;have HM:=ae hM;have Fh:=xh hA;have Fb:=xh hD;have WU:=iR z1 n1;have WV:=iR z2 n2;have CD:=ae (LJ M a2 n2 c2 X2 z2 w h2);clear h1 h2 hM hA hD
 go_enter Tryz.func13,Tryz.ntmps13
 go_wp2_with (fail);refine CD.out.mono ?_;rintro e w1 ⟨rfl,az⟩;have aS:=ae az;clear az CD;obtain⟨m2,vL⟩:∃m2,m2=tz z2 n2:=⟨_,rfl⟩;rw[<-vL]at WV⊢
 by_cases h0:m2=0
 ·have HF:Hid (Vm M w n1 z1 n2 z2 (.returned (.tuple #[.slice none 0 0,.slice none 0 0,.int .i64 2])) w1):=⟨_,_,_,_,_,_,_,rfl,⟨λ_=>⟨false,none,0,0⟩,λ_=>0,λ_=>⟨false,none,0,0⟩,λ_=>0,bC.nil _ _ _ _,bC.nil _ _ _ _,.inl ⟨vL.symm.trans h0,rfl,rfl,rfl⟩⟩,aS.out⟩
  have Im:((m2:Int)-1<0):=by omega
  clear vL;go_wp2;exact bu (v:=.tuple #[.slice none 0 0,.slice none 0 0,.int .i64 2]) (by simp[results,Tryz.results13,go_sem]) rfl HF.out
 obtain⟨n,rfl⟩:∃n,m2=n+1:=⟨m2-1,by omega⟩;have gJ:Hid (tz z2 n2=n+1):=vL.symm
 have j6:(((n+1:Nat):Int)-1)=(n:Int):=by omega
 have qEY:¬((n:Int)<0):=by omega
 clear vL h0;rw[j6];clear j6;have CN:=ae (qe4 M a1 n1 c1 X1 z1 w1 (HM.out.ext aS.out) (H1.out.ext aS.out));go_wp2_with (fail);refine CN.out.mono ?_;rintro e w2 ⟨gr,rfl,qH,jf,aJ⟩;have aZ:=ae (aS.out.trans aJ);have kX:=ae jf;have Jz:Hid (w.heap.size<=gr):=aR aS.out.size qH;have qmk:=jf.lt;clear CN aS aJ jf qH;obtain⟨m1,wR⟩:∃m1,m1=tz z1 n1:=⟨_,rfl⟩;have kH:Hid (tz z1 n1=m1):=wR.symm;rw[<-wR]at WU kX⊢;clear wR
 by_cases hlt:m1<=n
 ·have DX:((m1:Int)<=(n:Int)):=by omega
  have HF:Hid (Vm M w n1 z1 n2 z2 (.returned (.tuple #[.slice none 0 0,.slice (some ⟨gr,0,none⟩) m1 m1,.int .i64 0])) w2):=by
   obtain⟨Xv,zh⟩:=kX.out.row (M':=M) (λg h=>.inl (.inl h)) (HM.out.new Jz.out) (by omega);have h3:=kH.out;refine⟨_,_,_,_,_,_,_,rfl,⟨λ_=>⟨false,none,0,0⟩,λ_=>0,Xv,z1,bC.nil _ _ _ _,zh,.inr ⟨n,0,gJ.out,by omega,rfl,by rw[<-h3];exact(YE z1 n1).symm,λi=>by unfold aP;rw[ah (by omega),ah (by omega)],λi=>?_⟩⟩,aZ.out⟩;rw[<-h3,El];show _=aP n (aP n1 z1) i;rw[<-El,h3];unfold aP
   by_cases q1:i<m1
   ·rw[ai q1,ai (by omega),ai (by omega)]
   ·rw[ah q1]
    by_cases q2:i<n
    ·rw[ai q2]
     by_cases q3:i<n1
     ·rw[ai q3,TJ z1 n1 i (by omega) q3]
     ·rw[ah q3]
    ·rw[ah q2]
  clear kX gJ kH;go_wp2;exact bu (v:=.tuple #[.slice none 0 0,.slice (some ⟨gr,0,none⟩) m1 m1,.int .i64 0]) (by simp[results,Tryz.results13,go_sem]) rfl HF.out
 have qEV:¬((m1:Int)<=(n:Int)):=by omega
 obtain⟨V,rfl⟩:∃V,m1=n+V:=⟨m1-n,by omega⟩
 have Hq:1<=V:=by omega
 have hV1:V<=n1:=by omega
 have hPN:A+V*(D+1)+(V*D+1)+D+4<=549755813888:=by
  have:=hN.a;have e1:=eB (D+1) hV1;have e2:=eB D hV1;omega
 have hGn:wX z2 n2=aP n2 z2 n:=by
  have:=gJ.out;unfold wX aP;rw[ah (by omega),ai (by omega),this];rfl
 have CL:=ae (YG (λb=>M b\/b=gr) a2 n2 c2 X2 z2 w2 (pz (HM.out.ext aZ.out) qmk) ((H2.out.more (M':=λb=>M b\/b=gr) λg h=>h.imp id λe=>by rw[e];exact Jz.out).ext aZ.out));rw[hGn]at CL;clear hlt hGn hN;go_wp2_with (fail);refine CL.out.mono ?_;rintro e w3 ⟨c,rfl,hc,bg⟩;clear CL;obtain⟨gl,fA⟩:∃gl,gl=w3.heap.size:=⟨_,rfl⟩;have aT:=(aA w3).alloc (.cells #[.bool c.b,.slice c.a c.n c.p] 30);have bQ:=aG.bq w3 #[.bool c.b,.slice c.a c.n c.p] 30 2 rfl;rw[<-fA]at bQ;obtain⟨W4,gG⟩:∃W4,w3.alloc (.cells #[.bool c.b,.slice c.a c.n c.p] 30)=W4:=⟨_,rfl⟩;rw[gG]at aT bQ;have CV:=ae gG;have qY:=ae fA;have eX:=ae ((aZ.out.trans bg).trans aT);have Uz:=ae ((kX.out.ext bg).ext aT);have Pn:=ae (hc.ext aT);have JB:Hid (JC W4 gl 0 c):=⟨bQ.cell (i:=0) (by omega),bQ.cell (i:=1) (by omega)⟩
 have qwR:gr<gl:=by have:=bg.size;omega
 clear gG bg aT bQ hc aZ kX qmk fA
 go_upto_region 8 with(fail)
 rw[CV.out, <-qY.out];clear CV
 have jG:(n:Int)+(V:Int)-(n:Int)=(V:Int):=by omega
 have hVI:(1:Int)<=(V:Int):=by omega
 go_wp2_with (first|(at_make;refine LK _ rfl _ _ _ rfl 30 i0 (.agg #[.bool false,.slice none 0 0]) 2 Tryz.underlying23 hi hz0 hz1 .i64 .i64 _ _ V rfl rfl ?c4 ?c5 ?c2 ?c3 ?_))
 case c2=>rw[hz2];omega
 case c3=>unfold maxLen;omega
 case c4=>go_num
 case c5=>go_num
 have cO:=qa1 W4 V 30;have az:=(aA W4).alloc (.cells (madeCells (Value.agg #[.bool false,.slice none 0 0]).cells (V*2)) 30);intro w5 FN;replace FN:W4.alloc (.cells (madeCells (Value.agg #[.bool false,.slice none 0 0]).cells (V*2)) 30)=w5:=FN.out.symm;rw[FN]at cO az;obtain⟨gq,Bn⟩:∃gq,gq=W4.heap.size:=⟨_,rfl⟩;rw[<-Bn]at cO⊢
 have qwP:gl<gq:=by have:=JB.out.lt;omega
 have Ec:w.heap.size<=gq:=by have:=eX.out.size;omega
 have hm:∀b,M3 M gr gq b->(M b\/b=gr)\/W4.heap.size<=b:=λb hb=>hb.imp id λe=>by rw[e];omega
 have HS:Hid (qB M w gr gq gl (n+V) V c (aP n2 z2 n) a2 n2 c2 X2 z2 (zR n V (aP n2 z2) (aP n1 z1) 0) (zQ n V (aP n2 z2) (aP n1 z1) 0) w5):=by
  have h3:=kH.out;refine⟨((Uz.out.more hm).ext az).congr λi hi=>?_,(UK.zero cO λ_ _=>rfl).congr λi _=>(qCZ _ _ _ _ i).symm,JB.out.ext JB.out.lt az,(Pn.out.more hm).ext az,(H2.out.more λb hb=>?_).ext (eX.out.trans az),pz (pz (HM.out.ext (eX.out.trans az)) (by have:=az.size;omega)) cO.lt,eX.out.trans az,Jz.out,Ec,by omega,by omega,by omega⟩
  ·show z1 i=aP n1 z1 i;unfold aP;rw[ai (by omega)]
  ·rcases hb with(hb|e)|e
   ·exact .inl hb
   ·rw[e];exact .inr Jz.out
   ·rw[e];exact .inr Ec
 have UQ:=ae hPN;have sO:=ae Fb;have Mh:=ae Fh;clear FN cO az hm Uz JB Pn eX H1 H2 qwR qwP Ec hPN Fb Fh jG Bn qY Jz hi hz0 hz1 hz2;generalize hGG:aP n2 z2=G at*;generalize vI:aP n1 z1=R0 at*;have sP:=ae hGG;have lX:=ae vI;clear hGG vI;go_wp2
 go_loopw [9,5] (λiv rs wr=>∃t k:Nat,t+k=V/\iv=.int .i64 ((n:Int)+(k:Int)-1)/\rs=.slice (some ⟨gr,0,none⟩) (n+k) (n+V)/\Hid (qB M w gr gq gl (n+V) V c (G n) a2 n2 c2 X2 z2 (zR n V G R0 t) (zQ n V G R0 t) wr)) (λiv rs _=>(intOf iv+1).toNat)
 case atStart=>exact⟨0,V,Nat.zero_add V,rfl,rfl,HS⟩
 case round=>
  clear HS;obtain⟨t,k1,R6,rfl,rfl,HS⟩:=hrel
  by_cases iO:k1=0
  ·subst iO
   obtain rfl:t=V:=by omega
   have jS:¬((n:Int)<=(n:Int)+((0:Nat):Int)-1):=by omega
   obtain⟨Xq,hXq⟩:=HS.out.q.row (M':=M) (λg h=>.inl (.inl (.inl h))) (HM.out.new HS.out.d.2.1) (by omega);obtain⟨Xr,hXr⟩:=HS.out.r.row (M':=M) (λg h=>.inl (.inl (.inl h))) (HM.out.new HS.out.d.1) (by omega);have HQ:=ae hXq;have HR:=ae (hXr.cut (k:=n) (by omega));have HE:=ae HS.out.e;clear HS hXq hXr
   go_upto_region 27 with(fail)
   go_wp2_with (fail);refine(TK M _ t t Xq _ wr (HM.out.ext HE.out) HQ.out).mono ?_;rintro e w6 ⟨au,Xu,rfl,hu,fO⟩;have HU:=ae hu;have fT:=ae (HE.out.trans fO);have EC:=ae (HR.out.ext fO);clear hu fO HE HR HQ;go_wp2_with (fail);refine(TK M _ n (n+t) Xr _ w6 (HM.out.ext fT.out) EC.out).mono ?_;rintro e w7 ⟨av,Xv,rfl,hv,gX⟩
   have HF:Hid (Vm M w n1 z1 n2 z2 (.returned (.tuple #[.slice au (tz (zQ n t G R0 t) t) (tz (zQ n t G R0 t) t),.slice av (tz (zR n t G R0 t) n) (tz (zR n t G R0 t) n),.int .i64 0])) w7):=by
    refine⟨_,_,_,_,_,_,_,rfl,⟨Xu,zQ n t G R0 t,Xv,zR n t G R0 t,HU.out.ext gX,hv,.inr ⟨n,t,gJ.out,by have:=kH.out;omega,rfl,(YE _ _).symm,?_,?_⟩⟩,fT.out.trans gX⟩
    ·intro i;rw[El,sP.out,lX.out]
    ·intro i;rw[El,sP.out,lX.out]
   generalize tz (zQ n t G R0 t) t=nu at*;generalize tz (zR n t G R0 t) n=nv at*;clear HU fT EC hv gX;go_wp2;exact bu (v:=.tuple #[.slice au nu nu,.slice av nv nv,.int .i64 0]) (by simp[results,Tryz.results13,go_sem]) rfl HF.out
  ·obtain⟨k,rfl⟩:∃k,k1=k+1:=⟨k1-1,by omega⟩
   have NZ:(n:Int)+((k:Int)+1)-1-(n:Int)=(k:Int):=by omega
   have qw9:(n:Int)+((k:Int)+1)-1=(n:Int)+(k:Int):=by omega
   have qEe:(n:Int)<=(n:Int)+(k:Int):=by omega
   have qw7:(0:Int)<=(k:Int):=iw _
   have qxu:(0:Int)<=(n:Int)+(k:Int):=by omega
   have qxv:(n:Int)+(k:Int)<(n:Int)+((k:Int)+1):=by omega
   have qxw:((n:Int)+(k:Int)).toNat=n+k:=by omega
   have qET:(n:Int)+(k:Int)-(n:Int)=(k:Int):=by omega
   have Rw:(k:Int)+1<=1000000:=by omega
   have yF:Hid (t+(k+1)=V):=R6;obtain⟨x,hx,Om⟩:=HS.out.r.kI (j:=n+k) (by omega) (aI _);have qH:=HS.out.r.lt;obtain⟨gp,FC⟩:∃gp,wr.heap.size=gp:=⟨_,rfl⟩;have aT:=(aA wr).alloc (.cells #[.bool x.b,.slice x.a x.n x.p] 30);have bQ:=aG.bq wr #[.bool x.b,.slice x.a x.n x.p] 30 2 rfl;rw[FC]at bQ
   have qmi:gp≠gq:=by have:=HS.out.q.lt;omega
   have qmj:gp≠gr:=by omega
   obtain⟨W2,jW⟩:∃W2,wr.alloc (.cells #[.bool x.b,.slice x.a x.n x.p] 30)=W2:=⟨_,rfl⟩;rw[jW]at aT bQ;have wG:=ae jW;have Pz:=ae FC;have pM:=ae (HS.out.ext aT);have lY:Hid (IX (M3 M gr gq) W2 x (zR n V G R0 t (n+k))):=Om.ext aT;have eD:Hid (JC W2 gp 0 x):=⟨bQ.cell (i:=0) (by omega),bQ.cell (i:=1) (by omega)⟩;obtain⟨x0,x1⟩:=hx;clear jW FC aT bQ HS Om R6 iO;rw[show((k+1:Nat):Int)=(k:Int)+1 by omega,qw9]
   go_upto_region 14 with(fail)
   rw[wG.out,Pz.out];clear x0 x1 wG Pz qH;go_wp2
   go_loopw [12] (λjv wr=>∃j:Nat,k+1<=j/\j<=V/\jv=.int .i64 (j:Int)/\Hid (qB M w gr gq gl (n+V) V c (G n) a2 n2 c2 X2 z2 (zR n V G R0 t) (zJ k j (G n) (zQ n V G R0 t)) wr)/\Hid (IX (M3 M gr gq) wr x (zR n V G R0 t (n+k)))/\Hid (JC wr gp 0 x)) (λjv _=>V-(intOf jv).toNat)
   case atStart=>exact⟨k+1,aI _,by have:=yF.out;omega,by go_num,pM.out.congr (λ_ _=>rfl) (λi _=>(qCW k (G n) _ i).symm),lY,eD⟩
   case round=>
    clear pM lY eD;obtain⟨j,Ie,hj,rfl,HS,HX,HP⟩:=hrel
    by_cases qM:j<V
    ·have sQ:=ae qM
     have DX:(j:Int)<(V:Int):=by omega
     have WO:(0:Int)<=(j:Int):=iw _
     have hjB:(j:Int)+1<=1000001:=by omega
     obtain⟨y,wV,hy⟩:=HS.out.q.kI (j:=j) qM (aI _);rw[qCT]at hy;have hd:=(aA wr).drew;have hS:nH gq (j*2) y gl c wr.drew:=nH.ext ⟨wV,HS.out.l,HS.out.q.lt,HS.out.l.lt⟩ hd;have lG:=ae (HS.out.ext hd);have HY:=ae (hy.ext hd);have mE:=ae (HX.out.ext hd);have xw:=ae (HP.out.ext HP.out.lt hd);have RU:gq<wr.drew.heap.size:=hS.2.2.1;have qdf:gl<wr.drew.heap.size:=hS.2.2.2;clear hd hy wV HS HX HP qM
     go_upto_region 17 with(fail)
     refine gB (nH gq (j*2) y gl c) 9 (by kernel_rfl) hS (λhHeld=>?_);clear hS;generalize wr.drew=wd at*
     have F9:Hid (∀W:World,Ext wd W->Calls Tryz.prog 65 #[.agg #[.bool y.b,.slice y.a y.n y.p],.agg #[.bool c.b,.slice c.a c.n c.p]] W (lg (M3 M gr gq) W (zQ n V G R0 t j*G n))):=λW he=>
      La y c _ _ W (lG.out.m.ext he) (HY.out.ext he) (lG.out.c.ext he) (by
       have e1:=qCX (n:=n) (V:=V) sO.out Mh.out t j;have e2:=sO.out n;have e3:=UQ.out
       omega)
     (refine cB [0,1,2,3,4,5,6] ?_;(iterate 7 (refine bZ (v:=?_) ?_ ?_;rotate_left 1;(intro wS hSw;obtain⟨⟨S1,S2⟩,⟨S3,S4⟩,S5,S6⟩:=hSw;go_simp;try with_reducible rfl);(try simp only[Act.put,aB,aC,aD])));refine cK ?_);((refine aO 7 ?_;intro K hK);go_simp;(refine(F9.out _ (aA _)).mono ?_);rintro e_ u1 ⟨v,rfl,hv,bM⟩;go_wp2_with (fail);(try clear ag);(have ag:=hHeld.ext bM);(refine hK.out _ _ (λ_=>ag) ?_);clear hK K;(try simp only[Act.put,aB,aC,aD]));(refine cB [8] ?_;(iterate 1 (refine bZ (v:=?_) ?_ ?_;rotate_left 1;(intro wS hSw;obtain⟨⟨S1,S2⟩,⟨S3,S4⟩,S5,S6⟩:=hSw;go_simp;try with_reducible rfl);(try simp only[Act.put,aB,aC,aD])));refine cK ?_);have iG:=ae ((lG.out.ext bM).qpD (sQ.out) hv);obtain⟨W5,mf⟩:∃W5,bW u1 gq (j*2) (.bool v.b) (.slice v.a v.n v.p)=W5:=⟨_,rfl⟩;have jm:=(lG.out.ext bM);obtain⟨yy,⟨k0,k1⟩,_⟩:=jm.q.kI sQ.out (aI _);have fV:=jm.q.wL (j*2);have fP:=jm.q.wL (j*2+1);have mH:=jm.q.lt;have bD:=Kp.bW (M:=M3 M gr gq) (w:=u1) (g:=gq) (.inr rfl) (j*2) (.bool v.b) (.slice v.a v.n v.p);have wH:=ae ((mE.out.ext bM).kp bD);have oG:=ae ((xw.out.ext xw.out.lt bM).of_heap (xU u1 gq (j*2) (.bool v.b) (.slice v.a v.n v.p) gp qmi));rw[mf]at wH oG iG;unfold bW at mf;have uj:=ae mf;clear jm hv bM bD mf lG HY mE xw F9 hHeld ag;((refine aO 9 ?_;intro K hK);go_simp;(refine hK.out _ _ (λh=>absurd rfl h) ?_);clear hK K;refine dX ?_)
     go_upto_region 16 with(fail)
     rw[uj.out];clear k0 k1 fV fP mH uj RU qdf;go_wp2
     go_roundw
     case rel=>exact⟨j+1,by omega,sQ.out,by go_num,iG.out.congr (λ_ _=>rfl) (λi _=>qCV (G n) _ (by omega) i),wH,oG⟩
     case measure=>have:=sQ.out;simp[intOf];omega
    ·obtain rfl:j=V:=by omega
     have jS:¬((j:Int)<(j:Int)):=by omega
     have hkV:(k:Int)<(j:Int):=by omega
     obtain⟨yy,⟨k0,k1⟩,_⟩:=HS.out.q.kI (j:=k) (by omega) (aI _);have fV:=HS.out.q.wL (k*2);have fP:=HS.out.q.wL (k*2+1);have mH:=HS.out.q.lt;obtain⟨p0,p1⟩:=HP.out;have D7:=HP.out.lt;have iG:=ae (HS.out.qpD (j:=k) (by omega) HX.out);have bD:=Kp.bW (M:=M3 M gr gq) (w:=wr) (g:=gq) (.inr rfl) (k*2) (.bool x.b) (.slice x.a x.n x.p);have wH:=ae (HX.out.kp bD);have oG:=ae (HP.out.of_heap (xU wr gq (k*2) (.bool x.b) (.slice x.a x.n x.p) gp qmi));obtain⟨W5,mf⟩:∃W5,bW wr gq (k*2) (.bool x.b) (.slice x.a x.n x.p)=W5:=⟨_,rfl⟩;rw[mf]at wH oG iG;have qz:Hid (qB M w gr gq gl (n+j) j c (G n) a2 n2 c2 X2 z2 (zS k (G n) (zR n j G R0 t (n+k)) G (zR n j G R0 t) 0) (zQ n j G R0 (t+1)) W5):=iG.out.congr (λi _=>(qC5 _ _ _ _ _ i).symm) (λi hi=>qCU G R0 yF.out i hi);unfold bW at mf;have uj:=ae mf;clear mf bD HS HX HP iG
     go_upto_region 19 with(fail)
     rw[uj.out];clear k0 k1 fV fP mH p0 p1 D7 uj
     have qEU:(n:Int)+(k:Int)<=(n:Int)+(j:Int):=by omega
     go_wp2
     go_loopw [73] (λiv wr=>∃q:Nat,q<=n+k/\iv=.int .i64 (q:Int)/\Hid (qB M w gr gq gl (n+j) j c (G n) a2 n2 c2 X2 z2 (zS k (G n) (zR n j G R0 t (n+k)) G (zR n j G R0 t) q) (zQ n j G R0 (t+1)) wr)/\Hid (IX (M3 M gr gq) wr x (zR n j G R0 t (n+k)))/\Hid (JC wr gp 0 x)) (λiv _=>n+k-(intOf iv).toNat)
     case atStart=>exact⟨0,bK _,rfl,qz,wH,oG⟩
     case round=>
      clear qz wH oG;obtain⟨q,hq,rfl,HS,HX,HP⟩:=hrel
      by_cases zo:q<n+k
      ·have Cj:=ae zo
       have DX:(q:Int)<(n:Int)+(k:Int):=by omega
       have vM:(0:Int)<=(q:Int):=iw _
       have hqB:(q:Int)+1<=2000001:=by omega
       obtain⟨y,wV,hy⟩:=HS.out.r.kI (j:=q) (by omega) (aI _);rw[qC1]at hy;have hd:=(aA wr).drew;have hS:nH gr (q*2) y gl c wr.drew:=nH.ext ⟨wV,HS.out.l,HS.out.r.lt,HS.out.l.lt⟩ hd;have lG:=ae (HS.out.ext hd);have HY:=ae (hy.ext hd);have mE:=ae (HX.out.ext hd);have xw:=ae (HP.out.ext HP.out.lt hd);have RU:gr<wr.drew.heap.size:=hS.2.2.1;have qdf:gl<wr.drew.heap.size:=hS.2.2.2;clear hd hy wV HS HX HP zo
       go_upto_region 23 with(fail)
       refine gB (nH gr (q*2) y gl c) 9 (by kernel_rfl) hS (λhHeld=>?_);clear hS;generalize wr.drew=wd at*;have XC:Hid (∀i,aH (zR n j G R0 t i).natAbs<=A+j*(D+1)):=YN sO.out Mh.out (by have:=yF.out;omega)
       have F9:Hid (∀W:World,Ext wd W->Calls Tryz.prog 65 #[.agg #[.bool y.b,.slice y.a y.n y.p],.agg #[.bool c.b,.slice c.a c.n c.p]] W (lg (M3 M gr gq) W (zR n j G R0 t q*G n))):=λW he=>
        La y c _ _ W (lG.out.m.ext he) (HY.out.ext he) (lG.out.c.ext he) (by
         have e1:=XC.out q;have e2:=sO.out n;have e3:=UQ.out
         omega)
       (refine cB [0,1,2,3,4,5,6] ?_;(iterate 7 (refine bZ (v:=?_) ?_ ?_;rotate_left 1;(intro wS hSw;obtain⟨⟨S1,S2⟩,⟨S3,S4⟩,S5,S6⟩:=hSw;go_simp;try with_reducible rfl);(try simp only[Act.put,aB,aC,aD])));refine cK ?_);((refine aO 7 ?_;intro K hK);go_simp;(refine(F9.out _ (aA _)).mono ?_);rintro e_ u1 ⟨v,rfl,hv,bM⟩;go_wp2_with (fail);(try clear ag);(have ag:=hHeld.ext bM);(refine hK.out _ _ (λ_=>ag) ?_);clear hK K;(try simp only[Act.put,aB,aC,aD]));(refine cB [8] ?_;(iterate 1 (refine bZ (v:=?_) ?_ ?_;rotate_left 1;(intro wS hSw;obtain⟨⟨S1,S2⟩,⟨S3,S4⟩,S5,S6⟩:=hSw;go_simp;try with_reducible rfl);(try simp only[Act.put,aB,aC,aD])));refine cK ?_);have iG:=ae ((lG.out.ext bM).qpE (j:=q) (by have:=Cj.out;omega) hv);obtain⟨W5,mf⟩:∃W5,bW u1 gr (q*2) (.bool v.b) (.slice v.a v.n v.p)=W5:=⟨_,rfl⟩;have jm:=(lG.out.ext bM);obtain⟨yy,⟨k0,k1⟩,_⟩:=jm.r.kI (j:=q) (by have:=Cj.out;omega) (aI _);have fV:=jm.r.wL (q*2);have fP:=jm.r.wL (q*2+1);have mH:=jm.r.lt;have bD:=Kp.bW (M:=M3 M gr gq) (w:=u1) (g:=gr) (.inl (.inr rfl)) (q*2) (.bool v.b) (.slice v.a v.n v.p);have wH:=ae ((mE.out.ext bM).kp bD);have oG:=ae ((xw.out.ext xw.out.lt bM).of_heap (xU u1 gr (q*2) (.bool v.b) (.slice v.a v.n v.p) gp qmj));rw[mf]at wH oG iG;unfold bW at mf;have uj:=ae mf
       clear jm hv bM bD mf lG HY mE xw F9 hHeld ag;((refine aO 9 ?_;intro K hK);go_simp;(refine hK.out _ _ (λh=>absurd rfl h) ?_);clear hK K;refine dX ?_)
       go_upto_region 24 with(fail)
       rw[uj.out];clear k0 k1 fV fP mH uj RU qdf
       by_cases qJ:k<=q
       ·have qc7:(k:Int)<=(q:Int):=by omega
        have ZK:=ae qJ;obtain⟨d,hdq⟩:∃d,d=q-k:=⟨_,rfl⟩
        have hqI:(q:Int)-(k:Int)=(d:Int):=by omega
        have hd0:(0:Int)<=(d:Int):=iw _
        have DL:d<n2:=by have:=Cj.out;omega
        have ou:(d:Int)<(n2:Int):=by omega
        have Ec:IntKind.i64.wrap (d:Int)=(d:Int):=by rw[IntKind.wrap_i64];omega
        have uP:=ae hdq;obtain⟨gb,ob,Bg,gW,Ro,fw⟩:=iG.out.g.kI (i:=d) DL;subst Bg;obtain⟨y2,wV,hy⟩:=iG.out.r.kI (j:=q) (by have:=Cj.out;omega) (aI _);rw[ai rfl]at hy
        have jF:z2 d=G d:=by rw[<-sP.out];unfold aP;rw[ai DL]
        rw[jF]at fw;have hd:=(aA W5).drew;have hS:um gr (q*2) y2 gp x gb (ob+d*2) (X2 d) W5.drew:=um.ext ⟨wV,oG.out,gW,iG.out.r.lt,oG.out.lt,Ro⟩ hd;have lG:=ae (iG.out.ext hd);have HY:=ae (hy.ext hd);have qi:=ae (fw.ext hd);have mE:=ae (wH.out.ext hd);have xw:=ae (oG.out.ext oG.out.lt hd);have RU:gr<W5.drew.heap.size:=hS.2.2.2.1;have qxH:gp<W5.drew.heap.size:=hS.2.2.2.2.1;have qwt:gb<W5.drew.heap.size:=hS.2.2.2.2.2;clear hdq hd hy wV gW fw jF iG wH oG qJ Ro DL
        go_upto_region 25 with(fail)
        refine gB (um gr (q*2) y2 gp x gb (ob+d*2) (X2 d)) 16 (by kernel_rfl) hS (λhHeld=>?_);clear hS;generalize W5.drew=Jo at*
        have C25:Hid (∀W:World,Ext Jo W->Calls Tryz.prog 65 #[.agg #[.bool x.b,.slice x.a x.n x.p],.agg #[.bool (X2 d).b,.slice (X2 d).a (X2 d).n (X2 d).p]] W (lg (M3 M gr gq) W (zR n j G R0 t (n+k)*G d))):=λW he=>
         La x (X2 d) _ _ W (lG.out.m.ext he) (mE.out.ext he) (qi.out.ext he) (by
          have e1:=XC.out (n+k);have e2:=sO.out d;have e3:=UQ.out
          omega)
        have C26:Hid (∀(W:World)(u:IE),Ext Jo W->IX (M3 M gr gq) W u (zR n j G R0 t (n+k)*G d)->Calls Tryz.prog 66 #[.agg #[.bool y2.b,.slice y2.a y2.n y2.p],.agg #[.bool u.b,.slice u.a u.n u.p]] W (lg (M3 M gr gq) W (zR n j G R0 t q*G n-zR n j G R0 t (n+k)*G d))):=λW u he hu=>
         qBJ y2 u _ _ W (lG.out.m.ext he) (HY.out.ext he) hu (by
          have e1:=XC.out (n+k);have e2:=sO.out d;have e3:=UQ.out;have e4:=XC.out q;have e5:=sO.out n;have e6:=pQ (zR n j G R0 t (n+k)).natAbs (G d).natAbs;have e7:=pQ (zR n j G R0 t q).natAbs (G n).natAbs;rw[Int.natAbs_mul,Int.natAbs_mul]
          omega)
        (refine cB [0,1,2,3,4,5,6,7,8,9,10,11,12] ?_;(iterate 13 (refine bZ (v:=?_) ?_ ?_;rotate_left 1;(intro wS hSw;obtain⟨⟨S1,S2⟩,⟨S3,S4⟩,⟨S5,S6⟩,S7,S8,S9⟩:=hSw;go_simp;try with_reducible rfl);(try simp only[Act.put,aB,aC,aD])));refine cK ?_);((refine aO 13 ?_;intro K hK);go_simp;(refine(C25.out _ (aA _)).mono ?_);rintro e_ u2 ⟨u,rfl,hu,bM⟩;go_wp2_with (fail);(try clear ag);(have ag:=hHeld.ext bM);(refine hK.out _ _ (λ_=>ag) ?_);clear hK K;(try simp only[Act.put,aB,aC,aD]));((refine aO 14 ?_;intro K hK);go_simp;(refine(C26.out _ u bM hu).mono ?_);rintro e_ u3 ⟨v2,rfl,hv2,fM⟩;go_wp2_with (fail);(try clear ag);(have ag:=hHeld.ext (bM.trans fM));(refine hK.out _ _ (λ_=>ag) ?_);clear hK K;(try simp only[Act.put,aB,aC,aD]));(refine cB [15] ?_;(iterate 1 (refine bZ (v:=?_) ?_ ?_;rotate_left 1;(intro wS hSw;obtain⟨⟨S1,S2⟩,⟨S3,S4⟩,⟨S5,S6⟩,S7,S8,S9⟩:=hSw;go_simp;try with_reducible rfl);(try simp only[Act.put,aB,aC,aD])));refine cK ?_);have lh:=bM.trans fM;have jm:=(lG.out.ext lh);have iG:=ae (jm.qpE (j:=q) (by have:=Cj.out;omega) hv2);obtain⟨W6,gV⟩:∃W6,bW u3 gr (q*2) (.bool v2.b) (.slice v2.a v2.n v2.p)=W6:=⟨_,rfl⟩;obtain⟨yy,⟨k0,k1⟩,_⟩:=jm.r.kI (j:=q) (by have:=Cj.out;omega) (aI _);have fV:=jm.r.wL (q*2);have fP:=jm.r.wL (q*2+1);have mH:=jm.r.lt
        have bD:=Kp.bW (M:=M3 M gr gq) (w:=u3) (g:=gr) (.inl (.inr rfl)) (q*2) (.bool v2.b) (.slice v2.a v2.n v2.p);have wH:=ae ((mE.out.ext lh).kp bD);have oG:=ae ((xw.out.ext xw.out.lt lh).of_heap (xU u3 gr (q*2) (.bool v2.b) (.slice v2.a v2.n v2.p) gp qmj));rw[gV]at wH oG iG
        have qz:Hid (qB M w gr gq gl (n+j) j c (G n) (some ⟨gb,ob,none⟩) n2 c2 X2 z2 (zS k (G n) (zR n j G R0 t (n+k)) G (zR n j G R0 t) (q+1)) (zQ n j G R0 (t+1)) W6):=iG.out.congr (λi _=>by
         rw[qC3 _ _ _ _ ZK.out, <-uP.out]
         by_cases h1:i=q
         ·rw[ai h1,ai h1]
         ·rw[ah h1,ah h1,ah h1]) (λ_ _=>rfl)
        unfold bW at gV;have oZ:=ae gV;clear jm hu hv2 bM fM lh bD gV lG HY qi mE xw C25 C26 hHeld ag iG;((refine aO 16 ?_;intro K hK);go_simp;(refine hK.out _ _ (λh=>absurd rfl h) ?_);clear hK K;refine dX ?_)
        go_upto_region 26 with(fail)
        rw[oZ.out];clear k0 k1 fV fP mH oZ RU qxH qwt;go_wp2
        go_roundw
        case rel=>exact⟨q+1,Cj.out,by go_num,qz,wH,oG⟩
        case measure=>have:=Cj.out;simp[intOf];omega
       ·have qc7:¬(k:Int)<=(q:Int):=by omega
        have qz:Hid (qB M w gr gq gl (n+j) j c (G n) a2 n2 c2 X2 z2 (zS k (G n) (zR n j G R0 t (n+k)) G (zR n j G R0 t) (q+1)) (zQ n j G R0 (t+1)) W5):=iG.out.congr (λi _=>(qC4 _ _ _ _ qJ i).symm) (λ_ _=>rfl);clear iG;go_wp2
        go_roundw
        case rel=>exact⟨q+1,Cj.out,by go_num,qz,wH,oG⟩
        case measure=>have:=Cj.out;simp[intOf];omega
      ·obtain rfl:q=n+k:=by omega
       have qEd:¬(((n+k:Nat):Int))<(n:Int)+(k:Int):=by omega
       have qz:Hid (qB M w gr gq gl (n+j) j c (G n) a2 n2 c2 X2 z2 (zR n j G R0 (t+1)) (zQ n j G R0 (t+1)) wr):=HS.out.congr (λi _=>by rw[qC0 G R0 yF.out]) (λ_ _=>rfl)
       have qas:Hid (t+1+k=j):=by have:=yF.out;show _=_;omega
       clear HS HX HP;go_wp2
       go_roundw
       case rel=>exact⟨t+1,k,qas.out,by go_num,rfl,qz⟩
       case measure=>have:=yF.out;simp[intOf];omega
section
end
theorem qCe{z:Nat->Int}{n:Nat}:tz z n=0↔∀i,aP n z i=0:=by
 refine⟨λh i=>by rw[<-El,h];exact ah (by omega),λh=>?_⟩;rcases Jl z n with h0|h0
 ·exact h0
 ·refine eF λhc=>h0 ?_;have h1:=h (tz z n-1);unfold aP at h1
  rwa[ai (by have:=iR z n;omega)]at h1
section
variable{L:Nat}(h1:1<=L)(h4:L<=4)
include h1 h4
theorem TM{n:Nat}{z:Nat->Int}:af (aU L n z) []↔tz z n=0:=by
 refine⟨λh=>qCe.2 λi=>?_,λh=>?_⟩
 ·rw[<-EY h1 h4 n z i,h];rfl
 ·refine qe7.symm.trans ?_;rw[h];exact af.refl _
omit h1 h4 in
theorem pG{n k:Nat}{z:Nat->Int}(h:tz z n=k+1):aP n z k≠0/\∀i,k<i->aP n z i=0:=by
 have h0:=(Jl z n).resolve_left (by omega);have h2:=iR z n;refine⟨?_,λi hi=>by rw[<-El,h];exact ah (by omega)⟩;unfold aP;rw[ai (by omega)];rw[h]at h0;exact h0
theorem yQ{n k:Nat}{z:Nat->Int}(h:tz z n=k+1):bE L (aU L n z) k:=qjm h1 h4 (pG h).1 (pG h).2
theorem qqx{m n:Nat}{f:Nat->Int}:uu L (aU L m f) n (tz f m-n):=by
 by_cases h:tz f m=0
 ·exact .inl ⟨(TM h1 h4).2 h,by omega⟩
 ·obtain⟨k,hk⟩:∃k,tz f m=k+1:=⟨tz f m-1,by omega⟩;exact .inr ⟨λhz=>h ((TM h1 h4).1 hz),k,yQ h1 h4 hk,by omega⟩
end
end Go.Proofs.YtmcfpnmoklnhoaaGreat
