/- Wa -/
import Derived.Test.YtmcfpnmoklnhoaaGreatEc
import Derived.Test.YtmcfpnmoklnhoaaGreatBa
import Derived.Test.YtmcfpnmoklnhoaaGreatMv
import Derived.Test.YtmcfpnmoklnhoaaGreatNr
import Derived.Test.YtmcfpnmoklnhoaaGreatRc
import Derived.Test.YtmcfpnmoklnhoaaGreatEg
import Derived.Test.YtmcfpnmoklnhoaaGreatBj
import Derived.Test.YtmcfpnmoklnhoaaGreatEe
import Derived.Test.YtmcfpnmoklnhoaaGreatNe
import Derived.Test.YtmcfpnmoklnhoaaGreatDa
import Derived.Test.YtmcfpnmoklnhoaaGreatMw
set_option linter.unusedVariables false
set_option maxRecDepth 100000
set_option maxHeartbeats 400000000
set_option linter.unusedSimpArgs false
namespace Go.Proofs.YtmcfpnmoklnhoaaGreat
def cst(z:Int):List Tm:=[(z,Mo.zero)]
theorem Z9:ae (cst 0) []:=V9
theorem Z8(a b:Int):ae (ai (cst a) (cst b)) (cst (a*b)):=λm=>by
 simp[ai,cst,smul,shift,aB,Mo.add,Mo.zero]
theorem qrG(a b:Int):ae (cst a++cst b) (cst (a+b)):=λm=>by
 simp only[cst,List.cons_append,List.nil_append,aB]
 split<;>omega
theorem qrH(a b:Int):ae (cst a++di (cst b)) (cst (a-b)):=by
 have h:=(ae.refl (cst a)).append (Z8 b (-1));rw[Int.mul_neg,Int.mul_one]at h;exact h.trans (qrG a (-b))
def zS(k:Nat)(c top:Int)(G R:Nat->Int)(j i:Nat):Int:=if i<j then(if k<=i then R i*c-top*G (i-k)else R i*c)else R i
def zR(n V:Nat)(G R0:Nat->Int):Nat->Nat->Int
 |0=>R0
 |t+1=>zS (V-1-t) (G n) (zR n V G R0 t (n+(V-1-t))) G (zR n V G R0 t) (n+(V-1-t))
def WJ(n V:Nat)(G R0:Nat->Int)(i:Nat):Int:=zR n V G R0 (V-1-i) (n+i)
theorem qxA{k j:Nat}{c top:Int}{G R:Nat->Int}{c' qox:List Tm}{G' R':Nat->List Tm}(hc:ae c' (cst c))(ht:ae qox (cst top))(hG:∀i,ae (G' i) (cst (G i)))(hR:∀i,ae (R' i) (cst (R i)))(i:Nat):
 ae (nZ k c' qox G' R' j i) (cst (zS k c top G R j i)):=by
 unfold nZ zS
 split
 ·have h1:=((hR i).ai hc).trans (Z8 _ _)
  split
  ·exact(h1.append (((ht.ai (hG _)).trans (Z8 _ _)).mY _)).trans (qrH _ _)
  ·exact h1
 ·exact hR i
theorem qc0{n V:Nat}{G R0:Nat->Int}{G' R0':Nat->List Tm}(hG:∀i,ae (G' i) (cst (G i)))(hR:∀i,ae (R0' i) (cst (R0 i))):∀t i,ae (fT n V G' R0' t i) (cst (zR n V G R0 t i))
 |0=>hR
 |t+1=>λi=>qxA (hG n) (qc0 hG hR t _) hG (qc0 hG hR t) i
theorem qwq(D:Nat)(z:Int):dN D (cst z):=(Vz z).mono (Nat.zero_le _)
theorem K8{D:Nat}(hD:D+1<=4)(n:Nat)(z:Nat->Int)(i:Nat):ae (eZ (D+1) (aP (D+1) n z) i) (cst (if i<n then z i else 0)):=by
 refine(uk hD (λi _=>qwq D (z i)) i).trans ?_
 split
 ·exact ae.refl _
 ·exact Z9.symm
def aM(n:Nat)(z:Nat->Int)(i:Nat):Int:=if i<n then z i else 0
theorem qyi{D:Nat}(hD:D+1<=4)(n V m k:Nat)(f g:Nat->Int):
 ae (kg (D+1) n V (aP (D+1) m f) (aP (D+1) k g)) (aP (D+1) n (zR n V (aM k g) (aM m f) V)):=
 sZ _ _ _ _ λi _=>qc0 (K8 hD k g) (K8 hD m f) V i
theorem qsg{a:Int}{A:Nat}(h:az a.natAbs<=A):az (-a).natAbs<=A:=by rw[Int.natAbs_neg];exact h
theorem qAt{k j D A:Nat}{c top:Int}{G R:Nat->Int}(hc:az c.natAbs<=D)(ht:az top.natAbs<=A)(hG:∀i,az (G i).natAbs<=D)(hR:∀i,az (R i).natAbs<=A)(i:Nat):az (zS k c top G R j i).natAbs<=A+(D+1):=by
 unfold zS
 have h1:az (R i*c).natAbs<=A+D:=by
  rw[Int.natAbs_mul];have:=qJ (R i).natAbs c.natAbs;have:=hR i;omega
 split
 ·split
  ·have h2:az (top*G (i-k)).natAbs<=A+D:=by
    rw[Int.natAbs_mul];have:=qJ top.natAbs (G (i-k)).natAbs;have:=hG (i-k);omega
   have h3:=qhy (R i*c) (-(top*G (i-k)));have h4:=qsg h2;rw[<-Int.sub_eq_add_neg]at h3;omega
  ·omega
 ·have:=hR i;omega
theorem qdK{n V D A:Nat}{G R0:Nat->Int}(hG:∀i,az (G i).natAbs<=D)(hR:∀i,az (R0 i).natAbs<=A):∀t i,az (zR n V G R0 t i).natAbs<=A+t*(D+1)
 |0=>λi=>by rw[Nat.zero_mul];exact hR i
 |t+1=>λi=>by
  have:=qAt (k:=V-1-t) (j:=n+(V-1-t)) (hG n) (qdK (n:=n) (V:=V) hG hR t (n+(V-1-t))) hG (qdK (n:=n) (V:=V) hG hR t) i;rw[Nat.succ_mul];unfold zR;omega
def zQ(n V:Nat)(G R0:Nat->Int)(t j:Nat):Int:=if V-t<=j/\j<V then WJ n V G R0 j*G n^(j-(V-t))else 0
theorem qAq(n V:Nat)(G R0:Nat->Int)(j:Nat):zQ n V G R0 0 j=0:=if_neg (by omega)
theorem qAp{n V t:Nat}(G R0:Nat->Int)(ht:t<V){j:Nat}(hj:j<V):
 zQ n V G R0 (t+1) j=if V-1-t<j then zQ n V G R0 t j*G n else if j=V-1-t then zR n V G R0 t (n+(V-1-t))else zQ n V G R0 t j:=by
 unfold zQ;rcases Nat.lt_trichotomy j (V-1-t)with h|h|h
 ·rw[if_neg (by omega),if_neg (by omega),if_neg (by omega),if_neg (by omega)]
 ·rw[if_pos (by omega),if_neg (by omega),if_pos h,h,show V-1-t-(V-(t+1))=0 by omega,Int.pow_zero,Int.mul_one];unfold WJ;rw[show V-1-(V-1-t)=t by omega]
 ·rw[if_pos (by omega),if_pos h,if_pos (by omega),show j-(V-(t+1))=(j-(V-t))+1 by omega,Int.pow_succ,Int.mul_assoc]
def zC(q g:Nat->Int):Nat->Nat->Int
 |0,_=>0
 |V+1,i=>zC q g V i+(if V<=i then q V*g (i-V)else 0)
def zE(V:Nat)(f g q:Nat->Int):Nat->Nat->Int
 |0,i=>f i
 |t+1,i=>zE V f g q t i-(if V-1-t<=i then q (V-1-t)*g (i-(V-1-t))else 0)
theorem qoX{V:Nat}{f g q:Nat->Int}:∀t i,t<=V->zE V f g q t i=f i-(zC q g V i-zC q g (V-t) i)
 |0,i,_=>by simp[zE]
 |t+1,i,ht=>by
  unfold zE;rw[qoX t i (by omega),show V-t=(V-1-t)+1 by omega,show V-(t+1)=V-1-t by omega];simp only[zC];omega
theorem qdI{q q' g:Nat->Int}{i:Nat}:∀V,(∀k,k<V->q k=q' k)->zC q g V i=zC q' g V i
 |0,_=>rfl
 |V+1,h=>by
  simp only[zC];rw[qdI V λk hk=>h k (by omega),h V (by omega)]
theorem qdJ{q g:Nat->Int}{n:Nat}(hg:∀i,n<i->g i=0):∀V i,n+V<=i->zC q g V i=0
 |0,_,_=>rfl
 |V+1,i,h=>by
  simp only[zC];rw[qdJ hg V i (by omega),hg (i-V) (by omega)];simp
theorem qDw{V n t:Nat}{f g q:Nat->Int}(hg:∀i,n<i->g i=0)(hf:∀i,f i=zC q g V i)(ht:t<V):zE V f g q t (V-1-t+n)=q (V-1-t)*g n:=by
 rw[qoX t _ (by omega),hf,show V-t=(V-1-t)+1 by omega];simp only[zC];rw[qdJ hg (V-1-t) _ (by omega),if_pos (by omega),Nat.add_sub_cancel_left];omega
theorem pK(z:Int):NN (cst z):=λm hm=>by
 show aB [(z,Mo.zero)] m=0;unfold aB aB
 by_cases e:Mo.zero=m
 ·subst e;exact absurd hm (by decide)
 ·rw[if_neg e];rfl
theorem pM(L n:Nat)(z:Nat->Int):NN (aP L n z):=NN.aJ λi _=>pK (z i)
def zK(g:Nat->Int)(r:List Tm)(L:Nat)(m:Mo):Nat->Int
 |0=>0
 |k+1=>zK g r L m k+g k*aB r (Mo.sub m (xp L (k:Int)))
theorem qha(L:Nat)(g:Nat->Int)(r:List Tm)(m:Mo):∀k,aB (ai (aP L k g) r) m=zK g r L m k
 |0=>rfl
 |k+1=>by
  unfold aP;rw[fK,Cw,gW];have h:=qha L g r m k;unfold aP at h;rw[h];show _+aB (ai [(g k,Mo.add Mo.zero (xp L (k:Int)))] r) m=_
  have e:Mo.add Mo.zero (xp L (k:Int))=xp L (k:Int):=by simp[Mo.add,Mo.zero]
  rw[e];show _+aB (shift (xp L (k:Int)) (smul (g k) r)++[]) m=_;rw[List.append_nil,rG,iD];rfl
theorem qzk(L:Nat)(i j:Int):Mo.sub (xp L i) (xp L j)=xp L (i-j):=by
 simp only[Mo.sub,xp,Mo.mk.injEq];refine⟨?_,?_,?_,?_⟩<;>split<;>omega
theorem qw2{L:Nat}(h1:1<=L)(h4:L<=4){i:Int}(hi:i<0):(xp L i).nn=false:=by
 rcases ME h1 h4 with rfl|rfl|rfl|rfl<;>simp[Mo.nn,xp]<;>omega
theorem qoY{L:Nat}(h1:1<=L)(h4:L<=4)(g:Nat->Int){r:List Tm}(hr:NN r)(i:Nat):∀k,zK g r L (xp L (i:Int)) k=zC g (λj=>aB r (xp L (j:Int))) k i
 |0=>rfl
 |k+1=>by
  show zK g r L _ k+g k*aB r (Mo.sub (xp L (i:Int)) (xp L (k:Int)))=zC g _ k i+(if k<=i then g k*aB r (xp L ((i-k:Nat):Int))else 0);rw[qoY h1 h4 g hr i k,qzk]
  split
  ·rename_i h;rw[show((i:Int)-(k:Int))=((i-k:Nat):Int) by omega]
  ·rename_i h;rw[hr _ (qw2 h1 h4 (i:=(i:Int)-(k:Int)) (by omega))];simp
theorem qoV(f:Nat->Int)(i:Nat):∀m,zC f (λj=>if j=0 then 1 else 0) m i=aM m f i
 |0=>rfl
 |m+1=>by
  show zC f _ m i+(if m<=i then f m*(if i-m=0 then 1 else 0)else 0)=_;rw[qoV f i m];unfold aM;rcases Nat.lt_trichotomy i m with h|h|h
  ·rw[if_pos h,if_neg (by omega),if_pos (by omega),Int.add_zero]
  ·subst h;rw[if_neg (by omega),if_pos (by omega),if_pos (by omega),if_pos (by omega),Int.zero_add,Int.mul_one]
  ·rw[if_neg (by omega),if_pos (by omega),if_neg (by omega),if_neg (by omega),Int.mul_zero,Int.add_zero]
theorem qry{L:Nat}(h1:1<=L)(h4:L<=4)(j:Nat):aB [((1:Int),Mo.zero)] (xp L (j:Int))=if j=0 then 1 else 0:=by
 have e:(Mo.zero=xp L (j:Int))↔j=0:=by
  rcases ME h1 h4 with rfl|rfl|rfl|rfl<;>simp[Mo.zero,xp]<;>omega
 unfold aB aB;simp only[e]
 split<;>rfl
theorem DX{L:Nat}(h1:1<=L)(h4:L<=4)(m:Nat)(f:Nat->Int)(i:Nat):aB (aP L m f) (xp L (i:Int))=aM m f i:=by
 rw[<-Q8 (aP L m f) (xp L (i:Int)),qha,qoY h1 h4 f (r:=[((1:Int),Mo.zero)]) (pK 1), <-qoV f i m]
 congr 1
 funext j
 exact qry h1 h4 j
section
variable{L:Nat}(h1:1<=L)(h4:L<=4){f g:Nat->Int}{m k n:Nat}
include h1 h4
theorem CX(hg:aM k g n≠0):¬ae (aP L k g) []:=λh=>hg (by rw[<-DX h1 h4 k g n,h];rfl)
theorem qhw(hg:aM k g n≠0)(hn:∀i,n<i->aM k g i=0):bD L (aP L k g) n:=by
 refine⟨λm hm=>?_,.inr ⟨xp L (n:Int),by rw[DX h1 h4];exact hg,by rw[dX L L _ h1 h4,if_pos rfl]⟩⟩;obtain⟨t,ht,e⟩:∃t∈aP L k g,t.2=m:=Classical.byContradiction λfD=>hm (qh λt ht e=>fD ⟨t,ht,e⟩);unfold aP aJ at ht;obtain⟨i,hi,ht⟩:=List.mem_flatMap.1 ht;unfold shift at ht;obtain⟨s,hs,rfl⟩:=List.mem_map.1 ht;rw[List.mem_singleton.1 hs]at e
 have e2:m=xp L (i:Int):=by rw[<-e];simp[Mo.add,Mo.zero]
 rw[e2,DX h1 h4]at hm;rw[e2,dX L L _ h1 h4,if_pos rfl];have:¬n<i:=λh=>hm (hn i h);omega
end
end Go.Proofs.YtmcfpnmoklnhoaaGreat
namespace Go.Proofs.YtmcfpnmoklnhoaaGreat
open Go.RowKit
def JC(w:World)(b o:Nat)(x:IE):Prop:=w.cell? ⟨b,o,none⟩=some (.bool x.b)/\w.cell? ⟨b,o+1,none⟩=some (.slice x.a x.n x.p)
theorem JC.of_heap{w w':World}{b o:Nat}{x:IE}(h:JC w b o x)(he:w'.heap[b]?=w.heap[b]?):JC w' b o x:=by
 have hc:=λo=>World.cell?_of_block (w:=w) (w':=w') (a:=⟨b,o,none⟩) he;exact⟨(hc _).trans h.1,(hc _).trans h.2⟩
theorem JC.ext{w w':World}{b o:Nat}{x:IE}(h:JC w b o x)(hb:b<w.heap.size)(he:Ext w w'):JC w' b o x:=h.of_heap (he.heap hb)
theorem JC.lt{w:World}{b o:Nat}{x:IE}(h:JC w b o x):b<w.heap.size:=World.block_lt_of_cell? _ _ h.1
def IX(M:Nat->Prop)(w:World)(x:IE)(z:Int):Prop:=dB M w (.bool x.b) (.slice x.a x.n x.p) z
theorem IX.ext{M:Nat->Prop}{w w':World}{x:IE}{z:Int}(h:IX M w x z)(he:Ext w w'):IX M w' x z:=dB.ext h he
theorem IX.kp{M:Nat->Prop}{w w':World}{x:IE}{z:Int}(h:IX M w x z)(he:Kp M w w'):IX M w' x z:=dB.kp h he
theorem IX.more{M M':Nat->Prop}{w:World}{x:IE}{z:Int}(h:IX M w x z)(hm:∀g,M' g->M g\/w.heap.size<=g):IX M' w x z:=dB.more h hm
def kI(M:Nat->Prop)(w:World)(z:Int)(e:Ending)(w':World):Prop:=∃x:IE,e=.returned (.agg #[.bool x.b,.slice x.a x.n x.p])/\IX M w' x z/\Ext w w'
theorem kI.of{M:Nat->Prop}{w:World}{z:Int}{e:Ending}{w':World}(h:∃e0 e1,e=.returned (.agg #[e0,e1])/\dJ M w' e0 e1 z/\Ext w w'):kI M w z e w':=by
 obtain⟨e0,e1,rfl,hc,he⟩:=h;obtain⟨b,a,n,p,rfl,rfl⟩:=hc.form;exact⟨⟨b,a,n,p⟩,rfl,hc.eH,he⟩
theorem MG{M:Nat->Prop}(x y:IE)(p q:Int)(w:World)(hM:Mb M w)(h:IX M w x p)(k:IX M w y q)(hL:az p.natAbs+az q.natAbs<=1099511627776):
 Calls Tryz.prog 65 #[.agg #[.bool x.b,.slice x.a x.n x.p],.agg #[.bool y.b,.slice y.a y.n y.p]] w (kI M w (p*q)):=(qlU _ _ _ _ p q w hM h k hL).mono λ_ _ h=>.of h
theorem qgH{M:Nat->Prop}(x y:IE)(p q:Int)(w:World)(hM:Mb M w)(h:IX M w x p)(k:IX M w y q)(hL:az p.natAbs+az q.natAbs+1<=1099511627776):
 Calls Tryz.prog 124 #[.agg #[.bool x.b,.slice x.a x.n x.p],.agg #[.bool y.b,.slice y.a y.n y.p]] w (kI M w (p+q)):=
 (qcB _ _ _ _ p q w hM h k (Nat.le_trans (Lf _ _) (by omega))).mono λ_ _ h=>.of h
theorem qw3{M:Nat->Prop}(x:IE)(p:Int)(w:World)(hM:Mb M w)(h:IX M w x p):
 Calls Tryz.prog 101 #[.agg #[.bool x.b,.slice x.a x.n x.p]] w (kI M w p):=(QH _ _ p w hM h).mono λ_ _ h=>.of h
theorem qzg{M:Nat->Prop}(x y:IE)(p q:Int)(w:World)(hM:Mb M w)(h:IX M w x p)(k:IX M w y q)(hL:az p.natAbs+az q.natAbs+1<=1099511627776):
 Calls Tryz.prog 66 #[.agg #[.bool x.b,.slice x.a x.n x.p],.agg #[.bool y.b,.slice y.a y.n y.p]] w (kI M w (p-q)):=by
 have aQ:Ext w (((w.alloc (.cells #[.bool x.b,.slice x.a x.n x.p] 30)).alloc (.cells #[.bool y.b,.slice y.a y.n y.p] 30)).alloc (.cells zI 30)):=(((Ext.refl w).alloc _).alloc _).alloc _;have bM:=ak.bf ((w.alloc (.cells #[.bool x.b,.slice x.a x.n x.p] 30)).alloc (.cells #[.bool y.b,.slice y.a y.n y.p] 30)) zI 30 2 rfl;simp only[World.size_alloc]at bM;have dw:Mb (Mx M w.heap.size (w.heap.size+3)) (((w.alloc (.cells #[.bool x.b,.slice x.a x.n x.p] 30)).alloc (.cells #[.bool y.b,.slice y.a y.n y.p] 30)).alloc (.cells zI 30)):=Mx.mb hM (by simp;omega) (by simp);have hx:IX (Mx M w.heap.size (w.heap.size+3)) (((w.alloc (.cells #[.bool x.b,.slice x.a x.n x.p] 30)).alloc (.cells #[.bool y.b,.slice y.a y.n y.p] 30)).alloc (.cells zI 30)) x p:=(h.more (M':=Mx M w.heap.size (w.heap.size+3)) (Mx.more (Nat.le_refl _))).ext aQ
 have hy:IX (Mx M w.heap.size (w.heap.size+3)) (((w.alloc (.cells #[.bool x.b,.slice x.a x.n x.p] 30)).alloc (.cells #[.bool y.b,.slice y.a y.n y.p] 30)).alloc (.cells zI 30)) ⟨!y.b,y.a,y.n,y.p⟩ (-q):=by
  obtain⟨nb,u,hb,hu,rfl⟩:=(k.more (M':=Mx M w.heap.size (w.heap.size+3)) (Mx.more (Nat.le_refl _))).ext aQ;simp only[Value.bool.injEq]at hb;subst hb;exact⟨!y.b,u,rfl,hu,(qn6 _ _).symm⟩
 have aO:=Lib.hid (qgH x ⟨!y.b,y.a,y.n,y.p⟩ p (-q) _ dw hx hy (by rw[Int.natAbs_neg];exact hL));have HB:=Lib.hid bM;have HE:=Lib.hid aQ;clear aQ bM dw h k hM hx hy
 go_enter Tryz.func66,Tryz.ntmps66
 go_wp2_with (fail);refine aO.out.mono ?_;rintro e w1 ⟨v,rfl,hc,af⟩;obtain⟨⟨q0,q1,f0,f1⟩,⟨r0,r1⟩,aZ,dM⟩:=nL (M':=Mx M w.heap.size (w.heap.size+3)) (w:=w) (.bool v.b) (.slice v.a v.n v.p) (HB.out.ext af) (Mx.at (by omega)) (by omega) (HE.out.trans af);have HF:Hid (kI M w (p-q) (.returned (.agg #[.bool v.b,.slice v.a v.n v.p])) _):=⟨v,rfl,(by rw[Int.sub_eq_add_neg];exact(hc.kp aZ).more Mx.less),dM⟩;have hlt:=(HB.out.ext af).lt;simp only[arr]at q0 q1;clear aO hc af aZ dM;go_wp2;exact bodyPost_ret (v:=.agg #[.bool v.b,.slice v.a v.n v.p]) (by simp[results,Tryz.results66,go_sem,r0,r1]) rfl HF.out
section
variable{M M':Nat->Prop}{w w':World}{g N k:Nat}{z z':Nat->Int}
theorem bg.jH{a:Option Addr}{n cap:Nat}{X:Nat->IE}(h:bg M w a n cap X z){i:Nat}(hi:i<n):∃b off,a=some ⟨b,off,none⟩/\JC w b (off+i*2) (X i)/\b<w.heap.size/\IX M w (X i) (z i):=by
 obtain⟨b,off,e,hb,_,h0,h1,h2⟩:=h.2.2.2.2 i hi;exact⟨b,off,e,⟨h0,h1⟩,hb,h2⟩
theorem UK.jH(h:UK M w g N k z){j:Nat}(hj:j<k)(hN:k<=N):∃x:IE,JC w g (j*2) x/\IX M w x (z j):=by
 obtain⟨X,f,hB,hf⟩:=h;obtain⟨h0,h1,h2⟩:=hf j hj;refine⟨X j,⟨?_,?_⟩,h2⟩
 ·rw[hB.cell (by omega),h0]
 ·rw[hB.cell (by omega),h1]
theorem UK.lt(h:UK M w g N k z):g<w.heap.size:=by
 obtain⟨X,f,hB,hf⟩:=h;exact hB.lt
theorem UK.xP(h:UK M w g N k z)(o:Nat):w.frozen? ⟨g,o,none⟩=false:=by
 obtain⟨X,f,hB,hf⟩:=h;exact hB.frozen o
theorem UK.congr(h:UK M w g N k z)(hz:∀i,i<k->z i=z' i):UK M w g N k z':=by
 obtain⟨X,f,hB,hf⟩:=h;exact⟨X,f,hB,λi hi=>by rw[<-hz i hi];exact hf i hi⟩
theorem UK.kp(h:UK M w g N k z)(he:w'.heap[g]?=w.heap[g]?)(hk:Kp M w w'):UK M w' g N k z:=by
 obtain⟨X,f,hB,hf⟩:=h;exact⟨X,f,hB.of_heap he,λi hi=>⟨(hf i hi).1,(hf i hi).2.1,(hf i hi).2.2.kp hk⟩⟩
theorem wK(w:World)(g o:Nat)(e0 e1:Value)(b:Nat)(hb:b≠g):(bK w g o e0 e1).heap[b]?=w.heap[b]?:=by
 unfold bK;rw[Below.heap_setCell _ _ _ _ hb,Below.heap_setCell _ _ _ _ hb]
theorem Kp.bK(hg:M g)(o:Nat)(e0 e1:Value):Kp M w (Go.Proofs.YtmcfpnmoklnhoaaGreat.bK w g o e0 e1):=(Kp.set M w (p:=⟨g,o,none⟩) hg e0).trans (Kp.set M _ (p:=⟨g,o+1,none⟩) hg e1)
theorem UK.put(h:UK M w g N N z)(hg:M g){j:Nat}(hj:j<N){x:IE}{v:Int}(hc:IX M w x v):UK M (bK w g (j*2) (.bool x.b) (.slice x.a x.n x.p)) g N N λi=>if i=j then v else z i:=by
 obtain⟨X,f,hB,hf⟩:=h;have hk:Kp M w (bK w g (j*2) (.bool x.b) (.slice x.a x.n x.p)):=Kp.bK hg _ _ _;refine⟨λi=>if i=j then x else X i,_,(hB.set (j*2) (.bool x.b)).set (j*2+1) (.slice x.a x.n x.p),λi hi=>?_⟩;unfold iK
 by_cases gH:i=j
 ·subst gH;simp only[if_true];exact⟨by rw[if_neg (by omega)],trivial,hc.kp hk⟩
 ·simp only[if_neg gH];rw[if_neg (by omega),if_neg (by omega),if_neg (by omega),if_neg (by omega)];obtain⟨h1,h2,h3⟩:=hf i (by omega);exact⟨h1,h2,h3.kp hk⟩
def Nc(i:Nat):Value:=if i%2=0 then .bool false else .slice none 0 0
theorem UK.zero{f:Nat->Value}(hB:ak w g 30 (N*2) f)(hf:∀i,i<N*2->f i=Nc i):UK M w g N N λ_=>0:=by
 refine⟨λ_=>⟨false,none,0,0⟩,f,hB,λi hi=>⟨?_,?_,(dJ.zero M w).eH⟩⟩
 ·rw[hf _ (by omega)];unfold Nc;rw[if_pos (by omega)]
 ·rw[hf _ (by omega)];unfold Nc;rw[if_neg (by omega)]
end
theorem qgV(w:World)(N:Nat)(e:TypeId):ak (w.alloc (.cells (madeCells (Value.agg #[.bool false,.slice none 0 0]).cells (N*2)) e)) w.heap.size e (N*2) Nc:=
 ak.VL w _ e Nc (N*2) (by simp[madeCells]) λi hi=>by
  have hm:i%2<2:=Nat.mod_lt _ (by decide);unfold Nc;rcases Nat.mod_two_eq_zero_or_one i with h|h<;>simp[madeCells,hi,Array.getD_eq_getD_getElem?,h,Value.cells]
def vJ(z:Nat->Int)(n:Nat):Int:=if tz z n=0 then 0 else z (tz z n-1)
theorem Wv(M:Nat->Prop)(a:Option Addr)(n cap:Nat)(X:Nat->IE)(z:Nat->Int)(w:World)(hM:Mb M w)(h:bg M w a n cap X z):
 Calls Tryz.prog 64 #[.slice a n cap] w (kI M w (vJ z n)):=by
 have aQ:Ext w (w.alloc (.cells #[.bool false,.slice none 0 0] 30)):=(Ext.refl w).alloc _;have bO:=ak.bf w #[.bool false,.slice none 0 0] 30 2 rfl;have lg:Mb (Mx M w.heap.size (w.heap.size+1)) (w.alloc (.cells #[.bool false,.slice none 0 0] 30)):=Mx.mb hM (by simp) (by simp);have hU:=(h.more (M':=Mx M w.heap.size (w.heap.size+1)) (Mx.more (Nat.le_refl _))).ext aQ;have hn:=h.1;have wH:=h.2.1;have gm:=h.2.2.1;have hle:=jr z n;generalize hW:w.alloc (.cells #[.bool false,.slice none 0 0] 30)=W at*;have HW:=Lib.hid hW;have HU:=Lib.hid hU;have HE:=Lib.hid aQ;have HB:=Lib.hid bO;have HM:=Lib.hid lg;have CT:=Lib.hid (JZ _ a n cap X z W hU);have HL:Hid (vJ z n=if tz z n=0 then 0 else z (tz z n-1)):=rfl;unfold maxLen at gm;clear hW hU aQ bO lg h hM
 go_enter Tryz.func64,Tryz.ntmps64
 go_upto_region 1 with(fail)
 rw[HW.out];clear HW;go_wp2_with (fail);refine CT.out.mono ?_;rintro e w1 ⟨rfl,af⟩;have aL:=Lib.hid (HE.out.trans af);have cB:=Lib.hid (HB.out.ext af);have Dx:=Lib.hid ((HU.out.ext af).cut hle);have kW:=Lib.hid (HM.out.ext af);clear af HE HB HU HM CT;generalize tz z n=m at*
 by_cases h0:m=0
 ·subst h0;obtain⟨⟨s0,s1,g0,g1⟩,⟨t0,t1⟩,kz,lh⟩:=nL (M':=Mx M w.heap.size (w.heap.size+1)) (w:=w) (.bool false) (.slice none 0 0) cB.out (Mx.at (by omega)) (by omega) aL.out;have HF:Hid (kI M w (vJ z n) (.returned (.agg #[.bool false,.slice none 0 0])) _):=⟨⟨false,none,0,0⟩,rfl,(by rw[HL.out,if_pos rfl];exact(dJ.zero _ _).eH),lh⟩;have quO:=cB.out.lt;simp only[arr]at s0 s1;clear kz lh aL cB Dx kW HL;go_wp2;exact bodyPost_ret (v:=.agg #[.bool false,.slice none 0 0]) (by simp[results,Tryz.results64,go_sem,t0,t1]) rfl HF.out
 ·obtain⟨b,off,rfl,⟨x0,x1⟩,hb,hx⟩:=Dx.out.jH (i:=m-1) (by omega)
  have Ex:¬(m:Int)=0:=by omega
  have j1:(0:Int)<=(m:Int)-1:=by omega
  have j2:((m:Int)-1).toNat=m-1:=by omega
  have j3:(m:Int)-1<(m:Int):=by omega
  have HX:=Lib.hid hx;clear hx;go_wp2_with (fail);refine(qw3 _ _ _ kW.out HX.out).mono ?_;rintro e w2 ⟨y,rfl,hy,aA⟩;have HY:=Lib.hid hy;obtain⟨⟨s0,s1,g0,g1⟩,⟨t0,t1⟩,kz,lh⟩:=nL (M':=Mx M w.heap.size (w.heap.size+1)) (w:=w) (.bool y.b) (.slice y.a y.n y.p) (cB.out.ext aA) (Mx.at (by omega)) (by omega) (aL.out.trans aA);have HF:Hid (kI M w (vJ z n) (.returned (.agg #[.bool y.b,.slice y.a y.n y.p])) _):=⟨y,rfl,(by rw[HL.out,if_neg h0];exact(HY.out.kp kz).more Mx.less),lh⟩;have quO:=(cB.out.ext aA).lt;simp only[arr]at s0 s1;clear kz lh aL cB Dx kW HL HX HY hy aA x0 x1 hb;go_wp2;exact bodyPost_ret (v:=.agg #[.bool y.b,.slice y.a y.n y.p]) (by simp[results,Tryz.results64,go_sem,t0,t1]) rfl HF.out
theorem qAw(k:Nat)(c top:Int)(G R:Nat->Int)(i:Nat):zS k c top G R 0 i=R i:=if_neg (by omega)
theorem qAs(k:Nat)(c top:Int)(G R:Nat->Int)(j:Nat):zS k c top G R j j=R j:=if_neg (by omega)
theorem qAu{k j:Nat}(c top:Int)(G R:Nat->Int)(h:k<=j)(i:Nat):zS k c top G R (j+1) i=if i=j then R j*c-top*G (j-k)else zS k c top G R j i:=by
 unfold zS
 by_cases e:i=j
 ·subst e;rw[if_pos (by omega),if_pos h,if_pos rfl]
 ·rw[if_neg e]
  by_cases h2:i<j
  ·rw[if_pos h2,if_pos (by omega)]
  ·rw[if_neg h2,if_neg (by omega)]
theorem qAv{k j:Nat}(c top:Int)(G R:Nat->Int)(h:¬k<=j)(i:Nat):zS k c top G R (j+1) i=if i=j then R j*c else zS k c top G R j i:=by
 unfold zS
 by_cases e:i=j
 ·subst e;rw[if_pos (by omega),if_neg h,if_pos rfl]
 ·rw[if_neg e]
  by_cases h2:i<j
  ·rw[if_pos h2,if_pos (by omega)]
  ·rw[if_neg h2,if_neg (by omega)]
theorem qAr{n V k t:Nat}(G R0:Nat->Int)(h:t+(k+1)=V):zR n V G R0 (t+1)=zS k (G n) (zR n V G R0 t (n+k)) G (zR n V G R0 t) (n+k):=by
 show zS (V-1-t) (G n) (zR n V G R0 t (n+(V-1-t))) G (zR n V G R0 t) (n+(V-1-t))=_;rw[show V-1-t=k by omega]
theorem Wt(z:Nat->Int)(n:Nat):tz z (tz z n)=tz z n:=by
 rcases Ho z n with h|h
 ·rw[h];rfl
 ·by_cases h0:tz z n=0
  ·rw[h0];rfl
  ·exact Ro (by omega) h
theorem Lg{c:Int}{D:Nat}(h:az c.natAbs<=D):∀k,az (c^k).natAbs<=k*D+1
 |0=>by simp;decide
 |k+1=>by
  have:=Lg h k;rw[Int.pow_succ,Int.natAbs_mul,Nat.succ_mul];have:=qJ (c^k).natAbs c.natAbs;omega
section
variable{n V A D:Nat}{G R0:Nat->Int}(hG:∀i,az (G i).natAbs<=D)(hR:∀i,az (R0 i).natAbs<=A)
include hG hR
theorem WI{t:Nat}(ht:t<=V)(i:Nat):az (zR n V G R0 t i).natAbs<=A+V*(D+1):=by
 have:=qdK (n:=n) (V:=V) hG hR t i;have:=Nat.mul_le_mul_right (D+1) ht;omega
theorem qAo(t j:Nat):az (zQ n V G R0 t j).natAbs<=A+V*(D+1)+(V*D+1):=by
 unfold zQ
 split
 ·rename_i h;have h1:az (WJ n V G R0 j).natAbs<=A+V*(D+1):=WI hG hR (by omega) _;have h2:=Lg (hG n) (j-(V-t));have h3:=Nat.mul_le_mul_right D (show j-(V-t)<=V by omega);have h4:=qJ (WJ n V G R0 j).natAbs (G n^(j-(V-t))).natAbs;rw[Int.natAbs_mul];omega
 ·exact Nat.le_trans (by decide:az (0:Int).natAbs<=0) (Nat.zero_le _)
end
def zJ(k j:Nat)(c:Int)(q:Nat->Int)(i:Nat):Int:=if k<i/\i<j then q i*c else q i
theorem qAn(k:Nat)(c:Int)(q:Nat->Int)(i:Nat):zJ k (k+1) c q i=q i:=if_neg (by omega)
theorem qAk(k j:Nat)(c:Int)(q:Nat->Int):zJ k j c q j=q j:=if_neg (by omega)
theorem qAm{k j:Nat}(c:Int)(q:Nat->Int)(h:k<j)(i:Nat):(if i=j then q j*c else zJ k j c q i)=zJ k (j+1) c q i:=by
 unfold zJ
 by_cases e:i=j
 ·subst e;rw[if_pos rfl,if_pos (by omega)]
 ·rw[if_neg e]
  by_cases h2:k<i/\i<j
  ·rw[if_pos h2,if_pos (by omega)]
  ·rw[if_neg h2,if_neg (by omega)]
theorem qAl{n V k t:Nat}(G R0:Nat->Int)(h:t+(k+1)=V)(i:Nat)(hi:i<V):(if i=k then zR n V G R0 t (n+k)else zJ k V (G n) (zQ n V G R0 t) i)=zQ n V G R0 (t+1) i:=by
 rw[qAp G R0 (by omega) hi,show V-1-t=k by omega];unfold zJ
 by_cases e:i=k
 ·subst e;rw[if_pos rfl,if_neg (by omega),if_pos rfl]
 ·rw[if_neg e]
  by_cases h2:k<i
  ·rw[if_pos (by omega),if_pos h2]
  ·rw[if_neg (by omega),if_neg h2,if_neg e]
def PsO(M:Nat->Prop)(w':World)(n1:Nat)(z1:Nat->Int)(n2:Nat)(z2:Nat->Int)(au:Option Addr)(nu cu:Nat)(av:Option Addr)(nv cv:Nat)(er:Int):Prop:=
 ∃Xu zu Xv zv,bg M w' au nu cu Xu zu/\bg M w' av nv cv Xv zv/\((tz z2 n2=0/\er=2/\nu=0/\nv=0)\/
  ∃n V,tz z2 n2=n+1/\V=tz z1 n1-n/\er=0/\nv=tz zv nv/\(∀i,aM nu zu i=aM V (zQ n V (aM n2 z2) (aM n1 z1) V) i)/\∀i,aM nv zv i=aM n (zR n V (aM n2 z2) (aM n1 z1) V) i)
def Tt(M:Nat->Prop)(w:World)(n1:Nat)(z1:Nat->Int)(n2:Nat)(z2:Nat->Int)(e:Ending)(w':World):Prop:=
 ∃au nu cu av nv cv er,e=.returned (.tuple #[.slice au nu cu,.slice av nv cv,.int .i64 er])/\PsO M w' n1 z1 n2 z2 au nu cu av nv cv er/\Ext w w'
theorem bg.nil(M:Nat->Prop)(w:World)(X:Nat->IE)(z:Nat->Int):bg M w none 0 0 X z:=⟨Nat.zero_le _,Nat.le_refl _,Nat.zero_le _,λ_=>rfl,λi hi=>absurd hi (Nat.not_lt_zero _)⟩
theorem C8(n:Nat)(z:Nat->Int)(i:Nat):aM (tz z n) z i=aM n z i:=by
 unfold aM;have:=jr z n
 by_cases h:i<tz z n
 ·rw[if_pos h,if_pos (by omega)]
 ·rw[if_neg h]
  by_cases h2:i<n
  ·rw[if_pos h2,Rp z n i (by omega) h2]
  ·rw[if_neg h2]
theorem yF{n D:Nat}{z:Nat->Int}(h:∀i,i<n->az (z i).natAbs<=D)(i:Nat):az (aM n z i).natAbs<=D:=by
 unfold aM
 split
 ·exact h i (by assumption)
 ·exact Nat.le_trans (by decide:az (0:Int).natAbs<=0) (Nat.zero_le _)
def qH(g o:Nat)(x:IE)(gl:Nat)(c:IE)(w:World):Prop:=JC w g o x/\JC w gl 0 c/\g<w.heap.size/\gl<w.heap.size
theorem qH.ext{g o:Nat}{x:IE}{gl:Nat}{c:IE}{w w':World}(h:qH g o x gl c w)(he:Ext w w'):qH g o x gl c w':=⟨h.1.ext h.2.2.1 he,h.2.1.ext h.2.2.2 he,Nat.lt_of_lt_of_le h.2.2.1 he.size,Nat.lt_of_lt_of_le h.2.2.2 he.size⟩
def xL(g o:Nat)(x:IE)(gp:Nat)(p:IE)(gb o2:Nat)(y:IE)(w:World):Prop:=JC w g o x/\JC w gp 0 p/\JC w gb o2 y/\g<w.heap.size/\gp<w.heap.size/\gb<w.heap.size
theorem xL.ext{g o:Nat}{x:IE}{gp:Nat}{p:IE}{gb o2:Nat}{y:IE}{w w':World}(h:xL g o x gp p gb o2 y w)(he:Ext w w'):xL g o x gp p gb o2 y w':=
 ⟨h.1.ext h.2.2.2.1 he,h.2.1.ext h.2.2.2.2.1 he,h.2.2.1.ext h.2.2.2.2.2 he,Nat.lt_of_lt_of_le h.2.2.2.1 he.size,Nat.lt_of_lt_of_le h.2.2.2.2.1 he.size,Nat.lt_of_lt_of_le h.2.2.2.2.2 he.size⟩
abbrev M3(M:Nat->Prop)(gr gq:Nat):Nat->Prop:=λb=>(M b\/b=gr)\/b=gq
structure o6(M:Nat->Prop)(w:World)(gr gq gl N V:Nat)(c:IE)(C:Int)(a2:Option Addr)(n2 c2:Nat)(X2:Nat->IE)(z2 R Q:Nat->Int)(W:World):Prop where
 r:UK (M3 M gr gq) W gr N N R
 q:UK (M3 M gr gq) W gq V V Q
 l:JC W gl 0 c
 c:IX (M3 M gr gq) W c C
 g:bg (M3 M gr gq) W a2 n2 c2 X2 z2
 m:Mb (M3 M gr gq) W
 e:Ext w W
 d:w.heap.size<=gr/\w.heap.size<=gq/\gr≠gq/\gl≠gr/\gl≠gq
section
variable{M:Nat->Prop}{w:World}{gr gq gl N V:Nat}{c:IE}{C:Int}{a2:Option Addr}{n2 c2:Nat}{X2:Nat->IE}{z2 R Q R' Q':Nat->Int}{W W':World}
theorem o6.ext(h:o6 M w gr gq gl N V c C a2 n2 c2 X2 z2 R Q W)(he:Ext W W'):o6 M w gr gq gl N V c C a2 n2 c2 X2 z2 R Q W':=
 ⟨h.r.ext he,h.q.ext he,h.l.ext h.l.lt he,h.c.ext he,h.g.ext he,h.m.ext he,h.e.trans he,h.d⟩
theorem o6.congr(h:o6 M w gr gq gl N V c C a2 n2 c2 X2 z2 R Q W)(hr:∀i,i<N->R i=R' i)(hq:∀i,i<V->Q i=Q' i):o6 M w gr gq gl N V c C a2 n2 c2 X2 z2 R' Q' W:=
 ⟨h.r.congr hr,h.q.congr hq,h.l,h.c,h.g,h.m,h.e,h.d⟩
theorem o6.qnC(h:o6 M w gr gq gl N V c C a2 n2 c2 X2 z2 R Q W){j:Nat}(hj:j<N){x:IE}{v:Int}(hx:IX (M3 M gr gq) W x v):
 o6 M w gr gq gl N V c C a2 n2 c2 X2 z2 (λi=>if i=j then v else R i) Q (bK W gr (j*2) (.bool x.b) (.slice x.a x.n x.p)):=by
 have hk:Kp (M3 M gr gq) W (bK W gr (j*2) (.bool x.b) (.slice x.a x.n x.p)):=Kp.bK (.inl (.inr rfl)) _ _ _;have hh:=λb hb=>wK W gr (j*2) (.bool x.b) (.slice x.a x.n x.p) b hb;obtain⟨d1,d2,d3,d4,d5⟩:=h.d;exact⟨h.r.put (.inl (.inr rfl)) hj hx,h.q.kp (hh _ d3.symm) hk,h.l.of_heap (hh _ d4),h.c.kp hk,h.g.kp hk,h.m.size (by rw[Aw];exact Nat.le_refl _),h.e.bK d1 _ _ _,h.d⟩
theorem o6.qnB(h:o6 M w gr gq gl N V c C a2 n2 c2 X2 z2 R Q W){j:Nat}(hj:j<V){x:IE}{v:Int}(hx:IX (M3 M gr gq) W x v):
 o6 M w gr gq gl N V c C a2 n2 c2 X2 z2 R (λi=>if i=j then v else Q i) (bK W gq (j*2) (.bool x.b) (.slice x.a x.n x.p)):=by
 have hk:Kp (M3 M gr gq) W (bK W gq (j*2) (.bool x.b) (.slice x.a x.n x.p)):=Kp.bK (.inr rfl) _ _ _;have hh:=λb hb=>wK W gq (j*2) (.bool x.b) (.slice x.a x.n x.p) b hb;obtain⟨d1,d2,d3,d4,d5⟩:=h.d;exact⟨h.r.kp (hh _ d3) hk,h.q.put (.inr rfl) hj hx,h.l.of_heap (hh _ d5),h.c.kp hk,h.g.kp hk,h.m.size (by rw[Aw];exact Nat.le_refl _),h.e.bK d2 _ _ _,h.d⟩
end
structure PsN(V A D:Nat):Prop where
 a:A+V*(D+1)+(V*D+1)+D+4<=549755813888
theorem qzM(M:Nat->Prop)(a1:Option Addr)(n1 c1:Nat)(X1:Nat->IE)(z1:Nat->Int)(a2:Option Addr)(n2 c2:Nat)(X2:Nat->IE)(z2:Nat->Int)(A D:Nat)(w:World)(hM:Mb M w)
 (h1:bg M w a1 n1 c1 X1 z1) (h2:bg M w a2 n2 c2 X2 z2) (mJ:n1<=1000000) (lu:n2<=1000000) (hA:∀i,i<n1->az (z1 i).natAbs<=A) (hD:∀i,i<n2->az (z2 i).natAbs<=D) (hN:PsN n1 A D):
 Calls Tryz.prog 13 #[.slice a1 n1 c1,.slice a2 n2 c2] w (Tt M w n1 z1 n2 z2):=by
 obtain⟨i0,hi,hz0,hz1,hz2⟩:=info_parts Tryz.Jy;have H1:=Lib.hid h1;have H2:=Lib.hid h2;have HM:=Lib.hid hM;have Ea:=yF hA;have D6:=yF hD;have qbP:=jr z1 n1;have qbQ:=jr z2 n2;have CD:=Lib.hid (Na M a2 n2 c2 X2 z2 w h2);clear h1 h2 hM hA hD
 go_enter Tryz.func13,Tryz.ntmps13
 go_wp2_with (fail);refine CD.out.mono ?_;rintro e w1 ⟨rfl,af⟩;have aL:=Lib.hid af;clear af CD;obtain⟨m2,Ey⟩:∃m2,m2=tz z2 n2:=⟨_,rfl⟩;rw[<-Ey]at qbQ⊢
 by_cases h0:m2=0
 ·have HF:Hid (Tt M w n1 z1 n2 z2 (.returned (.tuple #[.slice none 0 0,.slice none 0 0,.int .i64 2])) w1):=⟨_,_,_,_,_,_,_,rfl,⟨λ_=>⟨false,none,0,0⟩,λ_=>0,λ_=>⟨false,none,0,0⟩,λ_=>0,bg.nil _ _ _ _,bg.nil _ _ _ _,.inl ⟨Ey.symm.trans h0,rfl,rfl,rfl⟩⟩,aL.out⟩
  have Jo:((m2:Int)-1<0):=by omega
  clear Ey;go_wp2;exact bodyPost_ret (v:=.tuple #[.slice none 0 0,.slice none 0 0,.int .i64 2]) (by simp[results,Tryz.results13,go_sem]) rfl HF.out
 obtain⟨n,rfl⟩:∃n,m2=n+1:=⟨m2-1,by omega⟩;have jb:Hid (tz z2 n2=n+1):=Ey.symm
 have jm:(((n+1:Nat):Int)-1)=(n:Int):=by omega
 have qCp:¬((n:Int)<0):=by omega
 clear Ey h0;rw[jm];clear jm;have CN:=Lib.hid (qdC M a1 n1 c1 X1 z1 w1 (HM.out.ext aL.out) (H1.out.ext aL.out));go_wp2_with (fail);refine CN.out.mono ?_;rintro e w2 ⟨gr,rfl,pI,kz,aA⟩;have aU:=Lib.hid (aL.out.trans aA);have kV:=Lib.hid kz;have H9:Hid (w.heap.size<=gr):=Nat.le_trans aL.out.size pI;have qkv:=kz.lt;clear CN aL aA kz pI;obtain⟨m1,Ex⟩:∃m1,m1=tz z1 n1:=⟨_,rfl⟩;have kW:Hid (tz z1 n1=m1):=Ex.symm;rw[<-Ex]at qbP kV⊢;clear Ex
 by_cases hlt:m1<=n
 ·have Gs:((m1:Int)<=(n:Int)):=by omega
  have HF:Hid (Tt M w n1 z1 n2 z2 (.returned (.tuple #[.slice none 0 0,.slice (some ⟨gr,0,none⟩) m1 m1,.int .i64 0])) w2):=by
   obtain⟨Xv,xY⟩:=kV.out.row (M':=M) (λg h=>.inl (.inl h)) (HM.out.new H9.out) (by omega);have h3:=kW.out;refine⟨_,_,_,_,_,_,_,rfl,⟨λ_=>⟨false,none,0,0⟩,λ_=>0,Xv,z1,bg.nil _ _ _ _,xY,.inr ⟨n,0,jb.out,by omega,rfl,by rw[<-h3];exact(Wt z1 n1).symm,λi=>by unfold aM;rw[if_neg (by omega),if_neg (by omega)],λi=>?_⟩⟩,aU.out⟩;rw[<-h3,C8];show _=aM n (aM n1 z1) i;rw[<-C8,h3];unfold aM
   by_cases q1:i<m1
   ·rw[if_pos q1,if_pos (by omega),if_pos (by omega)]
   ·rw[if_neg q1]
    by_cases q2:i<n
    ·rw[if_pos q2]
     by_cases q3:i<n1
     ·rw[if_pos q3,Rp z1 n1 i (by omega) q3]
     ·rw[if_neg q3]
    ·rw[if_neg q2]
  clear kV jb kW;go_wp2;exact bodyPost_ret (v:=.tuple #[.slice none 0 0,.slice (some ⟨gr,0,none⟩) m1 m1,.int .i64 0]) (by simp[results,Tryz.results13,go_sem]) rfl HF.out
 have qCm:¬((m1:Int)<=(n:Int)):=by omega
 obtain⟨V,rfl⟩:∃V,m1=n+V:=⟨m1-n,by omega⟩
 have F7:1<=V:=by omega
 have hV1:V<=n1:=by omega
 have hPN:A+V*(D+1)+(V*D+1)+D+4<=549755813888:=by
  have:=hN.a;have e1:=Nat.mul_le_mul_right (D+1) hV1;have e2:=Nat.mul_le_mul_right D hV1;omega
 have hGn:vJ z2 n2=aM n2 z2 n:=by
  have:=jb.out;unfold vJ aM;rw[if_neg (by omega),if_pos (by omega),this];rfl
 have CL:=Lib.hid (Wv (λb=>M b\/b=gr) a2 n2 c2 X2 z2 w2 (mO (HM.out.ext aU.out) qkv) ((H2.out.more (M':=λb=>M b\/b=gr) λg h=>h.imp id λe=>by rw[e];exact H9.out).ext aU.out));rw[hGn]at CL;clear hlt hGn hN;go_wp2_with (fail);refine CL.out.mono ?_;rintro e w3 ⟨c,rfl,hc,aT⟩;clear CL;obtain⟨gl,dZ⟩:∃gl,gl=w3.heap.size:=⟨_,rfl⟩;have aN:=(Ext.refl w3).alloc (.cells #[.bool c.b,.slice c.a c.n c.p] 30);have bH:=ak.bf w3 #[.bool c.b,.slice c.a c.n c.p] 30 2 rfl;rw[<-dZ]at bH;obtain⟨W4,lY⟩:∃W4,w3.alloc (.cells #[.bool c.b,.slice c.a c.n c.p] 30)=W4:=⟨_,rfl⟩;rw[lY]at aN bH;have Bi:=Lib.hid lY;have mi:=Lib.hid dZ;have fV:=Lib.hid ((aU.out.trans aT).trans aN);have Sb:=Lib.hid ((kV.out.ext aT).ext aN);have Nz:=Lib.hid (hc.ext aN);have Ib:Hid (JC W4 gl 0 c):=⟨bH.cell (i:=0) (by omega),bH.cell (i:=1) (by omega)⟩
 have qum:gr<gl:=by have:=aT.size;omega
 clear lY aT aN bH hc aU kV qkv dZ
 go_upto_region 8 with(fail)
 rw[Bi.out, <-mi.out];clear Bi
 have iT:(n:Int)+(V:Int)-(n:Int)=(V:Int):=by omega
 have hVI:(1:Int)<=(V:Int):=by omega
 go_wp2_with (first|(at_make;refine Nb _ rfl _ _ _ rfl 30 i0 (.agg #[.bool false,.slice none 0 0]) 2 Tryz.underlying23 hi hz0 hz1 .i64 .i64 _ _ V rfl rfl ?c4 ?c5 ?c2 ?c3 ?_))
 case c2=>rw[hz2];omega
 case c3=>unfold maxLen;omega
 case c4=>go_num
 case c5=>go_num
 have bI:=qgV W4 V 30;have af:=(Ext.refl W4).alloc (.cells (madeCells (Value.agg #[.bool false,.slice none 0 0]).cells (V*2)) 30);intro w5 ED;replace ED:W4.alloc (.cells (madeCells (Value.agg #[.bool false,.slice none 0 0]).cells (V*2)) 30)=w5:=ED.out.symm;rw[ED]at bI af;obtain⟨gq,zT⟩:∃gq,gq=W4.heap.size:=⟨_,rfl⟩;rw[<-zT]at bI⊢
 have quk:gl<gq:=by have:=Ib.out.lt;omega
 have EE:w.heap.size<=gq:=by have:=fV.out.size;omega
 have hm:∀b,M3 M gr gq b->(M b\/b=gr)\/W4.heap.size<=b:=λb hb=>hb.imp id λe=>by rw[e];omega
 have HS:Hid (o6 M w gr gq gl (n+V) V c (aM n2 z2 n) a2 n2 c2 X2 z2 (zR n V (aM n2 z2) (aM n1 z1) 0) (zQ n V (aM n2 z2) (aM n1 z1) 0) w5):=by
  have h3:=kW.out;refine⟨((Sb.out.more hm).ext af).congr λi hi=>?_,(UK.zero bI λ_ _=>rfl).congr λi _=>(qAq _ _ _ _ i).symm,Ib.out.ext Ib.out.lt af,(Nz.out.more hm).ext af,(H2.out.more λb hb=>?_).ext (fV.out.trans af),mO (mO (HM.out.ext (fV.out.trans af)) (by have:=af.size;omega)) bI.lt,fV.out.trans af,H9.out,EE,by omega,by omega,by omega⟩
  ·show z1 i=aM n1 z1 i;unfold aM;rw[if_pos (by omega)]
  ·rcases hb with(hb|e)|e
   ·exact .inl hb
   ·rw[e];exact .inr H9.out
   ·rw[e];exact .inr EE
 have SA:=Lib.hid hPN;have ru:=Lib.hid D6;have Kl:=Lib.hid Ea;clear ED bI af hm Sb Ib Nz fV H1 H2 qum quk EE hPN D6 Ea iT zT mi H9 hi hz0 hz1 hz2;generalize hGG:aM n2 z2=G at*;generalize uB:aM n1 z1=R0 at*;have nJ:=Lib.hid hGG;have ou:=Lib.hid uB;clear hGG uB;go_wp2
 go_loopw [9,5] (λiv rs wr=>∃t k:Nat,t+k=V/\iv=.int .i64 ((n:Int)+(k:Int)-1)/\rs=.slice (some ⟨gr,0,none⟩) (n+k) (n+V)/\Hid (o6 M w gr gq gl (n+V) V c (G n) a2 n2 c2 X2 z2 (zR n V G R0 t) (zQ n V G R0 t) wr)) (λiv rs _=>(intOf iv+1).toNat)
 case atStart=>exact⟨0,V,Nat.zero_add V,rfl,rfl,HS⟩
 case round=>
  clear HS;obtain⟨t,k1,Ql,rfl,rfl,HS⟩:=hrel
  by_cases fJ:k1=0
  ·subst fJ
   obtain rfl:t=V:=by omega
   have iZ:¬((n:Int)<=(n:Int)+((0:Nat):Int)-1):=by omega
   obtain⟨Xq,hXq⟩:=HS.out.q.row (M':=M) (λg h=>.inl (.inl (.inl h))) (HM.out.new HS.out.d.2.1) (by omega);obtain⟨Xr,hXr⟩:=HS.out.r.row (M':=M) (λg h=>.inl (.inl (.inl h))) (HM.out.new HS.out.d.1) (by omega);have HQ:=Lib.hid hXq;have HR:=Lib.hid (hXr.cut (k:=n) (by omega));have HE:=Lib.hid HS.out.e;clear HS hXq hXr
   go_upto_region 27 with(fail)
   go_wp2_with (fail);refine(Rq M _ t t Xq _ wr (HM.out.ext HE.out) HQ.out).mono ?_;rintro e w6 ⟨au,Xu,rfl,hu,fe⟩;have HU:=Lib.hid hu;have fw:=Lib.hid (HE.out.trans fe);have Dr:=Lib.hid (HR.out.ext fe);clear hu fe HE HR HQ;go_wp2_with (fail);refine(Rq M _ n (n+t) Xr _ w6 (HM.out.ext fw.out) Dr.out).mono ?_;rintro e w7 ⟨av,Xv,rfl,hv,fE⟩
   have HF:Hid (Tt M w n1 z1 n2 z2 (.returned (.tuple #[.slice au (tz (zQ n t G R0 t) t) (tz (zQ n t G R0 t) t),.slice av (tz (zR n t G R0 t) n) (tz (zR n t G R0 t) n),.int .i64 0])) w7):=by
    refine⟨_,_,_,_,_,_,_,rfl,⟨Xu,zQ n t G R0 t,Xv,zR n t G R0 t,HU.out.ext fE,hv,.inr ⟨n,t,jb.out,by have:=kW.out;omega,rfl,(Wt _ _).symm,?_,?_⟩⟩,fw.out.trans fE⟩
    ·intro i;rw[C8,nJ.out,ou.out]
    ·intro i;rw[C8,nJ.out,ou.out]
   generalize tz (zQ n t G R0 t) t=nu at*;generalize tz (zR n t G R0 t) n=nv at*;clear HU fw Dr hv fE;go_wp2;exact bodyPost_ret (v:=.tuple #[.slice au nu nu,.slice av nv nv,.int .i64 0]) (by simp[results,Tryz.results13,go_sem]) rfl HF.out
  ·obtain⟨k,rfl⟩:∃k,k1=k+1:=⟨k1-1,by omega⟩
   have Er:(n:Int)+((k:Int)+1)-1-(n:Int)=(k:Int):=by omega
   have quF:(n:Int)+((k:Int)+1)-1=(n:Int)+(k:Int):=by omega
   have qBE:(n:Int)<=(n:Int)+(k:Int):=by omega
   have quD:(0:Int)<=(k:Int):=Int.natCast_nonneg _
   have qu1:(0:Int)<=(n:Int)+(k:Int):=by omega
   have qu2:(n:Int)+(k:Int)<(n:Int)+((k:Int)+1):=by omega
   have qu3:((n:Int)+(k:Int)).toNat=n+k:=by omega
   have qCk:(n:Int)+(k:Int)-(n:Int)=(k:Int):=by omega
   have PV:(k:Int)+1<=1000000:=by omega
   have xG:Hid (t+(k+1)=V):=Ql;obtain⟨x,hx,hxi⟩:=HS.out.r.jH (j:=n+k) (by omega) (Nat.le_refl _);have pI:=HS.out.r.lt;obtain⟨gp,En⟩:∃gp,wr.heap.size=gp:=⟨_,rfl⟩;have aN:=(Ext.refl wr).alloc (.cells #[.bool x.b,.slice x.a x.n x.p] 30);have bH:=ak.bf wr #[.bool x.b,.slice x.a x.n x.p] 30 2 rfl;rw[En]at bH
   have qkt:gp≠gq:=by have:=HS.out.q.lt;omega
   have qku:gp≠gr:=by omega
   obtain⟨W2,jg⟩:∃W2,wr.alloc (.cells #[.bool x.b,.slice x.a x.n x.p] 30)=W2:=⟨_,rfl⟩;rw[jg]at aN bH;have uS:=Lib.hid jg;have NI:=Lib.hid En;have xA:=Lib.hid (HS.out.ext aN);have ow:Hid (IX (M3 M gr gq) W2 x (zR n V G R0 t (n+k))):=hxi.ext aN;have iR:Hid (JC W2 gp 0 x):=⟨bH.cell (i:=0) (by omega),bH.cell (i:=1) (by omega)⟩;obtain⟨x0,x1⟩:=hx;clear jg En aN bH HS hxi Ql fJ;rw[show((k+1:Nat):Int)=(k:Int)+1 by omega,quF]
   go_upto_region 14 with(fail)
   rw[uS.out,NI.out];clear x0 x1 uS NI pI;go_wp2
   go_loopw [12] (λjv wr=>∃j:Nat,k+1<=j/\j<=V/\jv=.int .i64 (j:Int)/\Hid (o6 M w gr gq gl (n+V) V c (G n) a2 n2 c2 X2 z2 (zR n V G R0 t) (zJ k j (G n) (zQ n V G R0 t)) wr)/\Hid (IX (M3 M gr gq) wr x (zR n V G R0 t (n+k)))/\Hid (JC wr gp 0 x)) (λjv _=>V-(intOf jv).toNat)
   case atStart=>exact⟨k+1,Nat.le_refl _,by have:=xG.out;omega,by go_num,xA.out.congr (λ_ _=>rfl) (λi _=>(qAn k (G n) _ i).symm),ow,iR⟩
   case round=>
    clear xA ow iR;obtain⟨j,Gl,hj,rfl,HS,HX,HP⟩:=hrel
    by_cases nU:j<V
    ·have ry:=Lib.hid nU
     have Gs:(j:Int)<(V:Int):=by omega
     have hj0:(0:Int)<=(j:Int):=Int.natCast_nonneg _
     have hjB:(j:Int)+1<=1000001:=by omega
     obtain⟨y,vI,hy⟩:=HS.out.q.jH (j:=j) nU (Nat.le_refl _);rw[qAk]at hy;have hd:=(Ext.refl wr).drew;have hS:qH gq (j*2) y gl c wr.drew:=qH.ext ⟨vI,HS.out.l,HS.out.q.lt,HS.out.l.lt⟩ hd;have lK:=Lib.hid (HS.out.ext hd);have HY:=Lib.hid (hy.ext hd);have mr:=Lib.hid (HX.out.ext hd);have vV:=Lib.hid (HP.out.ext HP.out.lt hd);have Qf:gq<wr.drew.heap.size:=hS.2.2.1;have qbS:gl<wr.drew.heap.size:=hS.2.2.2;clear hd hy vI HS HX HP nU
     go_upto_region 17 with(fail)
     refine fM (qH gq (j*2) y gl c) 9 (by kernel_rfl) hS (λhHeld=>?_);clear hS;generalize wr.drew=wd at*
     have EX:Hid (∀W:World,Ext wd W->Calls Tryz.prog 65 #[.agg #[.bool y.b,.slice y.a y.n y.p],.agg #[.bool c.b,.slice c.a c.n c.p]] W (kI (M3 M gr gq) W (zQ n V G R0 t j*G n))):=λW he=>
      MG y c _ _ W (lK.out.m.ext he) (HY.out.ext he) (lK.out.c.ext he) (by
       have e1:=qAo (n:=n) (V:=V) ru.out Kl.out t j;have e2:=ru.out n;have e3:=SA.out
       omega)
     (refine dF [0,1,2,3,4,5,6] ?_;(iterate 7 (refine dD (v:=?_) ?_ ?_;rotate_left 1;(intro wS hSw;obtain⟨⟨S1,S2⟩,⟨S3,S4⟩,S5,S6⟩:=hSw;go_simp;try with_reducible rfl);(try simp only[Act.put,aD,aF,aG])));refine dG ?_);((refine aK 7 ?_;intro K hK);go_simp;(refine(EX.out _ (Ext.refl _)).mono ?_);rintro e_ u1 ⟨v,rfl,hv,bN⟩;go_wp2_with (fail);(try clear ag);(have ag:=hHeld.ext bN);(refine hK.out _ _ (λ_=>ag) ?_);clear hK K;(try simp only[Act.put,aD,aF,aG]));(refine dF [8] ?_;(iterate 1 (refine dD (v:=?_) ?_ ?_;rotate_left 1;(intro wS hSw;obtain⟨⟨S1,S2⟩,⟨S3,S4⟩,S5,S6⟩:=hSw;go_simp;try with_reducible rfl);(try simp only[Act.put,aD,aF,aG])));refine dG ?_);have iC:=Lib.hid ((lK.out.ext bN).qnB (ry.out) hv);obtain⟨W5,kL⟩:∃W5,bK u1 gq (j*2) (.bool v.b) (.slice v.a v.n v.p)=W5:=⟨_,rfl⟩;have iE:=(lK.out.ext bN);obtain⟨yy,⟨k0,k1⟩,_⟩:=iE.q.jH ry.out (Nat.le_refl _);have fB:=iE.q.xP (j*2);have fo:=iE.q.xP (j*2+1);have kN:=iE.q.lt;have aZ:=Kp.bK (M:=M3 M gr gq) (w:=u1) (g:=gq) (.inr rfl) (j*2) (.bool v.b) (.slice v.a v.n v.p);have uU:=Lib.hid ((mr.out.ext bN).kp aZ);have mo:=Lib.hid ((vV.out.ext vV.out.lt bN).of_heap (wK u1 gq (j*2) (.bool v.b) (.slice v.a v.n v.p) gp qkt));rw[kL]at uU mo iC;unfold bK at kL;have sG:=Lib.hid kL;clear iE hv bN aZ kL lK HY mr vV EX hHeld ag;((refine aK 9 ?_;intro K hK);go_simp;(refine hK.out _ _ (λh=>absurd rfl h) ?_);clear hK K;refine ek ?_)
     go_upto_region 16 with(fail)
     rw[sG.out];clear k0 k1 fB fo kN sG Qf qbS;go_wp2
     go_roundw
     case rel=>exact⟨j+1,by omega,ry.out,by go_num,iC.out.congr (λ_ _=>rfl) (λi _=>qAm (G n) _ (by omega) i),uU,mo⟩
     case measure=>have:=ry.out;simp[intOf];omega
    ·obtain rfl:j=V:=by omega
     have iZ:¬((j:Int)<(j:Int)):=by omega
     have hkV:(k:Int)<(j:Int):=by omega
     obtain⟨yy,⟨k0,k1⟩,_⟩:=HS.out.q.jH (j:=k) (by omega) (Nat.le_refl _);have fB:=HS.out.q.xP (k*2);have fo:=HS.out.q.xP (k*2+1);have kN:=HS.out.q.lt;obtain⟨p0,p1⟩:=HP.out;have Ck:=HP.out.lt;have iC:=Lib.hid (HS.out.qnB (j:=k) (by omega) HX.out);have aZ:=Kp.bK (M:=M3 M gr gq) (w:=wr) (g:=gq) (.inr rfl) (k*2) (.bool x.b) (.slice x.a x.n x.p);have uU:=Lib.hid (HX.out.kp aZ);have mo:=Lib.hid (HP.out.of_heap (wK wr gq (k*2) (.bool x.b) (.slice x.a x.n x.p) gp qkt));obtain⟨W5,kL⟩:∃W5,bK wr gq (k*2) (.bool x.b) (.slice x.a x.n x.p)=W5:=⟨_,rfl⟩;rw[kL]at uU mo iC;have oZ:Hid (o6 M w gr gq gl (n+j) j c (G n) a2 n2 c2 X2 z2 (zS k (G n) (zR n j G R0 t (n+k)) G (zR n j G R0 t) 0) (zQ n j G R0 (t+1)) W5):=iC.out.congr (λi _=>(qAw _ _ _ _ _ i).symm) (λi hi=>qAl G R0 xG.out i hi);unfold bK at kL;have sG:=Lib.hid kL;clear kL aZ HS HX HP iC
     go_upto_region 19 with(fail)
     rw[sG.out];clear k0 k1 fB fo kN p0 p1 Ck sG
     have qCl:(n:Int)+(k:Int)<=(n:Int)+(j:Int):=by omega
     go_wp2
     go_loopw [73] (λiv wr=>∃q:Nat,q<=n+k/\iv=.int .i64 (q:Int)/\Hid (o6 M w gr gq gl (n+j) j c (G n) a2 n2 c2 X2 z2 (zS k (G n) (zR n j G R0 t (n+k)) G (zR n j G R0 t) q) (zQ n j G R0 (t+1)) wr)/\Hid (IX (M3 M gr gq) wr x (zR n j G R0 t (n+k)))/\Hid (JC wr gp 0 x)) (λiv _=>n+k-(intOf iv).toNat)
     case atStart=>exact⟨0,Nat.zero_le _,rfl,oZ,uU,mo⟩
     case round=>
      clear oZ uU mo;obtain⟨q,hq,rfl,HS,HX,HP⟩:=hrel
      by_cases Cf:q<n+k
      ·have AX:=Lib.hid Cf
       have Gs:(q:Int)<(n:Int)+(k:Int):=by omega
       have rT:(0:Int)<=(q:Int):=Int.natCast_nonneg _
       have hqB:(q:Int)+1<=2000001:=by omega
       obtain⟨y,vI,hy⟩:=HS.out.r.jH (j:=q) (by omega) (Nat.le_refl _);rw[qAs]at hy;have hd:=(Ext.refl wr).drew;have hS:qH gr (q*2) y gl c wr.drew:=qH.ext ⟨vI,HS.out.l,HS.out.r.lt,HS.out.l.lt⟩ hd;have lK:=Lib.hid (HS.out.ext hd);have HY:=Lib.hid (hy.ext hd);have mr:=Lib.hid (HX.out.ext hd);have vV:=Lib.hid (HP.out.ext HP.out.lt hd);have Qf:gr<wr.drew.heap.size:=hS.2.2.1;have qbS:gl<wr.drew.heap.size:=hS.2.2.2;clear hd hy vI HS HX HP Cf
       go_upto_region 23 with(fail)
       refine fM (qH gr (q*2) y gl c) 9 (by kernel_rfl) hS (λhHeld=>?_);clear hS;generalize wr.drew=wd at*;have Vn:Hid (∀i,az (zR n j G R0 t i).natAbs<=A+j*(D+1)):=WI ru.out Kl.out (by have:=xG.out;omega)
       have EX:Hid (∀W:World,Ext wd W->Calls Tryz.prog 65 #[.agg #[.bool y.b,.slice y.a y.n y.p],.agg #[.bool c.b,.slice c.a c.n c.p]] W (kI (M3 M gr gq) W (zR n j G R0 t q*G n))):=λW he=>
        MG y c _ _ W (lK.out.m.ext he) (HY.out.ext he) (lK.out.c.ext he) (by
         have e1:=Vn.out q;have e2:=ru.out n;have e3:=SA.out
         omega)
       (refine dF [0,1,2,3,4,5,6] ?_;(iterate 7 (refine dD (v:=?_) ?_ ?_;rotate_left 1;(intro wS hSw;obtain⟨⟨S1,S2⟩,⟨S3,S4⟩,S5,S6⟩:=hSw;go_simp;try with_reducible rfl);(try simp only[Act.put,aD,aF,aG])));refine dG ?_);((refine aK 7 ?_;intro K hK);go_simp;(refine(EX.out _ (Ext.refl _)).mono ?_);rintro e_ u1 ⟨v,rfl,hv,bN⟩;go_wp2_with (fail);(try clear ag);(have ag:=hHeld.ext bN);(refine hK.out _ _ (λ_=>ag) ?_);clear hK K;(try simp only[Act.put,aD,aF,aG]));(refine dF [8] ?_;(iterate 1 (refine dD (v:=?_) ?_ ?_;rotate_left 1;(intro wS hSw;obtain⟨⟨S1,S2⟩,⟨S3,S4⟩,S5,S6⟩:=hSw;go_simp;try with_reducible rfl);(try simp only[Act.put,aD,aF,aG])));refine dG ?_);have iC:=Lib.hid ((lK.out.ext bN).qnC (j:=q) (by have:=AX.out;omega) hv);obtain⟨W5,kL⟩:∃W5,bK u1 gr (q*2) (.bool v.b) (.slice v.a v.n v.p)=W5:=⟨_,rfl⟩;have iE:=(lK.out.ext bN);obtain⟨yy,⟨k0,k1⟩,_⟩:=iE.r.jH (j:=q) (by have:=AX.out;omega) (Nat.le_refl _);have fB:=iE.r.xP (q*2);have fo:=iE.r.xP (q*2+1);have kN:=iE.r.lt;have aZ:=Kp.bK (M:=M3 M gr gq) (w:=u1) (g:=gr) (.inl (.inr rfl)) (q*2) (.bool v.b) (.slice v.a v.n v.p);have uU:=Lib.hid ((mr.out.ext bN).kp aZ);have mo:=Lib.hid ((vV.out.ext vV.out.lt bN).of_heap (wK u1 gr (q*2) (.bool v.b) (.slice v.a v.n v.p) gp qku));rw[kL]at uU mo iC;unfold bK at kL;have sG:=Lib.hid kL
       clear iE hv bN aZ kL lK HY mr vV EX hHeld ag;((refine aK 9 ?_;intro K hK);go_simp;(refine hK.out _ _ (λh=>absurd rfl h) ?_);clear hK K;refine ek ?_)
       go_upto_region 24 with(fail)
       rw[sG.out];clear k0 k1 fB fo kN sG Qf qbS
       by_cases pJ:k<=q
       ·have qbJ:(k:Int)<=(q:Int):=by omega
        have XW:=Lib.hid pJ;obtain⟨d,hdq⟩:∃d,d=q-k:=⟨_,rfl⟩
        have hqI:(q:Int)-(k:Int)=(d:Int):=by omega
        have hd0:(0:Int)<=(d:Int):=Int.natCast_nonneg _
        have BZ:d<n2:=by have:=AX.out;omega
        have lZ:(d:Int)<(n2:Int):=by omega
        have EE:IntKind.i64.wrap (d:Int)=(d:Int):=by rw[IntKind.wrap_i64];omega
        have tO:=Lib.hid hdq;obtain⟨gb,ob,zH,fD,PQ,dO⟩:=iC.out.g.jH (i:=d) BZ;subst zH;obtain⟨y2,vI,hy⟩:=iC.out.r.jH (j:=q) (by have:=AX.out;omega) (Nat.le_refl _);rw[if_pos rfl]at hy
        have iF:z2 d=G d:=by rw[<-nJ.out];unfold aM;rw[if_pos BZ]
        rw[iF]at dO;have hd:=(Ext.refl W5).drew;have hS:xL gr (q*2) y2 gp x gb (ob+d*2) (X2 d) W5.drew:=xL.ext ⟨vI,mo.out,fD,iC.out.r.lt,mo.out.lt,PQ⟩ hd;have lK:=Lib.hid (iC.out.ext hd);have HY:=Lib.hid (hy.ext hd);have mf:=Lib.hid (dO.ext hd);have mr:=Lib.hid (uU.out.ext hd);have vV:=Lib.hid (mo.out.ext mo.out.lt hd);have Qf:gr<W5.drew.heap.size:=hS.2.2.2.1;have qvc:gp<W5.drew.heap.size:=hS.2.2.2.2.1;have qtY:gb<W5.drew.heap.size:=hS.2.2.2.2.2;clear hdq hd hy vI fD dO iF iC uU mo pJ PQ BZ
        go_upto_region 25 with(fail)
        refine fM (xL gr (q*2) y2 gp x gb (ob+d*2) (X2 d)) 16 (by kernel_rfl) hS (λhHeld=>?_);clear hS;generalize W5.drew=Hq at*
        have C25:Hid (∀W:World,Ext Hq W->Calls Tryz.prog 65 #[.agg #[.bool x.b,.slice x.a x.n x.p],.agg #[.bool (X2 d).b,.slice (X2 d).a (X2 d).n (X2 d).p]] W (kI (M3 M gr gq) W (zR n j G R0 t (n+k)*G d))):=λW he=>
         MG x (X2 d) _ _ W (lK.out.m.ext he) (mr.out.ext he) (mf.out.ext he) (by
          have e1:=Vn.out (n+k);have e2:=ru.out d;have e3:=SA.out
          omega)
        have C26:Hid (∀(W:World)(u:IE),Ext Hq W->IX (M3 M gr gq) W u (zR n j G R0 t (n+k)*G d)->Calls Tryz.prog 66 #[.agg #[.bool y2.b,.slice y2.a y2.n y2.p],.agg #[.bool u.b,.slice u.a u.n u.p]] W (kI (M3 M gr gq) W (zR n j G R0 t q*G n-zR n j G R0 t (n+k)*G d))):=λW u he hu=>
         qzg y2 u _ _ W (lK.out.m.ext he) (HY.out.ext he) hu (by
          have e1:=Vn.out (n+k);have e2:=ru.out d;have e3:=SA.out;have e4:=Vn.out q;have e5:=ru.out n;have e6:=qJ (zR n j G R0 t (n+k)).natAbs (G d).natAbs;have e7:=qJ (zR n j G R0 t q).natAbs (G n).natAbs;rw[Int.natAbs_mul,Int.natAbs_mul]
          omega)
        (refine dF [0,1,2,3,4,5,6,7,8,9,10,11,12] ?_;(iterate 13 (refine dD (v:=?_) ?_ ?_;rotate_left 1;(intro wS hSw;obtain⟨⟨S1,S2⟩,⟨S3,S4⟩,⟨S5,S6⟩,S7,S8,S9⟩:=hSw;go_simp;try with_reducible rfl);(try simp only[Act.put,aD,aF,aG])));refine dG ?_);((refine aK 13 ?_;intro K hK);go_simp;(refine(C25.out _ (Ext.refl _)).mono ?_);rintro e_ u2 ⟨u,rfl,hu,bN⟩;go_wp2_with (fail);(try clear ag);(have ag:=hHeld.ext bN);(refine hK.out _ _ (λ_=>ag) ?_);clear hK K;(try simp only[Act.put,aD,aF,aG]));((refine aK 14 ?_;intro K hK);go_simp;(refine(C26.out _ u bN hu).mono ?_);rintro e_ u3 ⟨v2,rfl,hv2,iG⟩;go_wp2_with (fail);(try clear ag);(have ag:=hHeld.ext (bN.trans iG));(refine hK.out _ _ (λ_=>ag) ?_);clear hK K;(try simp only[Act.put,aD,aF,aG]));(refine dF [15] ?_;(iterate 1 (refine dD (v:=?_) ?_ ?_;rotate_left 1;(intro wS hSw;obtain⟨⟨S1,S2⟩,⟨S3,S4⟩,⟨S5,S6⟩,S7,S8,S9⟩:=hSw;go_simp;try with_reducible rfl);(try simp only[Act.put,aD,aF,aG])));refine dG ?_);have pg:=bN.trans iG;have iE:=(lK.out.ext pg);have iC:=Lib.hid (iE.qnC (j:=q) (by have:=AX.out;omega) hv2);obtain⟨W6,jy⟩:∃W6,bK u3 gr (q*2) (.bool v2.b) (.slice v2.a v2.n v2.p)=W6:=⟨_,rfl⟩;obtain⟨yy,⟨k0,k1⟩,_⟩:=iE.r.jH (j:=q) (by have:=AX.out;omega) (Nat.le_refl _);have fB:=iE.r.xP (q*2);have fo:=iE.r.xP (q*2+1);have kN:=iE.r.lt
        have aZ:=Kp.bK (M:=M3 M gr gq) (w:=u3) (g:=gr) (.inl (.inr rfl)) (q*2) (.bool v2.b) (.slice v2.a v2.n v2.p);have uU:=Lib.hid ((mr.out.ext pg).kp aZ);have mo:=Lib.hid ((vV.out.ext vV.out.lt pg).of_heap (wK u3 gr (q*2) (.bool v2.b) (.slice v2.a v2.n v2.p) gp qku));rw[jy]at uU mo iC
        have oZ:Hid (o6 M w gr gq gl (n+j) j c (G n) (some ⟨gb,ob,none⟩) n2 c2 X2 z2 (zS k (G n) (zR n j G R0 t (n+k)) G (zR n j G R0 t) (q+1)) (zQ n j G R0 (t+1)) W6):=iC.out.congr (λi _=>by
         rw[qAu _ _ _ _ XW.out, <-tO.out]
         by_cases h1:i=q
         ·rw[if_pos h1,if_pos h1]
         ·rw[if_neg h1,if_neg h1,if_neg h1]) (λ_ _=>rfl)
        unfold bK at jy;have p9:=Lib.hid jy;clear iE hu hv2 bN iG pg aZ jy lK HY mf mr vV C25 C26 hHeld ag iC;((refine aK 16 ?_;intro K hK);go_simp;(refine hK.out _ _ (λh=>absurd rfl h) ?_);clear hK K;refine ek ?_)
        go_upto_region 26 with(fail)
        rw[p9.out];clear k0 k1 fB fo kN p9 Qf qvc qtY;go_wp2
        go_roundw
        case rel=>exact⟨q+1,AX.out,by go_num,oZ,uU,mo⟩
        case measure=>have:=AX.out;simp[intOf];omega
       ·have qbJ:¬(k:Int)<=(q:Int):=by omega
        have oZ:Hid (o6 M w gr gq gl (n+j) j c (G n) a2 n2 c2 X2 z2 (zS k (G n) (zR n j G R0 t (n+k)) G (zR n j G R0 t) (q+1)) (zQ n j G R0 (t+1)) W5):=iC.out.congr (λi _=>(qAv _ _ _ _ pJ i).symm) (λ_ _=>rfl);clear iC;go_wp2
        go_roundw
        case rel=>exact⟨q+1,AX.out,by go_num,oZ,uU,mo⟩
        case measure=>have:=AX.out;simp[intOf];omega
      ·obtain rfl:q=n+k:=by omega
       have qBD:¬(((n+k:Nat):Int))<(n:Int)+(k:Int):=by omega
       have oZ:Hid (o6 M w gr gq gl (n+j) j c (G n) a2 n2 c2 X2 z2 (zR n j G R0 (t+1)) (zQ n j G R0 (t+1)) wr):=HS.out.congr (λi _=>by rw[qAr G R0 xG.out]) (λ_ _=>rfl)
       have YJ:Hid (t+1+k=j):=by have:=xG.out;show _=_;omega
       clear HS HX HP;go_wp2
       go_roundw
       case rel=>exact⟨t+1,k,YJ.out,by go_num,rfl,oZ⟩
       case measure=>have:=xG.out;simp[intOf];omega
section
variable{V n t k A D:Nat}{F G q:Nat->Int}(hk:t+(k+1)=V)
include hk
end
theorem qzI{z:Nat->Int}{n:Nat}:tz z n=0↔∀i,aM n z i=0:=by
 refine⟨λh i=>by rw[<-C8,h];exact if_neg (by omega),λh=>?_⟩;rcases Ho z n with h0|h0
 ·exact h0
 ·refine Classical.byContradiction λhc=>h0 ?_;have h1:=h (tz z n-1);unfold aM at h1
  rwa[if_pos (by have:=jr z n;omega)]at h1
section
variable{L:Nat}(h1:1<=L)(h4:L<=4)
include h1 h4
theorem qoG{n:Nat}{z:Nat->Int}:ae (aP L n z) []↔tz z n=0:=by
 refine⟨λh=>qzI.2 λi=>?_,λh=>?_⟩
 ·rw[<-DX h1 h4 n z i,h];rfl
 ·refine qdD.symm.trans ?_;rw[h];exact ae.refl _
omit h1 h4 in
theorem Ay{n k:Nat}{z:Nat->Int}(h:tz z n=k+1):aM n z k≠0/\∀i,k<i->aM n z i=0:=by
 have h0:=(Ho z n).resolve_left (by omega);have h2:=jr z n;refine⟨?_,λi hi=>by rw[<-C8,h];exact if_neg (by omega)⟩;unfold aM;rw[if_pos (by omega)];rw[h]at h0;exact h0
theorem BH{n k:Nat}{z:Nat->Int}(h:tz z n=k+1):bD L (aP L n z) k:=qhw h1 h4 (Ay h).1 (Ay h).2
theorem qom{m n:Nat}{f:Nat->Int}:rF L (aP L m f) n (tz f m-n):=by
 by_cases h:tz f m=0
 ·exact .inl ⟨(qoG h1 h4).2 h,by omega⟩
 ·obtain⟨k,hk⟩:∃k,tz f m=k+1:=⟨tz f m-1,by omega⟩;exact .inr ⟨λhz=>h ((qoG h1 h4).1 hz),k,BH h1 h4 hk,by omega⟩
end
end Go.Proofs.YtmcfpnmoklnhoaaGreat
