/- Bd -/
import Derived.Test.YtmcfpnmoklnhoaaGreatBa
import Derived.Test.YtmcfpnmoklnhoaaGreatMm
import Derived.Test.YtmcfpnmoklnhoaaGreatNe
set_option linter.unusedVariables false
set_option maxRecDepth 100000
set_option maxHeartbeats 400000000
set_option linter.unusedSimpArgs false
namespace Go.Proofs.YtmcfpnmoklnhoaaGreat
open Go.RowKit
theorem dV.low{M:Nat->Prop}{w:World}{D N cap:Nat}{a:Option Addr}{P:Nat->List Tm}(h:dV M w D (.slice a N cap) N P):∃T:Nat->List Tm,∀i,i<N->ae (T i) (P i)/\dN D (T i):=by
 refine pick (Q:=λi T=>ae T (P i)/\dN D T) [] λi hi=>?_;obtain⟨b,off,_,_,_,_,_,e0,e1,e2,e3,_,_,_,_,t,h1,h2,h3,h4⟩:=h.at i hi;exact⟨_,h4,(IM _ t h2).mono (by show t.1.toNat<=D;omega)⟩
theorem VS{L c:Nat}{P:Nat->List Tm}:∀n,(∀i,i<n->(P i).length<=c)->(aJ L n P).length<=n*c
 |0,_=>by rw[EO];simp
 |n+1,h=>by
  have ih:=VS (L:=L) n λi hi=>h i (by omega);have h1:=h n (by omega);rw[fK,List.length_append,Nat.add_mul,Nat.one_mul];simp only[shift,List.length_map];omega
theorem qnl{L c:Nat}{P:Nat->List Tm}:∀n,(∀i,i<n->aC (P i)<=c)->aC (aJ L n P)<=n*c
 |0,_=>by rw[EO];simp[aC]
 |n+1,h=>by
  have ih:=qnl (L:=L) n λi hi=>h i (by omega);have h1:=h n (by omega);rw[fK,kT,yu,Nat.add_mul,Nat.one_mul];omega
theorem qsf{n:Nat}(h:n<=4294967295):az n<=1:=by rw[o9,Nat.pow_one];omega
theorem VP{L A N:Nat}{P:Nat->List Tm}(hN:N<=4294967295)(h:∀i,i<N->az (aC (P i))<=A):az (aC (aJ L N P))<=A+2:=by
 have h1:=qnl (L:=L) (c:=4294967296^A) N λi hi=>Nat.le_of_lt ((o9 _ _).1 (h i hi));have h2:=ji h1;have h3:=qJ N (4294967296^A);have h4:=qsf hN
 have h5:az (4294967296^A)<=A+1:=by
  rw[o9];exact Nat.pow_lt_pow_right (by omega) (by omega)
 omega
theorem qyp{M:Nat->Prop}{w:World}{D N cap S A:Nat}{a:Option Addr}{P:Nat->List Tm}(h:dV M w D (.slice a N cap) N P)(hD:D+1<=4)(zO:∀i,i<N->bn S (P i))(hN:N<=S+1)(hS:(S+1)^(D+1)<=1099511627776)(I8:S<=1000000)(ky:∀i,i<N->az (aC (P i))<=A)(hA:A+2<=1099511627776):
 PI M w ⟨(D:Int)+1,false,none,0,0,a,N,cap⟩ (aJ (D+1) N P):=by
 obtain⟨bu,dh⟩:=pick (BG (D+1)) (n:=N) (Q:=λi u=>(∃b off,a=some ⟨b,off,none⟩/\N<=cap/\cap<=maxLen/\b<w.heap.size/\¬M b/\∃e0 e1 e2 e3,w.cell? ⟨b,off+i*4,none⟩=some e0/\w.cell? ⟨b,off+i*4+1,none⟩=some e1/\w.cell? ⟨b,off+i*4+2,none⟩=some e2/\w.cell? ⟨b,off+i*4+3,none⟩=some e3/\RR M w (D+1) u e0 e1 e2 e3)/\fC (D+1) u=true/\Cv (D+1) u/\u.1<=D/\ae (terms (D+1) u) (P i)) (by
  intro i hi;obtain⟨b,off,h1,h2,h3,h4,h5,e0,e1,e2,e3,x0,x1,x2,x3,t,g1,g2,g3,g4⟩:=h.at i hi
  exact⟨t,⟨b,off,h1,h2,h3,h4,h5,e0,e1,e2,e3,x0,x1,x2,x3,g1⟩,g2,g1.ok,g3,g4⟩)
 have hT:terms (D+1+1) (sV (D+1) ((D:Int)+1) ⟨false,0,λ_=>0⟩ N bu)=aJ (D+1) N (λi=>terms (D+1) (bu i)):=by
  rw[Rm _ _ _ _ _ (by omega) (by omega),show((D:Int)+1).toNat=D+1 by omega]
 refine⟨D+1+1,sV _ ((D:Int)+1) ⟨false,0,λ_=>0⟩ N bu,⟨rfl,by show-9223372036854775808<=(D:Int)+1/\(D:Int)+1<=9223372036854775807;omega,⟨rfl,MH _ _ _⟩,h.1,?_⟩,.inr ⟨by omega,?_,?_,?_⟩,?_⟩
 ·rcases h.2 with⟨h1,h0⟩|⟨b,off,cap',h1,h2,h3,h4,_⟩
  ·simp only[Value.slice.injEq]at h1;obtain⟨rfl,rfl,rfl⟩:=h1;exact .inl ⟨⟨none,0,rfl,Nat.zero_le _,λ_=>rfl⟩,rfl⟩
  ·simp only[Value.slice.injEq,true_and]at h1;obtain⟨rfl,rfl⟩:=h1;refine .inr ⟨b,off,cap,rfl,h2,h3,h4,λi hi=>?_⟩;obtain⟨b',off',e,_,_,_,_,hk⟩:=(dh i hi).1;simp only[Option.some.injEq,Addr.mk.injEq,and_true]at e;obtain⟨rfl,rfl⟩:=e;exact hk
 ·rw[hT];refine Nat.le_trans (VS (c:=(S+1)^D) N λi hi=>?_) ?_
  ·have h1:=TN S (D+1) (bu i) (dh i hi).2.1 (dh i hi).2.2.1 (MV (dh i hi).2.2.2.2 (zO i hi));refine Nat.le_trans h1 (Nat.pow_le_pow_right (by omega) ?_);have:=(dh i hi).2.2.2.1;show(bu i).1.toNat<=D;omega
  ·rw[Nat.pow_succ,Nat.mul_comm]at hS;exact Nat.le_trans (Nat.mul_le_mul_right _ hN) hS
 ·rw[hT];have:=VP (L:=D+1) (A:=A) (N:=N) (P:=λi=>terms (D+1) (bu i)) (by omega) λi hi=>Nat.le_trans (ji (OE (dh i hi).2.1 (dh i hi).2.2.2.2)) (ky i hi);omega
 ·rw[hT];intro s hs k;obtain⟨i,hi,s',kC,rfl⟩:=EN hs;have h1:=TM S (D+1) (bu i) (dh i hi).2.1 (dh i hi).2.2.1 (MV (dh i hi).2.2.2.2 (zO i hi)) s' kC k;show(Mo.add s'.2 (xp (D+1) (i:Int))).get k<=_;rw[gL];rw[dX _ k _ (by omega) hD]
  split<;>omega
 ·rw[hT];exact sZ _ _ _ _ λi hi=>(dh i hi).2.2.2.2
theorem VC(l:Int)(w:World):Calls Tryz.prog 106 #[.int .i64 l] w λe w'=>e=.returned (.bool (ja l))/\w=w':=by
 by_cases h1:1<=l
 ·by_cases h2:l<=4
  ·have H:Hid (ja l=true):=by show _=_;unfold ja;simp[h1,h2]
   go_enter Tryz.func106,Tryz.ntmps106
   go_wp2;go_ret;exact⟨by rw[H.out];rfl,rfl⟩
  ·have H:Hid (ja l=false):=by show _=_;unfold ja;simp[h2]
   go_enter Tryz.func106,Tryz.ntmps106
   go_wp2;go_ret;exact⟨by rw[H.out];rfl,rfl⟩
 ·have H:Hid (ja l=false):=by show _=_;unfold ja;simp[h1]
  go_enter Tryz.func106,Tryz.ntmps106
  go_wp2;go_ret;exact⟨by rw[H.out];rfl,rfl⟩
theorem aI.down{M:Nat->Prop}{w:World}{D:Nat}{v:PE}{l T:List Tm}(h:aI M w 4 v l)(hs:ae T l)(hT:dN D T):aI M w D v l:=by
 refine CR.MU h ?_
 by_cases hc:v.lv<=D
 ·exact hc
 ·exfalso;have hl:=h.kR;obtain⟨E,b,off,P,gI,eU,FX,jZ,iw,lS,lu,eu,kP,gm,hb,pq,bT,fF,eB,jo,dh⟩:=h.node (by omega);obtain⟨q,hq1,hq2⟩:=(qak eU (by omega) bT fF).2.resolve_left (by omega);rw[eB q, <-hs q]at hq1;refine hq1 (hT.uX (k:=E+1) (by omega) eU ?_);rw[hq2];omega
theorem qcK{M:Nat->Prop}{D N cap S A:Nat}{a:Option Addr}{P:Nat->List Tm}(w:World)(hM:Mb M w)(h:dV M w D (.slice a N cap) N P)(hD:D+1<=4)(zO:∀i,i<N->bn S (P i))(hN:N<=S+1)(hS:(S+1)^(D+1)<=1099511627776)(I8:S<=1000000)(ky:∀i,i<N->az (aC (P i))<=A)(hA:A+2<=1099511627776):
 Calls Tryz.prog 62 #[.slice a N cap,.int .i64 ((D:Int)+1)] w (dH M w (D+1) (aJ (D+1) N P)):=by
 obtain⟨T,hT⟩:=h.low;have HTL:Hid (ae (aJ (D+1) N T) (aJ (D+1) N P)/\dN (D+1) (aJ (D+1) N T)):=⟨sZ _ _ _ _ λi hi=>(hT i hi).1,qdb _ _ _ (by omega) hD λi hi=>by rw[Nat.add_sub_cancel];exact(hT i hi).2⟩;have hE:=(Ext.refl w).alloc (.cells zA 33);have hB:=ak.bf w zA 33 4 rfl;have eG:Mb (Mx M w.heap.size (w.heap.size+1)) (w.alloc (.cells zA 33)):=Mx.mb hM (by simp) (by simp);have Qc:=((qyp h hD zO hN hS I8 ky hA).more (M':=Mx M w.heap.size (w.heap.size+1)) (Mx.more (Nat.le_refl _))).ext hE;have CT:=Lib.hid (Ha _ _ _ _ eG Qc)
 have wN:ja ((D:Int)+1)=true:=by unfold ja;simp;omega
 have Hw:=Lib.hid (λW=>VC ((D:Int)+1) W);rw[wN]at Hw;have HE:=Lib.hid hE;have HB:=Lib.hid hB;clear hT hE hB eG Qc wN h hM zO hN hS I8 ky hA
 go_enter Tryz.func62,Tryz.ntmps62
 go_wp2_with (fail);refine(Hw.out _).mono ?_;rintro e w1 ⟨rfl,rfl⟩;go_wp2_with (fail);refine CT.out.mono ?_;rintro e w2 ⟨v,rfl,hv,aA⟩;obtain⟨⟨q0,q1,q2,q3⟩,⟨f0,f1,f2,f3⟩,⟨r0,r1,r2,r3⟩,HF⟩:=iW (M:=M) (w:=w) (L:=D+1) (HB.out.ext aA) (Mx.at (by omega)) (by omega) (HE.out.trans aA) (hv.down HTL.out.1 HTL.out.2) Mx.sub;clear CT Hw hv aA;go_wp2;exact bodyPost_ret (v:=.agg (ah v)) (by simp[results,Tryz.results62,go_sem,r0,r1,r2,r3]) rfl HF.out
def GU(B C:Nat):Nat:=B+(B+1)*C
def qX(C:Nat):Nat->Nat->Nat
 |0,_=>1
 |L+1,B=>(B+2)*(qX C L (GU B C)+1)+3
def KJ(C:Nat):Nat->Nat->Prop
 |0,B=>B<=1000000/\(B+1)*(C+1)<=1099511627776
 |L+1,B=>(GU B C<=1000000/\(GU B C+1)^(L+1)<=1099511627776/\(GU B C+1)*(C+1)<=1099511627776)/\KJ C L (GU B C)
theorem qvO{B B' C:Nat}(h:B<=B'):GU B C<=GU B' C:=by
 have:=Nat.mul_le_mul_right C (show B+1<=B'+1 by omega);unfold GU;omega
theorem KJ.mono{C:Nat}:∀{L B B':Nat},B<=B'->KJ C L B'->KJ C L B
 |0,B,B',h,k=>⟨by have:=k.1;omega,Nat.le_trans (Nat.mul_le_mul_right _ (by omega)) k.2⟩
 |L+1,B,B',h,k=>by
  have h1:=qvO (C:=C) h;exact⟨⟨Nat.le_trans h1 k.1.1,Nat.le_trans (Nat.pow_le_pow_left (by omega) _) k.1.2.1,Nat.le_trans (Nat.mul_le_mul_right _ (by omega)) k.1.2.2⟩,KJ.mono h1 k.2⟩
theorem aI.qcH{M:Nat->Prop}{w:World}{L:Nat}{x:PE}{l:List Tm}(h:aI M w L x l):∃T,ae T l/\∀t∈T,∀k:Nat,x.lv<k->k<=4->t.2.get k=0:=by
 obtain⟨t,h1,h2,h3,h4⟩:=h;obtain⟨e0,_⟩:=h1.form;simp only[Value.int.injEq,true_and]at e0;have hl:=IM _ t h2;have h0:=FM h2;exact⟨_,h4,λs hs k hk ll=>hl s hs k (by show t.1.toNat<k;omega) ll⟩
def yI(M:Nat->Prop)(L:Nat)(l r:List Tm)(A:Nat)(v:PE)(ok:Bool)(w:World):Prop:=(ok=true->∃q,aI M w L v q/\ae (ai q r) l/\az (aC q)<=A)/\(ok=false->¬Dv r l)
def xK(M:Nat->Prop)(w:World)(L:Nat)(l r:List Tm)(A:Nat)(e:Ending)(w':World):Prop:=∃(v:PE)(ok:Bool),e=.returned (.tuple #[.agg (ah v),.bool ok])/\yI M L l r A v ok w'/\Ext w w'
theorem dH.OQ{M:Nat->Prop}{w W:World}{L A:Nat}{l q r:List Tm}{y:PE}(h:dH M w L q (.returned (.agg (ah y))) W)(hs:ae (ai q r) l)(hA:az (aC q)<=A):xK M w L l r A (.returned (.tuple #[.agg (ah y),.bool true])) W:=by
 obtain⟨y',e,h1,h2⟩:=h;simp only[Ending.returned.injEq,Value.agg.injEq]at e;exact⟨y',true,by rw[e],⟨λ_=>⟨q,h1,hs,hA⟩,λh=>(by cases h)⟩,h2⟩
theorem dH.Ul{M:Nat->Prop}{w W:World}{L L' A:Nat}{l q r:List Tm}{y:PE}(h:dH M w L' q (.returned (.agg (ah y))) W)(hs:¬Dv r l):xK M w L l r A (.returned (.tuple #[.agg (ah y),.bool false])) W:=by
 obtain⟨y',e,h1,h2⟩:=h;simp only[Ending.returned.injEq,Value.agg.injEq]at e;exact⟨y',false,by rw[e],⟨λh=>(by cases h),λ_=>hs⟩,h2⟩
theorem rW{w' wr:World}{b:Nat}{x:PE}(h:P4 wr b x)(he:w'.heap[b]?=wr.heap[b]?):P4 w' b x:=by
 have hc:=λo=>World.cell?_of_block (w:=wr) (w':=w') (a:=⟨b,o,none⟩) he;obtain⟨p0,p1,p2,p3⟩:=h;exact⟨(hc 0).trans p0,(hc 1).trans p1,(hc 2).trans p2,(hc 3).trans p3⟩
abbrev di(l:List Tm):List Tm:=ai l [(-1,Mo.zero)]
theorem qA(l:List Tm)(m:Mo):aB (di l) m= -aB l m:=by
 rw[VO l _ m,Rc,iD];show(-1:Int)*_=_;omega
theorem qcP(l:List Tm):aC (di l)=aC l:=by rw[Cu,qmQ];show _*1=_;omega
theorem QV{B:Nat}{l:List Tm}(h:bn B l):bn B (di l):=λm hm k=>h m (λh0=>hm (by rw[qA,h0];rfl)) k
theorem qB{l:List Tm}(h:NN l):NN (di l):=λm hm=>by rw[qA,h m hm];rfl
theorem NN.append{l r:List Tm}(h:NN l)(k:NN r):NN (l++r):=λm hm=>by rw[gW,h m hm,k m hm];rfl
theorem NN.nil:NN []:=λ_ _=>rfl
theorem NN.shift{l:List Tm}(h:NN l){k i:Nat}:NN (shift (xp k (i:Int)) l):=λm hm=>by
 rw[rG];refine h _ ?_
 cases hc:(Mo.sub m (xp k (i:Int))).nn with
 |false=>rfl
 |true=>
  rw[Mo.Ap]at hc
  have:m.nn=true:=by
   rw[Mo.Ap];have g1:(Mo.sub m (xp k (i:Int))).a=m.a-(if k=1 then(i:Int)else 0):=rfl;have g2:(Mo.sub m (xp k (i:Int))).b=m.b-(if k=2 then(i:Int)else 0):=rfl;have g3:(Mo.sub m (xp k (i:Int))).c=m.c-(if k=3 then(i:Int)else 0):=rfl;have g4:(Mo.sub m (xp k (i:Int))).d=m.d-(if k=4 then(i:Int)else 0):=rfl;rw[g1,g2,g3,g4]at hc
   have f:∀P:Prop,[Decidable P]->(0:Int)<=(if P then(i:Int)else 0):=λP _=>by split<;>omega
   have:=f (k=1);have:=f (k=2);have:=f (k=3);have:=f (k=4);omega
  rw[hm]at this;cases this
theorem NN.aJ{L:Nat}{P:Nat->List Tm}:∀{n:Nat},(∀i,i<n->NN (P i))->NN (aJ L n P)
 |0,_=>NN.nil
 |n+1,h=>by rw[fK];exact(NN.aJ λi hi=>h i (by omega)).append (h n (by omega)).shift
theorem qni(L:Nat)(P Q:Nat->List Tm):∀n,ae (aJ L n λi=>P i++Q i) (aJ L n P++aJ L n Q)
 |0=>ae.refl _
 |n+1=>λm=>by
  have ih:=qni L P Q n m;simp only[fK,gW,V8]at ih⊢;omega
theorem MS{L:Nat}{P:Nat->List Tm}:∀{n:Nat},(∀i,i<n->ae (P i) [])->ae (aJ L n P) []
 |0,_=>ae.refl _
 |n+1,h=>by
  rw[fK];exact(MS λi hi=>h i (by omega)).append ((h n (by omega)).shift _)
theorem qAd(L i j:Nat):Mo.add (xp L (i:Int)) (xp L (j:Int))=xp L ((j+i:Nat):Int):=Mo.ext_get λk _ _=>by
 rw[gL]
 by_cases h:1<=L/\L<=4
 ·rw[dX _ _ _ h.1 h.2,dX _ _ _ h.1 h.2,dX _ _ _ h.1 h.2];split<;>omega
 ·have h0:∀i:Int,xp L i=Mo.zero:=λi=>by
   simp only[xp,Mo.zero,Mo.mk.injEq];refine⟨if_neg (by omega),if_neg (by omega),if_neg (by omega),if_neg (by omega)⟩
  rw[h0,h0,h0]
  have h1:Mo.zero.get k=0:=by simp only[Mo.get,Mo.zero];repeat(first|rfl|split)
  omega
theorem qno(L k:Nat)(c:List Tm)(G:Nat->List Tm):∀n,ae (ai (shift (xp L (k:Int)) c) (aJ L n G)) (aJ L (k+n) λi=>if k<=i then ai c (G (i-k))else[])
 |0=>by
  rw[EO,JN];exact(MS λi hi=>by rw[if_neg (by omega)];exact ae.refl _).symm
 |n+1=>by
  rw[fK,show k+(n+1)=(k+n)+1 by omega,fK,if_pos (by omega),show k+n-k=n by omega];refine(ae.qng _ _ _).trans ((qno L k c G n).append ?_);refine(G7 _ _ _).trans (((qnh _ _ _).shift _).trans ?_);rw[qdr,qAd];exact ae.refl _
def rj(k:Nat)(c:List Tm)(G R:Nat->List Tm)(j:Nat)(i:Nat):List Tm:=if k<=i/\i<k+j then R i++di (ai c (G (i-k)))else R i
theorem qyl(k:Nat)(c:List Tm)(G R:Nat->List Tm)(i:Nat):rj k c G R 0 i=R i:=if_neg (by omega)
theorem qyj(k:Nat)(c:List Tm)(G R:Nat->List Tm)(j:Nat):rj k c G R j (k+j)=R (k+j):=if_neg (by omega)
theorem qyk(k:Nat)(c:List Tm)(G R:Nat->List Tm)(j i:Nat):rj k c G R (j+1) i=if i=k+j then R (k+j)++di (ai c (G j))else rj k c G R j i:=by
 unfold rj
 by_cases h:i=k+j
 ·subst h;rw[if_pos (by omega),if_pos rfl,show k+j-k=j by omega]
 ·rw[if_neg h]
  by_cases h2:k<=i/\i<k+j
  ·rw[if_pos h2,if_pos (by omega)]
  ·rw[if_neg h2,if_neg (by omega)]
theorem qyA(P:Program)(w:World)(dT sT ty elem:TypeId)(g o FO BB:Nat)(a:Addr)(Hf Cx:Nat)(cur:Array Value)(t:TypeId)(cs:List Value)(k:Nat)
 (hu:P.underlying dT=some (.slice elem)) (hs:(P.info? elem).map (·.size)=some k)
 (hg:w.heap[g]?=some (.cells cur t (0,0))) (hn:cs.length=Nat.min Hf FO*k)
 (Co:∀j v,cs[j]?=some v->w.cell? (a.add j)=some v) (Gg:o+cs.length<=cur.size) (h1:∀v∈cs,v.oneCell'=true):
 (Builtin.copy_ #[dT,sT] ty #[.slice (some ⟨g,o,none⟩) FO BB,.slice (some a) Hf Cx]).run P w=
  .ok (goInt (Nat.min Hf FO)) (w.setRow g (cur.toList.take o++cs++cur.toList.drop (o+cs.length)).toArray):=by
 have hl:=run_loadCells_list (P:=P) w a cs Co;have iT:=run_storeCells_at P g o t cs 0 cur w hg (by simpa using Gg) h1
 cases hq:P.info? elem with
 |none=>simp[hq]at hs
 |some i=>
  have hi:i.size=k:=by simpa[hq]using hs
  simp[Builtin.copy_,run_underlying hu,Builtin.lenOf,Builtin.firstCells,sizeOf,typeInfo,hq,hi, <-hn,hl,iT]
theorem qz9{P:Program}{w:World}{ops:Array Oper}{rest:List Oper}{o:Oper}{a:Act}{Q:Exit->Act->World->Prop}(iF:o.guard=none)(d s:Operand)(dT sT:TypeId)
 (ho:o.op=.call {callee:=.builtin .copy,args:= #[d,s],argTypes:= #[dT,sT]}) (elem:TypeId) (hu:P.underlying dT=some (.slice elem)) (z:Nat) (hsz:(P.info? elem).map (·.size)=some z)
 (N BB Cx:Nat) (g b off:Nat) (hd:a.eval d=.slice (some ⟨g,0,none⟩) N BB) (hs:a.eval s=.slice (some ⟨b,off,none⟩) N Cx)
 (t:TypeId) (f:Nat->Value) (hB:ak w g t (N*z) f) (src:Nat->Value) (Co:∀j,j<N*z->w.cell? ⟨b,off+j,none⟩=some (src j))
 (h1:∀j,j<N*z->(src j).oneCell'=true)
 (h:∀w',ak w' g t (N*z) (over f 0 (N*z) src)->w.grownBy w' (some g)->wpList P ops Q rest (a.put o.dst (goInt N)) w'):
 wpList P ops Q (o::rest) a w:=by
 obtain⟨cur,hg,hcs,hb⟩:=hB.splice 0 (N*z) src (by omega);refine wpList_plain iF λK hK=>?_;have hmin:Nat.min N N=N:=Nat.min_self N
 have hrun:=qyA P w dT sT o.type elem g 0 N BB ⟨b,off,none⟩ N Cx cur t ((List.range (N*z)).map src) z hu hsz hg (by rw[hmin];simp) (λj v hv=>by
  simp only[List.getElem?_map,Option.map_eq_some_iff]at hv;obtain⟨x,hx,rfl⟩:=hv;have hlt:=(List.getElem?_eq_some_iff.1 hx).1;simp only[List.length_range]at hlt;rw[List.getElem?_range hlt]at hx;cases hx
  rw[DN];exact Co j hlt) (by simp;omega) (λv hv=>by
  simp only[List.mem_map,List.mem_range]at hv;obtain⟨j,hj,rfl⟩:=hv
  exact h1 j hj)
 rw[hmin]at hrun;unfold Oper.wp;simp only[execOp,ho,resolve,invoke,builtin,Sem.run_bind,Sem.run_pure,List.map_toArray,List.map_cons,List.map_nil,hd,hs,hrun,Result.andThen_ok];refine hK _ _ (h _ ?_ ?_)
 ·simp only[List.append_assoc]at hb⊢;exact hb
 ·exact qaz _ _ _
theorem Kids.qxl{M:Nat->Prop}{w:World}{D g N:Nat}{xx:Nat->PE}{P:Nat->List Tm}{f:Nat->Value}(hB:ak w g 33 (N*4) f)(hf:∀j,j<N*4->f j=px xx j)(h:∀i,i<N->aI M w D (xx i) (P i)):Kids M w D g N P:=
 ⟨f,hB,λi hi=>by rw[hf _ (by omega),hf _ (by omega),hf _ (by omega),hf _ (by omega),JQ,JR,JS,JU];exact h i hi⟩
theorem qx2{w:World}{b off N:Nat}{xx:Nat->PE}(h:∀i,i<N->eX w b (off+i*4) (xx i))(j:Nat)(hj:j<N*4):w.cell? ⟨b,off+j,none⟩=some (px xx j):=by
 obtain⟨i,r,rfl,hr⟩:∃i r,j=i*4+r/\r<4:=⟨j/4,j%4,by omega,by omega⟩;obtain⟨h0,h1,h2,h3⟩:=h i (by omega)
 match r,hr with
 |0,_=>rw[Nat.add_zero,JQ];exact h0
 |1,_=>rw[JR, <-Nat.add_assoc];exact h1
 |2,_=>rw[JS, <-Nat.add_assoc];exact h2
 |3,_=>rw[JU, <-Nat.add_assoc];exact h3
theorem qx4(xx:Nat->PE)(j:Nat):(px xx j).oneCell'=true:=by
 unfold px
 split
 ·rfl
 ·split
  ·rfl
  ·split<;>rfl
theorem Kids.cells{M:Nat->Prop}{w:World}{D g N:Nat}{P:Nat->List Tm}(h:Kids M w D g N P)(i:Nat)(hi:i<N):∃y:PE,eX w g (i*4) y/\aI M w D y (P i):=by
 obtain⟨f,hB,hc⟩:=h;obtain⟨x,e0,e1,e2,e3,hx,_⟩:=(hc i hi).pe;refine⟨x,⟨?_,?_,?_,?_⟩,hx⟩
 ·rw[hB.cell (by omega),e0]
 ·rw[hB.cell (by omega),e1]
 ·rw[hB.cell (by omega),e2]
 ·rw[hB.cell (by omega),e3]
theorem dN.ai{L:Nat}{l r:List Tm}(h:dN L l)(k:dN L r):dN L (ai l r):=by
 induction l with
 |nil=>intro t ht;cases ht
 |cons s l ih=>
  intro t ht j hj Ep;simp only[Go.Proofs.YtmcfpnmoklnhoaaGreat.ai,List.mem_append]at ht;rcases ht with h1|h1
  ·simp only[shift,smul,List.mem_map,List.map_map]at h1;obtain⟨u,hu,rfl⟩:=h1;show(Mo.add _ _).get j=0;simp only[gL,h s (List.mem_cons_self ..) j hj Ep];have:=k u hu j hj Ep;simp[this]
  ·exact ih (λt ht=>h t (List.mem_cons_of_mem _ ht)) t h1 j hj Ep
theorem qws(L:Nat)(z:Int):dN L [(z,Mo.zero)]:=(Vz z).mono (Nat.zero_le _)
theorem aI.qcG{M:Nat->Prop}{w:World}{L:Nat}{x:PE}{l:List Tm}(h:aI M w L x l):∃T,ae T l/\dN L T:=by
 obtain⟨T,h1,h2⟩:=h.qcH;exact⟨T,h1,λt ht k hk ll=>h2 t ht k (by have:=h.kR;omega) ll⟩
end Go.Proofs.YtmcfpnmoklnhoaaGreat
