/- Bd -/
import Derived.Test.YtmcfpnmoklnhoaaGreatAb
import Derived.Test.YtmcfpnmoklnhoaaGreatMi
import Derived.Test.YtmcfpnmoklnhoaaGreatNr
set_option linter.unusedVariables false
set_option maxRecDepth 100000
set_option maxHeartbeats 400000000
set_option linter.unusedSimpArgs false
namespace Go.Proofs.YtmcfpnmoklnhoaaGreat
open Go.RowKit
theorem eY.low{M:Nat->Prop}{w:World}{D N cap:Nat}{a:Option Addr}{P:Nat->List Tm}(h:eY M w D (.slice a N cap) N P):∃T:Nat->List Tm,∀i,i<N->af (T i) (P i)/\eH D (T i):=by
 refine pick (Q:=λi T=>af T (P i)/\eH D T) [] λi hi=>?_;obtain⟨b,off,_,_,_,_,_,e0,e1,e2,e3,_,_,_,_,t,h1,h2,h3,h4⟩:=h.at i hi;exact⟨_,h4,(Kc _ t h2).mono (by show t.1.toNat<=D;omega)⟩
theorem Ye{L c:Nat}{P:Nat->List Tm}:∀n,(∀i,i<n->(P i).length<=c)->(aQ L n P).length<=n*c
 |0,_=>by rw[FY];simp
 |n+1,h=>by
  have ih:=Ye (L:=L) n λi hi=>h i (by omega);have h1:=h n (by omega);rw[gT,List.length_append,Nat.add_mul,Nat.one_mul];simp only[shift,List.length_map];omega
theorem qpn{L c:Nat}{P:Nat->List Tm}:∀n,(∀i,i<n->aK (P i)<=c)->aK (aQ L n P)<=n*c
 |0,_=>by rw[FY];simp[aK]
 |n+1,h=>by
  have ih:=qpn (L:=L) n λi hi=>h i (by omega);have h1:=h n (by omega);rw[gT,lN,xg,Nat.add_mul,Nat.one_mul];omega
theorem quy{n:Nat}(h:n<=4294967295):aH n<=1:=by rw[lZ,Nat.pow_one];omega
theorem Yb{L A N:Nat}{P:Nat->List Tm}(hN:N<=4294967295)(h:∀i,i<N->aH (aK (P i))<=A):aH (aK (aQ L N P))<=A+2:=by
 have h1:=qpn (L:=L) (c:=4294967296^A) N λi hi=>Nat.le_of_lt ((lZ _ _).1 (h i hi));have h2:=jB h1;have h3:=pQ N (4294967296^A);have h4:=quy hN
 have h5:aH (4294967296^A)<=A+1:=by
  rw[lZ];exact Nat.pow_lt_pow_right (by omega) (by omega)
 omega
theorem qAS{M:Nat->Prop}{w:World}{D N cap S A:Nat}{a:Option Addr}{P:Nat->List Tm}(h:eY M w D (.slice a N cap) N P)(hD:D+1<=4)(Bl:∀i,i<N->bH S (P i))(hN:N<=S+1)(hS:(S+1)^(D+1)<=1099511627776)(Kz:S<=1000000)(jZ:∀i,i<N->aH (aK (P i))<=A)(hA:A+2<=1099511627776):
 PI M w ⟨(D:Int)+1,false,none,0,0,a,N,cap⟩ (aQ (D+1) N P):=by
 obtain⟨bN,dP⟩:=pick (Dr (D+1)) (n:=N) (Q:=λi u=>(∃b off,a=some ⟨b,off,none⟩/\N<=cap/\cap<=maxLen/\b<w.heap.size/\¬M b/\∃e0 e1 e2 e3,w.cell? ⟨b,off+i*4,none⟩=some e0/\w.cell? ⟨b,off+i*4+1,none⟩=some e1/\w.cell? ⟨b,off+i*4+2,none⟩=some e2/\w.cell? ⟨b,off+i*4+3,none⟩=some e3/\RR M w (D+1) u e0 e1 e2 e3)/\gM (D+1) u=true/\BP (D+1) u/\u.1<=D/\af (terms (D+1) u) (P i)) (by
  intro i hi;obtain⟨b,off,h1,h2,h3,h4,h5,e0,e1,e2,e3,x0,x1,x2,x3,t,g1,g2,g3,g4⟩:=h.at i hi
  exact⟨t,⟨b,off,h1,h2,h3,h4,h5,e0,e1,e2,e3,x0,x1,x2,x3,g1⟩,g2,g1.ok,g3,g4⟩)
 have hT:terms (D+1+1) (uH (D+1) ((D:Int)+1) ⟨false,0,λ_=>0⟩ N bN)=aQ (D+1) N (λi=>terms (D+1) (bN i)):=by
  rw[TH _ _ _ _ _ (by omega) (by omega),show((D:Int)+1).toNat=D+1 by omega]
 refine⟨D+1+1,uH _ ((D:Int)+1) ⟨false,0,λ_=>0⟩ N bN,⟨rfl,by show-9223372036854775808<=(D:Int)+1/\(D:Int)+1<=9223372036854775807;omega,⟨rfl,Oz _ _ _⟩,h.1,?_⟩,.inr ⟨by omega,?_,?_,?_⟩,?_⟩
 ·rcases h.2 with⟨h1,h0⟩|⟨b,off,cap',h1,h2,h3,h4,_⟩
  ·simp only[Value.slice.injEq]at h1;obtain⟨rfl,rfl,rfl⟩:=h1;exact .inl ⟨⟨none,0,rfl,bK _,λ_=>rfl⟩,rfl⟩
  ·simp only[Value.slice.injEq,true_and]at h1;obtain⟨rfl,rfl⟩:=h1;refine .inr ⟨b,off,cap,rfl,h2,h3,h4,λi hi=>?_⟩;obtain⟨b',off',e,_,_,_,_,hk⟩:=(dP i hi).1;simp only[Option.some.injEq,Addr.mk.injEq,and_true]at e;obtain⟨rfl,rfl⟩:=e;exact hk
 ·rw[hT];refine aR (Ye (c:=(S+1)^D) N λi hi=>?_) ?_
  ·have h1:=Vw S (D+1) (bN i) (dP i hi).2.1 (dP i hi).2.2.1 (OT (dP i hi).2.2.2.2 (Bl i hi));refine aR h1 (Nat.pow_le_pow_right (by omega) ?_);have:=(dP i hi).2.2.2.1;show(bN i).1.toNat<=D;omega
  ·rw[Nat.pow_succ,Nat.mul_comm]at hS;exact aR (eB _ hN) hS
 ·rw[hT];have:=Yb (L:=D+1) (A:=A) (N:=N) (P:=λi=>terms (D+1) (bN i)) (by omega) λi hi=>aR (jB (Qo (dP i hi).2.1 (dP i hi).2.2.2.2)) (jZ i hi);omega
 ·rw[hT];intro s hs k;obtain⟨i,hi,s',kC,rfl⟩:=FX hs;have h1:=Vv S (D+1) (bN i) (dP i hi).2.1 (dP i hi).2.2.1 (OT (dP i hi).2.2.2.2 (Bl i hi)) s' kC k;show(Mo.add s'.2 (xp (D+1) (i:Int))).get k<=_;rw[iH];rw[eQ _ k _ (by omega) hD]
  split<;>omega
 ·rw[hT];exact tT _ _ _ _ λi hi=>(dP i hi).2.2.2.2
theorem Tc(l:Int)(w:World):Calls Tryz.prog 106 #[.int .i64 l] w λe w'=>e=.returned (.bool (gm l))/\w=w':=by
 by_cases h1:1<=l
 ·by_cases h2:l<=4
  ·have H:Hid (gm l=true):=by show _=_;unfold gm;simp[h1,h2]
   go_enter Tryz.func106,Tryz.ntmps106
   go_wp2;go_ret;exact⟨by rw[H.out];rfl,rfl⟩
  ·have H:Hid (gm l=false):=by show _=_;unfold gm;simp[h2]
   go_enter Tryz.func106,Tryz.ntmps106
   go_wp2;go_ret;exact⟨by rw[H.out];rfl,rfl⟩
 ·have H:Hid (gm l=false):=by show _=_;unfold gm;simp[h1]
  go_enter Tryz.func106,Tryz.ntmps106
  go_wp2;go_ret;exact⟨by rw[H.out];rfl,rfl⟩
theorem aN.down{M:Nat->Prop}{w:World}{D:Nat}{v:PE}{l T:List Tm}(h:aN M w 4 v l)(hs:af T l)(hT:eH D T):aN M w D v l:=by
 refine CR.OP h ?_
 by_cases hc:v.lv<=D
 ·exact hc
 ·exfalso;have hl:=h.mq;obtain⟨E,b,off,P,iJ,fI,Hd,ll,jg,nT,mg,gH,mi,iB,hb,qC,dB,fQ,fJ,gQ,dP⟩:=h.node (by omega);obtain⟨q,hq1,hq2⟩:=(qbt fI (by omega) dB fQ).2.resolve_left (by omega);rw[fJ q, <-hs q]at hq1;refine hq1 (hT.vw (k:=E+1) (by omega) fI ?_);rw[hq2];omega
theorem qd5{M:Nat->Prop}{D N cap S A:Nat}{a:Option Addr}{P:Nat->List Tm}(w:World)(hM:Mb M w)(h:eY M w D (.slice a N cap) N P)(hD:D+1<=4)(Bl:∀i,i<N->bH S (P i))(hN:N<=S+1)(hS:(S+1)^(D+1)<=1099511627776)(Kz:S<=1000000)(jZ:∀i,i<N->aH (aK (P i))<=A)(hA:A+2<=1099511627776):
 Calls Tryz.prog 62 #[.slice a N cap,.int .i64 ((D:Int)+1)] w (dO M w (D+1) (aQ (D+1) N P)):=by
 obtain⟨T,hT⟩:=h.low;have HTL:Hid (af (aQ (D+1) N T) (aQ (D+1) N P)/\eH (D+1) (aQ (D+1) N T)):=⟨tT _ _ _ _ λi hi=>(hT i hi).1,qeu _ _ _ (by omega) hD λi hi=>by rw[Nat.add_sub_cancel];exact(hT i hi).2⟩;have hE:=(aA w).alloc (.cells zA 33);have hB:=aG.bq w zA 33 4 rfl;have fu:Mb (Mx M w.heap.size (w.heap.size+1)) (w.alloc (.cells zA 33)):=Mx.mb hM (by simp) (by simp);have RP:=((qAS h hD Bl hN hS Kz jZ hA).more (M':=Mx M w.heap.size (w.heap.size+1)) (Mx.more (aI _))).ext hE;have CT:=ae (Jc _ _ _ _ fu RP)
 have qL:gm ((D:Int)+1)=true:=by unfold gm;simp;omega
 have vZ:=ae (λW=>Tc ((D:Int)+1) W);rw[qL]at vZ;have HE:=ae hE;have HB:=ae hB;clear hT hE hB fu RP qL h hM Bl hN hS Kz jZ hA
 go_enter Tryz.func62,Tryz.ntmps62
 go_wp2_with (fail);refine(vZ.out _).mono ?_;rintro e w1 ⟨rfl,rfl⟩;go_wp2_with (fail);refine CT.out.mono ?_;rintro e w2 ⟨v,rfl,hv,aJ⟩;obtain⟨⟨q0,q1,q2,q3⟩,⟨f0,f1,f2,f3⟩,⟨r0,r1,r2,r3⟩,HF⟩:=iF (M:=M) (w:=w) (L:=D+1) (HB.out.ext aJ) (Mx.at (by omega)) (by omega) (HE.out.trans aJ) (hv.down HTL.out.1 HTL.out.2) Mx.sub;clear CT vZ hv aJ;go_wp2;exact bu (v:=.agg (ak v)) (by simp[results,Tryz.results62,go_sem,r0,r1,r2,r3]) rfl HF.out
def IP(B C:Nat):Nat:=B+(B+1)*C
def qX(C:Nat):Nat->Nat->Nat
 |0,_=>1
 |L+1,B=>(B+2)*(qX C L (IP B C)+1)+3
def Qf(C:Nat):Nat->Nat->Prop
 |0,B=>B<=1000000/\(B+1)*(C+1)<=1099511627776
 |L+1,B=>(IP B C<=1000000/\(IP B C+1)^(L+1)<=1099511627776/\(IP B C+1)*(C+1)<=1099511627776)/\Qf C L (IP B C)
theorem qyn{B B' C:Nat}(h:B<=B'):IP B C<=IP B' C:=by
 have:=eB C (show B+1<=B'+1 by omega);unfold IP;omega
theorem Qf.mono{C:Nat}:∀{L B B':Nat},B<=B'->Qf C L B'->Qf C L B
 |0,B,B',h,k=>⟨by have:=k.1;omega,aR (eB _ (by omega)) k.2⟩
 |L+1,B,B',h,k=>by
  have h1:=qyn (C:=C) h;exact⟨⟨aR h1 k.1.1,aR (Nat.pow_le_pow_left (by omega) _) k.1.2.1,aR (eB _ (by omega)) k.1.2.2⟩,Qf.mono h1 k.2⟩
theorem aN.qd2{M:Nat->Prop}{w:World}{L:Nat}{x:PE}{l:List Tm}(h:aN M w L x l):∃T,af T l/\∀t∈T,∀k:Nat,x.lv<k->k<=4->t.2.get k=0:=by
 obtain⟨t,h1,h2,h3,h4⟩:=h;obtain⟨e0,_⟩:=h1.form;simp only[Value.int.injEq,true_and]at e0;have hl:=Kc _ t h2;have h0:=ES h2;exact⟨_,h4,λs hs k hk mI=>hl s hs k (by show t.1.toNat<k;omega) mI⟩
def Ab(M:Nat->Prop)(L:Nat)(l r:List Tm)(A:Nat)(v:PE)(ok:Bool)(w:World):Prop:=(ok=true->∃q,aN M w L v q/\af (aF q r) l/\aH (aK q)<=A)/\(ok=false->¬Dv r l)
def yK(M:Nat->Prop)(w:World)(L:Nat)(l r:List Tm)(A:Nat)(e:Ending)(w':World):Prop:=∃(v:PE)(ok:Bool),e=.returned (.tuple #[.agg (ak v),.bool ok])/\Ab M L l r A v ok w'/\Ext w w'
theorem dO.QG{M:Nat->Prop}{w W:World}{L A:Nat}{l q r:List Tm}{y:PE}(h:dO M w L q (.returned (.agg (ak y))) W)(hs:af (aF q r) l)(hA:aH (aK q)<=A):yK M w L l r A (.returned (.tuple #[.agg (ak y),.bool true])) W:=by
 obtain⟨y',e,h1,h2⟩:=h;simp only[Ending.returned.injEq,Value.agg.injEq]at e;exact⟨y',true,by rw[e],⟨λ_=>⟨q,h1,hs,hA⟩,λh=>(by cases h)⟩,h2⟩
theorem dO.V4{M:Nat->Prop}{w W:World}{L L' A:Nat}{l q r:List Tm}{y:PE}(h:dO M w L' q (.returned (.agg (ak y))) W)(hs:¬Dv r l):yK M w L l r A (.returned (.tuple #[.agg (ak y),.bool false])) W:=by
 obtain⟨y',e,h1,h2⟩:=h;simp only[Ending.returned.injEq,Value.agg.injEq]at e;exact⟨y',false,by rw[e],⟨λh=>(by cases h),λ_=>hs⟩,h2⟩
theorem sH{w' wr:World}{b:Nat}{x:PE}(h:P4 wr b x)(he:w'.heap[b]?=wr.heap[b]?):P4 w' b x:=by
 have hc:=λo=>World.cell?_of_block (w:=wr) (w':=w') (a:=⟨b,o,none⟩) he;obtain⟨p0,p1,p2,p3⟩:=h;exact⟨(hc 0).trans p0,(hc 1).trans p1,(hc 2).trans p2,(hc 3).trans p3⟩
abbrev dN(l:List Tm):List Tm:=aF l [(-1,Mo.zero)]
theorem qO(l:List Tm)(m:Mo):aL (dN l) m= -aL l m:=by
 rw[I7 l _ m,FZ,iM];show(-1:Int)*_=_;omega
theorem qea(l:List Tm):aK (dN l)=aK l:=by rw[zL,qoS];show _*1=_;omega
theorem Tf{B:Nat}{l:List Tm}(h:bH B l):bH B (dN l):=λm hm k=>h m (λh0=>hm (by rw[qO,h0];rfl)) k
theorem qP{l:List Tm}(h:NN l):NN (dN l):=λm hm=>by rw[qO,h m hm];rfl
theorem NN.append{l r:List Tm}(h:NN l)(k:NN r):NN (l++r):=λm hm=>by rw[iZ,h m hm,k m hm];rfl
theorem NN.nil:NN []:=λ_ _=>rfl
theorem NN.shift{l:List Tm}(h:NN l){k i:Nat}:NN (shift (xp k (i:Int)) l):=λm hm=>by
 rw[rP];refine h _ ?_
 cases hc:(Mo.sub m (xp k (i:Int))).nn with
 |false=>rfl
 |true=>
  rw[Mo.BN]at hc
  have:m.nn=true:=by
   rw[Mo.BN];have g1:(Mo.sub m (xp k (i:Int))).a=m.a-(if k=1 then(i:Int)else 0):=rfl;have g2:(Mo.sub m (xp k (i:Int))).b=m.b-(if k=2 then(i:Int)else 0):=rfl;have g3:(Mo.sub m (xp k (i:Int))).c=m.c-(if k=3 then(i:Int)else 0):=rfl;have g4:(Mo.sub m (xp k (i:Int))).d=m.d-(if k=4 then(i:Int)else 0):=rfl;rw[g1,g2,g3,g4]at hc
   have f:∀P:Prop,[Decidable P]->(0:Int)<=(if P then(i:Int)else 0):=λP _=>by split<;>omega
   have:=f (k=1);have:=f (k=2);have:=f (k=3);have:=f (k=4);omega
  rw[hm]at this;cases this
theorem NN.aQ{L:Nat}{P:Nat->List Tm}:∀{n:Nat},(∀i,i<n->NN (P i))->NN (aQ L n P)
 |0,_=>NN.nil
 |n+1,h=>by rw[gT];exact(NN.aQ λi hi=>h i (by omega)).append (h n (by omega)).shift
theorem qpk(L:Nat)(P Q:Nat->List Tm):∀n,af (aQ L n λi=>P i++Q i) (aQ L n P++aQ L n Q)
 |0=>af.refl _
 |n+1=>λm=>by
  have ih:=qpk L P Q n m;simp only[gT,iZ,Yt]at ih⊢;omega
theorem OM{L:Nat}{P:Nat->List Tm}:∀{n:Nat},(∀i,i<n->af (P i) [])->af (aQ L n P) []
 |0,_=>af.refl _
 |n+1,h=>by
  rw[gT];exact(OM λi hi=>h i (by omega)).append ((h n (by omega)).shift _)
theorem qCN(L i j:Nat):Mo.add (xp L (i:Int)) (xp L (j:Int))=xp L ((j+i:Nat):Int):=Mo.ext_get λk _ _=>by
 rw[iH]
 by_cases h:1<=L/\L<=4
 ·rw[eQ _ _ _ h.1 h.2,eQ _ _ _ h.1 h.2,eQ _ _ _ h.1 h.2];split<;>omega
 ·have h0:∀i:Int,xp L i=Mo.zero:=λi=>by
   simp only[xp,Mo.zero,Mo.mk.injEq];refine⟨ah (by omega),ah (by omega),ah (by omega),ah (by omega)⟩
  rw[h0,h0,h0]
  have h1:Mo.zero.get k=0:=by simp only[Mo.get,Mo.zero];repeat(first|rfl|split)
  omega
theorem qpq(L k:Nat)(c:List Tm)(G:Nat->List Tm):∀n,af (aF (shift (xp L (k:Int)) c) (aQ L n G)) (aQ L (k+n) λi=>if k<=i then aF c (G (i-k))else[])
 |0=>by
  rw[FY,Ll];exact(OM λi hi=>by rw[ah (by omega)];exact af.refl _).symm
 |n+1=>by
  rw[gT,show k+(n+1)=(k+n)+1 by omega,gT,ai (by omega),show k+n-k=n by omega];refine(af.qpi _ _ _).trans ((qpq L k c G n).append ?_);refine(I6 _ _ _).trans (((qpj _ _ _).shift _).trans ?_);rw[qeQ,qCN];exact af.refl _
def rj(k:Nat)(c:List Tm)(G R:Nat->List Tm)(j:Nat)(i:Nat):List Tm:=if k<=i/\i<k+j then R i++dN (aF c (G (i-k)))else R i
theorem qAO(k:Nat)(c:List Tm)(G R:Nat->List Tm)(i:Nat):rj k c G R 0 i=R i:=ah (by omega)
theorem qAM(k:Nat)(c:List Tm)(G R:Nat->List Tm)(j:Nat):rj k c G R j (k+j)=R (k+j):=ah (by omega)
theorem qAN(k:Nat)(c:List Tm)(G R:Nat->List Tm)(j i:Nat):rj k c G R (j+1) i=if i=k+j then R (k+j)++dN (aF c (G j))else rj k c G R j i:=by
 unfold rj
 by_cases h:i=k+j
 ·subst h;rw[ai (by omega),ai rfl,show k+j-k=j by omega]
 ·rw[ah h]
  by_cases h2:k<=i/\i<k+j
  ·rw[ai h2,ai (by omega)]
  ·rw[ah h2,ah (by omega)]
theorem qA6(P:Program)(w:World)(dT sT ty elem:TypeId)(g o GZ Dm:Nat)(a:Addr)(Jg Eh:Nat)(cur:Array Value)(t:TypeId)(cs:List Value)(k:Nat)
 (hu:P.underlying dT=some (.slice elem)) (hs:(P.info? elem).map (·.size)=some k)
 (hg:w.heap[g]?=some (.cells cur t (0,0))) (hn:cs.length=Nat.min Jg GZ*k)
 (Ea:∀j v,cs[j]?=some v->w.cell? (a.add j)=some v) (H8:o+cs.length<=cur.size) (h1:∀v∈cs,v.oneCell'=true):
 (Builtin.copy_ #[dT,sT] ty #[.slice (some ⟨g,o,none⟩) GZ Dm,.slice (some a) Jg Eh]).run P w=
  .ok (goInt (Nat.min Jg GZ)) (w.setRow g (cur.toList.take o++cs++cur.toList.drop (o+cs.length)).toArray):=by
 have hl:=run_loadCells_list (P:=P) w a cs Ea;have jG:=run_storeCells_at P g o t cs 0 cur w hg (by simpa using H8) h1
 cases hq:P.info? elem with
 |none=>simp[hq]at hs
 |some i=>
  have hi:i.size=k:=by simpa[hq]using hs
  simp[Builtin.copy_,run_underlying hu,Builtin.lenOf,Builtin.firstCells,sizeOf,typeInfo,hq,hi, <-hn,hl,jG]
theorem qCJ{P:Program}{w:World}{ops:Array Oper}{rest:List Oper}{o:Oper}{a:Act}{Q:Exit->Act->World->Prop}(jF:o.guard=none)(d s:Operand)(dT sT:TypeId)
 (ho:o.op=.call {callee:=.builtin .copy,args:= #[d,s],argTypes:= #[dT,sT]}) (elem:TypeId) (hu:P.underlying dT=some (.slice elem)) (z:Nat) (hsz:(P.info? elem).map (·.size)=some z)
 (N Dm Eh:Nat) (g b off:Nat) (hd:a.eval d=.slice (some ⟨g,0,none⟩) N Dm) (hs:a.eval s=.slice (some ⟨b,off,none⟩) N Eh)
 (t:TypeId) (f:Nat->Value) (hB:aG w g t (N*z) f) (src:Nat->Value) (Ea:∀j,j<N*z->w.cell? ⟨b,off+j,none⟩=some (src j))
 (h1:∀j,j<N*z->(src j).oneCell'=true)
 (h:∀w',aG w' g t (N*z) (over f 0 (N*z) src)->w.grownBy w' (some g)->wpList P ops Q rest (a.put o.dst (goInt N)) w'):
 wpList P ops Q (o::rest) a w:=by
 obtain⟨cur,hg,hcs,hb⟩:=hB.splice 0 (N*z) src (by omega);refine wpList_plain jF λK hK=>?_;have hmin:Nat.min N N=N:=Nat.min_self N
 have hrun:=qA6 P w dT sT o.type elem g 0 N Dm ⟨b,off,none⟩ N Eh cur t ((List.range (N*z)).map src) z hu hsz hg (by rw[hmin];simp) (λj v hv=>by
  simp only[List.getElem?_map,Option.map_eq_some_iff]at hv;obtain⟨x,hx,rfl⟩:=hv;have hlt:=(List.getElem?_eq_some_iff.1 hx).1;simp only[List.length_range]at hlt;rw[List.getElem?_range hlt]at hx;cases hx
  rw[GQ];exact Ea j hlt) (by simp;omega) (λv hv=>by
  simp only[List.mem_map,List.mem_range]at hv;obtain⟨j,hj,rfl⟩:=hv
  exact h1 j hj)
 rw[hmin]at hrun;unfold Oper.wp;simp only[execOp,ho,resolve,invoke,builtin,Sem.run_bind,Sem.run_pure,List.map_toArray,List.map_cons,List.map_nil,hd,hs,hrun,Result.andThen_ok];refine hK _ _ (h _ ?_ ?_)
 ·simp only[List.append_assoc]at hb⊢;exact hb
 ·exact qbR _ _ _
theorem Kids.qzT{M:Nat->Prop}{w:World}{D g N:Nat}{xx:Nat->PE}{P:Nat->List Tm}{f:Nat->Value}(hB:aG w g 33 (N*4) f)(hf:∀j,j<N*4->f j=px xx j)(h:∀i,i<N->aN M w D (xx i) (P i)):Kids M w D g N P:=
 ⟨f,hB,λi hi=>by rw[hf _ (by omega),hf _ (by omega),hf _ (by omega),hf _ (by omega),Ls,Lt,Lu,Lx];exact h i hi⟩
theorem qAC{w:World}{b off N:Nat}{xx:Nat->PE}(h:∀i,i<N->jK w b (off+i*4) (xx i))(j:Nat)(hj:j<N*4):w.cell? ⟨b,off+j,none⟩=some (px xx j):=by
 obtain⟨i,r,rfl,hr⟩:∃i r,j=i*4+r/\r<4:=⟨j/4,j%4,by omega,by omega⟩;obtain⟨h0,h1,h2,h3⟩:=h i (by omega)
 match r,hr with
 |0,_=>rw[Nat.add_zero,Ls];exact h0
 |1,_=>rw[Lt, <-Nat.add_assoc];exact h1
 |2,_=>rw[Lu, <-Nat.add_assoc];exact h2
 |3,_=>rw[Lx, <-Nat.add_assoc];exact h3
theorem qAE(xx:Nat->PE)(j:Nat):(px xx j).oneCell'=true:=by
 unfold px
 split
 ·rfl
 ·split
  ·rfl
  ·split<;>rfl
theorem Kids.cells{M:Nat->Prop}{w:World}{D g N:Nat}{P:Nat->List Tm}(h:Kids M w D g N P)(i:Nat)(hi:i<N):∃y:PE,jK w g (i*4) y/\aN M w D y (P i):=by
 obtain⟨f,hB,hc⟩:=h;obtain⟨x,e0,e1,e2,e3,hx,_⟩:=(hc i hi).pe;refine⟨x,⟨?_,?_,?_,?_⟩,hx⟩
 ·rw[hB.cell (by omega),e0]
 ·rw[hB.cell (by omega),e1]
 ·rw[hB.cell (by omega),e2]
 ·rw[hB.cell (by omega),e3]
theorem eH.aF{L:Nat}{l r:List Tm}(h:eH L l)(k:eH L r):eH L (aF l r):=by
 induction l with
 |nil=>intro t ht;cases ht
 |cons s l ih=>
  intro t ht j hj FE;simp only[Go.Proofs.YtmcfpnmoklnhoaaGreat.aF,List.mem_append]at ht;rcases ht with h1|h1
  ·simp only[shift,smul,List.mem_map,List.map_map]at h1;obtain⟨u,hu,rfl⟩:=h1;show(Mo.add _ _).get j=0;simp only[iH,h s (List.mem_cons_self ..) j hj FE];have:=k u hu j hj FE;simp[this]
  ·exact ih (λt ht=>h t (List.mem_cons_of_mem _ ht)) t h1 j hj FE
theorem qyZ(L:Nat)(z:Int):eH L [(z,Mo.zero)]:=(XQ z).mono (bK _)
theorem aN.qd1{M:Nat->Prop}{w:World}{L:Nat}{x:PE}{l:List Tm}(h:aN M w L x l):∃T,af T l/\eH L T:=by
 obtain⟨T,h1,h2⟩:=h.qd2;exact⟨T,h1,λt ht k hk mI=>h2 t ht k (by have:=h.mq;omega) mI⟩
end Go.Proofs.YtmcfpnmoklnhoaaGreat
