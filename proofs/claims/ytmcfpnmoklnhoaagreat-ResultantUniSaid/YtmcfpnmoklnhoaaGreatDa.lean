/- Da -/
import Derived.Test.YtmcfpnmoklnhoaaGreatBd
import Derived.Test.YtmcfpnmoklnhoaaGreatBj
set_option linter.unusedVariables false
set_option maxRecDepth 100000
set_option maxHeartbeats 400000000
set_option linter.unusedSimpArgs false
namespace Go.Proofs.YtmcfpnmoklnhoaaGreat
open Go.RowKit
theorem qCC{k D:Nat}(h1:1<=k)(h4:k<=4)(hD:D+1<=4)(hk:k≠D+1)(m:Mo)(i:Int):wo k (Mo.add m (xp (D+1) i))=Mo.add (wo k m) (xp (D+1) i):=by
 rw[qfc h1 h4,qqW h1 h4 (x:=xp (D+1) i) (by rw[eQ _ _ _ (by omega) hD,ah hk])]
theorem qtu{k D:Nat}(h1:1<=k)(h4:k<=4)(hD:D+1<=4)(hk:k≠D+1)(e i:Int)(l:List Tm):ck k e (shift (xp (D+1) i) l)=shift (xp (D+1) i) (ck k e l):=by
 unfold ck mM shift;rw[List.map_map,List.map_map];apply List.map_congr_left;intro t _;simp only[Function.comp_def,Nf,iH,eQ _ _ _ (show 1<=D+1 by omega) hD,ah hk,qCC h1 h4 hD hk,Int.add_zero]
theorem Vy(k:Nat)(e:Int)(l r:List Tm):ck k e (l++r)=ck k e l++ck k e r:=SQ _ _ _
theorem qtr{k D:Nat}(h1:1<=k)(h4:k<=4)(hD:D+1<=4)(hk:k≠D+1)(e:Int)(N:Nat)(P:Nat->List Tm):ck k e (aQ (D+1) N P)=aQ (D+1) N λi=>ck k e (P i):=by
 induction N with
 |zero=>rfl
 |succ N ih=>rw[gT,gT,Vy,ih,qtu h1 h4 hD hk]
theorem qiV{k:Nat}(h1:1<=k)(h4:k<=4){l:List Tm}(h:∀m,aL l m≠0->m.get k=0):af (ck k 0 l) l:=λm=>by
 rw[oh h1 h4]
 by_cases hm:m.get k=0
 ·rw[ai hm,qq3,Mo.add_zero']
 ·rw[ah hm];exact(eF λhc=>hm (h m (λe=>hc e.symm)))
theorem qtt{k:Nat}(h1:1<=k)(h4:k<=4){e:Int}(he:e≠0){l:List Tm}(h:∀m,aL l m≠0->m.get k=0):af (ck k e l) []:=λm=>by
 rw[oh h1 h4]
 by_cases hm:m.get k=0
 ·rw[ai hm];refine eF λhc=>?_;have:=h _ hc;rw[iH,hm,eQ _ _ _ h1 h4,ai rfl]at this;omega
 ·rw[ah hm];rfl
theorem qts{k n:Nat}(h1:1<=k)(h4:k<=4){l:List Tm}(h:∀m,aL l m≠0->m.get k<=n){i:Nat}(hi:n<i):af (ck k (i:Int) l) []:=λm=>by
 rw[oh h1 h4]
 by_cases hm:m.get k=0
 ·rw[ai hm];refine eF λhc=>?_;have:=h _ hc;rw[iH,hm,eQ _ _ _ h1 h4,ai rfl]at this;omega
 ·rw[ah hm];rfl
def iW(M:Nat->Prop)(w:World)(d E B:Nat)(e0 e1 e2 e3:Value)(S R:List Tm):Prop:=
 ∃u:RT (d+1),RR M w (d+1) u e0 e1 e2 e3/\af (terms (d+1) u) S/\eH E (terms (d+1) u)/\(terms (d+1) u).length<=(B+1)^E/\aK (terms (d+1) u)<=aK R/\∀s∈terms (d+1) u,∀k,s.2.get k<=B
section
variable{M M':Nat->Prop}{w w':World}{d E B:Nat}{e0 e1 e2 e3:Value}{S S' R:List Tm}
theorem iW.kp(h:iW M w d E B e0 e1 e2 e3 S R)(he:Kp M w w'):iW M w' d E B e0 e1 e2 e3 S R:=by
 obtain⟨u,h1,h2⟩:=h;exact⟨u,RR.kp he h1,h2⟩
theorem iW.ext(h:iW M w d E B e0 e1 e2 e3 S R)(he:Ext w w'):iW M w' d E B e0 e1 e2 e3 S R:=h.kp (Kp.kV he)
theorem iW.more(h:iW M w d E B e0 e1 e2 e3 S R)(hm:∀g,M' g->M g\/w.heap.size<=g):iW M' w d E B e0 e1 e2 e3 S R:=by
 obtain⟨u,h1,h2⟩:=h;exact⟨u,RR.more hm h1,h2⟩
theorem iW.dh(h:iW M w d E B e0 e1 e2 e3 S R)(hs:af S S'):iW M w d E B e0 e1 e2 e3 S' R:=by
 obtain⟨u,h1,h2,h3⟩:=h;exact⟨u,h1,h2.trans hs,h3⟩
theorem iW.wide{E':Nat}(h:iW M w d E B e0 e1 e2 e3 S R)(hE:E<=E'):iW M w d E' B e0 e1 e2 e3 S R:=by
 obtain⟨u,h1,h2,h3,h4,h5⟩:=h;exact⟨u,h1,h2,h3.mono hE,aR h4 (Nat.pow_le_pow_right (by omega) hE),h5⟩
theorem iW.zero(M:Nat->Prop)(w:World)(d E B:Nat)(R:List Tm):iW M w d E B (.int .i64 0) (.bool false) (.slice none 0 0) (.slice none 0 0) [] R:=by
 refine⟨uH d 0 ⟨false,0,λ_=>0⟩ 0 (λ_=>Dr d),⟨rfl,by show-9223372036854775808<=(0:Int)/\(0:Int)<=9223372036854775807;omega,⟨rfl,Oz _ _ _⟩,bK _,.inl ⟨⟨none,0,rfl,bK _,λ_=>rfl⟩,rfl⟩⟩,?_,?_,?_,?_,?_⟩
 all_goals rw[YA _ _ _ _ (by omega)]
 ·exact Yu
 ·exact(XQ _).mono (bK _)
 ·exact Nat.pow_pos (Nat.succ_pos B)
 ·exact bK _
 ·intro s hs k;simp only[List.mem_cons,List.not_mem_nil,or_false]at hs;subst hs;show Mo.zero.get k<=_;rw[uw];omega
theorem iW.qo5{x:PE}{l:List Tm}(h:aN M w E x l)(hE:E<=d)(hB:bH B l):iW M w d E B (.int .i64 x.lv) (.bool x.b) (.slice x.a x.n x.p) (.slice x.ka x.kn x.kp) l l:=by
 have hl:=h.mq;obtain⟨u,h1,h2,h3,h4⟩:=(h.up hE:aN M w d x l);obtain⟨e0,_⟩:=h1.form;simp only[Value.int.injEq,true_and]at e0
 have hle:(mq (d+1) u).toNat<=E:=by show u.1.toNat<=E;omega
 refine⟨u,h1,h4,(Kc _ u h2).mono hle,aR (Vw B _ u h2 h1.ok (OT h4 hB)) (Nat.pow_le_pow_right (by omega) hle),Qo h2 h4,Vv B _ u h2 h1.ok (OT h4 hB)⟩
theorem iW.pe(h:iW M w d E B e0 e1 e2 e3 S R):∃x:PE,e0=.int .i64 x.lv/\e1=.bool x.b/\e2=.slice x.a x.n x.p/\e3=.slice x.ka x.kn x.kp:=by
 obtain⟨u,h1,_⟩:=h;exact h1.pe
end
theorem iW.pi{M:Nat->Prop}{w:World}{d E B:Nat}{x:PE}{S R:List Tm}(h:iW M w d E B (.int .i64 x.lv) (.bool x.b) (.slice x.a x.n x.p) (.slice x.ka x.kn x.kp) S R)(hd:d<=100)(hB:(B+1)^E<=1099511627776)(dJ:B<=1073741824)(hR:aH (aK R)<=1099511627776):PI M w x S:=by
 obtain⟨u,h1,h2,_,h4,h5,h6⟩:=h;exact⟨_,u,h1,.inr ⟨by omega,aR h4 hB,aR (jB h5) hR,λs hs k=>by have:=h6 s hs k;omega⟩,h2⟩
def jw(M:Nat->Prop)(w:World)(d E B g N:Nat)(S R:Nat->List Tm):Prop:=∃f,aG w g 33 (N*4) f/\∀i,i<N->iW M w d E B (f (i*4)) (f (i*4+1)) (f (i*4+2)) (f (i*4+3)) (S i) (R i)
section
variable{M M':Nat->Prop}{w w':World}{d E B g N:Nat}{S S' R:Nat->List Tm}
theorem jw.kp(h:jw M w d E B g N S R)(hg:w'.heap[g]?=w.heap[g]?)(hk:Kp M w w'):jw M w' d E B g N S R:=by
 obtain⟨f,h1,h2⟩:=h;exact⟨f,h1.of_heap hg,λi hi=>(h2 i hi).kp hk⟩
theorem jw.ext(h:jw M w d E B g N S R)(he:Ext w w'):jw M w' d E B g N S R:=by
 obtain⟨f,h1,h2⟩:=h;exact⟨f,h1.ext he,λi hi=>(h2 i hi).ext he⟩
theorem jw.congr(h:jw M w d E B g N S R)(hs:∀i,i<N->af (S i) (S' i)):jw M w d E B g N S' R:=by
 obtain⟨f,h1,h2⟩:=h;exact⟨f,h1,λi hi=>(h2 i hi).dh (hs i hi)⟩
theorem jw.set(h:jw M w d E B g N S R)(hg:M g)(j:Nat)(hj:j<N){e0 e1 e2 e3:Value}{l:List Tm}(hc:iW M w d E B e0 e1 e2 e3 l (R j)):jw M (aM w g (j*4) e0 e1 e2 e3) d E B g N (λi=>if i=j then l else S i) R:=by
 obtain⟨f,h1,h2⟩:=h;refine⟨_,h1.aM (j*4) e0 e1 e2 e3,λi hi=>?_⟩;have hk:Kp M w (aM w g (j*4) e0 e1 e2 e3):=Kp.aM hg _ _ _ _ _
 by_cases kP:i=j
 ·subst kP;rw[F4,F5,F6,F7];simp only[if_true];exact hc.kp hk
 ·rw[tZ _ _ _ _ _ _ _ (by omega),tZ _ _ _ _ _ _ _ (by omega),tZ _ _ _ _ _ _ _ (by omega),tZ _ _ _ _ _ _ _ (by omega)];simp only[ah kP];exact(h2 i hi).kp hk
theorem jw.at(h:jw M w d E B g N S R)(j:Nat)(hj:j<N):(∃e,w.cell? ⟨g,j*4,none⟩=some e)/\(∃e,w.cell? ⟨g,j*4+1,none⟩=some e)/\(∃e,w.cell? ⟨g,j*4+2,none⟩=some e)/\(∃e,w.cell? ⟨g,j*4+3,none⟩=some e)/\(∀o,w.frozen? ⟨g,o,none⟩=false)/\g<w.heap.size:=by
 obtain⟨f,h1,h2⟩:=h;exact⟨⟨_,h1.cell (by omega)⟩,⟨_,h1.cell (by omega)⟩,⟨_,h1.cell (by omega)⟩,⟨_,h1.cell (by omega)⟩,h1.frozen,h1.lt⟩
theorem jw.cells(h:jw M w d E B g N S R)(i:Nat)(hi:i<N):∃y:PE,jK w g (i*4) y/\iW M w d E B (.int .i64 y.lv) (.bool y.b) (.slice y.a y.n y.p) (.slice y.ka y.kn y.kp) (S i) (R i):=by
 obtain⟨f,hB,hc⟩:=h;obtain⟨x,e0,e1,e2,e3⟩:=(hc i hi).pe;have hx:=hc i hi;rw[e0,e1,e2,e3]at hx;refine⟨x,⟨?_,?_,?_,?_⟩,hx⟩
 ·rw[hB.cell (by omega),e0]
 ·rw[hB.cell (by omega),e1]
 ·rw[hB.cell (by omega),e2]
 ·rw[hB.cell (by omega),e3]
theorem jw.fresh(hB:aG w g 33 (N*4) gN):jw M w d E B g N (λ_=>[]) R:=by
 refine⟨gN,hB,λi hi=>?_⟩
 have h0:gN (i*4)=.int .i64 0:=by unfold gN;rw[ai (by omega)]
 have h1:gN (i*4+1)=.bool false:=by unfold gN;rw[ah (by omega),ai (by omega)]
 have h2:gN (i*4+2)=.slice none 0 0:=by unfold gN;rw[ah (by omega),ah (by omega)]
 have h3:gN (i*4+3)=.slice none 0 0:=by unfold gN;rw[ah (by omega),ah (by omega)]
 rw[h0,h1,h2,h3];exact iW.zero _ _ _ _ _ _
theorem jw.lt(h:jw M w d E B g N S R):g<w.heap.size:=by
 obtain⟨f,h1,_⟩:=h;exact h1.lt
theorem jw.node{P:Nat->List Tm}{r:List Tm}(h:jw M w d E B g N S P)(hm:∀b,M' b->M b\/w.heap.size<=b)(hg:¬M' g)(hE:E+1<=4)(hN:N<=B+1)(hL:N<=1099511627776)(hr:aK (aQ (E+1) N P)<=aK r):
 iW M' w (d+1) (E+1) B (.int .i64 ((E:Int)+1)) (.bool false) (.slice none 0 0) (.slice (some ⟨g,0,none⟩) N N) (aQ (E+1) N S) r:=by
 obtain⟨f,hB,hc⟩:=h
 obtain⟨bN,dP⟩:=pick (Dr (d+1)) (n:=N) (Q:=λi u=>RR M' w (d+1) u (f (i*4)) (f (i*4+1)) (f (i*4+2)) (f (i*4+3))/\af (terms (d+1) u) (S i)/\eH E (terms (d+1) u)/\(terms (d+1) u).length<=(B+1)^E/\aK (terms (d+1) u)<=aK (P i)/\∀s∈terms (d+1) u,∀k,s.2.get k<=B) (λi hi=>by
  obtain⟨u,h1,h2⟩:=hc i hi
  exact⟨u,RR.more hm h1,h2⟩)
 have hT:terms (d+1+1) (uH (d+1) ((E:Int)+1) ⟨false,0,λ_=>0⟩ N bN)=aQ (E+1) N (λi=>terms (d+1) (bN i)):=by
  rw[TH _ _ _ _ _ (by omega) (by omega),show((E:Int)+1).toNat=E+1 by omega]
 refine⟨uH _ ((E:Int)+1) ⟨false,0,λ_=>0⟩ N bN,⟨rfl,by show-9223372036854775808<=(E:Int)+1/\(E:Int)+1<=9223372036854775807;omega,⟨rfl,Oz _ _ _⟩,hL,.inr ⟨g,0,N,rfl,aI _,by unfold maxLen;omega,⟨hB.lt,hg⟩,λi hi=>?_⟩⟩,?_,?_,?_,?_,?_⟩
 ·have hi':i<N:=hi;rw[Nat.zero_add];exact⟨_,_,_,_,hB.cell (i:=i*4) (by omega),hB.cell (i:=i*4+1) (by omega),hB.cell (i:=i*4+2) (by omega),hB.cell (i:=i*4+3) (by omega),(dP i hi).1⟩
 ·rw[hT];exact tT _ _ _ _ λi hi=>(dP i hi).2.1
 ·rw[hT];exact qeu _ _ _ (by omega) hE λi hi=>by rw[Nat.add_sub_cancel];exact(dP i hi).2.2.1
 ·rw[hT];refine aR (Ye (c:=(B+1)^E) N λi hi=>(dP i hi).2.2.2.1) ?_;rw[Nat.pow_succ,Nat.mul_comm];exact Nat.mul_le_mul_left _ hN
 ·rw[hT];refine aR ?_ hr;clear hr hT hB hc
  have:∀K,K<=N->aK (aQ (E+1) K λi=>terms (d+1) (bN i))<=aK (aQ (E+1) K P):=by
   intro K
   induction K with
   |zero=>intro _;exact aI _
   |succ K ih=>
    intro hK;rw[gT,gT,lN,lN,xg,xg];have h1:=ih (by omega);have h2:=(dP K (by omega)).2.2.2.2.1;omega
  exact this N (aI _)
 ·rw[hT];intro s hs k;obtain⟨i,hi,s',kC,rfl⟩:=FX hs;have h1:=(dP i hi).2.2.2.2.2 s' kC k;show(Mo.add s'.2 (xp (E+1) (i:Int))).get k<=_;rw[iH,eQ _ k _ (by omega) hE]
  by_cases hk:k=E+1
  ·rw[ai hk,hk,(dP i hi).2.2.1 s' kC (E+1) (by omega) hE];omega
  ·rw[ah hk];omega
end
theorem qAT{M:Nat->Prop}{w:World}{L N cap S A:Nat}{a:Option Addr}{P:Nat->List Tm}(h:eY M w 4 (.slice a N cap) N P)(h1:1<=L)(h4:L<=4)(Bl:∀i,i<N->bH S (P i))(hN:N*(S+1)^4<=1099511627776)(Kz:S+N<=1000000)(jZ:∀i,i<N->aH (aK (P i))<=A)(hA:A+2<=1099511627776):
 PI M w ⟨(L:Int),false,none,0,0,a,N,cap⟩ (aQ L N P):=by
 obtain⟨bN,dP⟩:=pick (Dr (4+1)) (n:=N) (Q:=λi u=>(∃b off,a=some ⟨b,off,none⟩/\N<=cap/\cap<=maxLen/\b<w.heap.size/\¬M b/\∃e0 e1 e2 e3,w.cell? ⟨b,off+i*4,none⟩=some e0/\w.cell? ⟨b,off+i*4+1,none⟩=some e1/\w.cell? ⟨b,off+i*4+2,none⟩=some e2/\w.cell? ⟨b,off+i*4+3,none⟩=some e3/\RR M w (4+1) u e0 e1 e2 e3)/\gM (4+1) u=true/\BP (4+1) u/\af (terms (4+1) u) (P i)) (by
  intro i hi;obtain⟨b,off,h1,h2,h3,h4,h5,e0,e1,e2,e3,x0,x1,x2,x3,t,g1,g2,g3,g4⟩:=h.at i hi
  exact⟨t,⟨b,off,h1,h2,h3,h4,h5,e0,e1,e2,e3,x0,x1,x2,x3,g1⟩,g2,g1.ok,g4⟩)
 have hT:terms (4+1+1) (uH (4+1) (L:Int) ⟨false,0,λ_=>0⟩ N bN)=aQ L N (λi=>terms (4+1) (bN i)):=by
  rw[TH _ _ _ _ _ (by omega) (by omega),show(L:Int).toNat=L by omega]
 refine⟨4+1+1,uH _ (L:Int) ⟨false,0,λ_=>0⟩ N bN,⟨rfl,by show-9223372036854775808<=(L:Int)/\(L:Int)<=9223372036854775807;omega,⟨rfl,Oz _ _ _⟩,h.1,?_⟩,.inr ⟨by omega,?_,?_,?_⟩,?_⟩
 ·rcases h.2 with⟨h1,h0⟩|⟨b,off,cap',h1,h2,h3,h4,_⟩
  ·simp only[Value.slice.injEq]at h1;obtain⟨rfl,rfl,rfl⟩:=h1;exact .inl ⟨⟨none,0,rfl,bK _,λ_=>rfl⟩,rfl⟩
  ·simp only[Value.slice.injEq,true_and]at h1;obtain⟨rfl,rfl⟩:=h1;refine .inr ⟨b,off,cap,rfl,h2,h3,h4,λi hi=>?_⟩;obtain⟨b',off',e,_,_,_,_,hk⟩:=(dP i hi).1;simp only[Option.some.injEq,Addr.mk.injEq,and_true]at e;obtain⟨rfl,rfl⟩:=e;exact hk
 ·rw[hT];refine aR (Ye (c:=(S+1)^4) N λi hi=>?_) hN;refine aR (Vw S (4+1) (bN i) (dP i hi).2.1 (dP i hi).2.2.1 (OT (dP i hi).2.2.2 (Bl i hi))) (Nat.pow_le_pow_right (by omega) ?_);have:=ES (dP i hi).2.1;show(bN i).1.toNat<=4;omega
 ·rw[hT];have:=Yb (L:=L) (A:=A) (N:=N) (P:=λi=>terms (4+1) (bN i)) (by omega) λi hi=>aR (jB (Qo (dP i hi).2.1 (dP i hi).2.2.2)) (jZ i hi);omega
 ·rw[hT];intro s hs k;obtain⟨i,hi,s',kC,rfl⟩:=FX hs;have g1:=Vv S (4+1) (bN i) (dP i hi).2.1 (dP i hi).2.2.1 (OT (dP i hi).2.2.2 (Bl i hi)) s' kC k;show(Mo.add s'.2 (xp L (i:Int))).get k<=_;rw[iH,eQ _ k _ h1 h4]
  split<;>omega
 ·rw[hT];exact tT _ _ _ _ λi hi=>(dP i hi).2.2.2
theorem qom{M:Nat->Prop}{L N cap S A:Nat}{a:Option Addr}{P:Nat->List Tm}(w:World)(hM:Mb M w)(h:eY M w 4 (.slice a N cap) N P)(h1:1<=L)(h4:L<=4)(Bl:∀i,i<N->bH S (P i))(hN:N*(S+1)^4<=1099511627776)(Kz:S+N<=1000000)(jZ:∀i,i<N->aH (aK (P i))<=A)(hA:A+2<=1099511627776):
 Calls Tryz.prog 62 #[.slice a N cap,.int .i64 (L:Int)] w (dO M w 4 (aQ L N P)):=by
 have hE:=(aA w).alloc (.cells zA 33);have hB:=aG.bq w zA 33 4 rfl;have fu:Mb (Mx M w.heap.size (w.heap.size+1)) (w.alloc (.cells zA 33)):=Mx.mb hM (by simp) (by simp);have RP:=((qAT h h1 h4 Bl hN Kz jZ hA).more (M':=Mx M w.heap.size (w.heap.size+1)) (Mx.more (aI _))).ext hE;have CT:=ae (Jc _ _ _ _ fu RP)
 have qL:gm (L:Int)=true:=by unfold gm;simp;omega
 have vZ:=ae (λW=>Tc (L:Int) W);rw[qL]at vZ;have HE:=ae hE;have HB:=ae hB;clear hE hB fu RP qL h hM h1 h4 Bl hN Kz jZ hA
 go_enter Tryz.func62,Tryz.ntmps62
 go_wp2_with (fail);refine(vZ.out _).mono ?_;rintro e w1 ⟨rfl,rfl⟩;go_wp2_with (fail);refine CT.out.mono ?_;rintro e w2 ⟨v,rfl,hv,aJ⟩;obtain⟨⟨q0,q1,q2,q3⟩,⟨f0,f1,f2,f3⟩,⟨r0,r1,r2,r3⟩,HF⟩:=iF (M:=M) (w:=w) (L:=4) (HB.out.ext aJ) (Mx.at (by omega)) (by omega) (HE.out.trans aJ) hv Mx.sub;clear CT vZ hv aJ;go_wp2;exact bu (v:=.agg (ak v)) (by simp[results,Tryz.results62,go_sem,r0,r1,r2,r3]) rfl HF.out
theorem qBH{P:Program}(w:World){o:Oper}{a:Act}{K:Act->World->Prop}{Q:Exit->Act->World->Prop}{E:Prop}{ops:Array Oper}(jF:o.guard=none)(lo co:Operand)(t:TypeId)(ho:o.op=.makeSlice t lo co)
 (e:TypeId) (i:TypeInfo) (z:Value) (size:Nat) (ht:P.underlying t=some (.slice e)) (hi:P.info? e=some i) (hz:i.zero=some z) (hs:i.size=size) (kl kc:IntKind) (n:Nat)
 (hl:a.eval lo=.int kl (n:Int)) (hc:a.eval co=.int kc (n:Int)) (hb:i.bytes*n<=281474976710656) (Km:n<=maxLen)
 (h:K (a.put o.dst (.slice (some ⟨w.heap.size,0,none⟩) n n)) (w.alloc (.cells (madeCells z.cells (n*size)) e))):
 if Region.wanted o (yielded ops a.tmps)=true then Oper.wp P o a w K Q else E:=by
 have hw:Region.wanted o (yielded ops a.tmps)=true:=by simp[Region.wanted,jF]
 rw[ai hw]
 have hb':(i.bytes:Int)*(n:Int)<=281474976710656:=by
  have h:((i.bytes*n:Nat):Int)<=281474976710656:=by omega
  rwa[Int.natCast_mul]at h
 have hr:=run_make (P:=P) w t e i z ht hi hz kl kc n n (by omega) (Int.le_refl _) hb' (by unfold maxLen at Km;omega);simp only[Int.toNat_natCast,hs]at hr;unfold Oper.wp;simp[execOp,ho,hl,hc,hr,Result.andThen];exact h
theorem LK{P:Program}(w:World){ops:Array Oper}{rest:List Oper}{o:Oper}{a:Act}{Q:Exit->Act->World->Prop}(jF:o.guard=none)(lo co:Operand)(t:TypeId)(ho:o.op=.makeSlice t lo co)
 (e:TypeId) (i:TypeInfo) (z:Value) (size:Nat) (ht:P.underlying t=some (.slice e)) (hi:P.info? e=some i) (hz:i.zero=some z) (hs:i.size=size) (kl kc:IntKind) (L C:Int) (n:Nat)
 (hl:a.eval lo=.int kl L) (hc:a.eval co=.int kc C) (hL:L=(n:Int)) (hC:C=(n:Int)) (hb:i.bytes*n<=281474976710656) (Km:n<=maxLen)
 (h:∀w',Hid (w'=w.alloc (.cells (madeCells z.cells (n*size)) e))->wpList P ops Q rest (a.put o.dst (.slice (some ⟨w.heap.size,0,none⟩) n n)) w'):
 wpList P ops Q (o::rest) a w:=by
 refine wpList_plain jF λK hK=>?_
 have hb':(i.bytes:Int)*(n:Int)<=281474976710656:=by
  have h:((i.bytes*n:Nat):Int)<=281474976710656:=by omega
  rwa[Int.natCast_mul]at h
 have hr:=run_make (P:=P) w t e i z ht hi hz kl kc n n (by omega) (Int.le_refl _) hb' (by unfold maxLen at Km;omega);simp only[Int.toNat_natCast,hs]at hr;subst hL;subst hC;unfold Oper.wp;simp[execOp,ho,hl,hc,hr,Result.andThen];exact hK _ _ (h _ rfl)
theorem Ql(w:World)(N:Nat)(e:TypeId):aG (w.alloc (.cells (madeCells (Value.agg #[.int .i64 0,.bool false,.slice none 0 0,.slice none 0 0]).cells (N*4)) e)) w.heap.size e (N*4) gN:=
 aG.X8 w _ e gN (N*4) (by simp[madeCells]) λi hi=>by
  rw[<-Ej i];have hm:i%4<4:=Nat.mod_lt _ (by decide);simp[madeCells,hi,arr,Array.getD_eq_getD_getElem?,hm,Value.cells]
theorem qCI{P:Program}{w:World}{ops:Array Oper}{rest:List Oper}{o:Oper}{a:Act}{Q:Exit->Act->World->Prop}(jF:o.guard=none)(d s:Operand)(dT sT:TypeId)
 (ho:o.op=.call {callee:=.builtin .copy,args:= #[d,s],argTypes:= #[dT,sT]}) (elem:TypeId) (hu:P.underlying dT=some (.slice elem)) (z:Nat) (hsz:(P.info? elem).map (·.size)=some z)
 (N k Dm Eh:Nat) (g b off:Nat) (hd:a.eval d=.slice (some ⟨g,0,none⟩) N Dm) (hs:a.eval s=.slice (some ⟨b,off,none⟩) k Eh) (hk:k<=N)
 (t:TypeId) (f:Nat->Value) (hB:aG w g t (N*z) f) (src:Nat->Value) (Ea:∀j,j<k*z->w.cell? ⟨b,off+j,none⟩=some (src j))
 (h1:∀j,j<k*z->(src j).oneCell'=true)
 (h:∀w',aG w' g t (N*z) (over f 0 (k*z) src)->w.grownBy w' (some g)->wpList P ops Q rest (a.put o.dst (goInt k)) w'):
 wpList P ops Q (o::rest) a w:=by
 have FI:k*z<=N*z:=eB _ hk;obtain⟨cur,hg,hcs,hb⟩:=hB.splice 0 (k*z) src (by omega);refine wpList_plain jF λK hK=>?_;have hmin:Nat.min k N=k:=Nat.min_eq_left hk
 have hl:=run_loadCells_list (P:=P) w ⟨b,off,none⟩ ((List.range (k*z)).map src) (λj v hv=>by
  simp only[List.getElem?_map,Option.map_eq_some_iff]at hv;obtain⟨x,hx,rfl⟩:=hv;have hlt:=(List.getElem?_eq_some_iff.1 hx).1;simp only[List.length_range]at hlt;rw[List.getElem?_range hlt]at hx;cases hx
  rw[GQ];exact Ea j hlt)
 have jG:=run_storeCells_at P g 0 t ((List.range (k*z)).map src) 0 cur w hg (by simp;omega) (λv hv=>by
  simp only[List.mem_map,List.mem_range]at hv;obtain⟨j,hj,rfl⟩:=hv
  exact h1 j hj)
 simp only[List.length_map,List.length_range]at hl jG
 cases hq:P.info? elem with
 |none=>simp[hq]at hsz
 |some i=>
  have hi:i.size=z:=by simpa[hq]using hsz
  unfold Oper.wp;simp only[execOp,ho,resolve,invoke,builtin,Sem.run_bind,Sem.run_pure,List.map_toArray,List.map_cons,List.map_nil,hd,hs];simp[Builtin.copy_,run_underlying hu,Builtin.lenOf,Builtin.firstCells,sizeOf,typeInfo,hq,hi,hmin,hl,jG];refine hK _ _ (h _ ?_ ?_)
  ·simpa[List.append_assoc]using hb
  ·exact qbR _ _ _
theorem qpe{w' wr:World}{b:Nat}{x:PE}(h:P4 wr b x)(he:w'.heap[b]?=wr.heap[b]?):P4 w' b x:=by
 have hc:=λo=>World.cell?_of_block (w:=wr) (w':=w') (a:=⟨b,o,none⟩) he;obtain⟨p0,p1,p2,p3⟩:=h;exact⟨(hc 0).trans p0,(hc 1).trans p1,(hc 2).trans p2,(hc 3).trans p3⟩
theorem iW.ref{M:Nat->Prop}{w:World}{d E B:Nat}{e0 e1 e2 e3:Value}{S R R':List Tm}(h:iW M w d E B e0 e1 e2 e3 S R)(hR:aK R<=aK R'):iW M w d E B e0 e1 e2 e3 S R':=by
 obtain⟨u,h1,h2,h3,h4,h5,h6⟩:=h;exact⟨u,h1,h2,h3,h4,aR h5 hR,h6⟩
theorem jw.qzS{M:Nat->Prop}{w:World}{d E B g n k:Nat}{xx:Nat->PE}{S:Nat->List Tm}{R:List Tm}(hB:aG w g 33 (n*4) (over gN 0 (k*4) (px xx)))(hk:k<=n)
 (h:∀i,i<k->iW M w d E B (.int .i64 (xx i).lv) (.bool (xx i).b) (.slice (xx i).a (xx i).n (xx i).p) (.slice (xx i).ka (xx i).kn (xx i).kp) (S i) R):jw M w d E B g n (λi=>if i<k then S i else[]) (λ_=>R):=by
 refine⟨_,hB,λi hi=>?_⟩
 by_cases iq:i<k
 ·have e:∀r,r<4->over gN 0 (k*4) (px xx) (i*4+r)=px xx (i*4+r):=λr hr=>by unfold over;rw[ai ⟨by omega,by omega⟩,Nat.sub_zero]
  have e0:=e 0 (by omega);rw[Nat.add_zero]at e0;rw[e0,e 1 (by omega),e 2 (by omega),e 3 (by omega),Ls,Lt,Lu,Lx];simp only[ai iq];exact h i iq
 ·have e:∀r,r<4->over gN 0 (k*4) (px xx) (i*4+r)=gN (i*4+r):=λr hr=>by unfold over;rw[ah (by omega)]
  have e0:=e 0 (by omega);rw[Nat.add_zero]at e0
  have h0:gN (i*4)=.int .i64 0:=by unfold gN;rw[ai (by omega)]
  have h1:gN (i*4+1)=.bool false:=by unfold gN;rw[ah (by omega),ai (by omega)]
  have h2:gN (i*4+2)=.slice none 0 0:=by unfold gN;rw[ah (by omega),ah (by omega)]
  have h3:gN (i*4+3)=.slice none 0 0:=by unfold gN;rw[ah (by omega),ah (by omega)]
  rw[e0,e 1 (by omega),e 2 (by omega),e 3 (by omega),h0,h1,h2,h3];simp only[ah iq];exact iW.zero _ _ _ _ _ _
theorem qAD{w:World}{b off N:Nat}{xx:Nat->PE}(h:∀i,i<N->jK w b (off+i*4) (xx i))(j:Nat)(hj:j<N*4):w.cell? ⟨b,off+j,none⟩=some (px xx j):=by
 obtain⟨i,r,rfl,hr⟩:∃i r,j=i*4+r/\r<4:=⟨j/4,j%4,by omega,by omega⟩;obtain⟨h0,h1,h2,h3⟩:=h i (by omega)
 match r,hr with
 |0,_=>rw[Nat.add_zero,Ls];exact h0
 |1,_=>rw[Lt, <-Nat.add_assoc];exact h1
 |2,_=>rw[Lu, <-Nat.add_assoc];exact h2
 |3,_=>rw[Lx, <-Nat.add_assoc];exact h3
theorem qAF(xx:Nat->PE)(j:Nat):(px xx j).oneCell'=true:=by
 unfold px
 split
 ·rfl
 ·split
  ·rfl
  ·split<;>rfl
def uk(w:World)(g m k:Nat)(h:Nat->Nat)(lv:Int)(N:Nat):Prop:=∃F,aG w g 33 (m*4) F/\∀i,i<k->F (i*4)=.int .i64 lv/\F (i*4+1)=.bool false/\F (i*4+2)=.slice none 0 0/\F (i*4+3)=.slice (some ⟨h i,0,none⟩) N N
theorem uk.ext{w w':World}{g m k:Nat}{h:Nat->Nat}{lv:Int}{N:Nat}(hr:uk w g m k h lv N)(he:Ext w w'):uk w' g m k h lv N:=by
 obtain⟨F,h1,h2⟩:=hr;exact⟨F,h1.ext he,h2⟩
theorem uk.heap{w w':World}{g m k:Nat}{h:Nat->Nat}{lv:Int}{N:Nat}(hr:uk w g m k h lv N)(he:w'.heap[g]?=w.heap[g]?):uk w' g m k h lv N:=by
 obtain⟨F,h1,h2⟩:=hr;exact⟨F,h1.of_heap he,h2⟩
theorem uk.set{w:World}{g m k:Nat}{h:Nat->Nat}{lv:Int}{N:Nat}(hr:uk w g m k h lv N):uk (aM w g (k*4) (.int .i64 lv) (.bool false) (.slice none 0 0) (.slice (some ⟨h k,0,none⟩) N N)) g m (k+1) h lv N:=by
 obtain⟨F,h1,h2⟩:=hr;refine⟨_,h1.aM _ _ _ _ _,λi hi=>?_⟩
 by_cases iq:i=k
 ·subst iq;exact⟨F4 _ _ _ _ _ _,F5 _ _ _ _ _ _,F6 _ _ _ _ _ _,F7 _ _ _ _ _ _⟩
 ·rw[tZ _ _ _ _ _ _ _ (by omega),tZ _ _ _ _ _ _ _ (by omega),tZ _ _ _ _ _ _ _ (by omega),tZ _ _ _ _ _ _ _ (by omega)];exact h2 i (by omega)
theorem uk.at{w:World}{g m k:Nat}{h:Nat->Nat}{lv:Int}{N:Nat}(hr:uk w g m k h lv N)(j:Nat)(hj:j<m):(∃e,w.cell? ⟨g,j*4,none⟩=some e)/\(∃e,w.cell? ⟨g,j*4+1,none⟩=some e)/\(∃e,w.cell? ⟨g,j*4+2,none⟩=some e)/\(∃e,w.cell? ⟨g,j*4+3,none⟩=some e)/\(∀o,w.frozen? ⟨g,o,none⟩=false)/\g<w.heap.size:=by
 obtain⟨F,h1,h2⟩:=hr;exact⟨⟨_,h1.cell (by omega)⟩,⟨_,h1.cell (by omega)⟩,⟨_,h1.cell (by omega)⟩,⟨_,h1.cell (by omega)⟩,h1.frozen,h1.lt⟩
theorem uk.c3{w:World}{g m k:Nat}{h:Nat->Nat}{lv:Int}{N:Nat}(hr:uk w g m k h lv N)(hk:k<=m)(j:Nat)(hj:j<k):w.cell? ⟨g,j*4+3,none⟩=some (.slice (some ⟨h j,0,none⟩) N N):=by
 obtain⟨F,h1,h2⟩:=hr;rw[h1.cell (by omega),(h2 j hj).2.2.2]
structure qU(M:Nat->Prop)(w:World)(L d E B n N:Nat)(P:Nat->List Tm)(x:PE)(wr:World)(c:Nat->Nat):Prop where
 sz:w.heap.size+3+n<=wr.heap.size
 ext:Ext w wr
 p4:P4 wr w.heap.size x
 row:uk wr (w.heap.size+1) (n+1) (n+1) (λi=>w.heap.size+2+i) x.lv N
 kids:∀i,i<n+1->jw (Mx M w.heap.size (w.heap.size+3+n)) wr d E B (w.heap.size+2+i) N (λj=>if j<c i then ck L (i:Int) (P j)else[]) P
section
variable{M:Nat->Prop}{w wr w':World}{L d E B n N:Nat}{P:Nat->List Tm}{x:PE}{c:Nat->Nat}
theorem qU.grow(h:qU M w L d E B n N P x wr c)(he:Ext wr w'):qU M w L d E B n N P x w' c:=
 ⟨aR h.sz he.size,h.ext.trans he,h.p4.ext he,h.row.ext he,λi hi=>(h.kids i hi).ext he⟩
theorem qU.mb(h:qU M w L d E B n N P x wr c)(hM:Mb M w):Mb (Mx M w.heap.size (w.heap.size+3+n)) wr:=Mx.mb hM h.ext.size h.sz
theorem qU.store(h:qU M w L d E B n N P x wr c)(i:Nat)(hi:i<n+1)(k:Nat)(hk:k<N)(hc:c i=k){e0 e1 e2 e3:Value}(hy:iW (Mx M w.heap.size (w.heap.size+3+n)) wr d E B e0 e1 e2 e3 (ck L (i:Int) (P k)) (P k)):
 qU M w L d E B n N P x (aM wr (w.heap.size+2+i) (k*4) e0 e1 e2 e3) (λj=>if j=i then k+1 else c j):=by
 have o9:Mx M w.heap.size (w.heap.size+3+n) (w.heap.size+2+i):=Mx.at (by omega);refine⟨by rw[nW];exact h.sz,h.ext.aM (by omega) _ _ _ _ _,qpe h.p4 (iI _ _ _ _ _ _ _ _ (by omega)),h.row.heap (iI _ _ _ _ _ _ _ _ (by omega)),λj hj=>?_⟩
 by_cases kP:j=i
 ·subst kP;refine((h.kids j hj).set o9 k hk hy).congr λq hq=>?_;simp only[if_true]
  by_cases h1:q=k
  ·rw[ai h1,ai (by omega),h1];exact af.refl _
  ·rw[ah h1]
   by_cases h2:q<c j
   ·rw[ai h2,ai (by omega)];exact af.refl _
   ·rw[ah h2,ah (by omega)];exact af.refl _
 ·simp only[ah kP];exact(h.kids j hj).kp (iI _ _ _ _ _ _ _ _ (by omega)) (Kp.aM o9 _ _ _ _ _)
theorem qU.congr{c':Nat->Nat}(h:qU M w L d E B n N P x wr c)(hc:∀i,i<n+1->c i=c' i):qU M w L d E B n N P x wr c':=
 ⟨h.sz,h.ext,h.p4,h.row,λi hi=>by rw[<-hc i hi];exact h.kids i hi⟩
theorem qU.done{l:List Tm}{E2:Nat}(h:qU M w L d E B n N P x wr c)(hM:Mb M w)(hc:∀i,i<n+1->c i=N)(iJ:x.lv=(E:Int)+1)(hE:E+1<=4)(lK:E+1<=E2)(yY:1<=L)(hL:L<=E)(hN:N<=B+1)(NH:N<=1099511627776)(hs:af (aQ (E+1) N P) l)(hn:aK (aQ (E+1) N P)<=aK l):
 jw (λb=>M b\/b=w.heap.size+1) wr (d+1) E2 B (w.heap.size+1) (n+1) (λi=>ck L (i:Int) l) (λ_=>l):=by
 obtain⟨F,hB,hF⟩:=h.row;refine⟨F,hB,λi hi=>?_⟩;obtain⟨f0,f1,f2,f3⟩:=hF i hi;rw[f0,f1,f2,f3,iJ];refine(((h.kids i hi).node (M':=λb=>M b\/b=w.heap.size+1) (r:=l) (λb hb=>.inl (hb.imp id λhb=>by omega)) ?_ hE hN NH hn).wide lK).dh ?_
 ·rintro(hm|he)
  ·have:=hM _ hm;omega
  ·omega
 ·refine(tT _ _ _ _ λj hj=>?_).trans ((qtr (N:=N) (P:=P) yY (by omega) hE (by omega) (i:Int)) ▸ jk hs);rw[hc i hi,ai hj];exact af.refl _
end
def SCo(g o h N gz:Nat)(z:PE)(w:World):Prop:=w.cell? ⟨g,o,none⟩=some (.slice (some ⟨h,0,none⟩) N N)/\P4 w gz z
def Qi(M:Nat->Prop)(w:World)(d E B n L:Nat)(l:List Tm)(e:Ending)(w':World):Prop:=∃g,e=.returned (.slice (some ⟨g,0,none⟩) (n+1) (n+1))/\w.heap.size<=g/\jw (λb=>M b\/b=g) w' d E B g (n+1) (λi=>ck L (i:Int) l) (λ_=>l)/\Ext w w'
def YX(L E:Nat):Prop:=∀(d:Nat),E<=d->∀(M:Nat->Prop)(l:List Tm)(x:PE)(n B:Nat)(w:World),Mb M w->aN M w E x l->bH B l->(∀m,aL l m≠0->m.get L<=n)->n+1<=1099511627776->Calls Tryz.prog 120 #[.agg (ak x),.int .i64 (L:Int),.int .i64 (n:Int)] w (Qi M w d E B n L l)
theorem qtM(L:Nat)(yY:1<=L)(xN:L<=4)(E:Nat)(ih:∀E',E'<E->YX L E'):YX L E:=by
 intro d bI M l x n B w hM h hB hn gH;obtain⟨i0,hi,hz0,hz1,hz2⟩:=info_parts Tryz.zH;have aV:=(aA w).alloc (.cells (ak x) 33);have bL:=aG.bq w (ak x) 33 4 rfl;obtain⟨x0,x1,x2,x3⟩:=bL.p4
 have jT:w.heap.size+1=(w.alloc (.cells (ak x) 33)).heap.size:=by simp
 have Oc:(n:Int)+1<=1099511627776:=by omega
 have jg:(0:Int)<=(n:Int):=iw _;generalize hW:w.alloc (.cells (ak x) 33)=W at*;have HW:=ae hW;have gI:=ae aV;have UO:=ae bL.p4;have HM:=ae hM;have HX:=ae h;have nZ:=ae hB;have HN:=ae hn;have jO:=ae bI;clear hW aV bL hM h hB hn bI
 go_enter Tryz.func120,Tryz.ntmps120
 go_upto_region 1 with(fail)
 rw[HW.out]
 go_wp2_with (first|(at_make;refine LK _ rfl _ _ _ rfl 33 i0 (.agg #[.int .i64 0,.bool false,.slice none 0 0,.slice none 0 0]) 4 Tryz.underlying31 hi hz0 hz1 .i64 .i64 _ _ (n+1) rfl rfl ?c4 ?c5 ?c2 ?c3 ?_))
 case c2=>rw[hz2];omega
 case c3=>unfold maxLen;omega
 case c4=>simp
 case c5=>simp
 have cO:=Ql W (n+1) 33;have az:=(aA W).alloc (.cells (madeCells (Value.agg #[.int .i64 0,.bool false,.slice none 0 0,.slice none 0 0]).cells ((n+1)*4)) 33)
 have eU:(W.alloc (.cells (madeCells (Value.agg #[.int .i64 0,.bool false,.slice none 0 0,.slice none 0 0]).cells ((n+1)*4)) 33)).heap.size=w.heap.size+2:=by simp;omega
 intro w1 hw1;replace hw1:W.alloc (.cells (madeCells (Value.agg #[.int .i64 0,.bool false,.slice none 0 0,.slice none 0 0]).cells ((n+1)*4)) 33)=w1:=hw1.out.symm;rw[hw1]at cO az eU;rw[<-jT]at cO⊢;have JH:=ae (UO.out.ext az);have aS:=ae (gI.out.trans az);have LQ:=ae cO;clear x0 x1 x2 x3 cO az UO gI HW jT hw1;obtain⟨x0,x1,x2,x3⟩:=JH.out
 by_cases h1:x.lv<L
 ·have dB:∀m,aL l m≠0->m.get L=0:=λm hm=>HX.out.qoi m hm L h1 xN
  have xz:Hid (∀i,i<n+1->af (if i=0 then l else[]) (ck L (i:Int) l)):=λi _=>by
   by_cases hi0:i=0
   ·subst hi0;rw[ai rfl];exact(qiV yY xN dB).symm
   ·rw[ah hi0];exact(qtt yY xN (by omega) dB).symm
  have hK0:jw (λb=>M b\/b=w.heap.size+1) w1 d E B (w.heap.size+1) (n+1) (λ_=>[]) (λ_=>l):=jw.fresh LQ.out;obtain⟨⟨_,k0⟩,⟨_,k1⟩,⟨_,k2⟩,⟨_,k3⟩,bA,qG⟩:=hK0.at 0 (by omega);have fV:=bA 0;have fP:=bA 1;have iU:=bA 2;have p9:=bA 3;rw[Nat.zero_mul]at k0 k1 k2 k3;simp only[Nat.zero_add]at k1 k2 k3;have hx:iW (λb=>M b\/b=w.heap.size+1) w1 d E B (.int .i64 x.lv) (.bool x.b) (.slice x.a x.n x.p) (.slice x.ka x.kn x.kp) l l:=((iW.qo5 HX.out jO.out nZ.out).more (M':=λb=>M b\/b=w.heap.size+1) (λb hb=>hb.imp id λhb=>by omega)).ext aS.out;have HF:Hid (Qi M w d E B n L l (.returned (.slice (some ⟨w.heap.size+1,0,none⟩) (n+1) (n+1))) (aM w1 (w.heap.size+1) (0*4) (.int .i64 x.lv) (.bool x.b) (.slice x.a x.n x.p) (.slice x.ka x.kn x.kp))):=⟨_,rfl,by omega,(hK0.set (.inr rfl) 0 (by omega) hx).congr xz.out,aS.out.aM (by omega) _ _ _ _ _⟩;clear dB hK0 bA hx xz;rw[Nat.zero_mul]at HF;go_wp2;exact bu (v:=.slice (some ⟨w.heap.size+1,0,none⟩) (n+1) (n+1)) (by simp[results,Tryz.results120,go_sem]) rfl HF.out
 ·obtain⟨E',b,off,P,iJ,fI,Hd,ll,qdl,nT,mg,qmQ,mi,iB,hb,qC,dB,fQ,fJ,gQ,dP⟩:=HX.out.node (by omega);have h1b:decide (x.lv<(L:Int))=false:=decide_eq_false h1
  by_cases h2:x.lv=L
  ·obtain rfl:L=E'+1:=by omega
   have QP:(x.lv==((E'+1:Nat):Int))=true:=by rw[h2];simp
   have hNn:x.kn<=n+1:=by
    obtain⟨q,hq1,hq2⟩:=(qbt fI (by omega) dB fQ).2.resolve_left (by omega);rw[fJ q]at hq1;have:=HN.out q hq1;omega
   obtain⟨xx,IK⟩:=pick PE.z (n:=x.kn) (Q:=λi y=>jK w b (off+i*4) y/\aN M w E' y (P i)) λi hi=>by
    obtain⟨y,jh,rC,_⟩:=dP i hi;exact⟨y,jh,rC⟩
   have ou:=Dp fI (by omega) dB fQ (nZ.out.dh fJ.symm)
   have HC:Hid (∀w2,Ext w w2->∀i,i<x.kn->iW (λb=>M b\/b=w.heap.size+1) w2 d E B (.int .i64 (xx i).lv) (.bool (xx i).b) (.slice (xx i).a (xx i).n (xx i).p) (.slice (xx i).ka (xx i).kn (xx i).kp) (P i) l):=λw2 he i hi=>
    (((iW.qo5 ((IK i hi).2.up (show E'<=E by omega)) jO.out (ou.2 i hi)).ref (aR (Lg (E'+1) x.kn P i hi) gQ)).more (M':=λb=>M b\/b=w.heap.size+1) (λb hb=>hb.imp id λhb=>by omega)).ext he
   have HS:Hid (∀i,i<n+1->af (if i<x.kn then P i else[]) (ck (E'+1) (i:Int) l)):=λi _=>(vg fI dB i).symm.trans (jk fJ);have Ea:∀j,j<x.kn*4->w1.cell? ⟨b,off+j,none⟩=some (px xx j):=qAD λi hi=>((IK i hi).1).ext hb aS.out;have qhy:=ae Ea;clear Ea ou IK dP dB fQ fJ gQ;rw[nT]at x3
   go_wp2_with (first|(refine qCI rfl _ _ _ _ rfl 33 Tryz.underlying31 4 ?c1 (n+1) x.kn _ _ (w.heap.size+1) b off rfl rfl hNn 33 gN LQ.out (px xx) qhy.out (λj _=>qAF xx j) ?_))
   intro w2 dJ jq;have aJ:Ext w w2:=aS.out.grown jq (λq hq=>by cases hq;omega);have HF:Hid (Qi M w d E B n (E'+1) l (.returned (.slice (some ⟨w.heap.size+1,0,none⟩) (n+1) (n+1))) w2):=⟨_,rfl,by omega,(jw.qzS dJ hNn (HC.out w2 aJ)).congr HS.out,aJ⟩;clear dJ jq aJ HC HS qhy;go_wp2;exact bu (v:=.slice (some ⟨w.heap.size+1,0,none⟩) (n+1) (n+1)) (by simp[results,Tryz.results120,go_sem]) rfl HF.out
  ·have QP:(x.lv==(L:Int))=false:=by simp[h2]
   obtain⟨d',rfl⟩:∃d',d=d'+1:=⟨d-1,by have:=jO.out;omega⟩
   have uA:E'<=d':=by have:=jO.out;omega
   have ou:=Dp fI (by omega) dB fQ (nZ.out.dh fJ.symm)
   have yt:Hid (∀j,j<x.kn->∃y,jK w b (off+j*4) y/\∀(M':Nat->Prop) W2,Mb M' W2->(∀g,M' g->M g\/w.heap.size<=g)->Ext w W2->Calls Tryz.prog 120 #[.agg (ak y),.int .i64 (L:Int),.int .i64 (n:Int)] W2 (Qi M' W2 d' E' B n L (P j))):=λj hj=>by
    obtain⟨y,jh,rC,_⟩:=dP j hj
    exact⟨y,jh,λM' W2 h1 h2 h3=>ih E' (by omega) d' uA M' (P j) y n B W2 h1 ((rC.more h2).ext h3) (ou.2 j hj) (λm hm=>by
     have hk:=qdY fI dB hj hm;rw[fJ _]at hk;have:=HN.out _ hk;rw[iH,eQ _ _ _ (by omega) fI,ah (by omega)]at this
     omega) gH⟩
   have Um:Hid (∀wr c,qU M w L d' E' B n x.kn P x wr c->(∀i,i<n+1->c i=x.kn)->Qi M w (d'+1) E B n L l (.returned (.slice (some ⟨w.heap.size+1,0,none⟩) (n+1) (n+1))) wr):=λwr c hc zm=>⟨_,rfl,by omega,hc.done HM.out zm iJ fI Hd yY (by omega) ou.1 qmQ fJ gQ,hc.ext⟩;have hkn:x.kn<=1099511627776:=qmQ
   have zi:i0.bytes*x.kn<=281474976710656:=by rw[hz2];omega
   have Aj:Hid (uk w1 (w.heap.size+1) (n+1) 0 (λi=>w.heap.size+2+i) x.lv x.kn):=⟨_,LQ.out,λi hi=>absurd hi (Nat.not_lt_zero _)⟩;clear ou dP dB fQ fJ gQ ih HX nZ HN jO uA mi iB LQ qC ll qdl Hd;rw[nT]at x3;have Ck:=ae iJ;have Ue:=ae zi;have PD:=ae nT;clear iJ nT zi;go_wp2
   go_loopw [18] (λi wr=>∃k:Nat,k<=n+1/\i=.int .i64 k/\wr.heap.size=w.heap.size+2+k/\Hid (Ext w wr)/\Hid (P4 wr w.heap.size x)/\Hid (uk wr (w.heap.size+1) (n+1) k (λi=>w.heap.size+2+i) x.lv x.kn)/\Hid (∀i,i<k->jw (Mx M w.heap.size (w.heap.size+3+n)) wr d' E' B (w.heap.size+2+i) x.kn (λ_=>[]) P)) (λi _=>n+1-(intOf i).toNat)
   case atStart=>exact⟨0,bK _,rfl,eU,aS,JH,Aj,λi hi=>absurd hi (Nat.not_lt_zero _)⟩
   case round=>
    clear x0 x1 x2 x3 eU aS JH Aj;obtain⟨k,hk,rfl,hsz,HE,HP,Aj,HK⟩:=hrel
    by_cases hlt:k<n+1
    ·have DX:(k:Int)<(n:Int)+1:=by omega
     clear yt Um
     go_upto_region 5 with(fail)
     have NJ:P4 wr.drew w.heap.size x:=HP.out.ext (aA wr).drew;have aZ:=ae (HE.out.trans (aA wr).drew);have qgW:=ae (Aj.out.ext (aA wr).drew);have kX:Hid (∀i,i<k->jw (Mx M w.heap.size (w.heap.size+3+n)) wr.drew d' E' B (w.heap.size+2+i) x.kn (λ_=>[]) P):=λi hi=>(HK.out i hi).ext (aA wr).drew;have Xj:wr.drew.heap.size=w.heap.size+2+k:=hsz;clear HE Aj HK HP hsz;refine gB (λW=>P4 W w.heap.size x) 10 (by kernel_rfl) NJ (λhHeld=>?_);clear NJ;generalize wr.drew=wd at*;(refine cB [0,1,2,3,4,5,6] ?_;(iterate 7 (refine bZ (v:=?_) ?_ ?_;rotate_left 1;(intro wS hSw;obtain⟨S1,S2,S3,S4⟩:=hSw;go_simp;try with_reducible rfl);(try simp only[Act.put,aB,aC,aD])));refine cK ?_);(refine aO 7 ?_;intro K hK);refine qBH _ rfl _ _ _ rfl 33 i0 (.agg #[.int .i64 0,.bool false,.slice none 0 0,.slice none 0 0]) 4 Tryz.underlying31 hi hz0 hz1 .i64 .i64 x.kn rfl rfl Ue.out (by unfold maxLen;omega) ?_;have G7:=Ql wd x.kn 33;have NB:=(aA wd).alloc (.cells (madeCells (Value.agg #[.int .i64 0,.bool false,.slice none 0 0,.slice none 0 0]).cells (x.kn*4)) 33)
     have Oi:(wd.alloc (.cells (madeCells (Value.agg #[.int .i64 0,.bool false,.slice none 0 0,.slice none 0 0]).cells (x.kn*4)) 33)).heap.size=w.heap.size+2+(k+1):=by simp;omega
     rw[Xj]at G7;rw[show wd.heap.size=w.heap.size+2+k from Xj];generalize wd.alloc (.cells (madeCells (Value.agg #[.int .i64 0,.bool false,.slice none 0 0,.slice none 0 0]).cells (x.kn*4)) 33)=W2 at*
     try clear ag
     have ag:P4 W2 w.heap.size x:=hHeld.ext NB;refine hK.out _ _ (λ_=>ag) ?_;clear hK K;(try simp only[Act.put,aB,aC,aD]);(refine cB [8,9] ?_;(iterate 2 (refine bZ (v:=?_) ?_ ?_;rotate_left 1;(intro wS hSw;obtain⟨S1,S2,S3,S4⟩:=hSw;go_simp;try with_reducible rfl);(try simp only[Act.put,aB,aC,aD])));refine cK ?_);have qb9:=qgW.out.ext NB;obtain⟨⟨_,k0⟩,⟨_,k1⟩,⟨_,k2⟩,⟨_,k3⟩,bA,qG⟩:=qb9.at k hlt;have fV:=bA (k*4);have fP:=bA (k*4+1);have iU:=bA (k*4+2);have p9:=bA (k*4+3);have hne:∀q,q≠w.heap.size+1->(aM W2 (w.heap.size+1) (k*4) (.int .i64 x.lv) (.bool false) (.slice none 0 0) (.slice (some ⟨w.heap.size+2+k,0,none⟩) x.kn x.kn)).heap[q]?=W2.heap[q]?:=λq hq=>iI _ _ _ _ _ _ _ _ hq;have qr1:=ae (qb9.set (lv:=x.lv) (N:=x.kn) (h:=λi=>w.heap.size+2+i));have o9:Mx M w.heap.size (w.heap.size+3+n) (w.heap.size+1):=Mx.at (by omega)
     have Uz:Hid (∀i,i<k+1->jw (Mx M w.heap.size (w.heap.size+3+n)) (aM W2 (w.heap.size+1) (k*4) (.int .i64 x.lv) (.bool false) (.slice none 0 0) (.slice (some ⟨w.heap.size+2+k,0,none⟩) x.kn x.kn)) d' E' B (w.heap.size+2+i) x.kn (λ_=>[]) P):=λi hi=>by
      by_cases iq:i=k
      ·subst iq;exact jw.fresh (G7.of_heap (hne _ (by omega)))
      ·exact((kX.out i (by omega)).ext NB).kp (hne _ (by omega)) (Kp.aM o9 _ _ _ _ _)
     have Gt:Hid (P4 (aM W2 (w.heap.size+1) (k*4) (.int .i64 x.lv) (.bool false) (.slice none 0 0) (.slice (some ⟨w.heap.size+2+k,0,none⟩) x.kn x.kn)) w.heap.size x):=qpe ag (hne _ (by omega));have eX:Hid (Ext w (aM W2 (w.heap.size+1) (k*4) (.int .i64 x.lv) (.bool false) (.slice none 0 0) (.slice (some ⟨w.heap.size+2+k,0,none⟩) x.kn x.kn))):=(aZ.out.trans NB).aM (by omega) _ _ _ _ _
     have KS:(aM W2 (w.heap.size+1) (k*4) (.int .i64 x.lv) (.bool false) (.slice none 0 0) (.slice (some ⟨w.heap.size+2+k,0,none⟩) x.kn x.kn)).heap.size=w.heap.size+2+(k+1):=by rw[nW];exact Oi
     clear qb9 bA hne o9 G7 NB Oi qgW kX aZ;((refine aO 10 ?_;intro K hK);go_simp;(refine hK.out _ _ (λh=>absurd rfl h) ?_);clear hK K;refine dX ?_);clear hHeld ag;go_wp2
     go_roundw
     case rel=>exact⟨k+1,by omega,by go_num,KS,eX,Gt,qr1,Uz⟩
     case measure=>simp[intOf];omega
    ·have qc9:k=n+1:=by omega
     have jS:¬(k:Int)<(n:Int)+1:=by omega
     have HI:Hid (qU M w L d' E' B n x.kn P x wr (λ_=>0)):=⟨by omega,HE.out,HP.out,by rw[<-qc9];exact qc9 ▸ Aj.out,λi hi=>(HK.out i (by omega)).congr λj _=>by rw[ah (Nat.not_lt_zero _)];exact af.refl _⟩;obtain⟨x0,x1,x2,x3⟩:=HP.out;rw[PD.out]at x3;clear HE HP Aj HK hsz hlt Ue hkn hk qc9;go_wp2
     go_loopw [35] (λj wr=>∃k:Nat,k<=x.kn/\j=.int .i64 k/\Hid (qU M w L d' E' B n x.kn P x wr (λ_=>k))) (λj _=>x.kn-(intOf j).toNat)
     case atStart=>exact⟨0,bK _,rfl,HI⟩
     case round=>
      clear HI x0 x1 x2 x3;obtain⟨k,hk,rfl,HI⟩:=hrel
      by_cases hlt:k<x.kn
      ·obtain⟨y,hy,Hy⟩:=yt.out k hlt;obtain⟨c0,c1,c2,c3⟩:=hy.ext hb HI.out.ext;have jE:b<wr.heap.size:=dH hb HI.out.ext.size;have aT:=(aA wr).alloc (.cells (ak y) 33)
       have DX:(k:Int)<(x.kn:Int):=by omega
       have aW:=ae (Hy (Mx M w.heap.size (w.heap.size+3+n)) _ ((HI.out.mb HM.out).ext aT) (Mx.more (aI _)) (HI.out.ext.trans aT));have fH:=ae aT;clear Hy aT hy Um;go_wp2_with (fail);refine aW.out.mono ?_;rintro e w2 ⟨g2,rfl,jq,NC,aJ⟩;have Af:=ae (HI.out.grow (fH.out.trans aJ));have kX:=ae NC;have qwH:w.heap.size+3+n<=g2:=aR HI.out.sz (aR fH.out.size jq);clear aW NC aJ jq fH HI c0 c1 c2 c3 jE;go_wp2
       go_loopw [45] (λj wq=>∃i:Nat,i<=n+1/\j=.int .i64 i/\Hid (qU M w L d' E' B n x.kn P x wq (λq=>if q<i then k+1 else k))/\Hid (jw (λb=>Mx M w.heap.size (w.heap.size+3+n) b\/b=g2) wq d' E' B g2 (n+1) (λi=>ck L (i:Int) (P k)) (λ_=>P k))) (λj _=>n+1-(intOf j).toNat)
       case atStart=>exact⟨0,bK _,rfl,Af.out.congr (λi _=>by rw[ah (Nat.not_lt_zero _)]),kX⟩
       case round=>
        clear Af kX;obtain⟨i,hiN,rfl,HI,HK⟩:=hrel
        by_cases qM:i<n+1
        ·obtain⟨z,hz,hzc⟩:=HK.out.cells i qM;obtain⟨c0,c1,c2,c3⟩:=hz;have Bo:g2<wr.heap.size:=HK.out.lt
         have qEI:(i:Int)<(n:Int)+1:=by omega
         have hP5:=(aG.bq wr (ak z) 33 4 rfl).p4;have Wl:=(aA wr).alloc (.cells (ak z) 33);have ZE:=ae (HI.out.grow Wl);have lV:=ae (HK.out.ext Wl);have ME:Hid (iW (Mx M w.heap.size (w.heap.size+3+n)) (wr.alloc (.cells (ak z) 33)) d' E' B (.int .i64 z.lv) (.bool z.b) (.slice z.a z.n z.p) (.slice z.ka z.kn z.kp) (ck L (i:Int) (P k)) (P k)):=(hzc.more (M':=Mx M w.heap.size (w.heap.size+3+n)) (λb hb=>.inl (.inl hb))).ext Wl;clear HI HK hzc Wl
         go_upto_region 13 with(fail)
         generalize DN:wr.heap.size=gz at*;generalize wr.alloc (.cells (ak z) 33)=W5 at*;have jm:SCo (w.heap.size+1) (i*4+3) (w.heap.size+2+i) x.kn gz z W5.drew:=⟨(ZE.out.row.c3 (aI _) i qM),hP5⟩;have ZF:=ae (ZE.out.grow (aA W5).drew);have HK6:=ae (lV.out.ext (aA W5).drew);have MF:=ae (ME.out.ext (aA W5).drew);clear ZE lV ME hP5 c0 c1 c2 c3;refine gB (SCo (w.heap.size+1) (i*4+3) (w.heap.size+2+i) x.kn gz z) 8 (by kernel_rfl) jm (λhHeld=>?_);clear jm;generalize W5.drew=wd at*
         have NZ:(k:Int)<(x.kn:Int):=by omega
         (refine cB [0,1,2,3,4,5,6,7] ?_;(iterate 8 (refine bZ (v:=?_) ?_ ?_;rotate_left 1;(intro wS hSw;obtain⟨S0,S1,S2,S3,S4⟩:=hSw;go_simp;try with_reducible rfl);(try simp only[Act.put,aB,aC,aD])));refine cK ?_);obtain⟨⟨_,k0⟩,⟨_,k1⟩,⟨_,k2⟩,⟨_,k3⟩,bA,qG⟩:=(ZF.out.kids i qM).at k hlt;have fV:=bA (k*4);have fP:=bA (k*4+1);have iU:=bA (k*4+2);have p9:=bA (k*4+3)
         have HI7:Hid (qU M w L d' E' B n x.kn P x (aM wd (w.heap.size+2+i) (k*4) (.int .i64 z.lv) (.bool z.b) (.slice z.a z.n z.p) (.slice z.ka z.kn z.kp)) (λq=>if q<i+1 then k+1 else k)):=by
          refine(ZF.out.store i qM k hlt (by rw[ah (Nat.lt_irrefl _)]) MF.out).congr λq hq=>?_
          by_cases h3:q=i
          ·rw[ai h3,ai (by omega)]
          ·rw[ah h3]
           by_cases h4:q<i
           ·rw[ai h4,ai (by omega)]
           ·rw[ah h4,ah (by omega)]
         have UA:Hid (jw (λb=>Mx M w.heap.size (w.heap.size+3+n) b\/b=g2) (aM wd (w.heap.size+2+i) (k*4) (.int .i64 z.lv) (.bool z.b) (.slice z.a z.n z.p) (.slice z.ka z.kn z.kp)) d' E' B g2 (n+1) (λi=>ck L (i:Int) (P k)) (λ_=>P k)):=HK6.out.kp (iI _ _ _ _ _ _ _ _ (by omega)) (Kp.aM (.inl (Mx.at (by omega))) _ _ _ _ _);clear bA ZF HK6 MF;((refine aO 8 ?_;intro K hK);go_simp;(refine hK.out _ _ (λh=>absurd rfl h) ?_);clear hK K;refine dX ?_);clear hHeld
         try clear ag
         go_wp2
         go_roundw
         case rel=>exact⟨i+1,by omega,by go_num,HI7,UA⟩
         case measure=>simp[intOf];omega
        ·obtain rfl:i=n+1:=by omega
         have Uw:Hid (qU M w L d' E' B n x.kn P x wr (λ_=>k+1)):=HI.out.congr λq hq=>by rw[ai hq]
         clear HI HK;go_wp2
         go_roundw
         case rel=>exact⟨k+1,by omega,by go_num,Uw⟩
         case measure=>simp[intOf];omega
      ·obtain rfl:k=x.kn:=by omega
       have HF:=ae (Um.out _ _ HI.out λ_ _=>rfl);clear HI yt Um;go_wp2;exact bu (v:=.slice (some ⟨w.heap.size+1,0,none⟩) (n+1) (n+1)) (by simp[results,Tryz.results120,go_sem]) rfl HF.out
theorem qzf(L:Nat)(yY:1<=L)(xN:L<=4)(E:Nat):YX L E:=by
 induction E using Nat.strongRecOn with
 |_ E ih=>exact qtM L yY xN E λE' hE=>ih E' hE
theorem pz{M:Nat->Prop}{w:World}{g:Nat}(h:Mb M w)(hg:g<w.heap.size):Mb (λb=>M b\/b=g) w:=λb hb=>hb.elim (h b) λe=>by rw[e];exact hg
def sV(M:Nat->Prop)(w:World)(B g N k:Nat)(S:Nat->List Tm)(R:List Tm):Prop:=∃f,aG w g 33 (N*4) f/\∀i,i<N->(i<k->CR M w 4 (f (i*4)) (f (i*4+1)) (f (i*4+2)) (f (i*4+3)) (S i))/\(k<=i->iW M w 4 4 B (f (i*4)) (f (i*4+1)) (f (i*4+2)) (f (i*4+3)) (S i) R)
section
variable{M:Nat->Prop}{w w':World}{B g N k:Nat}{S:Nat->List Tm}{R:List Tm}
theorem sV.ext(h:sV M w B g N k S R)(he:Ext w w'):sV M w' B g N k S R:=by
 obtain⟨f,h1,h2⟩:=h;exact⟨f,h1.ext he,λi hi=>⟨λh=>((h2 i hi).1 h).ext he,λh=>((h2 i hi).2 h).ext he⟩⟩
theorem sV.start(h:jw M w 4 4 B g N S (λ_=>R)):sV M w B g N 0 S R:=by
 obtain⟨f,h1,h2⟩:=h;exact⟨f,h1,λi hi=>⟨λh=>absurd h (Nat.not_lt_zero _),λ_=>h2 i hi⟩⟩
theorem sV.done(h:sV M w B g N N S R):Kids M w 4 g N S:=by
 obtain⟨f,h1,h2⟩:=h;exact⟨f,h1,λi hi=>(h2 i hi).1 hi⟩
theorem sV.at(h:sV M w B g N k S R)(j:Nat)(hj:j<N):(∃e,w.cell? ⟨g,j*4,none⟩=some e)/\(∃e,w.cell? ⟨g,j*4+1,none⟩=some e)/\(∃e,w.cell? ⟨g,j*4+2,none⟩=some e)/\(∃e,w.cell? ⟨g,j*4+3,none⟩=some e)/\(∀o,w.frozen? ⟨g,o,none⟩=false)/\g<w.heap.size:=by
 obtain⟨f,h1,h2⟩:=h;exact⟨⟨_,h1.cell (by omega)⟩,⟨_,h1.cell (by omega)⟩,⟨_,h1.cell (by omega)⟩,⟨_,h1.cell (by omega)⟩,h1.frozen,h1.lt⟩
theorem sV.next(h:sV M w B g N k S R)(hk:k<N):∃y:PE,jK w g (k*4) y/\iW M w 4 4 B (.int .i64 y.lv) (.bool y.b) (.slice y.a y.n y.p) (.slice y.ka y.kn y.kp) (S k) R:=by
 obtain⟨f,hB,hc⟩:=h;have hx:=(hc k hk).2 (aI _);obtain⟨x,e0,e1,e2,e3⟩:=hx.pe;rw[e0,e1,e2,e3]at hx;refine⟨x,⟨?_,?_,?_,?_⟩,hx⟩
 ·rw[hB.cell (by omega),e0]
 ·rw[hB.cell (by omega),e1]
 ·rw[hB.cell (by omega),e2]
 ·rw[hB.cell (by omega),e3]
theorem sV.set(h:sV M w B g N k S R)(hg:M g)(hk:k<N){e0 e1 e2 e3:Value}(hc:CR M w 4 e0 e1 e2 e3 (S k)):sV M (aM w g (k*4) e0 e1 e2 e3) B g N (k+1) S R:=by
 obtain⟨f,h1,h2⟩:=h;refine⟨_,h1.aM (k*4) e0 e1 e2 e3,λi hi=>?_⟩;have bD:Kp M w (aM w g (k*4) e0 e1 e2 e3):=Kp.aM hg _ _ _ _ _
 by_cases kP:i=k
 ·subst kP;rw[F4,F5,F6,F7];exact⟨λ_=>hc.kp bD,λh=>by omega⟩
 ·rw[tZ _ _ _ _ _ _ _ (by omega),tZ _ _ _ _ _ _ _ (by omega),tZ _ _ _ _ _ _ _ (by omega),tZ _ _ _ _ _ _ _ (by omega)];exact⟨λh=>((h2 i hi).1 (by omega)).kp bD,λh=>((h2 i hi).2 (by omega)).kp bD⟩
end
def MJ(M:Nat->Prop)(w:World)(l:List Tm)(L:Int)(e:Ending)(w':World):Prop:=
 ((af l []/\e=.returned (.slice none 0 0))\/(¬af l []/\¬(1<=L/\L<=4)/\∃g,e=.returned (.slice (some ⟨g,0,none⟩) 1 1)/\w.heap.size<=g/\Kids (λb=>M b\/b=g) w' 4 g 1 (λ_=>l))\/
  (¬af l []/\∃K n g:Nat,L=K/\1<=K/\K<=4/\e=.returned (.slice (some ⟨g,0,none⟩) (n+1) (n+1))/\w.heap.size<=g/\bE K l n/\Kids (λb=>M b\/b=g) w' 4 g (n+1) (λi=>ck K (i:Int) l)))/\Ext w w'
theorem XT(M:Nat->Prop)(x:PE)(l:List Tm)(L:Int)(B:Nat)(w:World)(hM:Mb M w)(h:PI M w x l)(hB:bH B l)(kL:(B+1)^4<=1099511627776)(dJ:B+1<=1073741824)(hR:aH (aK l)<=1099511627776):Calls Tryz.prog 60 #[.agg (ak x),.int .i64 L] w (MJ M w l L):=by
 have hE:=(aA w).alloc (.cells (ak x) 33);have kM:=aG.bq w (ak x) 33 4 rfl;have fu:Mb (Mx M w.heap.size (w.heap.size+1)) (w.alloc (.cells (ak x) 33)):=Mx.mb hM (by simp) (by simp);have h2:=(h.more (M':=Mx M w.heap.size (w.heap.size+1)) (Mx.more (aI _))).ext hE;have HI:=ae h2;have nZ:=ae hB;have rG:=ae kL;have HR:=ae hR;have eG:=ae dJ;clear h h2 hB kL hR dJ
 go_enter Tryz.func60,Tryz.ntmps60
 go_wp2_with (fail);refine(Jc _ x l _ fu HI.out).mono ?_;rintro e w1 ⟨y,rfl,hy,az⟩;have iN:=hE.trans az;have dm:=kM.ext az;have jD:=fu.ext az;obtain⟨⟨q0,q1,q2,q3⟩,⟨f0,f1,f2,f3⟩,⟨r0,r1,r2,r3⟩,hk,hf⟩:=AR (M':=Mx M w.heap.size (w.heap.size+1)) (w:=w) (.int .i64 y.lv) (.bool y.b) (.slice y.a y.n y.p) (.slice y.ka y.kn y.kp) dm (Mx.at (by omega)) (aI _) iN;have HY:=ae (hy.kp hk);have pU:Mb (Mx M w.heap.size (w.heap.size+1)) (aM w1 w.heap.size 0 (.int .i64 y.lv) (.bool y.b) (.slice y.a y.n y.p) (.slice y.ka y.kn y.kp)):=jD.size hk.1;have DW:=dm.lt;have zo:w.heap.size<(aM w1 w.heap.size 0 (.int .i64 y.lv) (.bool y.b) (.slice y.a y.n y.p) (.slice y.ka y.kn y.kp)).heap.size:=dH DW hk.1;clear q0 q1 q2 q3;obtain⟨q0,q1,q2,q3⟩:=dm.p4;generalize hW:aM w1 w.heap.size 0 (.int .i64 y.lv) (.bool y.b) (.slice y.a y.n y.p) (.slice y.ka y.kn y.kp)=W at r0 r1 r2 r3 hf HY pU zo;unfold aM at hW;have HW:=ae hW;have yu:=ae hf;have HM:=ae pU;have HP:Hid (P4 W w.heap.size y):=⟨r0,r1,r2,r3⟩;clear kM fu az hE dm jD hy HI hk hf pU iN hW DW hM
 go_upto_region 2 with(fail)
 rw[HW.out];clear q0 q1 q2 q3 f0 f1 f2 f3 HW;have CZ:=ae (Jb _ y l W HM.out HY.out.pi);go_wp2_with (fail);refine CZ.out.mono ?_;rintro e w2 ⟨bz,rfl,tJ,aJ⟩;have aZ:=ae (yu.out.trans aJ);have kF:=ae tJ;have o5:=ae (HY.out.ext aJ);have eD:=ae (HP.out.ext aJ);have gJ:=ae (HM.out.ext aJ);clear tJ aJ CZ yu HY HP r0 r1 r2 r3 HM zo
 cases bz with
 |true=>
  have HF:Hid (MJ M w l L (.returned (.slice none 0 0)) w2):=⟨.inl ⟨kF.out.1 rfl,rfl⟩,aZ.out⟩;clear kF aZ o5 eD;go_wp2;exact bu (v:=.slice none 0 0) (by simp[results,Tryz.results60,go_sem]) rfl HF.out
 |false=>
  have HZ:Hid (¬af l []):=λhs=>by have:=kF.out.2 hs;cases this
  clear kF;have CL:=ae (Tc L w2);go_wp2_with (fail);refine CL.out.mono ?_;rintro e w3 ⟨rfl,rfl⟩
  by_cases hl:1<=L/\L<=4
  ·have pg:gm L=true:=by unfold gm;simp[hl]
   obtain⟨J,rfl⟩:∃J:Nat,L=J:=⟨L.toNat,by omega⟩;have HK:Hid (1<=J/\J<=4):=⟨by omega,by omega⟩;have qmB:=oF _ _ eD.out.1;have MC:=ae (o5.out.ext (aA w2).drew);have pK:=ae (gJ.out.ext (aA w2).drew);have dM:=ae (aZ.out.trans (aA w2).drew);have Ky:=eD.out.ext (aA w2).drew;clear hl CL aZ eD o5 gJ
   go_upto_region 6 with(fail)
   refine gB (λW=>P4 W w.heap.size y) 7 (by kernel_rfl) Ky (λhHeld=>?_);clear Ky;generalize w2.drew=wd at*;(refine cB [0,1,2,3] ?_;(iterate 4 (refine bZ (v:=?_) ?_ ?_;rotate_left 1;(intro wS hSw;obtain⟨S1,S2,S3,S4⟩:=hSw;go_simp;try with_reducible rfl);(try simp only[Act.put,aB,aC,aD])));refine cK ?_);((refine aO 4 ?_;intro K hK);go_simp;(refine(qoo J HK.out.1 HK.out.2 4 _ l y _ MC.out).mono ?_);rintro e_ w4 ⟨n,rfl,hn,gH,e4⟩;go_wp2_with (fail);(try clear ag);(have ag:=hHeld.ext e4);(refine hK.out _ _ (λ_=>ag) ?_);clear hK K;(try simp only[Act.put,aB,aC,aD]))
   have KP:n<=B:=by
    rcases hn.2 with h0|⟨m,hm,hg⟩
    ·omega
    ·have:=nZ.out m hm J;omega
   have hB2':=eG.out;have ku:=ae hn
   have Oc:(n:Int)+1<=1099511627776:=by omega
   ((refine aO 5 ?_;intro K hK);go_simp;(refine(qzf J HK.out.1 HK.out.2 4 4 (aI _) _ l y n B _ (pK.out.ext e4) (MC.out.ext e4) nZ.out ku.out.1 (by omega)).mono ?_);rintro e_ w5 ⟨g,rfl,hg,DT,e5⟩;go_wp2_with (fail);(try clear ag);(have ag:=hHeld.ext (e4.trans e5));(refine hK.out _ _ (λ_=>ag) ?_);clear hK K;(try simp only[Act.put,aB,aC,aD]));(refine cB [6] ?_;(iterate 1 (refine bZ (v:=?_) ?_ ?_;rotate_left 1;(intro wS hSw;obtain⟨S1,S2,S3,S4⟩:=hSw;go_simp;try with_reducible rfl);(try simp only[Act.put,aB,aC,aD])));refine cK ?_);refine dX ?_;have HX:Hid (sV (λb=>Mx M w.heap.size (w.heap.size+1) b\/b=g) w5 B g (n+1) 0 (λi=>ck J (i:Int) l) l):=sV.start DT;have dV:=ae (dM.out.trans (e4.trans e5));have Bo:w.heap.size<g:=dH (pK.out.ext e4 _ (Mx.at ⟨aI _,Nat.lt_succ_self _⟩)) hg;have eP:=ae (pz ((pK.out.ext e4).ext e5) DT.lt);clear hHeld ag DT e4 e5 hg hn gH MC pK dM nZ KP qmB pg;go_wp2
   go_loopw [26] (λi wr=>∃k:Nat,k<=n+1/\i=.int .i64 k/\Hid (sV (λb=>Mx M w.heap.size (w.heap.size+1) b\/b=g) wr B g (n+1) k (λi=>ck J (i:Int) l) l)/\Hid (Ext w wr)/\Hid (Mb (λb=>Mx M w.heap.size (w.heap.size+1) b\/b=g) wr)) (λi _=>n+1-(intOf i).toNat)
   case atStart=>exact⟨0,bK _,rfl,HX,dV,eP⟩
   case round=>
    clear HX dV eP;obtain⟨k,hk,rfl,HX,HE,eP⟩:=hrel
    by_cases hlt:k<n+1
    ·have DX:(k:Int)<(n:Int)+1:=by omega
     have Ak:=ae hlt;obtain⟨z,⟨c0,c1,c2,c3⟩,hz⟩:=HX.out.next hlt;have qH:g<wr.heap.size:=(HX.out.at k hlt).2.2.2.2.2;have CN:=ae (Jc _ z _ wr eP.out (hz.pi (by omega) rG.out (by omega) HR.out));clear hz;go_wp2_with (fail);refine CN.out.mono ?_;rintro e w6 ⟨v,rfl,hv,fO⟩;have hX6:=HX.out.ext fO;obtain⟨⟨_,k0⟩,⟨_,k1⟩,⟨_,k2⟩,⟨_,k3⟩,bA,fG⟩:=hX6.at k hlt;have fV:=bA (k*4);have fP:=bA (k*4+1);have iU:=bA (k*4+2);have p9:=bA (k*4+3);have HX7:=ae (hX6.set (.inr rfl) hlt hv);have ni:=ae ((HE.out.trans fO).aM (g:=g) (by omega) (k*4) (.int .i64 v.lv) (.bool v.b) (.slice v.a v.n v.p) (.slice v.ka v.kn v.kp));have Mc:Hid (Mb (λb=>Mx M w.heap.size (w.heap.size+1) b\/b=g) (aM w6 g (k*4) (.int .i64 v.lv) (.bool v.b) (.slice v.a v.n v.p) (.slice v.ka v.kn v.kp))):=(eP.out.ext fO).size (by rw[nW];exact aI _);clear hX6 bA hv fO CN HX HE eP c0 c1 c2 c3 qH;go_wp2
     go_roundw
     case rel=>exact⟨k+1,Ak.out,by go_num,HX7,ni,Mc⟩
     case measure=>have:=Ak.out;simp[intOf];omega
    ·have hkn:k=n+1:=by omega
     have jS:¬(k:Int)<(n:Int)+1:=by omega
     have HF:Hid (MJ M w l J (.returned (.slice (some ⟨g,0,none⟩) (n+1) (n+1))) wr):=by
      refine⟨.inr (.inr ⟨HZ.out,J,n,g,rfl,HK.out.1,HK.out.2,rfl,by omega,ku.out,?_⟩),HE.out⟩;have h5:=HX.out;rw[hkn]at h5;exact h5.done.more λb hb=>hb.elim (λh=>.inl (.inl (.inl h))) (λh=>.inl (.inr h))
     clear HX HE eP hkn;go_wp2;exact bu (v:=.slice (some ⟨g,0,none⟩) (n+1) (n+1)) (by simp[results,Tryz.results60,go_sem]) rfl HF.out
  ·have pg:gm L=false:=by unfold gm;simp only[decide_eq_false_iff_not];exact hl
   have qmB:=oF _ _ eD.out.1;obtain⟨r0,r1,r2,r3⟩:=eD.out;have cO:=aG.bq w2 (ak y) 33 4 rfl;have hEk:=(aA w2).alloc (.cells (ak y) 33)
   have HF:Hid (MJ M w l L (.returned (.slice (some ⟨w2.heap.size,0,none⟩) 1 1)) (w2.alloc (.cells (ak y) 33))):=by
    refine⟨.inr (.inl ⟨HZ.out,hl,_,rfl,aZ.out.size,?_⟩),aZ.out.trans hEk⟩;refine⟨_,cO,λi hi=>?_⟩
    obtain rfl:i=0:=by omega
    exact((o5.out.more (M':=λb=>M b\/b=w2.heap.size) (λb hb=>hb.elim (λh=>.inl (.inl h)) (λh=>.inr (by omega)))).ext hEk:aN (λb=>M b\/b=w2.heap.size) _ 4 y l)
   clear cO hEk aZ o5 eD hl HZ CL gJ;go_wp2;exact bu (v:=.slice (some ⟨w2.heap.size,0,none⟩) 1 1) (by simp[results,Tryz.results60,go_sem]) rfl HF.out
end Go.Proofs.YtmcfpnmoklnhoaaGreat
