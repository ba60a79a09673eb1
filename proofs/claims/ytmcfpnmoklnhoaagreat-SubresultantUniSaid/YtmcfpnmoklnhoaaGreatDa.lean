/- Da -/
import Derived.Test.YtmcfpnmoklnhoaaGreatBd
import Derived.Test.YtmcfpnmoklnhoaaGreatCb
set_option linter.unusedVariables false
set_option maxRecDepth 100000
set_option maxHeartbeats 400000000
set_option linter.unusedSimpArgs false
namespace Go.Proofs.YtmcfpnmoklnhoaaGreat
open Go.RowKit
theorem qz2{k D:Nat}(h1:1<=k)(h4:k<=4)(hD:D+1<=4)(hk:k≠D+1)(m:Mo)(i:Int):wo k (Mo.add m (xp (D+1) i))=Mo.add (wo k m) (xp (D+1) i):=by
 rw[qdF h1 h4,qoJ h1 h4 (x:=xp (D+1) i) (by rw[dX _ _ _ (by omega) hD,if_neg hk])]
theorem qrh{k D:Nat}(h1:1<=k)(h4:k<=4)(hD:D+1<=4)(hk:k≠D+1)(e i:Int)(l:List Tm):ck k e (shift (xp (D+1) i) l)=shift (xp (D+1) i) (ck k e l):=by
 unfold ck lD shift;rw[List.map_map,List.map_map];apply List.map_congr_left;intro t _;simp only[Function.comp_def,K7,gL,dX _ _ _ (show 1<=D+1 by omega) hD,if_neg hk,qz2 h1 h4 hD hk,Int.add_zero]
theorem TP(k:Nat)(e:Int)(l r:List Tm):ck k e (l++r)=ck k e l++ck k e r:=QO _ _ _
theorem qrf{k D:Nat}(h1:1<=k)(h4:k<=4)(hD:D+1<=4)(hk:k≠D+1)(e:Int)(N:Nat)(P:Nat->List Tm):ck k e (aJ (D+1) N P)=aJ (D+1) N λi=>ck k e (P i):=by
 induction N with
 |zero=>rfl
 |succ N ih=>rw[fK,fK,TP,ih,qrh h1 h4 hD hk]
theorem qri{k:Nat}(h1:1<=k)(h4:k<=4){l:List Tm}(h:∀m,aB l m≠0->m.get k=0):ae (ck k 0 l) l:=λm=>by
 rw[mE h1 h4]
 by_cases hm:m.get k=0
 ·rw[if_pos hm,qoR,Mo.add_zero']
 ·rw[if_neg hm];exact(Classical.byContradiction λhc=>hm (h m (λe=>hc e.symm)))
theorem qrg{k:Nat}(h1:1<=k)(h4:k<=4){e:Int}(he:e≠0){l:List Tm}(h:∀m,aB l m≠0->m.get k=0):ae (ck k e l) []:=λm=>by
 rw[mE h1 h4]
 by_cases hm:m.get k=0
 ·rw[if_pos hm];refine Classical.byContradiction λhc=>?_;have:=h _ hc;rw[gL,hm,dX _ _ _ h1 h4,if_pos rfl]at this;omega
 ·rw[if_neg hm];rfl
theorem qg3{k n:Nat}(h1:1<=k)(h4:k<=4){l:List Tm}(h:∀m,aB l m≠0->m.get k<=n){i:Nat}(hi:n<i):ae (ck k (i:Int) l) []:=λm=>by
 rw[mE h1 h4]
 by_cases hm:m.get k=0
 ·rw[if_pos hm];refine Classical.byContradiction λhc=>?_;have:=h _ hc;rw[gL,hm,dX _ _ _ h1 h4,if_pos rfl]at this;omega
 ·rw[if_neg hm];rfl
def gP(M:Nat->Prop)(w:World)(d E B:Nat)(e0 e1 e2 e3:Value)(S R:List Tm):Prop:=
 ∃u:RT (d+1),RR M w (d+1) u e0 e1 e2 e3/\ae (terms (d+1) u) S/\dN E (terms (d+1) u)/\(terms (d+1) u).length<=(B+1)^E/\aC (terms (d+1) u)<=aC R/\∀s∈terms (d+1) u,∀k,s.2.get k<=B
section
variable{M M':Nat->Prop}{w w':World}{d E B:Nat}{e0 e1 e2 e3:Value}{S S' R:List Tm}
theorem gP.kp(h:gP M w d E B e0 e1 e2 e3 S R)(he:Kp M w w'):gP M w' d E B e0 e1 e2 e3 S R:=by
 obtain⟨u,h1,h2⟩:=h;exact⟨u,RR.kp he h1,h2⟩
theorem gP.ext(h:gP M w d E B e0 e1 e2 e3 S R)(he:Ext w w'):gP M w' d E B e0 e1 e2 e3 S R:=h.kp (Kp.jC he)
theorem gP.more(h:gP M w d E B e0 e1 e2 e3 S R)(hm:∀g,M' g->M g\/w.heap.size<=g):gP M' w d E B e0 e1 e2 e3 S R:=by
 obtain⟨u,h1,h2⟩:=h;exact⟨u,RR.more hm h1,h2⟩
theorem gP.bZ(h:gP M w d E B e0 e1 e2 e3 S R)(hs:ae S S'):gP M w d E B e0 e1 e2 e3 S' R:=by
 obtain⟨u,h1,h2,h3⟩:=h;exact⟨u,h1,h2.trans hs,h3⟩
theorem gP.wide{E':Nat}(h:gP M w d E B e0 e1 e2 e3 S R)(hE:E<=E'):gP M w d E' B e0 e1 e2 e3 S R:=by
 obtain⟨u,h1,h2,h3,h4,h5⟩:=h;exact⟨u,h1,h2,h3.mono hE,Nat.le_trans h4 (Nat.pow_le_pow_right (by omega) hE),h5⟩
theorem gP.zero(M:Nat->Prop)(w:World)(d E B:Nat)(R:List Tm):gP M w d E B (.int .i64 0) (.bool false) (.slice none 0 0) (.slice none 0 0) [] R:=by
 refine⟨sV d 0 ⟨false,0,λ_=>0⟩ 0 (λ_=>BG d),⟨rfl,by show-9223372036854775808<=(0:Int)/\(0:Int)<=9223372036854775807;omega,⟨rfl,MH _ _ _⟩,Nat.zero_le _,.inl ⟨⟨none,0,rfl,Nat.zero_le _,λ_=>rfl⟩,rfl⟩⟩,?_,?_,?_,?_,?_⟩
 all_goals rw[Wn _ _ _ _ (by omega)]
 ·exact V9
 ·exact(Vz _).mono (Nat.zero_le _)
 ·exact Nat.pow_pos (Nat.succ_pos B)
 ·exact Nat.zero_le _
 ·intro s hs k;simp only[List.mem_cons,List.not_mem_nil,or_false]at hs;subst hs;show Mo.zero.get k<=_;rw[ve];omega
theorem gP.qm4{x:PE}{l:List Tm}(h:aI M w E x l)(hE:E<=d)(hB:bn B l):gP M w d E B (.int .i64 x.lv) (.bool x.b) (.slice x.a x.n x.p) (.slice x.ka x.kn x.kp) l l:=by
 have hl:=h.kR;obtain⟨u,h1,h2,h3,h4⟩:=(h.up hE:aI M w d x l);obtain⟨e0,_⟩:=h1.form;simp only[Value.int.injEq,true_and]at e0
 have hle:(kR (d+1) u).toNat<=E:=by show u.1.toNat<=E;omega
 refine⟨u,h1,h4,(IM _ u h2).mono hle,Nat.le_trans (TN B _ u h2 h1.ok (MV h4 hB)) (Nat.pow_le_pow_right (by omega) hle),OE h2 h4,TM B _ u h2 h1.ok (MV h4 hB)⟩
theorem gP.pe(h:gP M w d E B e0 e1 e2 e3 S R):∃x:PE,e0=.int .i64 x.lv/\e1=.bool x.b/\e2=.slice x.a x.n x.p/\e3=.slice x.ka x.kn x.kp:=by
 obtain⟨u,h1,_⟩:=h;exact h1.pe
end
theorem gP.pi{M:Nat->Prop}{w:World}{d E B:Nat}{x:PE}{S R:List Tm}(h:gP M w d E B (.int .i64 x.lv) (.bool x.b) (.slice x.a x.n x.p) (.slice x.ka x.kn x.kp) S R)(hd:d<=100)(hB:(B+1)^E<=1099511627776)(cZ:B<=1073741824)(hR:az (aC R)<=1099511627776):PI M w x S:=by
 obtain⟨u,h1,h2,_,h4,h5,h6⟩:=h;exact⟨_,u,h1,.inr ⟨by omega,Nat.le_trans h4 hB,Nat.le_trans (ji h5) hR,λs hs k=>by have:=h6 s hs k;omega⟩,h2⟩
def iO(M:Nat->Prop)(w:World)(d E B g N:Nat)(S R:Nat->List Tm):Prop:=∃f,ak w g 33 (N*4) f/\∀i,i<N->gP M w d E B (f (i*4)) (f (i*4+1)) (f (i*4+2)) (f (i*4+3)) (S i) (R i)
section
variable{M M':Nat->Prop}{w w':World}{d E B g N:Nat}{S S' R:Nat->List Tm}
theorem iO.kp(h:iO M w d E B g N S R)(hg:w'.heap[g]?=w.heap[g]?)(hk:Kp M w w'):iO M w' d E B g N S R:=by
 obtain⟨f,h1,h2⟩:=h;exact⟨f,h1.of_heap hg,λi hi=>(h2 i hi).kp hk⟩
theorem iO.ext(h:iO M w d E B g N S R)(he:Ext w w'):iO M w' d E B g N S R:=by
 obtain⟨f,h1,h2⟩:=h;exact⟨f,h1.ext he,λi hi=>(h2 i hi).ext he⟩
theorem iO.congr(h:iO M w d E B g N S R)(hs:∀i,i<N->ae (S i) (S' i)):iO M w d E B g N S' R:=by
 obtain⟨f,h1,h2⟩:=h;exact⟨f,h1,λi hi=>(h2 i hi).bZ (hs i hi)⟩
theorem iO.set(h:iO M w d E B g N S R)(hg:M g)(j:Nat)(hj:j<N){e0 e1 e2 e3:Value}{l:List Tm}(hc:gP M w d E B e0 e1 e2 e3 l (R j)):iO M (aH w g (j*4) e0 e1 e2 e3) d E B g N (λi=>if i=j then l else S i) R:=by
 obtain⟨f,h1,h2⟩:=h;refine⟨_,h1.aH (j*4) e0 e1 e2 e3,λi hi=>?_⟩;have hk:Kp M w (aH w g (j*4) e0 e1 e2 e3):=Kp.aH hg _ _ _ _ _
 by_cases jL:i=j
 ·subst jL;rw[Cy,Cz,CB,CV];simp only[if_true];exact hc.kp hk
 ·rw[rZ _ _ _ _ _ _ _ (by omega),rZ _ _ _ _ _ _ _ (by omega),rZ _ _ _ _ _ _ _ (by omega),rZ _ _ _ _ _ _ _ (by omega)];simp only[if_neg jL];exact(h2 i hi).kp hk
theorem iO.at(h:iO M w d E B g N S R)(j:Nat)(hj:j<N):(∃e,w.cell? ⟨g,j*4,none⟩=some e)/\(∃e,w.cell? ⟨g,j*4+1,none⟩=some e)/\(∃e,w.cell? ⟨g,j*4+2,none⟩=some e)/\(∃e,w.cell? ⟨g,j*4+3,none⟩=some e)/\(∀o,w.frozen? ⟨g,o,none⟩=false)/\g<w.heap.size:=by
 obtain⟨f,h1,h2⟩:=h;exact⟨⟨_,h1.cell (by omega)⟩,⟨_,h1.cell (by omega)⟩,⟨_,h1.cell (by omega)⟩,⟨_,h1.cell (by omega)⟩,h1.frozen,h1.lt⟩
theorem iO.cells(h:iO M w d E B g N S R)(i:Nat)(hi:i<N):∃y:PE,eX w g (i*4) y/\gP M w d E B (.int .i64 y.lv) (.bool y.b) (.slice y.a y.n y.p) (.slice y.ka y.kn y.kp) (S i) (R i):=by
 obtain⟨f,hB,hc⟩:=h;obtain⟨x,e0,e1,e2,e3⟩:=(hc i hi).pe;have hx:=hc i hi;rw[e0,e1,e2,e3]at hx;refine⟨x,⟨?_,?_,?_,?_⟩,hx⟩
 ·rw[hB.cell (by omega),e0]
 ·rw[hB.cell (by omega),e1]
 ·rw[hB.cell (by omega),e2]
 ·rw[hB.cell (by omega),e3]
theorem iO.fresh(hB:ak w g 33 (N*4) fu):iO M w d E B g N (λ_=>[]) R:=by
 refine⟨fu,hB,λi hi=>?_⟩
 have h0:fu (i*4)=.int .i64 0:=by unfold fu;rw[if_pos (by omega)]
 have h1:fu (i*4+1)=.bool false:=by unfold fu;rw[if_neg (by omega),if_pos (by omega)]
 have h2:fu (i*4+2)=.slice none 0 0:=by unfold fu;rw[if_neg (by omega),if_neg (by omega)]
 have h3:fu (i*4+3)=.slice none 0 0:=by unfold fu;rw[if_neg (by omega),if_neg (by omega)]
 rw[h0,h1,h2,h3];exact gP.zero _ _ _ _ _ _
theorem iO.lt(h:iO M w d E B g N S R):g<w.heap.size:=by
 obtain⟨f,h1,_⟩:=h;exact h1.lt
theorem iO.node{P:Nat->List Tm}{r:List Tm}(h:iO M w d E B g N S P)(hm:∀b,M' b->M b\/w.heap.size<=b)(hg:¬M' g)(hE:E+1<=4)(hN:N<=B+1)(hL:N<=1099511627776)(hr:aC (aJ (E+1) N P)<=aC r):
 gP M' w (d+1) (E+1) B (.int .i64 ((E:Int)+1)) (.bool false) (.slice none 0 0) (.slice (some ⟨g,0,none⟩) N N) (aJ (E+1) N S) r:=by
 obtain⟨f,hB,hc⟩:=h
 obtain⟨bu,dh⟩:=pick (BG (d+1)) (n:=N) (Q:=λi u=>RR M' w (d+1) u (f (i*4)) (f (i*4+1)) (f (i*4+2)) (f (i*4+3))/\ae (terms (d+1) u) (S i)/\dN E (terms (d+1) u)/\(terms (d+1) u).length<=(B+1)^E/\aC (terms (d+1) u)<=aC (P i)/\∀s∈terms (d+1) u,∀k,s.2.get k<=B) (λi hi=>by
  obtain⟨u,h1,h2⟩:=hc i hi
  exact⟨u,RR.more hm h1,h2⟩)
 have hT:terms (d+1+1) (sV (d+1) ((E:Int)+1) ⟨false,0,λ_=>0⟩ N bu)=aJ (E+1) N (λi=>terms (d+1) (bu i)):=by
  rw[Rm _ _ _ _ _ (by omega) (by omega),show((E:Int)+1).toNat=E+1 by omega]
 refine⟨sV _ ((E:Int)+1) ⟨false,0,λ_=>0⟩ N bu,⟨rfl,by show-9223372036854775808<=(E:Int)+1/\(E:Int)+1<=9223372036854775807;omega,⟨rfl,MH _ _ _⟩,hL,.inr ⟨g,0,N,rfl,Nat.le_refl _,by unfold maxLen;omega,⟨hB.lt,hg⟩,λi hi=>?_⟩⟩,?_,?_,?_,?_,?_⟩
 ·have hi':i<N:=hi;rw[Nat.zero_add];exact⟨_,_,_,_,hB.cell (i:=i*4) (by omega),hB.cell (i:=i*4+1) (by omega),hB.cell (i:=i*4+2) (by omega),hB.cell (i:=i*4+3) (by omega),(dh i hi).1⟩
 ·rw[hT];exact sZ _ _ _ _ λi hi=>(dh i hi).2.1
 ·rw[hT];exact qdb _ _ _ (by omega) hE λi hi=>by rw[Nat.add_sub_cancel];exact(dh i hi).2.2.1
 ·rw[hT];refine Nat.le_trans (VS (c:=(B+1)^E) N λi hi=>(dh i hi).2.2.2.1) ?_;rw[Nat.pow_succ,Nat.mul_comm];exact Nat.mul_le_mul_left _ hN
 ·rw[hT];refine Nat.le_trans ?_ hr;clear hr hT hB hc
  have:∀K,K<=N->aC (aJ (E+1) K λi=>terms (d+1) (bu i))<=aC (aJ (E+1) K P):=by
   intro K
   induction K with
   |zero=>intro _;exact Nat.le_refl _
   |succ K ih=>
    intro hK;rw[fK,fK,kT,kT,yu,yu];have h1:=ih (by omega);have h2:=(dh K (by omega)).2.2.2.2.1;omega
  exact this N (Nat.le_refl _)
 ·rw[hT];intro s hs k;obtain⟨i,hi,s',kC,rfl⟩:=EN hs;have h1:=(dh i hi).2.2.2.2.2 s' kC k;show(Mo.add s'.2 (xp (E+1) (i:Int))).get k<=_;rw[gL,dX _ k _ (by omega) hE]
  by_cases hk:k=E+1
  ·rw[if_pos hk,hk,(dh i hi).2.2.1 s' kC (E+1) (by omega) hE];omega
  ·rw[if_neg hk];omega
end
theorem qyq{M:Nat->Prop}{w:World}{L N cap S A:Nat}{a:Option Addr}{P:Nat->List Tm}(h:dV M w 4 (.slice a N cap) N P)(h1:1<=L)(h4:L<=4)(zO:∀i,i<N->bn S (P i))(hN:N*(S+1)^4<=1099511627776)(I8:S+N<=1000000)(ky:∀i,i<N->az (aC (P i))<=A)(hA:A+2<=1099511627776):
 PI M w ⟨(L:Int),false,none,0,0,a,N,cap⟩ (aJ L N P):=by
 obtain⟨bu,dh⟩:=pick (BG (4+1)) (n:=N) (Q:=λi u=>(∃b off,a=some ⟨b,off,none⟩/\N<=cap/\cap<=maxLen/\b<w.heap.size/\¬M b/\∃e0 e1 e2 e3,w.cell? ⟨b,off+i*4,none⟩=some e0/\w.cell? ⟨b,off+i*4+1,none⟩=some e1/\w.cell? ⟨b,off+i*4+2,none⟩=some e2/\w.cell? ⟨b,off+i*4+3,none⟩=some e3/\RR M w (4+1) u e0 e1 e2 e3)/\fC (4+1) u=true/\Cv (4+1) u/\ae (terms (4+1) u) (P i)) (by
  intro i hi;obtain⟨b,off,h1,h2,h3,h4,h5,e0,e1,e2,e3,x0,x1,x2,x3,t,g1,g2,g3,g4⟩:=h.at i hi
  exact⟨t,⟨b,off,h1,h2,h3,h4,h5,e0,e1,e2,e3,x0,x1,x2,x3,g1⟩,g2,g1.ok,g4⟩)
 have hT:terms (4+1+1) (sV (4+1) (L:Int) ⟨false,0,λ_=>0⟩ N bu)=aJ L N (λi=>terms (4+1) (bu i)):=by
  rw[Rm _ _ _ _ _ (by omega) (by omega),show(L:Int).toNat=L by omega]
 refine⟨4+1+1,sV _ (L:Int) ⟨false,0,λ_=>0⟩ N bu,⟨rfl,by show-9223372036854775808<=(L:Int)/\(L:Int)<=9223372036854775807;omega,⟨rfl,MH _ _ _⟩,h.1,?_⟩,.inr ⟨by omega,?_,?_,?_⟩,?_⟩
 ·rcases h.2 with⟨h1,h0⟩|⟨b,off,cap',h1,h2,h3,h4,_⟩
  ·simp only[Value.slice.injEq]at h1;obtain⟨rfl,rfl,rfl⟩:=h1;exact .inl ⟨⟨none,0,rfl,Nat.zero_le _,λ_=>rfl⟩,rfl⟩
  ·simp only[Value.slice.injEq,true_and]at h1;obtain⟨rfl,rfl⟩:=h1;refine .inr ⟨b,off,cap,rfl,h2,h3,h4,λi hi=>?_⟩;obtain⟨b',off',e,_,_,_,_,hk⟩:=(dh i hi).1;simp only[Option.some.injEq,Addr.mk.injEq,and_true]at e;obtain⟨rfl,rfl⟩:=e;exact hk
 ·rw[hT];refine Nat.le_trans (VS (c:=(S+1)^4) N λi hi=>?_) hN;refine Nat.le_trans (TN S (4+1) (bu i) (dh i hi).2.1 (dh i hi).2.2.1 (MV (dh i hi).2.2.2 (zO i hi))) (Nat.pow_le_pow_right (by omega) ?_);have:=FM (dh i hi).2.1;show(bu i).1.toNat<=4;omega
 ·rw[hT];have:=VP (L:=L) (A:=A) (N:=N) (P:=λi=>terms (4+1) (bu i)) (by omega) λi hi=>Nat.le_trans (ji (OE (dh i hi).2.1 (dh i hi).2.2.2)) (ky i hi);omega
 ·rw[hT];intro s hs k;obtain⟨i,hi,s',kC,rfl⟩:=EN hs;have g1:=TM S (4+1) (bu i) (dh i hi).2.1 (dh i hi).2.2.1 (MV (dh i hi).2.2.2 (zO i hi)) s' kC k;show(Mo.add s'.2 (xp L (i:Int))).get k<=_;rw[gL,dX _ k _ h1 h4]
  split<;>omega
 ·rw[hT];exact sZ _ _ _ _ λi hi=>(dh i hi).2.2.2
theorem qwH{M:Nat->Prop}{L N cap S A:Nat}{a:Option Addr}{P:Nat->List Tm}(w:World)(hM:Mb M w)(h:dV M w 4 (.slice a N cap) N P)(h1:1<=L)(h4:L<=4)(zO:∀i,i<N->bn S (P i))(hN:N*(S+1)^4<=1099511627776)(I8:S+N<=1000000)(ky:∀i,i<N->az (aC (P i))<=A)(hA:A+2<=1099511627776):
 Calls Tryz.prog 62 #[.slice a N cap,.int .i64 (L:Int)] w (dH M w 4 (aJ L N P)):=by
 have hE:=(Ext.refl w).alloc (.cells zA 33);have hB:=ak.bf w zA 33 4 rfl;have eG:Mb (Mx M w.heap.size (w.heap.size+1)) (w.alloc (.cells zA 33)):=Mx.mb hM (by simp) (by simp);have Qc:=((qyq h h1 h4 zO hN I8 ky hA).more (M':=Mx M w.heap.size (w.heap.size+1)) (Mx.more (Nat.le_refl _))).ext hE;have CT:=Lib.hid (Ha _ _ _ _ eG Qc)
 have wN:ja (L:Int)=true:=by unfold ja;simp;omega
 have Hw:=Lib.hid (λW=>VC (L:Int) W);rw[wN]at Hw;have HE:=Lib.hid hE;have HB:=Lib.hid hB;clear hE hB eG Qc wN h hM h1 h4 zO hN I8 ky hA
 go_enter Tryz.func62,Tryz.ntmps62
 go_wp2_with (fail);refine(Hw.out _).mono ?_;rintro e w1 ⟨rfl,rfl⟩;go_wp2_with (fail);refine CT.out.mono ?_;rintro e w2 ⟨v,rfl,hv,aA⟩;obtain⟨⟨q0,q1,q2,q3⟩,⟨f0,f1,f2,f3⟩,⟨r0,r1,r2,r3⟩,HF⟩:=iW (M:=M) (w:=w) (L:=4) (HB.out.ext aA) (Mx.at (by omega)) (by omega) (HE.out.trans aA) hv Mx.sub;clear CT Hw hv aA;go_wp2;exact bodyPost_ret (v:=.agg (ah v)) (by simp[results,Tryz.results62,go_sem,r0,r1,r2,r3]) rfl HF.out
theorem qze{P:Program}(w:World){o:Oper}{a:Act}{K:Act->World->Prop}{Q:Exit->Act->World->Prop}{E:Prop}{ops:Array Oper}(iF:o.guard=none)(lo co:Operand)(t:TypeId)(ho:o.op=.makeSlice t lo co)
 (e:TypeId) (i:TypeInfo) (z:Value) (size:Nat) (ht:P.underlying t=some (.slice e)) (hi:P.info? e=some i) (hz:i.zero=some z) (hs:i.size=size) (kl kc:IntKind) (n:Nat)
 (hl:a.eval lo=.int kl (n:Int)) (hc:a.eval co=.int kc (n:Int)) (hb:i.bytes*n<=281474976710656) (DY:n<=maxLen)
 (h:K (a.put o.dst (.slice (some ⟨w.heap.size,0,none⟩) n n)) (w.alloc (.cells (madeCells z.cells (n*size)) e))):
 if Region.wanted o (yielded ops a.tmps)=true then Oper.wp P o a w K Q else E:=by
 have hw:Region.wanted o (yielded ops a.tmps)=true:=by simp[Region.wanted,iF]
 rw[if_pos hw]
 have hb':(i.bytes:Int)*(n:Int)<=281474976710656:=by
  have h:((i.bytes*n:Nat):Int)<=281474976710656:=by omega
  rwa[Int.natCast_mul]at h
 have hr:=run_make (P:=P) w t e i z ht hi hz kl kc n n (by omega) (Int.le_refl _) hb' (by unfold maxLen at DY;omega);simp only[Int.toNat_natCast,hs]at hr;unfold Oper.wp;simp[execOp,ho,hl,hc,hr,Result.andThen];exact h
theorem Nb{P:Program}(w:World){ops:Array Oper}{rest:List Oper}{o:Oper}{a:Act}{Q:Exit->Act->World->Prop}(iF:o.guard=none)(lo co:Operand)(t:TypeId)(ho:o.op=.makeSlice t lo co)
 (e:TypeId) (i:TypeInfo) (z:Value) (size:Nat) (ht:P.underlying t=some (.slice e)) (hi:P.info? e=some i) (hz:i.zero=some z) (hs:i.size=size) (kl kc:IntKind) (L C:Int) (n:Nat)
 (hl:a.eval lo=.int kl L) (hc:a.eval co=.int kc C) (hL:L=(n:Int)) (hC:C=(n:Int)) (hb:i.bytes*n<=281474976710656) (DY:n<=maxLen)
 (h:∀w',Hid (w'=w.alloc (.cells (madeCells z.cells (n*size)) e))->wpList P ops Q rest (a.put o.dst (.slice (some ⟨w.heap.size,0,none⟩) n n)) w'):
 wpList P ops Q (o::rest) a w:=by
 refine wpList_plain iF λK hK=>?_
 have hb':(i.bytes:Int)*(n:Int)<=281474976710656:=by
  have h:((i.bytes*n:Nat):Int)<=281474976710656:=by omega
  rwa[Int.natCast_mul]at h
 have hr:=run_make (P:=P) w t e i z ht hi hz kl kc n n (by omega) (Int.le_refl _) hb' (by unfold maxLen at DY;omega);simp only[Int.toNat_natCast,hs]at hr;subst hL;subst hC;unfold Oper.wp;simp[execOp,ho,hl,hc,hr,Result.andThen];exact hK _ _ (h _ rfl)
theorem OA(w:World)(N:Nat)(e:TypeId):ak (w.alloc (.cells (madeCells (Value.agg #[.int .i64 0,.bool false,.slice none 0 0,.slice none 0 0]).cells (N*4)) e)) w.heap.size e (N*4) fu:=
 ak.VL w _ e fu (N*4) (by simp[madeCells]) λi hi=>by
  rw[<-CY i];have hm:i%4<4:=Nat.mod_lt _ (by decide);simp[madeCells,hi,arr,Array.getD_eq_getD_getElem?,hm,Value.cells]
theorem qz8{P:Program}{w:World}{ops:Array Oper}{rest:List Oper}{o:Oper}{a:Act}{Q:Exit->Act->World->Prop}(iF:o.guard=none)(d s:Operand)(dT sT:TypeId)
 (ho:o.op=.call {callee:=.builtin .copy,args:= #[d,s],argTypes:= #[dT,sT]}) (elem:TypeId) (hu:P.underlying dT=some (.slice elem)) (z:Nat) (hsz:(P.info? elem).map (·.size)=some z)
 (N k BB Cx:Nat) (g b off:Nat) (hd:a.eval d=.slice (some ⟨g,0,none⟩) N BB) (hs:a.eval s=.slice (some ⟨b,off,none⟩) k Cx) (hk:k<=N)
 (t:TypeId) (f:Nat->Value) (hB:ak w g t (N*z) f) (src:Nat->Value) (Co:∀j,j<k*z->w.cell? ⟨b,off+j,none⟩=some (src j))
 (h1:∀j,j<k*z->(src j).oneCell'=true)
 (h:∀w',ak w' g t (N*z) (over f 0 (k*z) src)->w.grownBy w' (some g)->wpList P ops Q rest (a.put o.dst (goInt k)) w'):
 wpList P ops Q (o::rest) a w:=by
 have Et:k*z<=N*z:=Nat.mul_le_mul_right _ hk;obtain⟨cur,hg,hcs,hb⟩:=hB.splice 0 (k*z) src (by omega);refine wpList_plain iF λK hK=>?_;have hmin:Nat.min k N=k:=Nat.min_eq_left hk
 have hl:=run_loadCells_list (P:=P) w ⟨b,off,none⟩ ((List.range (k*z)).map src) (λj v hv=>by
  simp only[List.getElem?_map,Option.map_eq_some_iff]at hv;obtain⟨x,hx,rfl⟩:=hv;have hlt:=(List.getElem?_eq_some_iff.1 hx).1;simp only[List.length_range]at hlt;rw[List.getElem?_range hlt]at hx;cases hx
  rw[DN];exact Co j hlt)
 have iT:=run_storeCells_at P g 0 t ((List.range (k*z)).map src) 0 cur w hg (by simp;omega) (λv hv=>by
  simp only[List.mem_map,List.mem_range]at hv;obtain⟨j,hj,rfl⟩:=hv
  exact h1 j hj)
 simp only[List.length_map,List.length_range]at hl iT
 cases hq:P.info? elem with
 |none=>simp[hq]at hsz
 |some i=>
  have hi:i.size=z:=by simpa[hq]using hsz
  unfold Oper.wp;simp only[execOp,ho,resolve,invoke,builtin,Sem.run_bind,Sem.run_pure,List.map_toArray,List.map_cons,List.map_nil,hd,hs];simp[Builtin.copy_,run_underlying hu,Builtin.lenOf,Builtin.firstCells,sizeOf,typeInfo,hq,hi,hmin,hl,iT];refine hK _ _ (h _ ?_ ?_)
  ·simpa[List.append_assoc]using hb
  ·exact qaz _ _ _
theorem qnc{w' wr:World}{b:Nat}{x:PE}(h:P4 wr b x)(he:w'.heap[b]?=wr.heap[b]?):P4 w' b x:=by
 have hc:=λo=>World.cell?_of_block (w:=wr) (w':=w') (a:=⟨b,o,none⟩) he;obtain⟨p0,p1,p2,p3⟩:=h;exact⟨(hc 0).trans p0,(hc 1).trans p1,(hc 2).trans p2,(hc 3).trans p3⟩
theorem gP.ref{M:Nat->Prop}{w:World}{d E B:Nat}{e0 e1 e2 e3:Value}{S R R':List Tm}(h:gP M w d E B e0 e1 e2 e3 S R)(hR:aC R<=aC R'):gP M w d E B e0 e1 e2 e3 S R':=by
 obtain⟨u,h1,h2,h3,h4,h5,h6⟩:=h;exact⟨u,h1,h2,h3,h4,Nat.le_trans h5 hR,h6⟩
theorem iO.qxk{M:Nat->Prop}{w:World}{d E B g n k:Nat}{xx:Nat->PE}{S:Nat->List Tm}{R:List Tm}(hB:ak w g 33 (n*4) (over fu 0 (k*4) (px xx)))(hk:k<=n)
 (h:∀i,i<k->gP M w d E B (.int .i64 (xx i).lv) (.bool (xx i).b) (.slice (xx i).a (xx i).n (xx i).p) (.slice (xx i).ka (xx i).kn (xx i).kp) (S i) R):iO M w d E B g n (λi=>if i<k then S i else[]) (λ_=>R):=by
 refine⟨_,hB,λi hi=>?_⟩
 by_cases gH:i<k
 ·have e:∀r,r<4->over fu 0 (k*4) (px xx) (i*4+r)=px xx (i*4+r):=λr hr=>by unfold over;rw[if_pos ⟨by omega,by omega⟩,Nat.sub_zero]
  have e0:=e 0 (by omega);rw[Nat.add_zero]at e0;rw[e0,e 1 (by omega),e 2 (by omega),e 3 (by omega),JQ,JR,JS,JU];simp only[if_pos gH];exact h i gH
 ·have e:∀r,r<4->over fu 0 (k*4) (px xx) (i*4+r)=fu (i*4+r):=λr hr=>by unfold over;rw[if_neg (by omega)]
  have e0:=e 0 (by omega);rw[Nat.add_zero]at e0
  have h0:fu (i*4)=.int .i64 0:=by unfold fu;rw[if_pos (by omega)]
  have h1:fu (i*4+1)=.bool false:=by unfold fu;rw[if_neg (by omega),if_pos (by omega)]
  have h2:fu (i*4+2)=.slice none 0 0:=by unfold fu;rw[if_neg (by omega),if_neg (by omega)]
  have h3:fu (i*4+3)=.slice none 0 0:=by unfold fu;rw[if_neg (by omega),if_neg (by omega)]
  rw[e0,e 1 (by omega),e 2 (by omega),e 3 (by omega),h0,h1,h2,h3];simp only[if_neg gH];exact gP.zero _ _ _ _ _ _
theorem qx3{w:World}{b off N:Nat}{xx:Nat->PE}(h:∀i,i<N->eX w b (off+i*4) (xx i))(j:Nat)(hj:j<N*4):w.cell? ⟨b,off+j,none⟩=some (px xx j):=by
 obtain⟨i,r,rfl,hr⟩:∃i r,j=i*4+r/\r<4:=⟨j/4,j%4,by omega,by omega⟩;obtain⟨h0,h1,h2,h3⟩:=h i (by omega)
 match r,hr with
 |0,_=>rw[Nat.add_zero,JQ];exact h0
 |1,_=>rw[JR, <-Nat.add_assoc];exact h1
 |2,_=>rw[JS, <-Nat.add_assoc];exact h2
 |3,_=>rw[JU, <-Nat.add_assoc];exact h3
theorem qx5(xx:Nat->PE)(j:Nat):(px xx j).oneCell'=true:=by
 unfold px
 split
 ·rfl
 ·split
  ·rfl
  ·split<;>rfl
def sH(w:World)(g m k:Nat)(h:Nat->Nat)(lv:Int)(N:Nat):Prop:=∃F,ak w g 33 (m*4) F/\∀i,i<k->F (i*4)=.int .i64 lv/\F (i*4+1)=.bool false/\F (i*4+2)=.slice none 0 0/\F (i*4+3)=.slice (some ⟨h i,0,none⟩) N N
theorem sH.ext{w w':World}{g m k:Nat}{h:Nat->Nat}{lv:Int}{N:Nat}(hr:sH w g m k h lv N)(he:Ext w w'):sH w' g m k h lv N:=by
 obtain⟨F,h1,h2⟩:=hr;exact⟨F,h1.ext he,h2⟩
theorem sH.heap{w w':World}{g m k:Nat}{h:Nat->Nat}{lv:Int}{N:Nat}(hr:sH w g m k h lv N)(he:w'.heap[g]?=w.heap[g]?):sH w' g m k h lv N:=by
 obtain⟨F,h1,h2⟩:=hr;exact⟨F,h1.of_heap he,h2⟩
theorem sH.set{w:World}{g m k:Nat}{h:Nat->Nat}{lv:Int}{N:Nat}(hr:sH w g m k h lv N):sH (aH w g (k*4) (.int .i64 lv) (.bool false) (.slice none 0 0) (.slice (some ⟨h k,0,none⟩) N N)) g m (k+1) h lv N:=by
 obtain⟨F,h1,h2⟩:=hr;refine⟨_,h1.aH _ _ _ _ _,λi hi=>?_⟩
 by_cases gH:i=k
 ·subst gH;exact⟨Cy _ _ _ _ _ _,Cz _ _ _ _ _ _,CB _ _ _ _ _ _,CV _ _ _ _ _ _⟩
 ·rw[rZ _ _ _ _ _ _ _ (by omega),rZ _ _ _ _ _ _ _ (by omega),rZ _ _ _ _ _ _ _ (by omega),rZ _ _ _ _ _ _ _ (by omega)];exact h2 i (by omega)
theorem sH.at{w:World}{g m k:Nat}{h:Nat->Nat}{lv:Int}{N:Nat}(hr:sH w g m k h lv N)(j:Nat)(hj:j<m):(∃e,w.cell? ⟨g,j*4,none⟩=some e)/\(∃e,w.cell? ⟨g,j*4+1,none⟩=some e)/\(∃e,w.cell? ⟨g,j*4+2,none⟩=some e)/\(∃e,w.cell? ⟨g,j*4+3,none⟩=some e)/\(∀o,w.frozen? ⟨g,o,none⟩=false)/\g<w.heap.size:=by
 obtain⟨F,h1,h2⟩:=hr;exact⟨⟨_,h1.cell (by omega)⟩,⟨_,h1.cell (by omega)⟩,⟨_,h1.cell (by omega)⟩,⟨_,h1.cell (by omega)⟩,h1.frozen,h1.lt⟩
theorem sH.c3{w:World}{g m k:Nat}{h:Nat->Nat}{lv:Int}{N:Nat}(hr:sH w g m k h lv N)(hk:k<=m)(j:Nat)(hj:j<k):w.cell? ⟨g,j*4+3,none⟩=some (.slice (some ⟨h j,0,none⟩) N N):=by
 obtain⟨F,h1,h2⟩:=hr;rw[h1.cell (by omega),(h2 j hj).2.2.2]
structure pR(M:Nat->Prop)(w:World)(L d E B n N:Nat)(P:Nat->List Tm)(x:PE)(wr:World)(c:Nat->Nat):Prop where
 sz:w.heap.size+3+n<=wr.heap.size
 ext:Ext w wr
 p4:P4 wr w.heap.size x
 row:sH wr (w.heap.size+1) (n+1) (n+1) (λi=>w.heap.size+2+i) x.lv N
 kids:∀i,i<n+1->iO (Mx M w.heap.size (w.heap.size+3+n)) wr d E B (w.heap.size+2+i) N (λj=>if j<c i then ck L (i:Int) (P j)else[]) P
section
variable{M:Nat->Prop}{w wr w':World}{L d E B n N:Nat}{P:Nat->List Tm}{x:PE}{c:Nat->Nat}
theorem pR.grow(h:pR M w L d E B n N P x wr c)(he:Ext wr w'):pR M w L d E B n N P x w' c:=
 ⟨Nat.le_trans h.sz he.size,h.ext.trans he,h.p4.ext he,h.row.ext he,λi hi=>(h.kids i hi).ext he⟩
theorem pR.mb(h:pR M w L d E B n N P x wr c)(hM:Mb M w):Mb (Mx M w.heap.size (w.heap.size+3+n)) wr:=Mx.mb hM h.ext.size h.sz
theorem pR.store(h:pR M w L d E B n N P x wr c)(i:Nat)(hi:i<n+1)(k:Nat)(hk:k<N)(hc:c i=k){e0 e1 e2 e3:Value}(hy:gP (Mx M w.heap.size (w.heap.size+3+n)) wr d E B e0 e1 e2 e3 (ck L (i:Int) (P k)) (P k)):
 pR M w L d E B n N P x (aH wr (w.heap.size+2+i) (k*4) e0 e1 e2 e3) (λj=>if j=i then k+1 else c j):=by
 have lX:Mx M w.heap.size (w.heap.size+3+n) (w.heap.size+2+i):=Mx.at (by omega);refine⟨by rw[lU];exact h.sz,h.ext.aH (by omega) _ _ _ _ _,qnc h.p4 (il _ _ _ _ _ _ _ _ (by omega)),h.row.heap (il _ _ _ _ _ _ _ _ (by omega)),λj hj=>?_⟩
 by_cases jL:j=i
 ·subst jL;refine((h.kids j hj).set lX k hk hy).congr λq hq=>?_;simp only[if_true]
  by_cases h1:q=k
  ·rw[if_pos h1,if_pos (by omega),h1];exact ae.refl _
  ·rw[if_neg h1]
   by_cases h2:q<c j
   ·rw[if_pos h2,if_pos (by omega)];exact ae.refl _
   ·rw[if_neg h2,if_neg (by omega)];exact ae.refl _
 ·simp only[if_neg jL];exact(h.kids j hj).kp (il _ _ _ _ _ _ _ _ (by omega)) (Kp.aH lX _ _ _ _ _)
theorem pR.congr{c':Nat->Nat}(h:pR M w L d E B n N P x wr c)(hc:∀i,i<n+1->c i=c' i):pR M w L d E B n N P x wr c':=
 ⟨h.sz,h.ext,h.p4,h.row,λi hi=>by rw[<-hc i hi];exact h.kids i hi⟩
theorem pR.done{l:List Tm}{E2:Nat}(h:pR M w L d E B n N P x wr c)(hM:Mb M w)(hc:∀i,i<n+1->c i=N)(gI:x.lv=(E:Int)+1)(hE:E+1<=4)(jl:E+1<=E2)(xV:1<=L)(hL:L<=E)(hN:N<=B+1)(LD:N<=1099511627776)(hs:ae (aJ (E+1) N P) l)(hn:aC (aJ (E+1) N P)<=aC l):
 iO (λb=>M b\/b=w.heap.size+1) wr (d+1) E2 B (w.heap.size+1) (n+1) (λi=>ck L (i:Int) l) (λ_=>l):=by
 obtain⟨F,hB,hF⟩:=h.row;refine⟨F,hB,λi hi=>?_⟩;obtain⟨f0,f1,f2,f3⟩:=hF i hi;rw[f0,f1,f2,f3,gI];refine(((h.kids i hi).node (M':=λb=>M b\/b=w.heap.size+1) (r:=l) (λb hb=>.inl (hb.imp id λhb=>by omega)) ?_ hE hN LD hn).wide jl).bZ ?_
 ·rintro(hm|he)
  ·have:=hM _ hm;omega
  ·omega
 ·refine(sZ _ _ _ _ λj hj=>?_).trans ((qrf (N:=N) (P:=P) xV (by omega) hE (by omega) (i:Int)) ▸ gV hs);rw[hc i hi,if_pos hj];exact ae.refl _
end
def SCo(g o h N gz:Nat)(z:PE)(w:World):Prop:=w.cell? ⟨g,o,none⟩=some (.slice (some ⟨h,0,none⟩) N N)/\P4 w gz z
def Ot(M:Nat->Prop)(w:World)(d E B n L:Nat)(l:List Tm)(e:Ending)(w':World):Prop:=∃g,e=.returned (.slice (some ⟨g,0,none⟩) (n+1) (n+1))/\w.heap.size<=g/\iO (λb=>M b\/b=g) w' d E B g (n+1) (λi=>ck L (i:Int) l) (λ_=>l)/\Ext w w'
def WS(L E:Nat):Prop:=∀(d:Nat),E<=d->∀(M:Nat->Prop)(l:List Tm)(x:PE)(n B:Nat)(w:World),Mb M w->aI M w E x l->bn B l->(∀m,aB l m≠0->m.get L<=n)->n+1<=1099511627776->Calls Tryz.prog 120 #[.agg (ah x),.int .i64 (L:Int),.int .i64 (n:Int)] w (Ot M w d E B n L l)
theorem qrB(L:Nat)(xV:1<=L)(wC:L<=4)(E:Nat)(ih:∀E',E'<E->WS L E'):WS L E:=by
 intro d cO M l x n B w hM h hB hn eu;obtain⟨i0,hi,hz0,hz1,hz2⟩:=info_parts Tryz.yo;have aQ:=(Ext.refl w).alloc (.cells (ah x) 33);have bO:=ak.bf w (ah x) 33 4 rfl;obtain⟨x0,x1,x2,x3⟩:=bO.p4
 have oI:w.heap.size+1=(w.alloc (.cells (ah x) 33)).heap.size:=by simp
 have Jn:(n:Int)+1<=1099511627776:=by omega
 have iw:(0:Int)<=(n:Int):=Int.natCast_nonneg _;generalize hW:w.alloc (.cells (ah x) 33)=W at*;have HW:=Lib.hid hW;have gB:=Lib.hid aQ;have Sy:=Lib.hid bO.p4;have HM:=Lib.hid hM;have HX:=Lib.hid h;have oN:=Lib.hid hB;have HN:=Lib.hid hn;have jF:=Lib.hid cO;clear hW aQ bO hM h hB hn cO
 go_enter Tryz.func120,Tryz.ntmps120
 go_upto_region 1 with(fail)
 rw[HW.out]
 go_wp2_with (first|(at_make;refine Nb _ rfl _ _ _ rfl 33 i0 (.agg #[.int .i64 0,.bool false,.slice none 0 0,.slice none 0 0]) 4 Tryz.underlying31 hi hz0 hz1 .i64 .i64 _ _ (n+1) rfl rfl ?c4 ?c5 ?c2 ?c3 ?_))
 case c2=>rw[hz2];omega
 case c3=>unfold maxLen;omega
 case c4=>simp
 case c5=>simp
 have bI:=OA W (n+1) 33;have af:=(Ext.refl W).alloc (.cells (madeCells (Value.agg #[.int .i64 0,.bool false,.slice none 0 0,.slice none 0 0]).cells ((n+1)*4)) 33)
 have dP:(W.alloc (.cells (madeCells (Value.agg #[.int .i64 0,.bool false,.slice none 0 0,.slice none 0 0]).cells ((n+1)*4)) 33)).heap.size=w.heap.size+2:=by simp;omega
 intro w1 hw1;replace hw1:W.alloc (.cells (madeCells (Value.agg #[.int .i64 0,.bool false,.slice none 0 0,.slice none 0 0]).cells ((n+1)*4)) 33)=w1:=hw1.out.symm;rw[hw1]at bI af dP;rw[<-oI]at bI⊢;have Ii:=Lib.hid (Sy.out.ext af);have aL:=Lib.hid (gB.out.trans af);have J5:=Lib.hid bI;clear x0 x1 x2 x3 bI af Sy gB HW oI hw1;obtain⟨x0,x1,x2,x3⟩:=Ii.out
 by_cases h1:x.lv<L
 ·have bT:∀m,aB l m≠0->m.get L=0:=λm hm=>HX.out.qml m hm L h1 wC
  have sF:Hid (∀i,i<n+1->ae (if i=0 then l else[]) (ck L (i:Int) l)):=λi _=>by
   by_cases UQ:i=0
   ·subst UQ;rw[if_pos rfl];exact(qri xV wC bT).symm
   ·rw[if_neg UQ];exact(qrg xV wC (by omega) bT).symm
  have hK0:iO (λb=>M b\/b=w.heap.size+1) w1 d E B (w.heap.size+1) (n+1) (λ_=>[]) (λ_=>l):=iO.fresh J5.out;obtain⟨⟨_,k0⟩,⟨_,k1⟩,⟨_,k2⟩,⟨_,k3⟩,aV,mI⟩:=hK0.at 0 (by omega);have fB:=aV 0;have fo:=aV 1;have lh:=aV 2;have pG:=aV 3;rw[Nat.zero_mul]at k0 k1 k2 k3;simp only[Nat.zero_add]at k1 k2 k3;have hx:gP (λb=>M b\/b=w.heap.size+1) w1 d E B (.int .i64 x.lv) (.bool x.b) (.slice x.a x.n x.p) (.slice x.ka x.kn x.kp) l l:=((gP.qm4 HX.out jF.out oN.out).more (M':=λb=>M b\/b=w.heap.size+1) (λb hb=>hb.imp id λhb=>by omega)).ext aL.out;have HF:Hid (Ot M w d E B n L l (.returned (.slice (some ⟨w.heap.size+1,0,none⟩) (n+1) (n+1))) (aH w1 (w.heap.size+1) (0*4) (.int .i64 x.lv) (.bool x.b) (.slice x.a x.n x.p) (.slice x.ka x.kn x.kp))):=⟨_,rfl,by omega,(hK0.set (.inr rfl) 0 (by omega) hx).congr sF.out,aL.out.aH (by omega) _ _ _ _ _⟩;clear bT hK0 aV hx sF;rw[Nat.zero_mul]at HF;go_wp2;exact bodyPost_ret (v:=.slice (some ⟨w.heap.size+1,0,none⟩) (n+1) (n+1)) (by simp[results,Tryz.results120,go_sem]) rfl HF.out
 ·obtain⟨E',b,off,P,gI,eU,FX,jZ,qbY,lS,lu,qk0,kP,gm,hb,pq,bT,fF,eB,jo,dh⟩:=HX.out.node (by omega);have h1b:decide (x.lv<(L:Int))=false:=decide_eq_false h1
  by_cases h2:x.lv=L
  ·obtain rfl:L=E'+1:=by omega
   have O1:(x.lv==((E'+1:Nat):Int))=true:=by rw[h2];simp
   have hNn:x.kn<=n+1:=by
    obtain⟨q,hq1,hq2⟩:=(qak eU (by omega) bT fF).2.resolve_left (by omega);rw[eB q]at hq1;have:=HN.out q hq1;omega
   obtain⟨xx,GQ⟩:=pick PE.z (n:=x.kn) (Q:=λi y=>eX w b (off+i*4) y/\aI M w E' y (P i)) λi hi=>by
    obtain⟨y,iy,qx,_⟩:=dh i hi;exact⟨y,iy,qx⟩
   have lZ:=BD eU (by omega) bT fF (oN.out.bZ eB.symm)
   have HC:Hid (∀w2,Ext w w2->∀i,i<x.kn->gP (λb=>M b\/b=w.heap.size+1) w2 d E B (.int .i64 (xx i).lv) (.bool (xx i).b) (.slice (xx i).a (xx i).n (xx i).p) (.slice (xx i).ka (xx i).kn (xx i).kp) (P i) l):=λw2 he i hi=>
    (((gP.qm4 ((GQ i hi).2.up (show E'<=E by omega)) jF.out (lZ.2 i hi)).ref (Nat.le_trans (JL (E'+1) x.kn P i hi) jo)).more (M':=λb=>M b\/b=w.heap.size+1) (λb hb=>hb.imp id λhb=>by omega)).ext he
   have HS:Hid (∀i,i<n+1->ae (if i<x.kn then P i else[]) (ck (E'+1) (i:Int) l)):=λi _=>(uk eU bT i).symm.trans (gV eB);have Co:∀j,j<x.kn*4->w1.cell? ⟨b,off+j,none⟩=some (px xx j):=qx3 λi hi=>((GQ i hi).1).ext hb aL.out;have Oa:=Lib.hid Co;clear Co lZ GQ dh bT fF eB jo;rw[lS]at x3
   go_wp2_with (first|(refine qz8 rfl _ _ _ _ rfl 33 Tryz.underlying31 4 ?c1 (n+1) x.kn _ _ (w.heap.size+1) b off rfl rfl hNn 33 fu J5.out (px xx) Oa.out (λj _=>qx5 xx j) ?_))
   intro w2 cZ iI;have aA:Ext w w2:=aL.out.grown iI (λq hq=>by cases hq;omega);have HF:Hid (Ot M w d E B n (E'+1) l (.returned (.slice (some ⟨w.heap.size+1,0,none⟩) (n+1) (n+1))) w2):=⟨_,rfl,by omega,(iO.qxk cZ hNn (HC.out w2 aA)).congr HS.out,aA⟩;clear cZ iI aA HC HS Oa;go_wp2;exact bodyPost_ret (v:=.slice (some ⟨w.heap.size+1,0,none⟩) (n+1) (n+1)) (by simp[results,Tryz.results120,go_sem]) rfl HF.out
  ·have O1:(x.lv==(L:Int))=false:=by simp[h2]
   obtain⟨d',rfl⟩:∃d',d=d'+1:=⟨d-1,by have:=jF.out;omega⟩
   have vE:E'<=d':=by have:=jF.out;omega
   have lZ:=BD eU (by omega) bT fF (oN.out.bZ eB.symm)
   have xg:Hid (∀j,j<x.kn->∃y,eX w b (off+j*4) y/\∀(M':Nat->Prop) W2,Mb M' W2->(∀g,M' g->M g\/w.heap.size<=g)->Ext w W2->Calls Tryz.prog 120 #[.agg (ah y),.int .i64 (L:Int),.int .i64 (n:Int)] W2 (Ot M' W2 d' E' B n L (P j))):=λj hj=>by
    obtain⟨y,iy,qx,_⟩:=dh j hj
    exact⟨y,iy,λM' W2 h1 h2 h3=>ih E' (by omega) d' vE M' (P j) y n B W2 h1 ((qx.more h2).ext h3) (lZ.2 j hj) (λm hm=>by
     have hk:=qcC eU bT hj hm;rw[eB _]at hk;have:=HN.out _ hk;rw[gL,dX _ _ _ (by omega) eU,if_neg (by omega)]at this
     omega) eu⟩
   have RS:Hid (∀wr c,pR M w L d' E' B n x.kn P x wr c->(∀i,i<n+1->c i=x.kn)->Ot M w (d'+1) E B n L l (.returned (.slice (some ⟨w.heap.size+1,0,none⟩) (n+1) (n+1))) wr):=λwr c hc wH=>⟨_,rfl,by omega,hc.done HM.out wH gI eU FX xV (by omega) lZ.1 qk0 eB jo,hc.ext⟩;have hkn:x.kn<=1099511627776:=qk0
   have yf:i0.bytes*x.kn<=281474976710656:=by rw[hz2];omega
   have yN:Hid (sH w1 (w.heap.size+1) (n+1) 0 (λi=>w.heap.size+2+i) x.lv x.kn):=⟨_,J5.out,λi hi=>absurd hi (Nat.not_lt_zero _)⟩;clear lZ dh bT fF eB jo ih HX oN HN jF vE kP gm J5 pq jZ qbY FX;rw[lS]at x3;have AY:=Lib.hid gI;have RG:=Lib.hid yf;have NK:=Lib.hid lS;clear gI lS yf;go_wp2
   go_loopw [18] (λi wr=>∃k:Nat,k<=n+1/\i=.int .i64 k/\wr.heap.size=w.heap.size+2+k/\Hid (Ext w wr)/\Hid (P4 wr w.heap.size x)/\Hid (sH wr (w.heap.size+1) (n+1) k (λi=>w.heap.size+2+i) x.lv x.kn)/\Hid (∀i,i<k->iO (Mx M w.heap.size (w.heap.size+3+n)) wr d' E' B (w.heap.size+2+i) x.kn (λ_=>[]) P)) (λi _=>n+1-(intOf i).toNat)
   case atStart=>exact⟨0,Nat.zero_le _,rfl,dP,aL,Ii,yN,λi hi=>absurd hi (Nat.not_lt_zero _)⟩
   case round=>
    clear x0 x1 x2 x3 dP aL Ii yN;obtain⟨k,hk,rfl,hsz,HE,HP,yN,HK⟩:=hrel
    by_cases hlt:k<n+1
    ·have Gs:(k:Int)<(n:Int)+1:=by omega
     clear xg RS
     go_upto_region 5 with(fail)
     have LG:P4 wr.drew w.heap.size x:=HP.out.ext (Ext.refl wr).drew;have aU:=Lib.hid (HE.out.trans (Ext.refl wr).drew);have qfa:=Lib.hid (yN.out.ext (Ext.refl wr).drew);have kV:Hid (∀i,i<k->iO (Mx M w.heap.size (w.heap.size+3+n)) wr.drew d' E' B (w.heap.size+2+i) x.kn (λ_=>[]) P):=λi hi=>(HK.out i hi).ext (Ext.refl wr).drew;have qcr:wr.drew.heap.size=w.heap.size+2+k:=hsz;clear HE yN HK HP hsz;refine fM (λW=>P4 W w.heap.size x) 10 (by kernel_rfl) LG (λhHeld=>?_);clear LG;generalize wr.drew=wd at*;(refine dF [0,1,2,3,4,5,6] ?_;(iterate 7 (refine dD (v:=?_) ?_ ?_;rotate_left 1;(intro wS hSw;obtain⟨S1,S2,S3,S4⟩:=hSw;go_simp;try with_reducible rfl);(try simp only[Act.put,aD,aF,aG])));refine dG ?_);(refine aK 7 ?_;intro K hK);refine qze _ rfl _ _ _ rfl 33 i0 (.agg #[.int .i64 0,.bool false,.slice none 0 0,.slice none 0 0]) 4 Tryz.underlying31 hi hz0 hz1 .i64 .i64 x.kn rfl rfl RG.out (by unfold maxLen;omega) ?_;have FT:=OA wd x.kn 33;have Lt:=(Ext.refl wd).alloc (.cells (madeCells (Value.agg #[.int .i64 0,.bool false,.slice none 0 0,.slice none 0 0]).cells (x.kn*4)) 33)
     have Mj:(wd.alloc (.cells (madeCells (Value.agg #[.int .i64 0,.bool false,.slice none 0 0,.slice none 0 0]).cells (x.kn*4)) 33)).heap.size=w.heap.size+2+(k+1):=by simp;omega
     rw[qcr]at FT;rw[show wd.heap.size=w.heap.size+2+k from qcr];generalize wd.alloc (.cells (madeCells (Value.agg #[.int .i64 0,.bool false,.slice none 0 0,.slice none 0 0]).cells (x.kn*4)) 33)=W2 at*
     try clear ag
     have ag:P4 W2 w.heap.size x:=hHeld.ext Lt;refine hK.out _ _ (λ_=>ag) ?_;clear hK K;(try simp only[Act.put,aD,aF,aG]);(refine dF [8,9] ?_;(iterate 2 (refine dD (v:=?_) ?_ ?_;rotate_left 1;(intro wS hSw;obtain⟨S1,S2,S3,S4⟩:=hSw;go_simp;try with_reducible rfl);(try simp only[Act.put,aD,aF,aG])));refine dG ?_);have qaS:=qfa.out.ext Lt;obtain⟨⟨_,k0⟩,⟨_,k1⟩,⟨_,k2⟩,⟨_,k3⟩,aV,mI⟩:=qaS.at k hlt;have fB:=aV (k*4);have fo:=aV (k*4+1);have lh:=aV (k*4+2);have pG:=aV (k*4+3);have hne:∀q,q≠w.heap.size+1->(aH W2 (w.heap.size+1) (k*4) (.int .i64 x.lv) (.bool false) (.slice none 0 0) (.slice (some ⟨w.heap.size+2+k,0,none⟩) x.kn x.kn)).heap[q]?=W2.heap[q]?:=λq hq=>il _ _ _ _ _ _ _ _ hq;have qpM:=Lib.hid (qaS.set (lv:=x.lv) (N:=x.kn) (h:=λi=>w.heap.size+2+i));have lX:Mx M w.heap.size (w.heap.size+3+n) (w.heap.size+1):=Mx.at (by omega)
     have Sb:Hid (∀i,i<k+1->iO (Mx M w.heap.size (w.heap.size+3+n)) (aH W2 (w.heap.size+1) (k*4) (.int .i64 x.lv) (.bool false) (.slice none 0 0) (.slice (some ⟨w.heap.size+2+k,0,none⟩) x.kn x.kn)) d' E' B (w.heap.size+2+i) x.kn (λ_=>[]) P):=λi hi=>by
      by_cases gH:i=k
      ·subst gH;exact iO.fresh (FT.of_heap (hne _ (by omega)))
      ·exact((kV.out i (by omega)).ext Lt).kp (hne _ (by omega)) (Kp.aH lX _ _ _ _ _)
     have Fs:Hid (P4 (aH W2 (w.heap.size+1) (k*4) (.int .i64 x.lv) (.bool false) (.slice none 0 0) (.slice (some ⟨w.heap.size+2+k,0,none⟩) x.kn x.kn)) w.heap.size x):=qnc ag (hne _ (by omega));have fV:Hid (Ext w (aH W2 (w.heap.size+1) (k*4) (.int .i64 x.lv) (.bool false) (.slice none 0 0) (.slice (some ⟨w.heap.size+2+k,0,none⟩) x.kn x.kn))):=(aU.out.trans Lt).aH (by omega) _ _ _ _ _
     have Jq:(aH W2 (w.heap.size+1) (k*4) (.int .i64 x.lv) (.bool false) (.slice none 0 0) (.slice (some ⟨w.heap.size+2+k,0,none⟩) x.kn x.kn)).heap.size=w.heap.size+2+(k+1):=by rw[lU];exact Mj
     clear qaS aV hne lX FT Lt Mj qfa kV aU;((refine aK 10 ?_;intro K hK);go_simp;(refine hK.out _ _ (λh=>absurd rfl h) ?_);clear hK K;refine ek ?_);clear hHeld ag;go_wp2
     go_roundw
     case rel=>exact⟨k+1,by omega,by go_num,Jq,fV,Fs,qpM,Sb⟩
     case measure=>simp[intOf];omega
    ·have qbL:k=n+1:=by omega
     have iZ:¬(k:Int)<(n:Int)+1:=by omega
     have HI:Hid (pR M w L d' E' B n x.kn P x wr (λ_=>0)):=⟨by omega,HE.out,HP.out,by rw[<-qbL];exact qbL ▸ yN.out,λi hi=>(HK.out i (by omega)).congr λj _=>by rw[if_neg (Nat.not_lt_zero _)];exact ae.refl _⟩;obtain⟨x0,x1,x2,x3⟩:=HP.out;rw[NK.out]at x3;clear HE HP yN HK hsz hlt RG hkn hk qbL;go_wp2
     go_loopw [35] (λj wr=>∃k:Nat,k<=x.kn/\j=.int .i64 k/\Hid (pR M w L d' E' B n x.kn P x wr (λ_=>k))) (λj _=>x.kn-(intOf j).toNat)
     case atStart=>exact⟨0,Nat.zero_le _,rfl,HI⟩
     case round=>
      clear HI x0 x1 x2 x3;obtain⟨k,hk,rfl,HI⟩:=hrel
      by_cases hlt:k<x.kn
      ·obtain⟨y,hy,Gc⟩:=xg.out k hlt;obtain⟨c0,c1,c2,c3⟩:=hy.ext hb HI.out.ext;have iH:b<wr.heap.size:=Nat.lt_of_lt_of_le hb HI.out.ext.size;have aN:=(Ext.refl wr).alloc (.cells (ah y) 33)
       have Gs:(k:Int)<(x.kn:Int):=by omega
       have aO:=Lib.hid (Gc (Mx M w.heap.size (w.heap.size+3+n)) _ ((HI.out.mb HM.out).ext aN) (Mx.more (Nat.le_refl _)) (HI.out.ext.trans aN));have dW:=Lib.hid aN;clear Gc aN hy RS;go_wp2_with (fail);refine aO.out.mono ?_;rintro e w2 ⟨g2,rfl,iI,Lu,aA⟩;have yL:=Lib.hid (HI.out.grow (dW.out.trans aA));have kV:=Lib.hid Lu;have qub:w.heap.size+3+n<=g2:=Nat.le_trans HI.out.sz (Nat.le_trans dW.out.size iI);clear aO Lu aA iI dW HI c0 c1 c2 c3 iH;go_wp2
       go_loopw [45] (λj wq=>∃i:Nat,i<=n+1/\j=.int .i64 i/\Hid (pR M w L d' E' B n x.kn P x wq (λq=>if q<i then k+1 else k))/\Hid (iO (λb=>Mx M w.heap.size (w.heap.size+3+n) b\/b=g2) wq d' E' B g2 (n+1) (λi=>ck L (i:Int) (P k)) (λ_=>P k))) (λj _=>n+1-(intOf j).toNat)
       case atStart=>exact⟨0,Nat.zero_le _,rfl,yL.out.congr (λi _=>by rw[if_neg (Nat.not_lt_zero _)]),kV⟩
       case round=>
        clear yL kV;obtain⟨i,hiN,rfl,HI,HK⟩:=hrel
        by_cases nU:i<n+1
        ·obtain⟨z,hz,hzc⟩:=HK.out.cells i nU;obtain⟨c0,c1,c2,c3⟩:=hz;have zU:g2<wr.heap.size:=HK.out.lt
         have qB9:(i:Int)<(n:Int)+1:=by omega
         have hP5:=(ak.bf wr (ah z) 33 4 rfl).p4;have Ux:=(Ext.refl wr).alloc (.cells (ah z) 33);have XQ:=Lib.hid (HI.out.grow Ux);have lJ:=Lib.hid (HK.out.ext Ux);have KE:Hid (gP (Mx M w.heap.size (w.heap.size+3+n)) (wr.alloc (.cells (ah z) 33)) d' E' B (.int .i64 z.lv) (.bool z.b) (.slice z.a z.n z.p) (.slice z.ka z.kn z.kp) (ck L (i:Int) (P k)) (P k)):=(hzc.more (M':=Mx M w.heap.size (w.heap.size+3+n)) (λb hb=>.inl (.inl hb))).ext Ux;clear HI HK hzc Ux
         go_upto_region 13 with(fail)
         generalize Cb:wr.heap.size=gz at*;generalize wr.alloc (.cells (ah z) 33)=W5 at*;have iE:SCo (w.heap.size+1) (i*4+3) (w.heap.size+2+i) x.kn gz z W5.drew:=⟨(XQ.out.row.c3 (Nat.le_refl _) i nU),hP5⟩;have XR:=Lib.hid (XQ.out.grow (Ext.refl W5).drew);have HK6:=Lib.hid (lJ.out.ext (Ext.refl W5).drew);have KF:=Lib.hid (KE.out.ext (Ext.refl W5).drew);clear XQ lJ KE hP5 c0 c1 c2 c3;refine fM (SCo (w.heap.size+1) (i*4+3) (w.heap.size+2+i) x.kn gz z) 8 (by kernel_rfl) iE (λhHeld=>?_);clear iE;generalize W5.drew=wd at*
         have Er:(k:Int)<(x.kn:Int):=by omega
         (refine dF [0,1,2,3,4,5,6,7] ?_;(iterate 8 (refine dD (v:=?_) ?_ ?_;rotate_left 1;(intro wS hSw;obtain⟨S0,S1,S2,S3,S4⟩:=hSw;go_simp;try with_reducible rfl);(try simp only[Act.put,aD,aF,aG])));refine dG ?_);obtain⟨⟨_,k0⟩,⟨_,k1⟩,⟨_,k2⟩,⟨_,k3⟩,aV,mI⟩:=(XR.out.kids i nU).at k hlt;have fB:=aV (k*4);have fo:=aV (k*4+1);have lh:=aV (k*4+2);have pG:=aV (k*4+3)
         have HI7:Hid (pR M w L d' E' B n x.kn P x (aH wd (w.heap.size+2+i) (k*4) (.int .i64 z.lv) (.bool z.b) (.slice z.a z.n z.p) (.slice z.ka z.kn z.kp)) (λq=>if q<i+1 then k+1 else k)):=by
          refine(XR.out.store i nU k hlt (by rw[if_neg (Nat.lt_irrefl _)]) KF.out).congr λq hq=>?_
          by_cases h3:q=i
          ·rw[if_pos h3,if_pos (by omega)]
          ·rw[if_neg h3]
           by_cases h4:q<i
           ·rw[if_pos h4,if_pos (by omega)]
           ·rw[if_neg h4,if_neg (by omega)]
         have Ig:Hid (iO (λb=>Mx M w.heap.size (w.heap.size+3+n) b\/b=g2) (aH wd (w.heap.size+2+i) (k*4) (.int .i64 z.lv) (.bool z.b) (.slice z.a z.n z.p) (.slice z.ka z.kn z.kp)) d' E' B g2 (n+1) (λi=>ck L (i:Int) (P k)) (λ_=>P k)):=HK6.out.kp (il _ _ _ _ _ _ _ _ (by omega)) (Kp.aH (.inl (Mx.at (by omega))) _ _ _ _ _);clear aV XR HK6 KF;((refine aK 8 ?_;intro K hK);go_simp;(refine hK.out _ _ (λh=>absurd rfl h) ?_);clear hK K;refine ek ?_);clear hHeld
         try clear ag
         go_wp2
         go_roundw
         case rel=>exact⟨i+1,by omega,by go_num,HI7,Ig⟩
         case measure=>simp[intOf];omega
        ·obtain rfl:i=n+1:=by omega
         have R8:Hid (pR M w L d' E' B n x.kn P x wr (λ_=>k+1)):=HI.out.congr λq hq=>by rw[if_pos hq]
         clear HI HK;go_wp2
         go_roundw
         case rel=>exact⟨k+1,by omega,by go_num,R8⟩
         case measure=>simp[intOf];omega
      ·obtain rfl:k=x.kn:=by omega
       have HF:=Lib.hid (RS.out _ _ HI.out λ_ _=>rfl);clear HI xg RS;go_wp2;exact bodyPost_ret (v:=.slice (some ⟨w.heap.size+1,0,none⟩) (n+1) (n+1)) (by simp[results,Tryz.results120,go_sem]) rfl HF.out
theorem qwK(L:Nat)(xV:1<=L)(wC:L<=4)(E:Nat):WS L E:=by
 induction E using Nat.strongRecOn with
 |_ E ih=>exact qrB L xV wC E λE' hE=>ih E' hE
theorem mO{M:Nat->Prop}{w:World}{g:Nat}(h:Mb M w)(hg:g<w.heap.size):Mb (λb=>M b\/b=g) w:=λb hb=>hb.elim (h b) λe=>by rw[e];exact hg
def rD(M:Nat->Prop)(w:World)(B g N k:Nat)(S:Nat->List Tm)(R:List Tm):Prop:=∃f,ak w g 33 (N*4) f/\∀i,i<N->(i<k->CR M w 4 (f (i*4)) (f (i*4+1)) (f (i*4+2)) (f (i*4+3)) (S i))/\(k<=i->gP M w 4 4 B (f (i*4)) (f (i*4+1)) (f (i*4+2)) (f (i*4+3)) (S i) R)
section
variable{M:Nat->Prop}{w w':World}{B g N k:Nat}{S:Nat->List Tm}{R:List Tm}
theorem rD.ext(h:rD M w B g N k S R)(he:Ext w w'):rD M w' B g N k S R:=by
 obtain⟨f,h1,h2⟩:=h;exact⟨f,h1.ext he,λi hi=>⟨λh=>((h2 i hi).1 h).ext he,λh=>((h2 i hi).2 h).ext he⟩⟩
theorem rD.start(h:iO M w 4 4 B g N S (λ_=>R)):rD M w B g N 0 S R:=by
 obtain⟨f,h1,h2⟩:=h;exact⟨f,h1,λi hi=>⟨λh=>absurd h (Nat.not_lt_zero _),λ_=>h2 i hi⟩⟩
theorem rD.done(h:rD M w B g N N S R):Kids M w 4 g N S:=by
 obtain⟨f,h1,h2⟩:=h;exact⟨f,h1,λi hi=>(h2 i hi).1 hi⟩
theorem rD.at(h:rD M w B g N k S R)(j:Nat)(hj:j<N):(∃e,w.cell? ⟨g,j*4,none⟩=some e)/\(∃e,w.cell? ⟨g,j*4+1,none⟩=some e)/\(∃e,w.cell? ⟨g,j*4+2,none⟩=some e)/\(∃e,w.cell? ⟨g,j*4+3,none⟩=some e)/\(∀o,w.frozen? ⟨g,o,none⟩=false)/\g<w.heap.size:=by
 obtain⟨f,h1,h2⟩:=h;exact⟨⟨_,h1.cell (by omega)⟩,⟨_,h1.cell (by omega)⟩,⟨_,h1.cell (by omega)⟩,⟨_,h1.cell (by omega)⟩,h1.frozen,h1.lt⟩
theorem rD.next(h:rD M w B g N k S R)(hk:k<N):∃y:PE,eX w g (k*4) y/\gP M w 4 4 B (.int .i64 y.lv) (.bool y.b) (.slice y.a y.n y.p) (.slice y.ka y.kn y.kp) (S k) R:=by
 obtain⟨f,hB,hc⟩:=h;have hx:=(hc k hk).2 (Nat.le_refl _);obtain⟨x,e0,e1,e2,e3⟩:=hx.pe;rw[e0,e1,e2,e3]at hx;refine⟨x,⟨?_,?_,?_,?_⟩,hx⟩
 ·rw[hB.cell (by omega),e0]
 ·rw[hB.cell (by omega),e1]
 ·rw[hB.cell (by omega),e2]
 ·rw[hB.cell (by omega),e3]
theorem rD.set(h:rD M w B g N k S R)(hg:M g)(hk:k<N){e0 e1 e2 e3:Value}(hc:CR M w 4 e0 e1 e2 e3 (S k)):rD M (aH w g (k*4) e0 e1 e2 e3) B g N (k+1) S R:=by
 obtain⟨f,h1,h2⟩:=h;refine⟨_,h1.aH (k*4) e0 e1 e2 e3,λi hi=>?_⟩;have aZ:Kp M w (aH w g (k*4) e0 e1 e2 e3):=Kp.aH hg _ _ _ _ _
 by_cases jL:i=k
 ·subst jL;rw[Cy,Cz,CB,CV];exact⟨λ_=>hc.kp aZ,λh=>by omega⟩
 ·rw[rZ _ _ _ _ _ _ _ (by omega),rZ _ _ _ _ _ _ _ (by omega),rZ _ _ _ _ _ _ _ (by omega),rZ _ _ _ _ _ _ _ (by omega)];exact⟨λh=>((h2 i hi).1 (by omega)).kp aZ,λh=>((h2 i hi).2 (by omega)).kp aZ⟩
end
def KN(M:Nat->Prop)(w:World)(l:List Tm)(L:Int)(e:Ending)(w':World):Prop:=
 ((ae l []/\e=.returned (.slice none 0 0))\/(¬ae l []/\¬(1<=L/\L<=4)/\∃g,e=.returned (.slice (some ⟨g,0,none⟩) 1 1)/\w.heap.size<=g/\Kids (λb=>M b\/b=g) w' 4 g 1 (λ_=>l))\/
  (¬ae l []/\∃K n g:Nat,L=K/\1<=K/\K<=4/\e=.returned (.slice (some ⟨g,0,none⟩) (n+1) (n+1))/\w.heap.size<=g/\bD K l n/\Kids (λb=>M b\/b=g) w' 4 g (n+1) (λi=>ck K (i:Int) l)))/\Ext w w'
theorem VB(M:Nat->Prop)(x:PE)(l:List Tm)(L:Int)(B:Nat)(w:World)(hM:Mb M w)(h:PI M w x l)(hB:bn B l)(kv:(B+1)^4<=1099511627776)(cZ:B+1<=1073741824)(hR:az (aC l)<=1099511627776):Calls Tryz.prog 60 #[.agg (ah x),.int .i64 L] w (KN M w l L):=by
 have hE:=(Ext.refl w).alloc (.cells (ah x) 33);have je:=ak.bf w (ah x) 33 4 rfl;have eG:Mb (Mx M w.heap.size (w.heap.size+1)) (w.alloc (.cells (ah x) 33)):=Mx.mb hM (by simp) (by simp);have h2:=(h.more (M':=Mx M w.heap.size (w.heap.size+1)) (Mx.more (Nat.le_refl _))).ext hE;have HI:=Lib.hid h2;have oN:=Lib.hid hB;have tL:=Lib.hid kv;have HR:=Lib.hid hR;have fH:=Lib.hid cZ;clear h h2 hB kv hR cZ
 go_enter Tryz.func60,Tryz.ntmps60
 go_wp2_with (fail);refine(Ha _ x l _ eG HI.out).mono ?_;rintro e w1 ⟨y,rfl,hy,af⟩;have ig:=hE.trans af;have bM:=je.ext af;have jf:=eG.ext af;obtain⟨⟨q0,q1,q2,q3⟩,⟨f0,f1,f2,f3⟩,⟨r0,r1,r2,r3⟩,hk,hf⟩:=BI (M':=Mx M w.heap.size (w.heap.size+1)) (w:=w) (.int .i64 y.lv) (.bool y.b) (.slice y.a y.n y.p) (.slice y.ka y.kn y.kp) bM (Mx.at (by omega)) (Nat.le_refl _) ig;have HY:=Lib.hid (hy.kp hk);have vv:Mb (Mx M w.heap.size (w.heap.size+1)) (aH w1 w.heap.size 0 (.int .i64 y.lv) (.bool y.b) (.slice y.a y.n y.p) (.slice y.ka y.kn y.kp)):=jf.size hk.1;have Gq:=bM.lt;have Cf:w.heap.size<(aH w1 w.heap.size 0 (.int .i64 y.lv) (.bool y.b) (.slice y.a y.n y.p) (.slice y.ka y.kn y.kp)).heap.size:=Nat.lt_of_lt_of_le Gq hk.1;clear q0 q1 q2 q3;obtain⟨q0,q1,q2,q3⟩:=bM.p4;generalize hW:aH w1 w.heap.size 0 (.int .i64 y.lv) (.bool y.b) (.slice y.a y.n y.p) (.slice y.ka y.kn y.kp)=W at r0 r1 r2 r3 hf HY vv Cf;unfold aH at hW;have HW:=Lib.hid hW;have Dj:=Lib.hid hf;have HM:=Lib.hid vv;have HP:Hid (P4 W w.heap.size y):=⟨r0,r1,r2,r3⟩;clear je eG af hE bM jf hy HI hk hf vv ig hW Gq hM
 go_upto_region 2 with(fail)
 rw[HW.out];clear q0 q1 q2 q3 f0 f1 f2 f3 HW;have CZ:=Lib.hid (ES _ y l W HM.out HY.out.pi);go_wp2_with (fail);refine CZ.out.mono ?_;rintro e w2 ⟨bz,rfl,rJ,aA⟩;have aU:=Lib.hid (Dj.out.trans aA);have jE:=Lib.hid rJ;have qd:=Lib.hid (HY.out.ext aA);have iR:=Lib.hid (HP.out.ext aA);have jb:=Lib.hid (HM.out.ext aA);clear rJ aA CZ Dj HY HP r0 r1 r2 r3 HM Cf
 cases bz with
 |true=>
  have HF:Hid (KN M w l L (.returned (.slice none 0 0)) w2):=⟨.inl ⟨jE.out.1 rfl,rfl⟩,aU.out⟩;clear jE aU qd iR;go_wp2;exact bodyPost_ret (v:=.slice none 0 0) (by simp[results,Tryz.results60,go_sem]) rfl HF.out
 |false=>
  have HZ:Hid (¬ae l []):=λhs=>by have:=jE.out.2 hs;cases this
  clear jE;have CL:=Lib.hid (VC L w2);go_wp2_with (fail);refine CL.out.mono ?_;rintro e w3 ⟨rfl,rfl⟩
  by_cases hl:1<=L/\L<=4
  ·have nT:ja L=true:=by unfold ja;simp[hl]
   obtain⟨J,rfl⟩:∃J:Nat,L=J:=⟨L.toNat,by omega⟩;have HK:Hid (1<=J/\J<=4):=⟨by omega,by omega⟩;have qkN:=World.block_lt_of_cell? _ _ iR.out.1;have YY:=Lib.hid (qd.out.ext (Ext.refl w2).drew);have uQ:=Lib.hid (jb.out.ext (Ext.refl w2).drew);have eP:=Lib.hid (aU.out.trans (Ext.refl w2).drew);have I7:=iR.out.ext (Ext.refl w2).drew;clear hl CL aU iR qd jb
   go_upto_region 6 with(fail)
   refine fM (λW=>P4 W w.heap.size y) 7 (by kernel_rfl) I7 (λhHeld=>?_);clear I7;generalize w2.drew=wd at*;(refine dF [0,1,2,3] ?_;(iterate 4 (refine dD (v:=?_) ?_ ?_;rotate_left 1;(intro wS hSw;obtain⟨S1,S2,S3,S4⟩:=hSw;go_simp;try with_reducible rfl);(try simp only[Act.put,aD,aF,aG])));refine dG ?_);((refine aK 4 ?_;intro K hK);go_simp;(refine(qmp J HK.out.1 HK.out.2 4 _ l y _ YY.out).mono ?_);rintro e_ w4 ⟨n,rfl,hn,eu,e4⟩;go_wp2_with (fail);(try clear ag);(have ag:=hHeld.ext e4);(refine hK.out _ _ (λ_=>ag) ?_);clear hK K;(try simp only[Act.put,aD,aF,aG]))
   have Jm:n<=B:=by
    rcases hn.2 with h0|⟨m,hm,hg⟩
    ·omega
    ·have:=oN.out m hm J;omega
   have hB2':=fH.out;have jw:=Lib.hid hn
   have Jn:(n:Int)+1<=1099511627776:=by omega
   ((refine aK 5 ?_;intro K hK);go_simp;(refine(qwK J HK.out.1 HK.out.2 4 4 (Nat.le_refl _) _ l y n B _ (uQ.out.ext e4) (YY.out.ext e4) oN.out jw.out.1 (by omega)).mono ?_);rintro e_ w5 ⟨g,rfl,hg,wM,e5⟩;go_wp2_with (fail);(try clear ag);(have ag:=hHeld.ext (e4.trans e5));(refine hK.out _ _ (λ_=>ag) ?_);clear hK K;(try simp only[Act.put,aD,aF,aG]));(refine dF [6] ?_;(iterate 1 (refine dD (v:=?_) ?_ ?_;rotate_left 1;(intro wS hSw;obtain⟨S1,S2,S3,S4⟩:=hSw;go_simp;try with_reducible rfl);(try simp only[Act.put,aD,aF,aG])));refine dG ?_);refine ek ?_;have HX:Hid (rD (λb=>Mx M w.heap.size (w.heap.size+1) b\/b=g) w5 B g (n+1) 0 (λi=>ck J (i:Int) l) l):=rD.start wM;have eD:=Lib.hid (eP.out.trans (e4.trans e5));have zU:w.heap.size<g:=Nat.lt_of_lt_of_le (uQ.out.ext e4 _ (Mx.at ⟨Nat.le_refl _,Nat.lt_succ_self _⟩)) hg;have dL:=Lib.hid (mO ((uQ.out.ext e4).ext e5) wM.lt);clear hHeld ag wM e4 e5 hg hn eu YY uQ eP oN Jm qkN nT;go_wp2
   go_loopw [26] (λi wr=>∃k:Nat,k<=n+1/\i=.int .i64 k/\Hid (rD (λb=>Mx M w.heap.size (w.heap.size+1) b\/b=g) wr B g (n+1) k (λi=>ck J (i:Int) l) l)/\Hid (Ext w wr)/\Hid (Mb (λb=>Mx M w.heap.size (w.heap.size+1) b\/b=g) wr)) (λi _=>n+1-(intOf i).toNat)
   case atStart=>exact⟨0,Nat.zero_le _,rfl,HX,eD,dL⟩
   case round=>
    clear HX eD dL;obtain⟨k,hk,rfl,HX,HE,dL⟩:=hrel
    by_cases hlt:k<n+1
    ·have Gs:(k:Int)<(n:Int)+1:=by omega
     have XZ:=Lib.hid hlt;obtain⟨z,⟨c0,c1,c2,c3⟩,hz⟩:=HX.out.next hlt;have pI:g<wr.heap.size:=(HX.out.at k hlt).2.2.2.2.2;have CN:=Lib.hid (Ha _ z _ wr dL.out (hz.pi (by omega) tL.out (by omega) HR.out));clear hz;go_wp2_with (fail);refine CN.out.mono ?_;rintro e w6 ⟨v,rfl,hv,fe⟩;have hX6:=HX.out.ext fe;obtain⟨⟨_,k0⟩,⟨_,k1⟩,⟨_,k2⟩,⟨_,k3⟩,aV,dU⟩:=hX6.at k hlt;have fB:=aV (k*4);have fo:=aV (k*4+1);have lh:=aV (k*4+2);have pG:=aV (k*4+3);have HX7:=Lib.hid (hX6.set (.inr rfl) hlt hv);have iB:=Lib.hid ((HE.out.trans fe).aH (g:=g) (by omega) (k*4) (.int .i64 v.lv) (.bool v.b) (.slice v.a v.n v.p) (.slice v.ka v.kn v.kp));have Dn:Hid (Mb (λb=>Mx M w.heap.size (w.heap.size+1) b\/b=g) (aH w6 g (k*4) (.int .i64 v.lv) (.bool v.b) (.slice v.a v.n v.p) (.slice v.ka v.kn v.kp))):=(dL.out.ext fe).size (by rw[lU];exact Nat.le_refl _);clear hX6 aV hv fe CN HX HE dL c0 c1 c2 c3 pI;go_wp2
     go_roundw
     case rel=>exact⟨k+1,XZ.out,by go_num,HX7,iB,Dn⟩
     case measure=>have:=XZ.out;simp[intOf];omega
    ·have hkn:k=n+1:=by omega
     have iZ:¬(k:Int)<(n:Int)+1:=by omega
     have HF:Hid (KN M w l J (.returned (.slice (some ⟨g,0,none⟩) (n+1) (n+1))) wr):=by
      refine⟨.inr (.inr ⟨HZ.out,J,n,g,rfl,HK.out.1,HK.out.2,rfl,by omega,jw.out,?_⟩),HE.out⟩;have h5:=HX.out;rw[hkn]at h5;exact h5.done.more λb hb=>hb.elim (λh=>.inl (.inl (.inl h))) (λh=>.inl (.inr h))
     clear HX HE dL hkn;go_wp2;exact bodyPost_ret (v:=.slice (some ⟨g,0,none⟩) (n+1) (n+1)) (by simp[results,Tryz.results60,go_sem]) rfl HF.out
  ·have nT:ja L=false:=by unfold ja;simp only[decide_eq_false_iff_not];exact hl
   have qkN:=World.block_lt_of_cell? _ _ iR.out.1;obtain⟨r0,r1,r2,r3⟩:=iR.out;have bI:=ak.bf w2 (ah y) 33 4 rfl;have hEk:=(Ext.refl w2).alloc (.cells (ah y) 33)
   have HF:Hid (KN M w l L (.returned (.slice (some ⟨w2.heap.size,0,none⟩) 1 1)) (w2.alloc (.cells (ah y) 33))):=by
    refine⟨.inr (.inl ⟨HZ.out,hl,_,rfl,aU.out.size,?_⟩),aU.out.trans hEk⟩;refine⟨_,bI,λi hi=>?_⟩
    obtain rfl:i=0:=by omega
    exact((qd.out.more (M':=λb=>M b\/b=w2.heap.size) (λb hb=>hb.elim (λh=>.inl (.inl h)) (λh=>.inr (by omega)))).ext hEk:aI (λb=>M b\/b=w2.heap.size) _ 4 y l)
   clear bI hEk aU qd iR hl HZ CL jb;go_wp2;exact bodyPost_ret (v:=.slice (some ⟨w2.heap.size,0,none⟩) 1 1) (by simp[results,Tryz.results60,go_sem]) rfl HF.out
end Go.Proofs.YtmcfpnmoklnhoaaGreat
