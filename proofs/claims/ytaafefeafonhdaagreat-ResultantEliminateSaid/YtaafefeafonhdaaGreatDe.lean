/- De -/
import Derived.Test.YtaafefeafonhdaaGreatBj
set_option linter.unusedVariables false
set_option maxRecDepth 100000
set_option maxHeartbeats 400000000
set_option linter.unusedSimpArgs false
namespace Go.Proofs.YtaafefeafonhdaaGreat
open Go.RowKit
structure SE where
 a:Option Addr
 n:Nat
 p:Nat
 l:List Tm
instance:Inhabited SE:=⟨⟨none,0,0,[]⟩⟩
def sv(x:SE):Value:=.slice x.a x.n x.p
def sx(x:Nat->SE):Nat->Value:=λi=>sv (x i)
def JO(M:Nat->Prop)(w:World)(g cap n:Nat)(y:Nat->SE):Prop:=∃F,au w g 36 cap F/\(∀j,j<n->F j=sv (y j))/\∀i,i<n->eU M w (sv (y i)) (y i).l/\aF (aB (y i).l)<=1099511627776
theorem JO.ext{M:Nat->Prop}{w w':World}{g cap n:Nat}{y:Nat->SE}(h:JO M w g cap n y)(he:Ext w w'):JO M w' g cap n y:=by
 obtain⟨F,h1,h2,h3⟩:=h;exact⟨F,h1.ext he,h2,λi hi=>⟨(h3 i hi).1.ext he,(h3 i hi).2⟩⟩
theorem JO.cell{M:Nat->Prop}{w:World}{g cap n:Nat}{y:Nat->SE}(h:JO M w g cap n y)(hn:n<=cap)(i:Nat)(hi:i<n):w.cell? ⟨g,i,none⟩=some (.slice (y i).a (y i).n (y i).p):=by
 obtain⟨F,h1,h2,h3⟩:=h;rw[h1.cell (by omega),h2 i hi];rfl
def JQ(n:Nat)(y x:Nat->SE):Prop:=(∀i,i<n->∃j,j<n/\y i=x j)/\∀j,j<n->∃i,i<n/\y i=x j
theorem JQ.refl(n:Nat)(y:Nat->SE):JQ n y y:=⟨λi hi=>⟨i,hi,rfl⟩,λi hi=>⟨i,hi,rfl⟩⟩
def qbb(T:List Tm->Prop)(n:Nat):Prop:=∀(M:Nat->Prop)(w:World)(g cap:Nat)(y:Nat->SE),Mb M w->M g->n<=cap->JO M w g cap n y->(∀i,i<n->T (y i).l)->
 Calls Tryz.prog 57 #[.slice (some ⟨g,0,none⟩) n cap,.func (.func 58) #[] #[]] w λe w'=>e=.returned (.tuple #[])/\
  ∃y',JO M w' g cap n y'/\JQ n y' y/\(∀i j,i<j->j<n->fI (norm (y' i).l) (norm (y' j).l)<=0)/\w.grownBy w' (some g)
theorem qkm(M:Nat->Prop)(x y:SE)(w:World)(hM:Mb M w)(h:eU M w (sv x) x.l)(h':eU M w (sv y) y.l)(hL:aF (aB x.l)<=1099511627776)(si:aF (aB y.l)<=1099511627776):Calls Tryz.prog 58 #[.slice x.a x.n x.p,.slice y.a y.n y.p] w λe w'=>e=.returned (.int .i64 (fI (norm x.l) (norm y.l)))/\Ext w w':=by
 have CT:=ae (qrd M _ _ _ _ w hM h h' hL si);clear h h'
 go_enter Tryz.func58,Tryz.ntmps58
 go_wp2_with (fail);refine CT.out.mono ?_;rintro e w1 ⟨rfl,ah⟩;go_wp2;go_ret;exact⟨rfl,ah⟩
theorem qzz(fv:Value)(w:World):Calls Tryz.prog 120 #[.slice none 0 0,.int .i64 0,.int .i64 0,fv] w λe w'=>e=.returned (.tuple #[])/\w=w':=by
 go_enter Tryz.func120,Tryz.ntmps120
 go_wp2;refine wp_loop_rounds 1 ?_;rw[rounds_succ];go_wp2
 go_end0
 exact⟨rfl,rfl⟩
theorem qBF(fv:Value)(w:World):Calls Tryz.prog 94 #[.slice none 0 0,.int .i64 0,.int .i64 0,.int .i64 0,fv] w λe w'=>e=.returned (.tuple #[])/\w=w':=by
 go_enter Tryz.func94,Tryz.ntmps94
 go_wp2;refine wp_loop_rounds 1 ?_;rw[rounds_succ];go_wp2_with (fail);refine(qzz fv w).mono ?_;rintro e w1 ⟨rfl,rfl⟩;go_wp2;refine aV (results_none rfl _ _ _) rfl ?_;exact⟨rfl,rfl⟩
theorem qwq(fv:Value)(w:World):Calls Tryz.prog 57 #[.slice none 0 0,fv] w λe w'=>e=.returned (.tuple #[])/\w=w':=by
 have hb:=Vn 0 w (by omega)
 have h0:Lib.bitLen 0=0:=by decide
 rw[h0]at hb;have hwr:IntKind.u64.wrap ((0:Nat):Int)=(0:Nat):=Yq 0 (by omega);have HB:=ae hb;clear hb h0
 go_enter Tryz.func57,Tryz.ntmps57
 go_wp2_with (fail);refine HB.out.mono ?_;rintro e w1 ⟨rfl,rfl⟩;go_wp2_with (fail);refine(qBF fv _).mono ?_;rintro e w2 ⟨rfl,rfl⟩;go_wp2
 go_end0
 exact⟨rfl,rfl⟩
def MN(g:Nat)(x y:SE)(w:World):Prop:=w.cell? ⟨g,0,none⟩=some (.slice x.a x.n x.p)/\w.cell? ⟨g,1,none⟩=some (.slice y.a y.n y.p)
theorem MN.ext{g:Nat}{x y:SE}{w w':World}(h:MN g x y w)(he:Ext w w'):MN g x y w':=by
 have hb:=dM _ _ h.1;unfold MN;rw[he.cell hb,he.cell hb];exact h
theorem qzE(g cap:Nat)(fv:Value)(w:World):Calls Tryz.prog 120 #[.slice (some ⟨g,0,none⟩) 1 cap,.int .i64 0,.int .i64 1,fv] w λe w'=>e=.returned (.tuple #[])/\Ext w w':=by
 go_enter Tryz.func120,Tryz.ntmps120
 go_wp2;refine wp_loop_rounds 1 ?_;rw[rounds_succ];go_wp2
 go_end0
 exact⟨rfl,ai _⟩
theorem qzG(g cap:Nat)(fv:Value)(w:World):Calls Tryz.prog 120 #[.slice (some ⟨g,0,none⟩) 0 cap,.int .i64 0,.int .i64 0,fv] w λe w'=>e=.returned (.tuple #[])/\Ext w w':=by
 go_enter Tryz.func120,Tryz.ntmps120
 go_wp2;refine wp_loop_rounds 1 ?_;rw[rounds_succ];go_wp2
 go_end0
 exact⟨rfl,ai _⟩
theorem qzF(M:Nat->Prop)(g cap:Nat)(x y:SE)(w:World)(hM:Mb M w)(hS:MN g x y w)(h:eU M w (sv x) x.l)(h':eU M w (sv y) y.l)(hL:aF (aB x.l)<=1099511627776)(si:aF (aB y.l)<=1099511627776)(he:norm x.l=norm y.l):
 Calls Tryz.prog 120 #[.slice (some ⟨g,0,none⟩) 2 cap,.int .i64 0,.int .i64 2,.func (.func 58) #[] #[]] w λe w'=>e=.returned (.tuple #[])/\Ext w w':=by
 have hz:fI (norm y.l) (norm x.l)=0:=(JZ _ _).2 he.symm
 have CT:Hid (∀W,Ext w W->Calls Tryz.prog 58 #[.slice y.a y.n y.p,.slice x.a x.n x.p] W λe w'=>e=.returned (.int .i64 0)/\Ext W w'):=λW hW=>by
  have:=qkm M y x W (hM.ext hW) (h'.ext hW) (h.ext hW) si hL;rw[hz]at this;exact this
 have HS:=ae hS;clear hM hS h h' hL si he hz
 go_enter Tryz.func120,Tryz.ntmps120
 go_wp2;refine wp_loop_rounds 2 ?_;rw[rounds_succ];go_wp2;refine wp_loop_rounds 1 ?_;rw[rounds_succ]
 go_upto_region 4 with(fail)
 refine fB (MN g x y) 17 (HS.out.ext (ai w).drew) λhHeld=>?_
 have wH:IntKind.i64.wrap 0=0:=by decide
 refine bH [0,1,2,3,4,5,6,7,8,9,10,11,12,13] ?_;(iterate 14 refine bG ?_);refine bI ?_
 (refine aI 14 λK hK=>?_);go_simp;(refine(CT.out _ (ai w).drew).mono ?_);rintro e_ wz ⟨rfl,e14⟩;go_wp2_with (fail);(try clear ak);(refine ny hK (hHeld.ext e14) λak=>?_);clear hK K
 refine bH [15,16] ?_;(iterate 2 refine bG ?_);refine bI ?_;refine kP ?_;have HF:=ae (((ai w).drew).trans e14);clear hHeld ak e14 CT HS;go_wp2;rw[rounds_succ];go_wp2
 go_end0
 exact⟨rfl,HF.out⟩
theorem qBG(g n cap:Nat)(lim:Int)(fv:Value)(w:World)(hn:n<=12)(h:∀W,Ext w W->Calls Tryz.prog 120 #[.slice (some ⟨g,0,none⟩) n cap,.int .i64 0,.int .i64 n,fv] W λe w'=>e=.returned (.tuple #[])/\Ext W w'):
 Calls Tryz.prog 94 #[.slice (some ⟨g,0,none⟩) n cap,.int .i64 0,.int .i64 n,.int .i64 lim,fv] w λe w'=>e=.returned (.tuple #[])/\Ext w w':=by
 have HC:=ae h
 have mI:(n:Int)<=12:=by omega
 have iN:(0:Int)<=(n:Int):=jE _;clear h
 go_enter Tryz.func94,Tryz.ntmps94
 go_wp2;refine wp_loop_rounds 1 ?_;rw[rounds_succ];go_wp2_with (fail);refine(HC.out _ (ai w)).mono ?_;rintro e w1 ⟨rfl,ah⟩;have HF:=ae ah;clear ah HC;go_wp2;refine aV (results_none rfl _ _ _) rfl ?_;exact⟨rfl,HF.out⟩
theorem qwr(g n cap:Nat)(fv:Value)(w:World)(hn:n<=12)(h:∀W,Ext w W->Calls Tryz.prog 120 #[.slice (some ⟨g,0,none⟩) n cap,.int .i64 0,.int .i64 n,fv] W λe w'=>e=.returned (.tuple #[])/\Ext W w'):
 Calls Tryz.prog 57 #[.slice (some ⟨g,0,none⟩) n cap,fv] w λe w'=>e=.returned (.tuple #[])/\Ext w w':=by
 have hwr:IntKind.u64.wrap ((n:Nat):Int)=(n:Nat):=Yq n (by omega);have HB:=ae (Vn n w (by omega));have HP:=ae (λlim=>qBG g n cap lim fv w hn h);clear h hn;generalize Lib.bitLen n=bl at*
 go_enter Tryz.func57,Tryz.ntmps57
 go_wp2_with (fail);refine HB.out.mono ?_;rintro e w1 ⟨rfl,rfl⟩;go_wp2_with (fail);refine(HP.out _).mono ?_;rintro e w2 ⟨rfl,az⟩;have HF:=ae az;clear az HP HB;go_wp2
 go_end0
 exact⟨rfl,HF.out⟩
theorem qDn(s:List Tm)(n:Nat)(h2:n<=2):qbb (λl=>norm l=s) n:=by
 intro M w g cap y hM hg hn hS hT;refine(qwr g n cap _ w (by omega) λW hW=>?_).mono λe w'⟨he,hE⟩=>⟨he,y,hS.ext hE,JQ.refl _ _,λi j eD hj=>?_,hE.grownBy _⟩
 ·have hSW:=hS.ext hW;have Kg:=hM.ext hW;obtain⟨F,_,_,hP⟩:=id hSW
  by_cases iN:n=0
  ·subst iN;exact qzG g cap _ W
  by_cases AY:n=1
  ·subst AY;exact qzE g cap _ W
  ·obtain rfl:n=2:=by omega
   exact qzF M g cap (y 0) (y 1) W Kg ⟨hSW.cell hn 0 (by omega),hSW.cell hn 1 (by omega)⟩ (hP 0 (by omega)).1 (hP 1 (by omega)).1 (hP 0 (by omega)).2 (hP 1 (by omega)).2 ((hT 0 (by omega)).trans (hT 1 (by omega)).symm)
 ·rw[hT i (by omega),hT j hj,(JZ _ _).2 rfl];exact Int.le_refl _
def Lg(s t:Tm):Prop:=Mo.lt s.2 t.2\/(s.2=t.2/\s.1<t.1)
theorem QN(s t:Tm):nM s t<0↔Lg s t:=by
 unfold nM Lg
 by_cases h:s.2=t.2
 ·rw[av h];have hn:¬Mo.lt s.2 t.2:=λhl=>Mo.Ii hl h;unfold iI
  by_cases h1:s.1<t.1
  ·rw[av h1];exact⟨λ_=>.inr ⟨h,h1⟩,λ_=>by omega⟩
  ·rw[aj h1];constructor
   ·intro h2;split at h2<;>omega
   ·rintro(h2|h2)
    ·exact absurd h2 hn
    ·exact absurd h2.2 h1
 ·rw[aj h,QL];exact⟨.inl,λh2=>h2.elim id λh3=>absurd h3.1 h⟩
theorem qAc{a b c:Tm}(h:Lg a b)(k:Lg b c):Lg a c:=by
 unfold Lg at*;rcases h with h|⟨h1,h2⟩<;>rcases k with k|⟨k1,k2⟩
 ·exact .inl (Mo.lt_trans h k)
 ·rw[<-k1];exact .inl h
 ·rw[h1];exact .inl k
 ·exact .inr ⟨h1.trans k1,by omega⟩
theorem QM:∀{a b c:List Tm},fI a b<0->fI b c<0->fI a c<0
 |[],[],_,h,_=>by simp[fI]at h
 |[],_::_,[],_,k=>by simp[fI]at k
 |[],_::_,_::_,_,_=>by simp[fI]
 |_::_,[],_,h,_=>by simp[fI]at h
 |_::_,_::_,[],_,k=>by simp[fI]at k
 |s::a,t::b,u::c,h,k=>by
  simp only[fI]at h k⊢
  by_cases h0:nM s t=0
  ·obtain rfl:=(Ct s t).1 h0;rw[av h0]at h
   by_cases k0:nM s u=0
   ·rw[av k0]at k⊢;exact QM h k
   ·rw[aj k0]at k⊢;exact k
  ·rw[aj h0]at h;have hs:=(QN s t).1 h
   by_cases k0:nM t u=0
   ·obtain rfl:=(Ct t u).1 k0;rw[aj h0];exact h
   ·rw[aj k0]at k;have hk:=qAc hs ((QN t u).1 k);have hn:nM s u<0:=(QN s u).2 hk;rw[aj (by omega)];exact hn
def IU(N:Nat)(P:Nat->List Tm)(c:Nat)(F:Nat->List Tm):Prop:=
 (∀i,i<c->∃j,j<N/\F i=dD (P j)/\o5 ((F i).map (·.2))≠0)/\(∀j,j<N->o5 ((dD (P j)).map (·.2))≠0->∃i,i<c/\F i=dD (P j))/\∀i j,i<j->j<c->fI (F i) (F j)<0
def yB(P:Nat->List Tm)(k c:Nat)(y:Nat->SE):Prop:=
 (∀i,i<c->∃j,j<k/\(y i).l=dD (P j)/\o5 (((y i).l).map (·.2))≠0)/\∀j,j<k->o5 ((dD (P j)).map (·.2))≠0->∃i,i<c/\(y i).l=dD (P j)
theorem yB.start(P:Nat->List Tm)(y:Nat->SE):yB P 0 0 y:=⟨λi hi=>absurd hi (Nat.not_lt_zero _),λi hi=>absurd hi (Nat.not_lt_zero _)⟩
theorem yB.skip{P:Nat->List Tm}{k c:Nat}{y:Nat->SE}(h:yB P k c y)(h0:o5 ((dD (P k)).map (·.2))=0):yB P (k+1) c y:=by
 refine⟨λi hi=>?_,λj hj hl=>?_⟩
 ·obtain⟨j,hj,hr⟩:=h.1 i hi;exact⟨j,by omega,hr⟩
 ·by_cases hk:j=k
  ·subst hk;exact absurd h0 hl
  ·exact h.2 j (by omega) hl
theorem yB.take{P:Nat->List Tm}{k c:Nat}{y:Nat->SE}(h:yB P k c y){z:SE}(hz:z.l=dD (P k))(h0:o5 ((dD (P k)).map (·.2))≠0):yB P (k+1) (c+1) (snoc y c z):=by
 refine⟨λi hi=>?_,λj hj hl=>?_⟩
 ·by_cases qI:i=c
  ·subst qI;rw[jC];exact⟨k,by omega,hz,by rw[hz];exact h0⟩
  ·rw[j4 _ _ _ _ (by omega)];obtain⟨j,hj,hr⟩:=h.1 i (by omega);exact⟨j,by omega,hr⟩
 ·by_cases hk:j=k
  ·subst hk;exact⟨c,by omega,by rw[jC];exact hz⟩
  ·obtain⟨i,hi,hr⟩:=h.2 j (by omega) hl;exact⟨i,by omega,by rw[j4 _ _ _ _ hi];exact hr⟩
def wO(y:Nat->SE)(k m:Nat)(F:Nat->List Tm):Prop:=
 (∀i,i<m->∃j,j<k/\F i=(y j).l)/\(∀j,j<k->∃i,i<m/\F i=(y j).l)/\(∀i j,i<j->j<m->fI (F i) (F j)<0)/\(0<k->0<m/\F (m-1)=(y (k-1)).l)/\m<=k
theorem wO.start(y:Nat->SE)(F:Nat->List Tm):wO y 0 0 F:=⟨λi hi=>absurd hi (Nat.not_lt_zero _),λi hi=>absurd hi (Nat.not_lt_zero _),λi j _ hj=>absurd hj (Nat.not_lt_zero _),λh=>absurd h (Nat.not_lt_zero _),aA _⟩
theorem wO.skip{y:Nat->SE}{k m:Nat}{F:Nat->List Tm}(h:wO y k m F)(hk:0<k)(he:(y (k-1)).l=(y k).l):wO y (k+1) m F:=by
 obtain⟨h1,h2,h3,h4,h5⟩:=h;refine⟨λi hi=>?_,λj hj=>?_,h3,λ_=>⟨(h4 hk).1,?_⟩,by omega⟩
 ·obtain⟨j,hj,hr⟩:=h1 i hi;exact⟨j,by omega,hr⟩
 ·by_cases lC:j=k
  ·subst lC;exact⟨m-1,by have:=(h4 hk).1;omega,(h4 hk).2.trans he⟩
  ·exact h2 j (by omega)
 ·rw[Nat.add_sub_cancel, <-he];exact(h4 hk).2
theorem wO.take{y:Nat->SE}{k m n:Nat}{F:Nat->List Tm}(h:wO y k m F)(hkn:k<n)(hs:∀i j,i<j->j<n->fI (y i).l (y j).l<=0)(hne:0<k->(y (k-1)).l≠(y k).l):wO y (k+1) (m+1) (snoc F m (y k).l):=by
 obtain⟨h1,h2,h3,h4,h5⟩:=h;refine⟨λi hi=>?_,λj hj=>?_,λi j eD hj=>?_,λ_=>⟨by omega,?_⟩,by omega⟩
 ·by_cases RQ:i=m
  ·subst RQ;rw[jC];exact⟨k,by omega,rfl⟩
  ·rw[j4 _ _ _ _ (by omega)];obtain⟨j,hj,hr⟩:=h1 i (by omega);exact⟨j,by omega,hr⟩
 ·by_cases lC:j=k
  ·subst lC;exact⟨m,by omega,jC _ _ _⟩
  ·obtain⟨i,hi,hr⟩:=h2 j (by omega);exact⟨i,by omega,by rw[j4 _ _ _ _ hi];exact hr⟩
 ·by_cases hjm:j=m
  ·subst hjm;rw[jC,j4 _ _ _ _ eD]
   have hk:0<k:=by omega
   have hl:fI (y (k-1)).l (y k).l<0:=by
    have e1:=hs (k-1) k (by omega) hkn;have e2:fI (y (k-1)).l (y k).l≠0:=λe=>hne hk ((JZ _ _).1 e);omega
   by_cases NZ:i=j-1
   ·subst NZ;rw[(h4 hk).2];exact hl
   ·refine QM (h3 i (j-1) (by omega) (by omega)) ?_;rw[(h4 hk).2];exact hl
  ·rw[j4 _ _ _ _ (by omega),j4 _ _ _ _ (by omega)];exact h3 i j eD (by omega)
 ·rw[Nat.add_sub_cancel,Nat.add_sub_cancel,jC]
theorem qwj{N:Nat}{P:Nat->List Tm}{n m:Nat}{x y:Nat->SE}{F:Nat->List Tm}(h:yB P N n x)(hs:JQ n y x)(hd:wO y n m F):IU N P m F:=by
 refine⟨λi hi=>?_,λj hj hl=>?_,hd.2.2.1⟩
 ·obtain⟨j,hj,e1⟩:=hd.1 i hi;obtain⟨q,hq,e2⟩:=hs.1 j hj;obtain⟨r,hr,e3,e4⟩:=h.1 q hq;rw[e1,e2];exact⟨r,hr,e3,e4⟩
 ·obtain⟨q,hq,e1⟩:=h.2 j hj hl;obtain⟨r,hr,e2⟩:=hs.2 q hq;obtain⟨i,hi,e3⟩:=hd.2.1 r hr;exact⟨i,hi,by rw[e3,e2,e1]⟩
theorem Tryz.qzx:(Tryz.prog.info? 36).map (λi=>(i.zero,i.size,i.bytes))=some (some (.slice none 0 0),1,24):=by kernel_rfl
theorem qDV(x:Nat->SE)(n:Nat)(t:SE)(j:Nat)(hj:j<n+1):app (sx x) n (λ_=>sv t) j=sx (snoc x n t) j:=by
 unfold app sx
 by_cases h:j<n
 ·rw[av h,j4 _ _ _ _ h]
 ·rw[aj h,show j=n by omega,jC]
theorem XH{M:Nat->Prop}{w wr:World}{base:Nat}{E:TypeId}{k n:Nat}{v:Value}{f:Nat->Value}(hM:Mb M w)(he:Ext w wr)(hO:Own wr base E k v n f):Mb (MR M v) wr:=λg hg=>hg.elim (λh=>hM.ext he g h) (λh=>(hO.lt g h).2)
theorem qoV{M:Nat->Prop}{wa wb:World}{v:Value}{gg:Nat}{x:SE}{n cap:Nat}(hP:eU (MR M v) wa (sv x) x.l)(hg:wa.grownBy wb v.ownBlock)(hat:v.ownBlock=some gg\/wa.heap.size<=gg):eU (MR M (.slice (some ⟨gg,0,none⟩) n cap)) wb (sv x) x.l:=by
 have h1:=hP.more (M':=λb=>MR M v b\/b=gg) (λb hb=>hb.elim .inl λe=>by
  rcases hat with h|h
  ·exact .inl (.inr (by rw[h,e]))
  ·exact .inr (by omega))
 have h2:=h1.kp (Kp.grown hg λk hk=>.inl (.inr hk));exact h2.more λb hb=>.inl (hb.elim (λh=>.inl (.inl h)) λh=>.inr (by simp only[Value.ownBlock,Option.some.injEq]at h;exact h.symm))
theorem Oy{M:Nat->Prop}{wa wb:World}{v:Value}{gg:Nat}{x:PE}{l:List Tm}{n cap:Nat}(hP:aG (MR M v) wa 4 x l)(hg:wa.grownBy wb v.ownBlock)(hat:v.ownBlock=some gg\/wa.heap.size<=gg):aG (MR M (.slice (some ⟨gg,0,none⟩) n cap)) wb 4 x l:=by
 have h1:=hP.more (M':=λb=>MR M v b\/b=gg) (λb hb=>hb.elim .inl λe=>by
  rcases hat with h|h
  ·exact .inl (.inr (by rw[h,e]))
  ·exact .inr (by omega))
 have h2:=h1.kp (Kp.grown hg λk hk=>.inl (.inr hk));exact h2.more λb hb=>.inl (hb.elim (λh=>.inl (.inl h)) λh=>.inr (by simp only[Value.ownBlock,Option.some.injEq]at h;exact h.symm))
def Qy(M:Nat->Prop)(w:World)(N:Nat)(P:Nat->List Tm)(e:Ending)(w':World):Prop:=∃(a:Option Addr)(c p:Nat)(F:Nat->List Tm),e=.returned (.slice a c p)/\dP M w' 4 (.slice a c p) c F/\IU N P c F/\Ext w w'
theorem qAy(T:List Tm->Prop)(M:Nat->Prop)(a:Option Addr)(N cap B:Nat)(P:Nat->List Tm)(w:World)(hM:Mb M w)(h:dP M w 4 (.slice a N cap) N P)(hB:∀i,i<N->bE B (P i))(gY:(B+1)^4<=1099511627776)(bJ:B+1<=1073741824)(hA:∀i,i<N->aF (aB (P i))+1<=1099511627776)(hT:∀i,i<N->T (dD (P i)))(hs:∀n,n<=N->qbb T n):
 Calls Tryz.prog 16 #[.slice a N cap] w (Qy M w N P):=by
 obtain⟨i0,hi,hz0,hz1,hz2⟩:=info_parts Tryz.qzx;obtain⟨j0,ji,Bj,Bl,Bn⟩:=info_parts Tryz.xU;have yT:N<=1099511627776:=h.1;have Qc:=ae h;have HM:=ae hM;have HB:=ae hB;have HA:=ae hA;have HT:=ae hT;have HS:=ae hs;have wP:=ae gY;have cK:=ae bJ;clear h hM hB hA hT hs gY bJ
 go_enter Tryz.func16,Tryz.ntmps16
 go_wp2;refine wp_scope_straight ?_;go_wp2
 go_loopw [12,3] (λi v wr=>∃(k c:Nat)(y:Nat->SE),k<=N/\c<=k/\i=.int .i64 k/\Own wr w.heap.size 36 1 v c (sx y)/\Hid (∀i,i<c->eU (MR M v) wr (sv (y i)) (y i).l)/\Hid (yB P k c y)/\Hid (Ext w wr)) (λi _ _=>N-(intOf i).toNat)
 case atStart=>exact⟨0,0,λ_=>default,bu _,aA _,rfl,Own.nil _ _ _ _ _,λi hi=>absurd hi (Nat.not_lt_zero _),yB.start _ _,ai _⟩
 case round=>
  obtain⟨k,c,y,hk,Kw,rfl,hO,HP,HN,HE⟩:=hrel;obtain⟨va,vc,rfl⟩:=hO.form;have hsz:=HE.out.size
  by_cases hlt:k<N
  ·obtain⟨b,off,ry,hNc,eu,hb,nV,e0,e1,e2,e3,c0,c1,c2,c3,Dh⟩:=Qc.out.at k hlt;obtain⟨x,rfl,rfl,rfl,rfl,hx,oZ,fo,sI⟩:=CR.pe Dh;subst ry
   have wE:(k:Int)<(N:Int):=by omega
   have gK:=ae hlt;rw[<-HE.out.cell hb]at c0 c1 c2 c3;have gD:b<wr.heap.size:=bB hb hsz;have Ma:=ae (XH HM.out HE.out hO);have aQ:=(ai wr).alloc (.cells (ag x) 42);have hxM:aG (MR M (.slice va c vc)) (wr.alloc (.cells (ag x) 42)) 4 x (P k):=(((hx:aG M w 4 x (P k)).more (M':=MR M (.slice va c vc)) (λb hb=>hb.imp id λh=>(hO.lt b h).1)).ext HE.out).ext aQ;obtain⟨t,uS,hTB,Rw⟩:=hxM.tb (B:=B) (aA _) (by have:=HA.out k hlt;omega) (HB.out k hlt) wP.out;have CT1:=ae (qCC _ 5 t x _ (Ma.out.ext aQ) uS hTB);have yo:Hid (norm (terms 5 t)=norm (P k)):=Rw.norm;have ek:=ae aQ;have HO:=ae hO;clear hx hxM uS hTB Rw Dh aQ hO oZ fo sI;go_wp2_with (fail);refine CT1.out.mono ?_;rintro e w1 ⟨u,rfl,hu,ah⟩;rw[yo.out]at hu;have fP:=ae (qDw _ u (norm (P k)) w1 ((Ma.out.ext ek.out).ext ah) hu.dB (by have:=fu (Lr (P k));have:=HA.out k hlt;omega));rw[qDk]at fP;have aP:=ae (ek.out.trans ah);clear hu ah CT1 c0 c1 c2 c3;go_wp2_with (fail);refine fP.out.mono ?_;rintro e w2 ⟨s,rfl,hs0,az⟩;have KY:=hs0.dB;obtain⟨sa,sp,rfl⟩:=KY.form;have aZ:=ae (aP.out.trans az)
   have hsD:aF (aB (dD (P k)))<=1099511627776:=by have:=fu (qfR (P k));have:=HA.out k hlt;omega
   have oD:=ae (qDu _ _ (dD (P k)) w2 (Ma.out.ext aZ.out) KY hsD);rw[qpD]at oD;have HSV:=ae KY;clear hs0 KY hsD az fP aP ek;go_wp2_with (fail);refine oD.out.mono ?_;rintro e w3 ⟨rfl,aN⟩;have dK:=ae (aZ.out.trans aN);have qan:=ae (HSV.out.ext aN);clear aN oD aZ HSV
   by_cases hl0:o5 ((dD (P k)).map (·.2))=0
   ·have BP:=ae (HN.out.skip hl0);rw[hl0];have Ki:=HO.out.ext dK.out;have dG:Hid (∀i,i<c->eU (MR M (.slice va c vc)) w3 (sv (y i)) (y i).l):=λi hi=>(HP.out i hi).ext dK.out;have rQ:=ae (HE.out.trans dK.out);clear HP HN HE qan HO hl0 dK;go_wp2
    go_roundw
    case rel=>exact⟨k+1,c,y,gK.out,by omega,by go_num,Ki,dG,BP,rQ⟩
    case measure=>have:=gK.out;simp[intOf];omega
   ·have hlp:(0:Int)<(o5 ((dD (P k)).map (·.2)):Nat):=by omega
    have BP:=ae (HN.out.take (z:=⟨sa,(dD (P k)).length,sp,dD (P k)⟩) rfl hl0);have jg:=(HO.out.ext dK.out).ext ((ai w3).alloc (.cells #[.slice sa (dD (P k)).length sp] 36));have dW:=au.OL w3 (.slice sa (dD (P k)).length sp) 36
    have sH:w.heap.size<=(w3.alloc (.cells #[.slice sa (dD (P k)).length sp] 36)).heap.size:=by have:=dK.out.size;simp;omega
    have BR:Hid (∀i,i<c->eU (MR M (.slice va c vc)) (w3.alloc (.cells #[.slice sa (dD (P k)).length sp] 36)) (sv (y i)) (y i).l):=λi hi=>((HP.out i hi).ext dK.out).ext ((ai w3).alloc _);have qik:=ae (qan.out.ext ((ai w3).alloc (.cells #[.slice sa (dD (P k)).length sp] 36)));have cZ:=ae ((HE.out.trans dK.out).trans ((ai w3).alloc (.cells #[.slice sa (dD (P k)).length sp] 36)));have BK:=ae (HO.out.lt);have qxF:=ae Kw;clear HP HN HE qan HO hl0 dK Ma;generalize (dD (P k)).length=sn at*
    go_wp2_with (at_builtin;refine yj _ rfl (.tmp 22) (.tmp 24) _ rfl w.heap.size 36 i0 _ 1 24 Tryz.underlying22 hi hz0 hz1 hz2 rfl (by omega) (.slice va c vc) c (sx y) rfl jg w3.heap.size 36 1 (λ_=>.slice sa sn sp) rfl dW (λ_ _=>rfl) ?s1 ?s2 ?s3 ?_)
    case s1=>unfold maxLen;omega
    case s2=>omega
    case s3=>exact sH
    intro gg cap2 w4 ed bK hat uf
    replace hat:(Value.slice va c vc).ownBlock=some gg\/(w3.alloc (.cells #[.slice sa sn sp] 36)).heap.size<=gg:=by rw[World.size_alloc];exact hat
    have HF:Hid (∃(k' c':Nat)(y':Nat->SE),k'<=N/\c'<=k'/\Value.int .i64 ((k:Int)+1)=.int .i64 k'/\Own w4 w.heap.size 36 1 (.slice (some ⟨gg,0,none⟩) (c+1) cap2) c' (sx y')/\Hid (∀i,i<c'->eU (MR M (.slice (some ⟨gg,0,none⟩) (c+1) cap2)) w4 (sv (y' i)) (y' i).l)/\Hid (yB P k' c' y')/\Hid (Ext w w4)):=by
     refine⟨k+1,c+1,snoc y c ⟨sa,sn,sp,dD (P k)⟩,gK.out,by have:=qxF.out;omega,by simp,ed.congr λj hj=>?_,λi hi=>?_,BP.out,cZ.out.grown bK (λq hq=>(BK.out q hq).1)⟩
     ·exact qDV y c ⟨sa,sn,sp,dD (P k)⟩ j (by omega)
     ·by_cases qI:i=c
      ·subst qI;rw[jC];exact qoV (x:=⟨sa,sn,sp,dD (P k)⟩) qik.out bK hat
      ·rw[j4 _ _ _ _ (by omega)];exact qoV (BR.out i (by omega)) bK hat
    clear ed bK hat jg dW BR qik cZ BP hlp;go_wp2
    go_roundw
    case rel=>exact HF.out
    case measure=>have:=gK.out;simp[intOf];omega
  ·obtain rfl:N=k:=by omega
   have qif:Hid (Calls Tryz.prog 57 #[.slice va c vc,.func (.func 58) #[] #[]] wr λe w'=>e=.returned (.tuple #[])/\∃y',(∀i,i<c->∃g,va=some ⟨g,0,none⟩/\w'.cell? ⟨g,i,none⟩=some (.slice (y' i).a (y' i).n (y' i).p)/\g<w'.heap.size)/\(∀i,i<c->eU (MR M (.slice va c vc)) w' (sv (y' i)) (y' i).l/\aF (aB (y' i).l)<=1099511627776)/\JQ c y' y/\(∀i j,i<j->j<c->fI (norm (y' i).l) (norm (y' j).l)<=0)/\Ext w w'):=by
    have Rq:=XH HM.out HE.out hO
    have jF:∀i,i<c->aF (aB (y i).l)<=1099511627776/\T (y i).l:=λi hi=>by
     obtain⟨j,hj,e1,_⟩:=HN.out.1 i hi;rw[e1];exact⟨by have:=fu (qfR (P j));have:=HA.out j hj;omega,HT.out j hj⟩
    rcases hO with⟨hv,h0⟩|⟨g,cap,F,hv,hg,bR,ig,qmg,hF⟩
    ·simp only[Value.slice.injEq]at hv;obtain⟨rfl,rfl,rfl⟩:=hv;exact(qwq _ _).mono λe w'⟨he,hw⟩=>⟨he,y,λi hi=>absurd hi (Nat.not_lt_zero _),λi hi=>absurd hi (Nat.not_lt_zero _),JQ.refl _ _,λi j _ hj=>absurd hj (Nat.not_lt_zero _),by rw[<-hw];exact HE.out⟩
    ·simp only[Value.slice.injEq,true_and]at hv;obtain⟨rfl,rfl⟩:=hv;rw[Nat.mul_one]at bR hF;refine(HS.out c (by omega) (MR M (.slice (some ⟨g,0,none⟩) c vc)) wr g vc y Rq (.inr rfl) ig ⟨F,bR,hF,λi hi=>⟨HP.out i hi,(jF i hi).1⟩⟩ λi hi=>(jF i hi).2).mono λe w'⟨he,y',h1,h2,h3,h4⟩=>⟨he,y',λi hi=>⟨g,rfl,h1.cell ig i hi,?_⟩,?_,h2,h3,HE.out.grown h4 (λq hq=>by cases hq;exact hg)⟩
     ·obtain⟨F',hB',_⟩:=h1;exact hB'.lt
     ·obtain⟨F',hB',_,EL⟩:=h1;exact EL
   have xg:=ae HN.out
   have eY:Hid (∀j,j<N->∀s∈dD (P j),∀q,s.2.get q<=1073741824):=λj hj s hs q=>by
    obtain⟨b',off',_,_,_,_,_,e0,e1,e2,e3,_,_,_,_,Dh⟩:=Qc.out.at j hj;obtain⟨x,rfl,rfl,rfl,rfl,hx,_⟩:=CR.pe Dh;have jH:=o6 (aG.nn (hx:aG M w 4 x (P j)));unfold dD at hs;obtain⟨t,ht,rfl⟩:=List.mem_map.1 hs;have h1:=M4 (o7 (P j)) ht;rw[jH t.2]at h1;have:=HB.out j hj t.2 h1 q;have:=cK.out;show t.2.get q<=_;omega
   have hcL:c<=1099511627776:=by omega
   clear HP hO HN HE HA HT HS Qc yT hlt hsz HB wP Kw;go_wp2_with (fail);refine qif.out.mono ?_;rintro e w2 ⟨rfl,y2,hcell,EM,Oo,WS,az⟩;have o9:=ae hcell;have dG:=ae EM;have HSE:=ae Oo;have HSO:=ae WS;have aZ:=ae az;clear hcell EM Oo WS az qif;go_wp2;refine wp_label ?_;go_wp2
   go_loopw [31,7] (λi v wr=>∃(k m:Nat)(xx:Nat->PE)(F:Nat->List Tm),k<=c/\m<=k/\i=.int .i64 k/\Own wr w2.heap.size 42 4 v m (px xx)/\Hid (∀i,i<m->aG (MR M v) wr 4 (xx i) (F i))/\Hid (wO y2 k m F)/\Hid (Ext w2 wr)) (λi _ _=>c-(intOf i).toNat)
   case atStart=>exact⟨0,0,λ_=>PE.z,λ_=>[],bu _,aA _,rfl,Own.nil _ _ _ _ _,λi hi=>absurd hi (Nat.not_lt_zero _),wO.start _ _,ai _⟩
   case round=>
    obtain⟨k,m,xx,F,hk,hmk,rfl,hO,HX,HD,HE⟩:=hrel;obtain⟨fa,fc,rfl⟩:=hO.form;have hsz:=HE.out.size
    by_cases hlt:k<c
    ·obtain⟨g,rfl,c0,hg⟩:=o9.out k hlt
     have wE:(k:Int)<(c:Int):=by omega
     have gK:=ae hlt;rw[<-HE.out.cell hg]at c0;have rz:g<wr.heap.size:=bB hg hsz;have BN:Hid (Mb (MR M (.slice (some ⟨g,0,none⟩) c vc)) wr):=λq hq=>hq.elim (λh=>HM.out.ext (aZ.out.trans HE.out) q h) (λh=>by simp only[Value.ownBlock,Option.some.injEq]at h;rw[<-h];exact rz);have UJ:=ae ((dG.out k hlt).1.ext HE.out);have Px:=ae (dG.out k hlt).2
     have BG:Hid (∀j,j<c->norm (y2 j).l=(y2 j).l/\∀s∈(y2 j).l,∀q,s.2.get q<=1073741824):=λj hj=>by
      obtain⟨q,hq,e1⟩:=HSE.out.1 j hj;obtain⟨r,hr,e2,_⟩:=xg.out.1 q hq;rw[e1,e2];exact⟨qpD _,eY.out r hr⟩
     have xk:Hid (∀W,Ext wr W->Calls Tryz.prog 10 #[.slice (y2 k).a (y2 k).n (y2 k).p] W (di (MR M (.slice fa m fc)) W 4 (y2 k).l)):=λW hW=>by
      have h1:=qqM (MR M (.slice fa m fc)) (sv (y2 k)) (y2 k).l W (λq hq=>hq.elim (λh=>HM.out.ext ((aZ.out.trans HE.out).trans hW) q h) (λh=>bB (hO.lt q h).2 hW.size)) (((dG.out k hlt).1.more (M':=MR M (.slice fa m fc)) (λb hb=>hb.elim (λh=>.inl (.inl h)) (λh=>.inr (hO.lt b h).1))).ext (HE.out.trans hW)) Px.out (BG.out k hlt).2;rw[(BG.out k hlt).1]at h1;exact h1
     have HO:=ae hO;clear hO
     by_cases iq:k=0
     ·have qyh:decide ((0:Int)<(k:Int))=false:=decide_eq_false (by omega);have HK0:=ae iq
      have qGh:¬(0:Int)<(k:Int):=by omega
      clear iq;go_wp2_with (fail);refine(xk.out _ (ai wr)).mono ?_;rintro e w5 ⟨z,rfl,hz,aU⟩;have zT:=ae ((ai wr).trans aU);have kY:=ae (HD.out.take hlt (λi j eD hj=>by have:=HSO.out i j eD hj;rwa[(BG.out i (by omega)).1,(BG.out j hj).1]at this) (λh=>absurd HK0.out (by omega)));have jg:=(HO.out.ext zT.out).ext ((ai w5).alloc (.cells (ag z) 42));have dW:=au.aO w5 (ag z) 42 4 rfl
      have sH:w2.heap.size<=(w5.alloc (.cells (ag z) 42)).heap.size:=by have:=HE.out.size;have:=zT.out.size;simp;omega
      have Ab:Hid (∀i,i<m->aG (MR M (.slice fa m fc)) (w5.alloc (.cells (ag z) 42)) 4 (xx i) (F i)):=λi hi=>((HX.out i hi).ext zT.out).ext ((ai w5).alloc _);have qV:=ae (hz.ext ((ai w5).alloc (.cells (ag z) 42)));have cZ:=ae ((HE.out.trans zT.out).trans ((ai w5).alloc (.cells (ag z) 42)));have BK:=ae (HO.out.lt);have ZI:=ae hmk;have mi:Hid (∀j,j<4->(arr (ag z) j).oneCell'=true):=Bu z;clear hz aU xk HX HD HE HO zT BN UJ Px c0
      go_wp2_with (at_builtin;refine yj _ rfl (.tmp 47) (.tmp 50) _ rfl w2.heap.size 42 j0 _ 4 64 Tryz.underlying34 ji Bj Bl Bn rfl (by omega) (.slice fa m fc) m (px xx) rfl jg w5.heap.size 42 1 (arr (ag z)) rfl dW mi.out ?s1 ?s2 ?s3 ?_)
      case s1=>unfold maxLen;omega
      case s2=>omega
      case s3=>exact sH
      intro gg cap2 w6 ed bK hat uf
      replace hat:(Value.slice fa m fc).ownBlock=some gg\/(w5.alloc (.cells (ag z) 42)).heap.size<=gg:=by rw[World.size_alloc];exact hat
      have HF:Hid (∃(k' m':Nat)(LD:Nat->PE)(F':Nat->List Tm),k'<=c/\m'<=k'/\Value.int .i64 ((k:Int)+1)=.int .i64 k'/\Own w6 w2.heap.size 42 4 (.slice (some ⟨gg,0,none⟩) (m+1) cap2) m' (px LD)/\Hid (∀i,i<m'->aG (MR M (.slice (some ⟨gg,0,none⟩) (m+1) cap2)) w6 4 (LD i) (F' i))/\Hid (wO y2 k' m' F')/\Hid (Ext w2 w6)):=by
       refine⟨k+1,m+1,snoc xx m z,snoc F m (y2 k).l,gK.out,by have:=ZI.out;omega,by simp,ed.congr λj hj=>DT xx m z j hj,λi hi=>?_,kY.out,cZ.out.grown bK (λq hq=>(BK.out q hq).1)⟩
       by_cases RQ:i=m
       ·subst RQ;rw[jC,jC];exact Oy qV.out bK hat
       ·rw[j4 _ _ _ _ (by omega),j4 _ _ _ _ (by omega)];exact Oy (Ab.out i (by omega)) bK hat
      clear ed bK hat jg dW Ab qV cZ kY;go_wp2
      go_roundw
      case rel=>exact HF.out
      case measure=>have:=gK.out;simp[intOf];omega
     ·have qyh:decide ((0:Int)<(k:Int))=true:=decide_eq_true (by omega);obtain⟨q,rfl⟩:∃q,k=q+1:=⟨k-1,by omega⟩;obtain⟨g',AQ,c1,_⟩:=o9.out q (by omega);simp only[Option.some.injEq,Addr.mk.injEq,and_true]at AQ;subst AQ;rw[<-HE.out.cell hg]at c1;have CS:=ae (qDv _ _ _ _ _ wr BN.out ((dG.out q (by omega)).1.ext HE.out) UJ.out (dG.out q (by omega)).2 Px.out);rw[(BG.out q (by omega)).1,(BG.out (q+1) hlt).1]at CS
      have Oi:(q:Int)<(c:Int):=by omega
      have hq1:IntKind.i64.wrap ((q:Int)+1-1)=(q:Int):=by rw[IntKind.wrap_i64];omega
      go_wp2_with (fail);refine CS.out.mono ?_;rintro e ws ⟨rfl,heS⟩;have FR:=ae heS;clear heS CS c1
      by_cases heq:(y2 q).l=(y2 (q+1)).l
      ·have hd:decide ((y2 q).l=(y2 (q+1)).l)=true:=decide_eq_true heq;have kY:=ae (HD.out.skip (Nat.succ_pos q) (by rw[Nat.add_sub_cancel];exact heq));have Ki:=HO.out.ext FR.out;have nK:Hid (∀i,i<m->aG (MR M (.slice fa m fc)) ws 4 (xx i) (F i)):=λi hi=>(HX.out i hi).ext FR.out;have rQ:=ae (HE.out.trans FR.out);clear HX HD HE HO xk BN UJ Px c0 heq FR;go_wp2
       go_roundw
       case rel=>exact⟨q+1+1,m,xx,F,gK.out,by omega,by go_num,Ki,nK,kY,rQ⟩
       case measure=>have:=gK.out;simp[intOf];omega
      ·have hd:decide ((y2 q).l=(y2 (q+1)).l)=false:=decide_eq_false heq
       have Eo:Hid ((y2 (q+1-1)).l≠(y2 (q+1)).l):=by rw[Nat.add_sub_cancel];exact heq
       clear heq;go_wp2_with (fail);refine(xk.out _ FR.out).mono ?_;rintro e w5 ⟨z,rfl,hz,aU⟩;have zT:=ae (FR.out.trans aU);have kY:=ae (HD.out.take hlt (λi j eD hj=>by have:=HSO.out i j eD hj;rwa[(BG.out i (by omega)).1,(BG.out j hj).1]at this) (λ_=>Eo.out));have jg:=(HO.out.ext zT.out).ext ((ai w5).alloc (.cells (ag z) 42));have dW:=au.aO w5 (ag z) 42 4 rfl
       have sH:w2.heap.size<=(w5.alloc (.cells (ag z) 42)).heap.size:=by have:=HE.out.size;have:=zT.out.size;simp;omega
       have Ab:Hid (∀i,i<m->aG (MR M (.slice fa m fc)) (w5.alloc (.cells (ag z) 42)) 4 (xx i) (F i)):=λi hi=>((HX.out i hi).ext zT.out).ext ((ai w5).alloc _);have qV:=ae (hz.ext ((ai w5).alloc (.cells (ag z) 42)));have cZ:=ae ((HE.out.trans zT.out).trans ((ai w5).alloc (.cells (ag z) 42)));have BK:=ae (HO.out.lt);have ZI:=ae hmk;have mi:Hid (∀j,j<4->(arr (ag z) j).oneCell'=true):=Bu z;clear hz aU xk HX HD HE HO zT BN UJ Px c0
       go_wp2_with (at_builtin;refine yj _ rfl (.tmp 47) (.tmp 50) _ rfl w2.heap.size 42 j0 _ 4 64 Tryz.underlying34 ji Bj Bl Bn rfl (by omega) (.slice fa m fc) m (px xx) rfl jg w5.heap.size 42 1 (arr (ag z)) rfl dW mi.out ?s1 ?s2 ?s3 ?_)
       case s1=>unfold maxLen;omega
       case s2=>omega
       case s3=>exact sH
       intro gg cap2 w6 ed bK hat uf
       replace hat:(Value.slice fa m fc).ownBlock=some gg\/(w5.alloc (.cells (ag z) 42)).heap.size<=gg:=by rw[World.size_alloc];exact hat
       have HF:Hid (∃(k' m':Nat)(LD:Nat->PE)(F':Nat->List Tm),k'<=c/\m'<=k'/\Value.int .i64 (((q+1:Nat):Int)+1)=.int .i64 k'/\Own w6 w2.heap.size 42 4 (.slice (some ⟨gg,0,none⟩) (m+1) cap2) m' (px LD)/\Hid (∀i,i<m'->aG (MR M (.slice (some ⟨gg,0,none⟩) (m+1) cap2)) w6 4 (LD i) (F' i))/\Hid (wO y2 k' m' F')/\Hid (Ext w2 w6)):=by
        refine⟨q+1+1,m+1,snoc xx m z,snoc F m (y2 (q+1)).l,gK.out,by have:=ZI.out;omega,by simp,ed.congr λj hj=>DT xx m z j hj,λi hi=>?_,kY.out,cZ.out.grown bK (λq hq=>(BK.out q hq).1)⟩
        by_cases RQ:i=m
        ·subst RQ;rw[jC,jC];exact Oy qV.out bK hat
        ·rw[j4 _ _ _ _ (by omega),j4 _ _ _ _ (by omega)];exact Oy (Ab.out i (by omega)) bK hat
       clear ed bK hat jg dW Ab qV cZ kY;go_wp2
       go_roundw
       case rel=>exact HF.out
       case measure=>have:=gK.out;simp[intOf];omega
    ·have hkc:k=c:=by omega
     have jy:¬(k:Int)<(c:Int):=by omega
     have HF:Hid (Qy M w N P (.returned (.slice fa m fc)) wr):=by
      refine⟨fa,m,fc,F,rfl,Own.toK hO (λi hi=>((HX.out i hi).more λb hb=>.inl (.inl hb))) (λg hg hm=>?_) (by omega),qwj xg.out HSE.out (hkc ▸ HD.out),aZ.out.trans HE.out⟩;have:=HM.out g hm;have:=aZ.out.size;omega
     clear HX HD HE hO o9 dG HSE HSO aZ xg eY hkc;go_wp2;exact aV (v:=.slice fa m fc) (by simp[results,Tryz.results16,go_sem]) rfl HF.out
def f23:List Tm:=[(1,⟨1,1,0,0⟩),(3,⟨0,0,0,0⟩)]
theorem Kids.Cr{M:Nat->Prop}{w:World}{D g N:Nat}{P:Nat->List Tm}(h:Kids M w D g N P)(i:Nat)(hi:i<N):∃y:PE,eF w g (i*4) y/\aG M w D y (P i):=by
 obtain⟨f,hB,hc⟩:=h;obtain⟨x,e0,e1,e2,e3,hx,_⟩:=(hc i hi).pe;refine⟨x,⟨?_,?_,?_,?_⟩,hx⟩
 ·rw[hB.cell (by omega),e0]
 ·rw[hB.cell (by omega),e1]
 ·rw[hB.cell (by omega),e2]
 ·rw[hB.cell (by omega),e3]
theorem Kids.lt{M:Nat->Prop}{w:World}{D g N:Nat}{P:Nat->List Tm}(h:Kids M w D g N P):g<w.heap.size:=by
 obtain⟨f,hB,_⟩:=h;exact hB.lt
def JJ(g b:Nat)(z p:PE)(w:World):Prop:=eF w g 4 z/\P4 w b p
theorem JJ.ext{g b:Nat}{z p:PE}{w w':World}(h:JJ g b z p w)(he:Ext w w'):JJ g b z p w':=⟨h.1.ext (dM _ _ h.1.1) he,h.2.ext he⟩
theorem qbp{k B:Nat}(h1:1<=k)(h4:k<=4){e:Int}{l:List Tm}(h:bE B l):bE B (ck k e l):=λm hm j=>by
 rw[tL h1 h4]at hm
 split at hm
 ·rename_i h0;have:=h _ hm j;rw[iL,gM _ _ _ h1 h4]at this
  by_cases hj:j=k
  ·rw[hj,h0];omega
  ·rw[aj hj]at this;omega
 ·exact absurd rfl hm
theorem qbs(k:Nat)(e:Int)(l:List Tm):aB (ck k e l)<=aB l:=by
 have:=qo4 (f:=M8 k e) (K:=1) (l:=l) λt _=>by
  unfold M8;simp only;split<;>decide
 unfold ck;omega
theorem VA{k n B:Nat}{l:List Tm}(h:dJ k l n)(hB:bE B l):n<=B:=by
 rcases h.2 with h0|⟨m,hm,hg⟩
 ·omega
 ·have:=hB m hm k;omega
theorem Kids.take{M M':Nat->Prop}{w:World}{D g N n:Nat}{P:Nat->List Tm}(h:Kids M w D g N P)(hm:∀g,M' g->M g\/w.heap.size<=g)(hg:¬M' g)(hn:n<=N)(hN:N<=1099511627776):dP M' w D (.slice (some ⟨g,0,none⟩) n N) n P:=
 ⟨by omega,.inr ⟨g,0,N,rfl,hn,by unfold maxLen;omega,⟨h.lt,hg⟩,λi hi=>h.bC hm i (by omega)⟩⟩
def U6(l:List Tm)(L:Int)(s:List Tm):Prop:=(af l []/\s=[])\/(¬af l []/\¬(1<=L/\L<=4)/\s=l)\/(¬af l []/\∃K n:Nat,L=K/\1<=K/\K<=4/\dJ K l n/\s=ck K (n:Int) l)
def Vd(M:Nat->Prop)(w:World)(R:List Tm->Prop)(e:Ending)(w':World):Prop:=∃(v:PE)(s:List Tm),e=.returned (.agg (ag v))/\aG M w' 4 v s/\R s/\Ext w w'
theorem di.ld{M:Nat->Prop}{w w':World}{s:List Tm}{e:Ending}{R:List Tm->Prop}(h:di M w 4 s e w')(hR:R s):Vd M w R e w':=by
 obtain⟨y,h1,h2,h3⟩:=h;exact⟨y,s,h1,h2,hR,h3⟩
theorem qAz(M:Nat->Prop)(x:PE)(l:List Tm)(L:Int)(B:Nat)(w:World)(hM:Mb M w)(h:PI M w x l)(hB:bE B l)(gY:(B+1)^4<=1099511627776)(bJ:B+1<=1073741824)(hR:aF (aB l)<=1099511627776):Calls Tryz.prog 66 #[.agg (ag x),.int .i64 L] w (Vd M w (U6 l L)):=by
 obtain⟨aL,kr,aW,bD⟩:=MZ hM x;have CC:=ae (XI _ x l L B _ bD ((h.more (M':=Mx M w.heap.size (w.heap.size+2)) (Mx.more (aA _))).ext aL) hB gY bJ hR);have HE:=ae aL;have HB:=ae aW;have HM:=ae hM;obtain⟨x0,x1,x2,x3⟩:=kr;have KQ:Hid (∀K n:Nat,dJ K l n->n<=B):=λK n hd=>VA hd hB;have cK:=ae bJ;clear aL aW bD hM h hB gY hR bJ
 go_enter Tryz.func66,Tryz.ntmps66
 go_wp2_with (fail);refine CC.out.mono ?_;rintro e w1 ⟨hr,ah⟩;have aP:=ae (HE.out.trans ah);have bA:=HB.out.ext ah;clear ah CC x0 x1 x2 x3 HB HE;rcases hr with⟨hz,rfl⟩|⟨hz,hl,g,rfl,hg,hk⟩|⟨hz,K,n,g,rfl,Am,fJ,rfl,hg,hd,hk⟩
 ·obtain⟨⟨q0,q1,q2,q3⟩,⟨f0,f1,f2,f3⟩,⟨r0,r1,r2,r3⟩,HF⟩:=gI (M:=M) (M':=Mx M w.heap.size (w.heap.size+2)) (w:=w) (L:=4) (l:=[]) (y:=PE.z) bA (Mx.at (by omega)) (by omega) aP.out (CR.zero _ _ 4) Mx.sub;simp only[PE.z]at r0 r1 r2 r3;have bQ:=ae (HF.out.ld (R:=U6 l L) (.inl ⟨hz,rfl⟩));clear HF bA hz;go_wp2;exact aV (v:=.agg (ag PE.z)) (by simp[results,Tryz.results66,go_sem,r0,r1,r2,r3,PE.z]) rfl bQ.out
 ·obtain⟨y,⟨c0,c1,c2,c3⟩,hy⟩:=hk.Cr 0 (by omega);have gP:=hk.lt;rw[Nat.zero_mul]at c0 c1 c2 c3;simp only[Nat.zero_add]at c1 c2 c3;obtain⟨⟨q0,q1,q2,q3⟩,⟨f0,f1,f2,f3⟩,⟨r0,r1,r2,r3⟩,HF⟩:=gI (M:=M) (w:=w) (L:=4) (l:=l) (y:=y) bA (Mx.at (by omega)) (by omega) aP.out (hy.more (M':=Mx M w.heap.size (w.heap.size+2)) λb hb=>.inl (.inl hb)) Mx.sub;have bQ:=ae (HF.out.ld (R:=U6 l L) (.inr (.inl ⟨hz,hl,rfl⟩)));clear HF bA hz hl hk hy
  have wH:IntKind.i64.wrap 0=0:=by decide
  go_wp2;exact aV (v:=.agg (ag y)) (by simp[results,Tryz.results66,go_sem,r0,r1,r2,r3]) rfl bQ.out
 ·obtain⟨y,⟨c0,c1,c2,c3⟩,hy⟩:=hk.Cr n (by omega);have gP:=hk.lt
  have Og:(n:Int)+1<=1099511627776:=by have:=KQ.out K n hd;have:=cK.out;omega
  have iN:(0:Int)<=(n:Int):=jE _
  have hne:((n:Int)+1==0)=false:=by simp;omega
  have hw:IntKind.i64.wrap ((n:Int)+1-1)=(n:Int):=by rw[IntKind.wrap_i64];omega
  obtain⟨⟨q0,q1,q2,q3⟩,⟨f0,f1,f2,f3⟩,⟨r0,r1,r2,r3⟩,HF⟩:=gI (M:=M) (w:=w) (L:=4) (l:=ck K (n:Int) l) (y:=y) bA (Mx.at (by omega)) (by omega) aP.out (hy.more (M':=Mx M w.heap.size (w.heap.size+2)) λb hb=>.inl (.inl hb)) Mx.sub;have bQ:=ae (HF.out.ld (R:=U6 l K) (.inr (.inr ⟨hz,K,n,rfl,Am,fJ,hd,rfl⟩)));clear HF bA hz hk hy hd KQ cK;go_wp2;exact aV (v:=.agg (ag y)) (by simp[results,Tryz.results66,go_sem,r0,r1,r2,r3]) rfl bQ.out
theorem quY{k:Nat}{l:List Tm}(hl:NN l):∃n,dJ k l n:=by
 have hs:=o6 hl
 by_cases hn:norm l=[]
 ·refine⟨0,λm hm=>absurd ?_ hm,.inl rfl⟩;rw[<-hs m,hn];rfl
 obtain⟨e,he,hx⟩:=XG k (Co l);refine⟨e,λm hm=>?_,.inr ?_⟩
 ·rw[<-hs m]at hm;obtain⟨s,lD,e2⟩:∃s∈norm l,s.2=m:=gQ λig=>hm (rY λt ht e=>ig ⟨t,ht,e⟩);rw[<-e2];exact he s lD
 ·obtain⟨s,lD,e2⟩:=hx.resolve_left hn;exact⟨s.2,by rw[<-hs s.2];exact M4 (o7 l) lD,e2⟩
theorem qjJ{k n:Nat}{l:List Tm}(hl:NN l)(hz:¬af l [])(h:dJ k l n):∃m,aH l m≠0/\m.get k=n:=by
 rcases h.2 with h0|h0
 ·obtain⟨m,hm⟩:=OI hz;refine⟨m,hm,?_⟩;have h1:=h.1 m hm
  have h2:m.nn=true:=by
   cases hc:m.nn with
   |true=>rfl
   |false=>exact absurd (hl m hc) hm
  have h3:=Bt h2 k;omega
 ·exact h0
theorem dgr_prod{k:Nat}(h1:1<=k)(h4:k<=4){q s:List Tm}(hq:NN q)(hs:NN s)(zq:¬af q [])(zs:¬af s []){a b:Nat}(ha:dJ k q a)(hb:dJ k s b):dJ k (aC q s) (a+b):=by
 have sq:=o6 hq;have ss:=o6 hs;have hp:af (aC (norm q) (norm s)) (aC q s):=sq.aC ss
 have hle:∀{l:List Tm}{n:Nat},NN l->dJ k l n->∀t∈norm l,t.2.get k<=(n:Int):=λ{l n} hl hd t ht=>hd.1 t.2 (by
  rw[<-o6 hl t.2];exact M4 (o7 l) ht)
 refine⟨λm hm=>?_,.inr ?_⟩
 ·rw[<-hp m]at hm;obtain⟨m1,g1,g2⟩:=qby (qbo (o7 q)) hm;rw[sq m1]at g1;rw[ss]at g2;have e1:=ha.1 m1 g1;have e2:=hb.1 _ g2;rw[EI]at e2;omega
 ·obtain⟨m1,g1,e1⟩:=qjJ hq zq ha;obtain⟨m2,g2,e2⟩:=qjJ hs zs hb;rw[<-sq m1]at g1;rw[<-ss m2]at g2;have c1:=Na h1 h4 g1;have c2:=Na h1 h4 g2;rw[e1]at c1;rw[e2]at c2;have h6:=qbt h1 h4 (e:=(a:Int)) (e':=(b:Int)) (hle hs hb) (norm q) (hle hq ha);have h7:=Tw (gX h1 h4 (uk (Co q))) (gX h1 h4 (uk (Co s))) c1 c2;rw[<-h6]at h7;obtain⟨m,hm,hg⟩:=qbq h1 h4 h7;exact⟨m,by rw[<-hp m];exact hm,by omega⟩
theorem Nh{k a b:Nat}{l:List Tm}(hl:NN l)(hz:¬af l [])(ha:dJ k l a)(hb:dJ k l b):a=b:=by
 obtain⟨m,h1,h2⟩:=qjJ hl hz ha;obtain⟨m',h3,h4⟩:=qjJ hl hz hb;have e1:=hb.1 m h1;have e2:=ha.1 m' h3;omega
def SP3(a b c:Nat)(x y m:PE)(w:World):Prop:=P4 w a x/\P4 w b y/\P4 w c m
theorem SP3.ext{a b c:Nat}{x y m:PE}{w w':World}(h:SP3 a b c x y m w)(he:Ext w w'):SP3 a b c x y m w':=⟨h.1.ext he,h.2.1.ext he,h.2.2.ext he⟩
end Go.Proofs.YtaafefeafonhdaaGreat
namespace Go.Proofs.YtaafefeafonhdaaGreat
open Go.ChangeShapes Go.WideShapes Go.ChangeAt Go.RowKit Go.Deep
section
end
section
variable{H:Type}{enc:TypeId × Value->H}{W:World}
theorem qBq{fuel:Nat}{v:Value}{x:DataW H × List MemPlace}(h:DataW.trod enc Tryz.prog W 0 (λ_=>true) true fuel 36 [v]=some x):∃a n cap X,v=.slice a n cap/\Gg W a n cap X:=by
 have hu:Tryz.prog.underlying 36=some (.slice 78):=Tryz.underlying36
 have hc6:Tryz.prog.cellsOf 78=6:=by kernel_rfl
 rcases open_slice hu h with⟨h0,_⟩|⟨a,len,cap,m,n,D,Pl,hcs,hb,hl,hm,hmm,_,hi⟩
 ·simp only[List.cons.injEq,and_true]at h0;exact⟨none,0,0,λ_=>default,h0,⟨aA _,bu _,.inl rfl⟩,(λi hi=>by omega),λi hi=>by omega⟩
 ·simp only[List.cons.injEq,and_true]at hcs
  have Oc:len<=m:=by rw[hmm,av rfl];exact hl
  rw[hc6]at hi;rcases Nat.eq_zero_or_pos len with h0|h0
  ·subst h0;exact⟨some a,0,cap,λ_=>default,hcs,⟨bu _,hm,.inl rfl⟩,(λi hi=>by omega),λi hi=>by omega⟩
  have H5:a.spot=none/\a.block<W.heap.size:=by
   obtain⟨cs',h1,_⟩:=hi 0 (by omega);obtain⟨_,hlen,hat⟩:=World.cells?_some h1
   match cs',hlen with
   |[u0,u1,u2,u3,u4,u5],_=>
    have c0:W.cell? ((a.add (0*6)).add 0)=some u0:=hat 0 (by omega);rw[Nat.zero_mul,Vk,Vk]at c0;exact⟨World.cell?_spot c0,dM _ _ c0⟩
  obtain⟨b,off,sp⟩:=a;obtain⟨rfl,hblk⟩:=H5;simp only at hblk
  have kI:∀i,∃x:TE,i<len->(W.cell? ⟨b,off+i*6,none⟩=some (.bool x.b)/\W.cell? ⟨b,off+i*6+1,none⟩=some (.slice x.a x.n x.p)/\
   W.cell? ⟨b,off+i*6+2,none⟩=some (.int .i64 x.m.a)/\W.cell? ⟨b,off+i*6+3,none⟩=some (.int .i64 x.m.b)/\W.cell? ⟨b,off+i*6+4,none⟩=some (.int .i64 x.m.c)/\W.cell? ⟨b,off+i*6+5,none⟩=some (.int .i64 x.m.d))/\
   x.n<=9223372036854775807/\(x.n<=1099511627776->∃d,dL M0 W (.slice x.a x.n x.p) x.n d):=by
   intro i
   by_cases N7:i<len
   ·obtain⟨cs',h1,h2⟩:=hi i (by omega);obtain⟨_,hlen,hat⟩:=World.cells?_some h1
    match cs',hlen with
    |[u0,u1,u2,u3,u4,u5],_=>
     have c0:W.cell? (((⟨b,off,none⟩:Addr).add (i*6)).add 0)=some u0:=hat 0 (by omega);have c1:W.cell? (((⟨b,off,none⟩:Addr).add (i*6)).add 1)=some u1:=hat 1 (by omega);have c2:W.cell? (((⟨b,off,none⟩:Addr).add (i*6)).add 2)=some u2:=hat 2 (by omega);have c3:W.cell? (((⟨b,off,none⟩:Addr).add (i*6)).add 3)=some u3:=hat 3 (by omega);have c4:W.cell? (((⟨b,off,none⟩:Addr).add (i*6)).add 4)=some u4:=hat 4 (by omega);have c5:W.cell? (((⟨b,off,none⟩:Addr).add (i*6)).add 5)=some u5:=hat 5 (by omega);rw[Cn,Cn]at c0 c1 c2 c3 c4 c5;obtain⟨y0,y1,q,_,_,e0,e1⟩:=trod_struct2 Tryz.underlying78 h2;rw[show Tryz.prog.cellsOf 30=2 by kernel_rfl]at e0;rw[show Tryz.prog.cellsOf 76=4 by kernel_rfl]at e1;obtain⟨bb,a',n',p',rfl,rfl,oW,yX⟩:=open_int (v0:=u0) (v1:=u1) e0;obtain⟨mm,rfl,rfl,rfl,rfl⟩:=qBo (v0:=u2) (v1:=u3) (v2:=u4) (v3:=u5) e1;exact⟨⟨bb,a',n',p',mm⟩,λ_=>⟨⟨c0,c1,c2,c3,c4,c5⟩,oW,yX⟩⟩
   ·exact⟨default,λh=>absurd h N7⟩
  refine⟨some ⟨b,off,none⟩,len,cap,λi=>(kI i).choose,hcs,⟨hl,hm,.inr ⟨b,off,rfl,hblk,λi hi=>((kI i).choose_spec hi).1⟩⟩,λi hi=>((kI i).choose_spec hi).2.1,λi hi=>((kI i).choose_spec hi).2.2⟩
def U9(W:World)(a:Option Addr)(n cap:Nat)(Y:Nat->SE):Prop:=n<=cap/\cap<=maxLen/\∀i,i<n->∃b off,a=some ⟨b,off,none⟩/\b<W.heap.size/\W.cell? ⟨b,off+i,none⟩=some (.slice (Y i).a (Y i).n (Y i).p)/\∃X,Gg W (Y i).a (Y i).n (Y i).p X
theorem qBr{base:Nat}{v:Value}{d:DataW H}{ps:List MemPlace}(hv:Value.okWide Tryz.prog W .any base 22 v)(h:DataW.Trod enc Tryz.prog W 0 (λ_=>true) true 22 v d ps):∃a n cap Y,v=.slice a n cap/\U9 W a n cap Y:=by
 obtain⟨fuel,h⟩:=h;have hu:Tryz.prog.underlying 22=some (.slice 36):=Tryz.underlying22
 have fw:Tryz.prog.cellsOf 36=1:=by kernel_rfl
 have hv1:v.cells.toList=[v]:=by
  obtain⟨a,n,c,rfl⟩:=okWide_slice hu hv;rfl
 rw[hv1]at h;rcases open_slice hu h with⟨h0,_⟩|⟨a,len,cap,m,n,D,Pl,hcs,hb,hl,hm,hmm,_,hi⟩
 ·simp only[List.cons.injEq,and_true]at h0;exact⟨none,0,0,λ_=>default,h0,aA _,bu _,λi hi=>by omega⟩
 ·simp only[List.cons.injEq,and_true]at hcs
  have H5:a.spot=none/\a.block<W.heap.size:=by
   rw[hcs]at hv;simp only[Value.okWide,hu,Cell.okWide,Cell.ok]at hv;obtain⟨_,_,_,hs,row,cells,hsh,_⟩:=hv;refine⟨hs,?_⟩;unfold World.shape? at hsh
   split at hsh
   ·rename_i c e r hh;exact(Array.getElem?_eq_some_iff.1 hh).1
   ·cases hsh
  have Oc:len<=m:=by rw[hmm,av rfl];exact hl
  rw[fw]at hi
  have kI:∀i,∃y:SE,i<len->∃b off,a=⟨b,off,none⟩/\b<W.heap.size/\W.cell? ⟨b,off+i,none⟩=some (.slice y.a y.n y.p)/\∃X,Gg W y.a y.n y.p X:=by
   intro i
   by_cases N7:i<len
   ·obtain⟨cs',h1,h2⟩:=hi i (by omega);obtain⟨_,hlen,hat⟩:=World.cells?_some h1
    match cs',hlen with
    |[u0],_=>
     have c0:W.cell? ((a.add (i*1)).add 0)=some u0:=hat 0 (by omega);rw[Nat.mul_one,Vk]at c0;obtain⟨a',n',p',X,rfl,hX⟩:=qBq h2;obtain⟨b,off,sp⟩:=a;obtain⟨rfl,hblk⟩:=H5;rw[Cn]at c0;exact⟨⟨a',n',p',[]⟩,λ_=>⟨b,off,rfl,hblk,c0,X,hX⟩⟩
   ·exact⟨default,λh=>absurd h N7⟩
  refine⟨some a,len,cap,λi=>(kI i).choose,hcs,hl,hm,λi hi=>?_⟩;obtain⟨b,off,e,r⟩:=(kI i).choose_spec hi;exact⟨b,off,by rw[e],r⟩
end
end Go.Proofs.YtaafefeafonhdaaGreat
namespace Go.Proofs.YtaafefeafonhdaaGreat
open Go.RowKit
theorem U9.ext{W W':World}{a:Option Addr}{n cap:Nat}{Y:Nat->SE}(h:U9 W a n cap Y)(he:Ext W W')(i:Nat)(hi:i<n):∃b off,a=some ⟨b,off,none⟩/\b<W'.heap.size/\W'.cell? ⟨b,off+i,none⟩=some (.slice (Y i).a (Y i).n (Y i).p)/\∃X,JR W' (Y i).a (Y i).n (Y i).p X/\Gg W (Y i).a (Y i).n (Y i).p X:=by
 obtain⟨b,off,h1,h2,h3,X,h4⟩:=h.2.2 i hi;exact⟨b,off,h1,bB h2 he.size,by rw[he.cell h2];exact h3,X,h4.1.ext he,h4⟩
theorem qDO(m k:Mo):Mo.add (Mo.sub m k) k=m:=((Mo.add_eq _ _ _).2 rfl)
theorem qjx{K:Nat}(h1:1<=K)(h4:K<=4)(l:List Tm)(m:Mo):∀n:Nat,aH (aM K n λi=>ck K (i:Int) l) m=if 0<=m.get K/\m.get K<(n:Int)then aH l m else 0
 |0=>by rw[aj (by omega)];rfl
 |n+1=>by
  rw[gF,iJ,qjx h1 h4 l m n,xC,tL h1 h4,qDO,EI,gM K K _ h1 h4,av rfl]
  by_cases ha:0<=m.get K/\m.get K<(n:Int)
  ·rw[av ha,aj (by omega),av (by omega)];omega
  ·rw[aj ha]
   by_cases hb:m.get K=(n:Int)
   ·rw[av (by omega),av (by omega)];omega
   ·rw[aj (by omega),aj (by omega)];omega
section
variable{P:Program}{ops:Array Oper}{Q:Exit->Act->World->Prop}{md:Region.Mode}{S:World->Prop}{last:Nat}
theorem qEE(i j k:Nat){oi oj ok:Oper}{fuel:Nat}{listed:Array Bool}{a:Act}{w:World}(hr:Region.ready md ops listed=[i,j,k])(hi:ops[i]?=some oi)(hj:ops[j]?=some oj)(hk:ops[k]?=some ok)
 (h:∀K':Act->World->Prop,Shut (∀a w,(i≠last->S w)->lZ P md ops Q S last fuel (listed.setIfInBounds i true) a w->K' a w)->if Region.wanted oi (yielded ops a.tmps)=true then Oper.wp P oi a w K' Q else K' (a.put oi.dst undef) w)
 (h':∀K':Act->World->Prop,Shut (∀a w,(j≠last->S w)->lZ P md ops Q S last fuel (listed.setIfInBounds j true) a w->K' a w)->if Region.wanted oj (yielded ops a.tmps)=true then Oper.wp P oj a w K' Q else K' (a.put oj.dst undef) w)
 (h'':∀K':Act->World->Prop,Shut (∀a w,(k≠last->S w)->lZ P md ops Q S last fuel (listed.setIfInBounds k true) a w->K' a w)->if Region.wanted ok (yielded ops a.tmps)=true then Oper.wp P ok a w K' Q else K' (a.put ok.dst undef) w):lZ P md ops Q S last (fuel+1) listed a w:=by
 refine⟨λh0=>(by rw[h0]at hr;cases hr),λq hq=>?_⟩;rw[hr]at hq;simp only[List.mem_cons,List.not_mem_nil,or_false]at hq;rcases hq with rfl|rfl|rfl
 ·exact wpOp_step hi λK' hK=>h K' λa w h1 h2=>hK a w ⟨h1,h2⟩
 ·exact wpOp_step hj λK' hK=>h' K' λa w h1 h2=>hK a w ⟨h1,h2⟩
 ·exact wpOp_step hk λK' hK=>h'' K' λa w h1 h2=>hK a w ⟨h1,h2⟩
end
def M7(A B:Option Nat):Nat->Prop:=λg=>A=some g\/B=some g
structure S7(wd wk:World)(A B:Option Nat):Prop where
 e:Ext wd wk
 a:∀g,A=some g->au wk g 42 4 (arr zA)/\wd.heap.size<=g
 b:∀g,B=some g->au wk g 42 4 (arr zA)/\wd.heap.size<=g
 ne:∀g,A=some g->B≠some g
theorem S7.lt{wd wk:World}{A B:Option Nat}(h:S7 wd wk A B)(g:Nat)(hg:M7 A B g):wd.heap.size<=g/\g<wk.heap.size:=by
 rcases hg with hg|hg
 ·exact⟨(h.a g hg).2,(h.a g hg).1.lt⟩
 ·exact⟨(h.b g hg).2,(h.b g hg).1.lt⟩
theorem S7.mb{wd wk:World}{A B:Option Nat}(h:S7 wd wk A B):Mb (M7 A B) wk:=λg hg=>(h.lt g hg).2
theorem S7.start(wd:World):S7 wd wd none none:=⟨ai _,(λg h=>by cases h),(λg h=>by cases h),λg h=>by cases h⟩
theorem S7.call{wd wk w':World}{A B:Option Nat}(h:S7 wd wk A B)(d:Ext wk w'):S7 wd w' A B:=⟨h.e.trans d,λg hg=>⟨(h.a g hg).1.ext d,(h.a g hg).2⟩,λg hg=>⟨(h.b g hg).1.ext d,(h.b g hg).2⟩,h.ne⟩
theorem S7.old{wd wk:World}{A B:Option Nat}{x:PE}{l:List Tm}(h:S7 wd wk A B)(hx:aG M0 wd 4 x l):aG (M7 A B) wk 4 x l:=(hx.more (M':=M7 A B) (λg hg=>.inr (h.lt g hg).1)).ext h.e
theorem S7.uM{wd wk:World}{B:Option Nat}(h:S7 wd wk none B):S7 wd (wk.alloc (.cells zA 42)) (some wk.heap.size) B:=by
 have d:Ext wk (wk.alloc (.cells zA 42)):=(ai wk).alloc _;refine⟨h.e.trans d,λg hg=>?_,λg hg=>⟨(h.b g hg).1.ext d,(h.b g hg).2⟩,λg hg hb=>?_⟩
 ·cases hg;exact⟨au.aO wk zA 42 4 rfl,h.e.size⟩
 ·cases hg;have:=(h.b _ hb).1.lt;omega
theorem S7.lN{wd wk:World}{B:Option Nat}{x:PE}{l:List Tm}(_:S7 wd wk none B)(hx:aG (M7 none B) wk 4 x l):aG (M7 (some wk.heap.size) B) (wk.alloc (.cells zA 42)) 4 x l:=by
 refine(hx.more (M':=M7 (some wk.heap.size) B) λg hg=>?_).ext ((ai wk).alloc _);rcases hg with hg|hg
 ·cases hg;exact .inr (aA _)
 ·exact .inl (.inr hg)
def Z4(w:World)(g:Nat):Prop:=w.cell? ⟨g,0,none⟩=some (.int .i64 0)/\w.cell? ⟨g,1,none⟩=some (.bool false)/\w.cell? ⟨g,2,none⟩=some (.slice none 0 0)/\w.cell? ⟨g,3,none⟩=some (.slice none 0 0)
def LM(w:World)(g:Nat):Prop:=w.frozen? ⟨g,0,none⟩=false/\w.frozen? ⟨g,1,none⟩=false/\w.frozen? ⟨g,2,none⟩=false/\w.frozen? ⟨g,3,none⟩=false
theorem au.z4{w:World}{g:Nat}(h:au w g 42 4 (arr zA)):Z4 w g:=⟨h.cell (i:=0) (by omega),h.cell (i:=1) (by omega),h.cell (i:=2) (by omega),h.cell (i:=3) (by omega)⟩
theorem au.Nn{w:World}{g:Nat}{t:TypeId}{n:Nat}{f:Nat->Value}(h:au w g t n f):LM w g:=⟨h.frozen 0,h.frozen 1,h.frozen 2,h.frozen 3⟩
theorem JV{w:World}{g:Nat}{t:TypeId}{f:Nat->Value}(h:au w g t 4 f)(x:PE):au (aD w g 0 (.int .i64 x.lv) (.bool x.b) (.slice x.a x.n x.p) (.slice x.ka x.kn x.kp)) g t 4 (arr (ag x)):=
 (h.aD 0 (.int .i64 x.lv) (.bool x.b) (.slice x.a x.n x.p) (.slice x.ka x.kn x.kp)).congr λi hi=>match i,hi with
  |0,_=>D6 f 0 _ _ _ _
  |1,_=>D7 f 0 _ _ _ _
  |2,_=>D8 f 0 _ _ _ _
  |3,_=>D9 f 0 _ _ _ _
structure qiP(wd W:World)(a:Nat)(x:PE)(l:List Tm):Prop where
 e:Ext wd W
 p:P4 W a x
 x:aG M0 W 4 x l
theorem S7.Bv{wd wk:World}{a:Nat}{x:PE}{l:List Tm}(h:S7 wd wk (some a) none)(hx:aG (M7 (some a) none) wk 4 x l):
 ∃W1,W1=aD wk a 0 (.int .i64 x.lv) (.bool x.b) (.slice x.a x.n x.p) (.slice x.ka x.kn x.kp)/\Z4 wk a/\LM wk a/\qiP wd W1 a x l:=by
 obtain⟨hB,hw⟩:=h.a a rfl;refine⟨_,rfl,hB.z4,hB.Nn,h.e.aD hw _ _ _ _ _,(JV hB x).p4,(hx.kp (Kp.aD (.inl rfl) _ _ _ _ _)).more λg hg=>hg.elim⟩
theorem quT{B:Nat}{l:List Tm}(h:bE B l)(z:Int):bE B (aC l [(z,Mo.zero)]):=bE.bP (l:=smul z l) (λm hm k=>h m (λe=>hm (by rw[mO,e];exact Int.mul_zero _)) k) (af.symm ((OP l (z,Mo.zero)).trans (by rw[IC];exact af.refl _)))
def Cz(K:Nat)(l:List Tm)(i:Nat):List Tm:=aC (ck K (((i+1:Nat):Int)) l) [(((i+1:Nat):Int),Mo.zero)]
def TT(l:List Tm)(L:Int)(s:List Tm):Prop:=((af l []\/¬(1<=L/\L<=4))/\s=[])\/(¬af l []/\∃K n:Nat,L=K/\1<=K/\K<=4/\dJ K l n/\s=aM K n (Cz K l))
theorem qvm{K A:Nat}{l:List Tm}(h:aF (aB l)<=A)(i:Nat)(hi:i<4294967295):aF (aB (Cz K l i))<=A+1:=by
 unfold Cz;rw[DN];have h1:=nN (aB (ck K (((i+1:Nat):Int)) l)) (aB [(((i+1:Nat):Int),Mo.zero)]);have h2:=fu (qbs K (((i+1:Nat):Int)) l)
 have h3:aF (aB [(((i+1:Nat):Int),Mo.zero)])<=1:=by
  rw[qC];show(((i+1:Nat):Int)).natAbs+0<4294967296^1;omega
 omega
def MQ(g o:Nat)(y:PE)(w:World):Prop:=eF w g o y/\g<w.heap.size
theorem MQ.ext{g o:Nat}{y:PE}{w w':World}(h:MQ g o y w)(he:Ext w w'):MQ g o y w':=⟨h.1.ext h.2 he,bB h.2 he.size⟩
theorem qAx(M:Nat->Prop)(x:PE)(l:List Tm)(L:Int)(B:Nat)(w:World)(hM:Mb M w)(h:PI M w x l)(hB:bE B l)(dW:(B+1)*(B+1)^4<=1099511627776)(bJ:B+1<=100000)(hR:aF (aB l)<=90):Calls Tryz.prog 63 #[.agg (ag x),.int .i64 L] w (Vd M w (TT l L)):=by
 obtain⟨aL,kr,aW,bD⟩:=MZ hM x;have gY:(B+1)^4<=1099511627776:=aK (Nat.le_mul_of_pos_left _ (Nat.succ_pos B)) dW;have CC:=ae (XI _ x l L B _ bD ((h.more (M':=Mx M w.heap.size (w.heap.size+2)) (Mx.more (aA _))).ext aL) hB gY (by omega) (by omega));have vG:=ae (λW=>Tj L W);have HE:=ae aL;have HB:=ae aW;have HM:=ae bD;obtain⟨x0,x1,x2,x3⟩:=kr;have KQ:Hid (∀K n:Nat,dJ K l n->n<=B):=λK n hd=>VA hd hB;have cK:=ae bJ;have l5:=ae hB;have mM:=ae dW;have HR:=ae hR;clear aL bD hM h hB gY hR bJ dW
 by_cases pO:¬(1<=L/\L<=4)
 ·have RZ:eH L=false:=by unfold eH;simp only[decide_eq_false_iff_not];exact pO
  rw[RZ]at vG;have bQ:Hid (Vd M w (TT l L) (.returned (.agg (ag PE.z))) ((w.alloc (.cells (ag x) 42)).alloc (.cells zA 42))):=⟨PE.z,[],rfl,CR.zero _ _ 4,.inl ⟨.inr pO,rfl⟩,HE.out⟩;clear aW pO RZ CC
  go_enter Tryz.func63,Tryz.ntmps63
  go_wp2_with (fail);refine(vG.out _).mono ?_;rintro e w1 ⟨rfl,rfl⟩;clear vG;go_wp2;exact aV (v:=.agg (ag PE.z)) (by simp[results,Tryz.results63,go_sem,PE.z]) rfl bQ.out
 have RZ:eH L=true:=by unfold eH;simp only[decide_eq_true_eq];exact Decidable.not_not.1 pO
 rw[RZ]at vG;have qsL:=ae (Decidable.not_not.1 pO);clear pO RZ aW
 go_enter Tryz.func63,Tryz.ntmps63
 go_wp2_with (fail);refine(vG.out _).mono ?_;rintro e w1 ⟨rfl,rfl⟩;clear vG;go_wp2_with (fail);refine CC.out.mono ?_;rintro e w1 ⟨hr,ah⟩;have aP:=ae (HE.out.trans ah);have bS:=ae (HB.out.ext ah);have qU:=ae (HM.out.ext ah);clear ah CC x0 x1 x2 x3 HB HE;rcases hr with⟨hz,rfl⟩|⟨hz,hl,_⟩|⟨hz,J,n,g,rfl,Am,fJ,rfl,hg,hd,hk⟩
 ·obtain⟨⟨q0,q1,q2,q3⟩,⟨f0,f1,f2,f3⟩,⟨r0,r1,r2,r3⟩,HF⟩:=gI (M:=M) (M':=Mx M w.heap.size (w.heap.size+2)) (w:=w) (L:=4) (l:=[]) (y:=PE.z) bS.out (Mx.at (by omega)) (by omega) aP.out (CR.zero _ _ 4) Mx.sub;simp only[PE.z]at r0 r1 r2 r3;have bQ:=ae (HF.out.ld (R:=TT l L) (.inl ⟨.inl hz,rfl⟩));clear HF bS hz;go_wp2;exact aV (v:=.agg (ag PE.z)) (by simp[results,Tryz.results63,go_sem,r0,r1,r2,r3,PE.z]) rfl bQ.out
 ·exact absurd qsL.out hl
 ·have gP:=hk.lt;have qnr:=KQ.out J n hd
  have Og:(n:Int)+1<=100000:=by have:=cK.out;omega
  have iN:(0:Int)<=(n:Int):=jE _
  have hne:((n:Int)+1==0)=false:=by simp;omega
  have rz:w.heap.size+2<=g:=by simpa using hg
  have HZ:=ae hz;have HD:=ae hd;have HK:=ae (And.intro Am fJ)
  have HKI:Hid (Kids (λb=>Mx M w.heap.size (w.heap.size+2) b\/b=g) w1 4 g (n+1) (λi=>if i<0 then Cz J l i else ck J (i:Int) l)):=hk.congr λi _=>by rw[aj (by omega)];exact af.refl _
  have qns:Hid (n<=B):=qnr;clear hk hz hd KQ Am fJ qnr;go_wp2
  go_loopw [6] (λiv wr=>∃q:Nat,q<=n/\iv=.int .i64 ((q:Int)+1)/\Hid (Kids (λb=>Mx M w.heap.size (w.heap.size+2) b\/b=g) wr 4 g (n+1) (λi=>if i<q then Cz J l i else ck J (i:Int) l))/\Hid (Ext w wr)/\Hid (au wr (w.heap.size+1) 42 4 (arr zA))/\w.heap.size+2<=wr.heap.size) (λiv _=>n+1-(intOf iv).toNat)
  case atStart=>exact⟨0,bu _,rfl,HKI,aP,bS,by omega⟩
  case round=>
   clear HKI aP bS;obtain⟨q,hq,rfl,I9,bM,iO,hsz⟩:=hrel
   by_cases hlt:q<n
   ·have wE:(q:Int)+1<(n:Int)+1:=by omega
    have qK:(0:Int)<=(q:Int):=jE _;have gK:=ae hlt;obtain⟨y,hy4,hyx⟩:=I9.out.Cr (q+1) (by omega);have G7:=I9.out.lt
    have qor:aG (λb=>Mx M w.heap.size (w.heap.size+2) b\/b=g) wr 4 y (ck J (((q+1:Nat):Int)) l):=by
     have:=hyx;rw[aj (by omega)]at this;exact this
    have Qs:=ae (qor.ext (ai wr).drew);have hS:MQ g ((q+1)*4) y wr.drew:=MQ.ext ⟨hy4,G7⟩ (ai wr).drew
    have BO:Hid (Mb (λb=>Mx M w.heap.size (w.heap.size+2) b\/b=g) wr.drew):=λb hb=>by
     have:=(ai wr).drew.size;rcases hb with hb|rfl
     ·have h2:=HM.out b hb;simp only[World.size_alloc]at h2;omega
     ·omega
    have hwq:IntKind.i64.wrap ((q:Int)+1-1)=(q:Int):=by rw[IntKind.wrap_i64];omega
    have qhf:Hid (Ext w wr.drew):=bM.out.trans (ai wr).drew;have qgT:Hid (au wr.drew (w.heap.size+1) 42 4 (arr zA)):=iO.out.ext (ai wr).drew;have wY:=ae (I9.out.ext (ai wr).drew);have K5:w.heap.size+2<=wr.drew.heap.size:=aK hsz (ai wr).drew.size;have qmO:g<wr.drew.heap.size:=hS.2;clear hyx qor hy4 I9 bM iO hsz G7
    go_upto_region 9 with(fail)
    refine fB (MQ g ((q+1)*4) y) 11 hS λhHeld=>?_;clear hS;generalize wr.drew=wd at*
    have hq1:(0:Int)<=(q:Int)+1:=by omega
    have qGX:IntKind.i64.wrap (q:Int)=(q:Int):=by rw[IntKind.wrap_i64];omega
    have hq2:(q:Int)<(n:Int)+1:=by omega
    have C9:Hid (∀(W:World)(ib:Bool)(ia:Option Addr)(il ip:Nat),Ext wd W->dh (λb=>Mx M w.heap.size (w.heap.size+2) b\/b=g) W (.bool ib) (.slice ia il ip) ((q:Int)+1)->Calls Tryz.prog 26 #[.agg (ag y),.agg #[.bool ib,.slice ia il ip]] W (di (λb=>Mx M w.heap.size (w.heap.size+2) b\/b=g) W 4 (Cz J l q))):=λW ib ia il ip he hi=>by
     have h2:=fu (qbs J (((q+1:Nat):Int)) l)
     have h3:aF ((q:Int)+1).natAbs<=1:=by
      rw[qC];show((q:Int)+1).natAbs<4294967296^1;omega
     have h4:=HR.out;exact qfF (λb=>Mx M w.heap.size (w.heap.size+2) b\/b=g) y _ B ib ia il ip ((q:Int)+1) W (BO.out.ext he) (Qs.out.ext he).pi hi (by omega) (qbp HK.out.1 HK.out.2 l5.out) (by have:=cK.out;omega)
    refine bH [0,1,2,3,4,5,6,7] ?_;(iterate 8 refine bG ?_ (hy:=by intro wS hSw;obtain⟨⟨S1,S2,S3,S4⟩,S5⟩:=hSw;go_simp;try with_reducible rfl));refine bI ?_
    (refine aI 8 λK hK=>?_);go_simp;(refine(DD (M:=λb=>Mx M w.heap.size (w.heap.size+2) b\/b=g) ((q:Int)+1) _ BO.out (by omega) (by omega)).mono ?_);rintro e_ u1 ⟨e0,e1,rfl,hi,kS⟩;go_wp2_with (fail);(try clear ak);(refine ny hK (hHeld.ext kS) λak=>?_);clear hK K
    obtain⟨ib,ia,il,ip,rfl,rfl⟩:=hi.form
    (refine aI 9 λK hK=>?_);go_simp;(refine(C9.out _ ib ia il ip (kS) hi.dB).mono ?_);rintro e_ u2 ⟨v,rfl,hv,vP⟩;go_wp2_with (fail);(try clear ak);(refine ny hK (hHeld.ext (kS.trans vP)) λak=>?_);clear hK K
    refine bH [10] ?_;(iterate 1 refine bG ?_ (hy:=by intro wS hSw;obtain⟨⟨S1,S2,S3,S4⟩,S5⟩:=hSw;go_simp;try with_reducible rfl));refine bI ?_;have bg:=kS.trans vP;have fJ:=wY.out.ext bg;obtain⟨⟨_,k0⟩,⟨_,k1⟩,⟨_,k2⟩,⟨_,k3⟩,bn,jh⟩:=fJ.at q (by omega);have jw:=bn (q*4);have ku:=bn (q*4+1);have kv:=bn (q*4+2);have oU:=bn (q*4+3)
    have nD:Hid (Kids (λb=>Mx M w.heap.size (w.heap.size+2) b\/b=g) (aD u2 g (q*4) (.int .i64 v.lv) (.bool v.b) (.slice v.a v.n v.p) (.slice v.ka v.kn v.kp)) 4 g (n+1) (λi=>if i<q+1 then Cz J l i else ck J (i:Int) l)):=by
     refine(fJ.set (.inr rfl) q (by omega) hv).congr λi _=>?_
     by_cases fe:i=q
     ·subst fe;rw[av rfl,av (by omega)];exact af.refl _
     ·rw[aj fe]
      by_cases h3:i<q
      ·rw[av h3,av (by omega)];exact af.refl _
      ·rw[aj h3,aj (by omega)];exact af.refl _
    have cZ:Hid (Ext w (aD u2 g (q*4) (.int .i64 v.lv) (.bool v.b) (.slice v.a v.n v.p) (.slice v.ka v.kn v.kp))):=(qhf.out.trans bg).aD (by omega) _ _ _ _ _;have mM:Hid (au (aD u2 g (q*4) (.int .i64 v.lv) (.bool v.b) (.slice v.a v.n v.p) (.slice v.ka v.kn v.kp)) (w.heap.size+1) 42 4 (arr zA)):=(qgT.out.ext bg).of_heap (fD _ _ _ _ _ _ _ _ (by omega))
    have mo:Hid (w.heap.size+2<=(aD u2 g (q*4) (.int .i64 v.lv) (.bool v.b) (.slice v.a v.n v.p) (.slice v.ka v.kn v.kp)).heap.size):=by show _<=_;rw[kN];have:=bg.size;omega
    clear fJ bn hv hi kS vP bg wY qhf qgT Qs BO C9 hHeld ak
    (refine aI 11 λK hK=>?_);go_simp;(refine fz hK ?_);clear hK K
    go_wp2
    go_roundw
    case rel=>exact⟨q+1,gK.out,by go_num,nD,cZ,mM,mo.out⟩
    case measure=>have:=gK.out;simp[intOf];omega
   ·obtain rfl:q=n:=by omega
    have jy:¬(q:Int)+1<(q:Int)+1:=by omega
    have hw:IntKind.i64.wrap ((q:Int)+1-1)=(q:Int):=by rw[IntKind.wrap_i64];omega
    have Wp:¬(Mx M w.heap.size (w.heap.size+2)) g:=λh=>by
     have h2:=HM.out _ h;simp only[World.size_alloc]at h2;omega
    have jA:=(I9.out.take (M':=Mx M w.heap.size (w.heap.size+2)) (n:=q) (λb hb=>.inl (.inl hb)) Wp (by omega) (by omega)).congr (Q:=Cz J l) (λi hi=>by rw[av hi];exact af.refl _)
    have BO:Hid (Mb (Mx M w.heap.size (w.heap.size+2)) wr):=λb hb=>by
     have h2:=HM.out b hb;simp only[World.size_alloc]at h2;omega
    have CJ:=ae (qpd (L:=J) (S:=B) (A:=91) wr BO.out jA HK.out.1 HK.out.2 (λi _=>quT (qbp HK.out.1 HK.out.2 l5.out) _) (aK (fq _ (show q<=B+1 by have:=qns.out;omega)) mM.out) (by have:=cK.out;have:=qns.out;omega) (λi hi=>qvm HR.out i (by omega)) (by omega));have G7:=I9.out.lt;clear jA Wp I9 BO cK mM l5 HR hlt;go_wp2_with (fail);refine CJ.out.mono ?_;rintro e w2 ⟨y,rfl,hy,az⟩;obtain⟨⟨q0,q1,q2,q3⟩,⟨f0,f1,f2,f3⟩,⟨r0,r1,r2,r3⟩,HF⟩:=gI (M:=M) (w:=w) (L:=4) (y:=y) (iO.out.ext az) (Mx.at (by omega)) (by omega) (bM.out.trans az) hy Mx.sub;have bQ:=ae (HF.out.ld (R:=TT l J) (.inr ⟨HZ.out,J,q,rfl,HK.out.1,HK.out.2,HD.out,rfl⟩));clear HF iO hy az CJ bM;go_wp2;exact aV (v:=.agg (ag y)) (by simp[results,Tryz.results63,go_sem,r0,r1,r2,r3]) rfl bQ.out
section
variable{P:Program}{ops:Array Oper}{Q:Exit->Act->World->Prop}{md:Region.Mode}{S:World->Prop}{last l n:Nat}
theorem qEH{o:Oper}{a:Act}{w:World}{K:Act->World->Prop}(hd:∀c,o.op≠ .defer c)(h:Oper.wp P o a w K Q):Oper.wpIn (Fence.wide.inRound l) n P o a w K Q:=by
 refine⟨λ_ _=>trivial,?_⟩;rw[Oper.semAt_plain _ _ _ hd];unfold Oper.wp at h;generalize (execOp a.eval o).run P w=r at*
 cases r with
 |ok x w'=>
  cases x with
  |enter f args=>exact⟨(λh=>by cases h),callsIn_wide.2 h⟩
  |row row args=>exact⟨(λh=>by cases h),λc cs _=>let ⟨v,w',r,s⟩:=h c cs;⟨v,w',r,stepsIn_wide.2 s⟩⟩
  |round l f tmps assign body=>exact False.elim h
  |_=>exact h
 |halt x w'=>cases x<;>exact h
def XN(ops:Array Oper):Bool:=ops.all λo=>match o.op with| .defer _=>false|_=>true
theorem qAS(h:XN ops=true){i:Nat}{o:Oper}(hi:ops[i]?=some o):∀c,o.op≠ .defer c:=by
 intro c e;unfold XN at h;rw[Array.all_eq_true]at h;obtain⟨hlt,rfl⟩:=Array.getElem?_eq_some_iff.1 hi;have:=h i hlt;rw[e]at this;cases this
end
section
end
def kQ(L:Nat)(l:List Tm):Prop:=∀m,aH l m≠0->m.get L=0
theorem kQ.append{L:Nat}{l r:List Tm}(h:kQ L l)(k:kQ L r):kQ L (l++r):=λm hm=>by
 rw[iJ]at hm
 by_cases h1:aH l m=0
 ·exact k m (by omega)
 ·exact h m h1
theorem kQ.neg{L:Nat}{l:List Tm}(h:kQ L l):kQ L (cB l):=λm hm=>h m (λe=>hm (by rw[zt,e];rfl))
theorem kQ.aC{L:Nat}{l r:List Tm}(h:kQ L l)(k:kQ L r)(nl:NN l):kQ L (aC l r):=λm hm=>by
 have hs:=o6 nl;rw[<-(hs.qN r) m]at hm;obtain⟨m1,h1,h2⟩:=qby (qbo (o7 l)) hm;have a1:=h m1 (by rw[<-hs m1];exact h1);have a2:=k _ h2;rw[EI]at a2;omega
theorem qb3{L:Nat}(h1:1<=L)(h4:L<=4)(e:Int)(l:List Tm):kQ L (ck L e l):=λm hm=>by
 rw[tL h1 h4]at hm
 split at hm
 ·assumption
 ·exact absurd rfl hm
theorem fF{l r:List Tm}(h:NN l)(k:NN r):NN (aC l r):=λm hm=>Ll h k m hm
def fU(L B A:Nat)(l:List Tm):Prop:=NN l/\kQ L l/\bE B l/\aF (aB l)<=A
theorem fU.mono{L B A B' A':Nat}{l:List Tm}(h:fU L B A l)(hB:B<=B')(hA:A<=A'):fU L B' A' l:=⟨h.1,h.2.1,h.2.2.1.mono hB,aK h.2.2.2 hA⟩
theorem fU.aC{L B A C D:Nat}{l r:List Tm}(h:fU L B A l)(k:fU L C D r):fU L (B+C) (A+D) (aC l r):=
 ⟨fF h.1 k.1,h.2.1.aC k.2.1 h.1,bE.aC h.2.2.1 k.2.2.1 h.1,by rw[DN];exact aK (nN _ _) (Nat.add_le_add h.2.2.2 k.2.2.2)⟩
theorem fU.sub{L B A:Nat}{l r:List Tm}(h:fU L B A l)(k:fU L B A r):fU L B (A+1) (l++cB r):=
 ⟨h.1.append (oq k.1),h.2.1.append k.2.1.neg,h.2.2.1.append (OE k.2.2.1),by
  rw[kK,OG];have:=Gt (aB l) (aB r);have:=h.2.2.2;have:=k.2.2.2
  omega⟩
def qd(k:Nat)(c top:List Tm)(G R:Nat->List Tm)(j i:Nat):List Tm:=if i<j then(if k<=i then aC (R i) c++cB (aC top (G (i-k)))else aC (R i) c)else R i
theorem qBE(k:Nat)(c top:List Tm)(G R:Nat->List Tm)(i:Nat):qd k c top G R 0 i=R i:=aj (Nat.not_lt_zero _)
theorem qBB(k:Nat)(c top:List Tm)(G R:Nat->List Tm)(j:Nat):qd k c top G R j j=R j:=aj (Nat.lt_irrefl _)
theorem qBD(k:Nat)(c top:List Tm)(G R:Nat->List Tm)(j i:Nat)(h:¬k<=j):qd k c top G R (j+1) i=if i=j then aC (R j) c else qd k c top G R j i:=by
 unfold qd
 by_cases h1:i=j
 ·subst h1;rw[av (by omega),aj h,av rfl]
 ·rw[aj h1]
  by_cases h2:i<j
  ·rw[av h2,av (by omega)]
  ·rw[aj h2,aj (by omega)]
theorem qBC(k:Nat)(c top:List Tm)(G R:Nat->List Tm)(j i:Nat)(h:k<=j):qd k c top G R (j+1) i=if i=j then aC (R j) c++cB (aC top (G (j-k)))else qd k c top G R j i:=by
 unfold qd
 by_cases h1:i=j
 ·subst h1;rw[av (by omega),av h,av rfl]
 ·rw[aj h1]
  by_cases h2:i<j
  ·rw[av h2,av (by omega)]
  ·rw[aj h2,aj (by omega)]
def Tv(L V k:Nat)(c:List Tm)(T:Nat->List Tm):List Tm:=aM L V λi=>if k<=i then aC (T i) (dS c (i-k))else[]
def Gh(L n V B C A D:Nat)(c l r:List Tm)(k:Nat)(R T:Nat->List Tm):Prop:=
 af (aC (dS c (V-k)) l) (aC (Tv L V k c T) r++aM L (n+k) R)/\
 (∀i,i<n+k->fU L (B+(V-k)*C) (A+(V-k)*(D+1)) (R i))/\
 (∀i,k<=i->i<V->fU L (B+V*C) (A+V*(D+1)) (T i))
theorem Gh.start{L n V B C A D:Nat}{c l r:List Tm}{R T:Nat->List Tm}(hs:af (aM L (n+V) R) l)(h:∀i,i<n+V->fU L B A (R i)):Gh L n V B C A D c l r V R T:=by
 refine⟨?_,λi hi=>?_,λi h1 h2=>by omega⟩
 ·have h0:af (Tv L V V c T) []:=Tz λi hi=>by rw[aj (by omega)];exact af.refl _
  rw[Nat.sub_self];exact(af.zB _ _).trans ((XU l).trans (hs.symm.trans ((h0.qN r).symm.append (af.refl (aM L (n+V) R)))))
 ·rw[Nat.sub_self,Nat.zero_mul,Nat.zero_mul];exact h i hi
theorem qp9(L n:Nat)(P:Nat->List Tm)(r:List Tm):af (aM L n λi=>aC (P i) r) (aC (aM L n P) r):=Tx L n P r
theorem Gh.step{L n V B C A D:Nat}{l r:List Tm}{k:Nat}{R T G:Nat->List Tm}(h:Gh L n V B C A D (G n) l r (k+1) R T)(hk:k<V)(hr:af (aM L (n+1) G) r)(hG:∀i,i<n+1->fU L C D (G i))(hT:T k=R (n+k)):
 Gh L n V B C A D (G n) l r k (qd k (G n) (R (n+k)) G R (n+k)) T:=by
 obtain⟨h1,h2,h3⟩:=h
 have es:V-k=(V-(k+1))+1:=by omega
 have e1:(V-k)*C=(V-(k+1))*C+C:=by rw[es,Nat.add_mul,Nat.one_mul]
 have e2:(V-k)*(D+1)=(V-(k+1))*(D+1)+(D+1):=by rw[es,Nat.add_mul,Nat.one_mul]
 have e3:=fq C (show V-(k+1)<=V by omega);have e4:=fq (D+1) (show V-(k+1)<=V by omega);refine⟨?_,λi hi=>?_,λi hi RP=>?_⟩
 ·have hQ:af (Tv L V k (G n) T) (aC (Tv L V (k+1) (G n) T) (G n)++shift (xp L (k:Int)) (R (n+k))):=by
   have hg:=(XW (L:=L) hk (F':=λi=>if k<=i then(if i=k then R (n+k)else aC (T i) (dS (G n) (i-k)))else[]) (F:=λi=>if k+1<=i then aC (T i) (dS (G n) (i-k))else[]) (l:=R (n+k)) (λi hi fe=>?_) ?_).1
   ·refine af.trans (qO _ _ _ _ λi hi=>?_) (hg.trans ((af.trans (qO _ _ _ (λi=>aC (if k+1<=i then aC (T i) (dS (G n) (i-(k+1)))else[]) (G n)) λi hi=>?_) (qp9 _ _ _ _)).append (af.refl _)))
    ·by_cases h5:k<=i
     ·rw[av h5,av h5]
      by_cases h6:i=k
      ·rw[av h6,h6,Nat.sub_self,hT];exact XU _
      ·rw[aj h6];exact af.refl _
     ·rw[aj h5,aj h5];exact af.refl _
    ·by_cases h5:k+1<=i
     ·rw[av h5,av h5,show i-k=(i-(k+1))+1 by omega,OT];exact(af.OM _ _ _).symm
     ·rw[aj h5,aj h5];exact af.refl _
   ·by_cases h5:k<=i
    ·rw[av h5,aj fe,av (by omega)]
    ·rw[aj h5,aj (by omega)]
   ·show(if k<=k then(if k=k then R (n+k)else aC (T k) (dS (G n) (k-k)))else[])=(if k+1<=k then aC (T k) (dS (G n) (k-k))else[])++R (n+k);rw[av (aA _),av rfl,aj (by omega)];rfl
  have hU:=((hr.symm.vg (shift (xp L (k:Int)) (R (n+k))))).trans (qfq L k (R (n+k)) G (n+1))
  have hU2:af (aM L (k+(n+1)) λi=>if k<=i then aC (R (n+k)) (G (i-k))else[]) (aM L (n+k) (λi=>if k<=i then aC (R (n+k)) (G (i-k))else[])++shift (xp L ((n+k:Nat):Int)) (aC (R (n+k)) (G n))):=by
   rw[show k+(n+1)=(n+k)+1 by omega,gF,av (by omega),show n+k-k=n by omega];exact af.refl _
  have hR:af (aM L (n+k) (qd k (G n) (R (n+k)) G R (n+k))) (aC (aM L (n+k) R) (G n)++cB (aM L (n+k) λi=>if k<=i then aC (R (n+k)) (G (i-k))else[])):=by
   refine af.trans (qO _ _ _ (λi=>aC (R i) (G n)++cB (if k<=i then aC (R (n+k)) (G (i-k))else[])) λi hi=>?_) ((qfm _ _ _ _).trans ((qp9 _ _ _ _).append (Tx _ _ _ _)));unfold qd;rw[av hi]
   by_cases h5:k<=i
   ·rw[av h5,av h5];exact af.refl _
   ·rw[aj h5,aj h5];intro m;rw[iJ,zt];simp[aH]
  have hT:af (aC (aM L (n+k+1) R) (G n)) (aC (aM L (n+k) R) (G n)++shift (xp L ((n+k:Nat):Int)) (aC (R (n+k)) (G n))):=by
   rw[gF,Ir];exact(af.refl _).append (OO _ _ _)
  have hL:af (aC (dS (G n) (V-k)) l) (aC (aC (Tv L V (k+1) (G n) T) (G n)) r++aC (aM L (n+k+1) R) (G n)):=by
   rw[es,OT];refine(af.OM _ _ _).trans (((af.zB _ _).vg _).trans ((af.OM _ _ _).symm.trans ((h1.qN _).trans ?_)));rw[Ir];refine af.append ?_ (af.refl _);exact(af.OM _ _ _).trans (((af.zB _ _).vg _).trans (af.OM _ _ _).symm)
  intro m;have a1:=hL m;have a2:=(hQ.qN r) m;have a3:=(hU.trans hU2) m;have a4:=hR m;have a5:=hT m;rw[Ir]at a2;simp only[iJ,zt]at a1 a2 a3 a4 a5⊢;omega
 ·rw[e1,e2];have g1:=h2 i (by omega);have gt:=h2 (n+k) (by omega);have gn:=hG n (Nat.lt_succ_self n);unfold qd;rw[av hi, <-Nat.add_assoc B]
  by_cases h5:k<=i
  ·rw[av h5];exact((g1.aC gn).sub (gt.aC (hG (i-k) (by omega)))).mono (aA _) (by omega)
  ·rw[aj h5];exact(g1.aC gn).mono (aA _) (by omega)
 ·by_cases fe:i=k
  ·rw[fe,hT];exact(h2 (n+k) (by omega)).mono (by omega) (by omega)
  ·exact h3 i (by omega) RP
def iC(n V:Nat)(G R0:Nat->List Tm):Nat->Nat->List Tm
 |0=>R0
 |t+1=>qd (V-1-t) (G n) (iC n V G R0 t (n+(V-1-t))) G (iC n V G R0 t) (n+(V-1-t))
def xX(n V:Nat)(G R0:Nat->List Tm)(i:Nat):List Tm:=iC n V G R0 (V-1-i) (n+i)
theorem qp0{n V k:Nat}(G R0:Nat->List Tm)(hk:k<V):iC n V G R0 (V-k)=qd k (G n) (iC n V G R0 (V-(k+1)) (n+k)) G (iC n V G R0 (V-(k+1))) (n+k):=by
 have e:V-k=(V-(k+1))+1:=by omega
 rw[e];show qd (V-1-(V-(k+1))) _ _ _ _ _=_;rw[show V-1-(V-(k+1))=k by omega]
theorem qp1{n V k:Nat}(G R0:Nat->List Tm):xX n V G R0 k=iC n V G R0 (V-(k+1)) (n+k):=by
 unfold xX;rw[show V-1-k=V-(k+1) by omega]
theorem qfk{L n V B C A D:Nat}{l r:List Tm}{R0 G:Nat->List Tm}(hs:af (aM L (n+V) R0) l)(h:∀i,i<n+V->fU L B A (R0 i))(hr:af (aM L (n+1) G) r)(hG:∀i,i<n+1->fU L C D (G i)):∀t,t<=V->Gh L n V B C A D (G n) l r (V-t) (iC n V G R0 t) (xX n V G R0)
 |0,_=>Gh.start hs h
 |t+1,ht=>by
  have ih:=qfk hs h hr hG t (by omega);rw[show V-t=(V-(t+1))+1 by omega]at ih;have h2:=ih.step (by omega) hr hG (by rw[qp1];rw[show V-(V-(t+1)+1)=t by omega]);have h3:=qp0 (n:=n) (V:=V) (k:=V-(t+1)) G R0 (by omega);rw[show V-(V-(t+1))=t+1 by omega,show V-(V-(t+1)+1)=t by omega]at h3;rw[h3];exact h2
theorem Q0{w wr w':World}{r:Option Nat}(h:w.grownBy wr r)(he:Ext wr w'):w.grownBy w' r:=Q5 h (he.grownBy r)
theorem qb6{w wr:World}{g b:Nat}(h:w.grownBy wr (some g))(hb:b=g\/w.heap.size<=b)(o:Nat)(e0 e1 e2 e3:Value):w.grownBy (aD wr b o e0 e1 e2 e3) (some g):=
 ⟨h.os,h.tape,h.output,by rw[kN];exact h.size,λi hi hr=>by
  rw[fD _ _ _ _ _ _ _ _ (λe=>by
   rcases hb with rfl|hb
   ·exact hr (by rw[e])
   ·omega)]
  exact h.block i hi hr⟩
def Cf(g o:Nat)(y:PE)(gd o2:Nat)(c:PE)(w:World):Prop:=eF w g o y/\eF w gd o2 c/\g<w.heap.size/\gd<w.heap.size
theorem Cf.ext{g o:Nat}{y:PE}{gd o2:Nat}{c:PE}{w w':World}(h:Cf g o y gd o2 c w)(he:Ext w w'):Cf g o y gd o2 c w':=⟨h.1.ext h.2.2.1 he,h.2.1.ext h.2.2.2 he,bB h.2.2.1 he.size,bB h.2.2.2 he.size⟩
def Cg(g o:Nat)(y:PE)(gt:Nat)(z:PE)(gd o2:Nat)(c:PE)(w:World):Prop:=eF w g o y/\P4 w gt z/\eF w gd o2 c/\g<w.heap.size/\gt<w.heap.size/\gd<w.heap.size
theorem Cg.ext{g o:Nat}{y:PE}{gt:Nat}{z:PE}{gd o2:Nat}{c:PE}{w w':World}(h:Cg g o y gt z gd o2 c w)(he:Ext w w'):Cg g o y gt z gd o2 c w':=⟨h.1.ext h.2.2.2.1 he,h.2.1.ext he,h.2.2.1.ext h.2.2.2.2.2 he,bB h.2.2.2.1 he.size,bB h.2.2.2.2.1 he.size,bB h.2.2.2.2.2 he.size⟩
def qiV(M:Nat->Prop)(w:World)(n V g:Nat)(G R0:Nat->List Tm)(e:Ending)(w':World):Prop:=∃gt,e=.returned (.tuple #[.slice (some ⟨gt,0,none⟩) V V,.slice (some ⟨g,0,none⟩) n (n+V)])/\w.heap.size<=gt/\Kids (λb=>M b\/b=gt) w' 4 g (n+V) (iC n V G R0 V)/\Kids (λb=>M b\/b=gt) w' 4 gt V (xX n V G R0)/\w.grownBy w' (some g)
theorem qBA{L n V B C A D:Nat}{R0 G:Nat->List Tm}(h:∀i,i<n+V->fU L B A (R0 i))(hG:∀i,i<n+1->fU L C D (G i))(t:Nat)(ht:t<=V)(i:Nat)(hi:i<n+(V-t)):fU L (B+V*C) (A+V*(D+1)) (iC n V G R0 t i):=by
 have:=(qfk (l:=aM L (n+V) R0) (r:=aM L (n+1) G) (af.refl _) h (af.refl _) hG t ht).2.1 i hi;rw[show V-(V-t)=t by omega]at this;have e1:=fq C ht;have e2:=fq (D+1) ht;exact this.mono (by omega) (by omega)
theorem qBZ(M:Nat->Prop)(L n V B C A D g gd:Nat)(R0 G:Nat->List Tm)(w:World)(hM:Mb M w)(hg:M g)(jc:gd≠g)(hR:Kids M w 4 g (n+V) R0)(hG:Kids M w 4 gd (n+1) G)(hV:1<=V)(hnV:n+V<=1000000)
 (hR0:∀i,i<n+V->fU L B A (R0 i)) (hG0:∀i,i<n+1->fU L C D (G i)) (hB:B+V*C+C<=1000000) (mV:(B+V*C+1)*(C+1)<=1099511627776) (hA:A+V*(D+1)+D+2<=549755813888):
 Calls Tryz.prog 172 #[.slice (some ⟨g,0,none⟩) (n+V) (n+V),.slice (some ⟨gd,0,none⟩) (n+1) (n+1)] w (qiV M w n V g G R0):=by
 obtain⟨i0,hi,hz0,hz1,hz2⟩:=info_parts Tryz.xU;have HM:=ae hM;have HG:=ae hG;have HR:=ae hR;have wR:=ae hR0;have Zb:=ae hG0;have HB:=ae hB;have oF:=ae mV;have HA:=ae hA;have FX:=ae hg;have gP:=(hR.at 0 (by omega)).2.2.2.2.2;have qmI:=(hG.at 0 (by omega)).2.2.2.2.2;have iN:(0:Int)<=(n:Int):=jE _
 have hV1:(1:Int)<=(V:Int):=by omega
 have Og:(n:Int)+(V:Int)<=1000000:=by omega
 clear hM hR hG hR0 hG0 hB mV hA hg
 go_enter Tryz.func172,Tryz.ntmps172
 have iw:(n:Int)+(V:Int)-(n:Int)=(V:Int):=by omega
 have hmx:max (V:Int) 0=(V:Int):=by omega
 go_upto_region 3 with(fail)
 go_wp2_with (first|(at_make;refine Yp _ rfl _ _ _ rfl 42 i0 (.agg #[.int .i64 0,.bool false,.slice none 0 0,.slice none 0 0]) 4 Tryz.underlying34 hi hz0 hz1 .i64 .i64 _ _ V rfl rfl ?c4 ?c5 ?c2 ?c3 ?_))
 case c2=>rw[hz2];omega
 case c3=>unfold maxLen;omega
 case c4=>go_num
 case c5=>go_num
 have bR:=QE w V 42;have ah:=(ai w).alloc (.cells (madeCells (Value.agg #[.int .i64 0,.bool false,.slice none 0 0,.slice none 0 0]).cells (V*4)) 42);intro w1 hw1;replace hw1:w.alloc (.cells (madeCells (Value.agg #[.int .i64 0,.bool false,.slice none 0 0,.slice none 0 0]).cells (V*4)) 42)=w1:=hw1.out.symm;rw[hw1]at bR ah;obtain⟨gt,jT⟩:∃gt,gt=w.heap.size:=⟨_,rfl⟩;rw[<-jT]at bR⊢
 have AQ:g≠gt:=by omega
 have qxU:gd≠gt:=by omega
 have Oe:∀b,(M b\/b=gt)->M b\/w.heap.size<=b:=λb hb=>hb.imp id λh=>by omega
 have qU:Hid (Mb (λb=>M b\/b=gt) w1):=Ij (HM.out.ext ah) bR.lt
 have uE:Hid (Kids (λb=>M b\/b=gt) w1 4 g (n+V) (iC n V G R0 0)):=by
  exact(HR.out.more Oe).ext ah
 have Mj:Hid (Kids (λb=>M b\/b=gt) w1 4 gt V (λi=>if V<=i then xX n V G R0 i else[])):=(Kids.fresh bR).congr λi hi=>by rw[aj (by omega)];exact af.refl _
 have LY:Hid (Kids (λb=>M b\/b=gt) w1 4 gd (n+1) G):=(HG.out.more Oe).ext ah;have qhp:Hid (w.grownBy w1 (some g)):=ah.grownBy _;have FU:Hid (gt=w.heap.size):=jT;have qkN:Hid (∀t,t<=V->∀i,i<n+(V-t)->fU L (B+V*C) (A+V*(D+1)) (iC n V G R0 t i)):=qBA wR.out Zb.out;have Ug:Hid (∀i,i<n+1->fU L C D (G i)):=Zb.out;clear hw1 bR ah HR HG wR Zb HM jT Oe hi hz0 hz1 hz2;go_wp2
 go_loopw [23,0] (λiv rs wr=>∃t k:Nat,t+k=V/\iv=.int .i64 (t:Int)/\rs=.slice (some ⟨g,0,none⟩) (n+k) (n+V)/\Hid (Kids (λb=>M b\/b=gt) wr 4 g (n+V) (iC n V G R0 t))/\Hid (Kids (λb=>M b\/b=gt) wr 4 gt V (λi=>if k<=i then xX n V G R0 i else[]))/\Hid (Kids (λb=>M b\/b=gt) wr 4 gd (n+1) G)/\Hid (Mb (λb=>M b\/b=gt) wr)/\Hid (w.grownBy wr (some g))) (λiv _ _=>V-(intOf iv).toNat)
 case atStart=>exact⟨0,V,Nat.zero_add V,rfl,rfl,uE,Mj,LY,qU,qhp⟩
 case round=>
  clear uE Mj LY qU qhp iw hmx;obtain⟨t,k1,K6,rfl,rfl,HR,HT,HG,dQ,wU⟩:=hrel
  by_cases iq:k1=0
  ·subst iq
   obtain rfl:t=V:=by omega
   have jy:¬(t:Int)<(t:Int):=by omega
   have HF:Hid (qiV M w n t g G R0 (.returned (.tuple #[.slice (some ⟨gt,0,none⟩) t t,.slice (some ⟨g,0,none⟩) n (n+t)])) wr):=⟨gt,rfl,Nat.le_of_eq FU.out.symm,HR.out,HT.out.congr λi _=>by rw[av (bu _)];exact af.refl _,wU.out⟩;clear HR HT HG dQ wU;go_wp2;exact aV (v:=.tuple #[.slice (some ⟨gt,0,none⟩) t t,.slice (some ⟨g,0,none⟩) n (n+t)]) (by simp[results,Tryz.results172,go_sem]) rfl HF.out
  ·obtain⟨k,rfl⟩:∃k,k1=k+1:=⟨k1-1,by omega⟩
   have hlt:(t:Int)<(V:Int):=by omega
   have hkI:(V:Int)-1-(t:Int)=(k:Int):=by omega
   have qGg:(0:Int)<=(k:Int):=jE _
   have qGz:(0:Int)<=(n:Int)+(k:Int):=by omega
   have qGA:(n:Int)+(k:Int)<(n:Int)+((k:Int)+1):=by omega
   have qGB:((n:Int)+(k:Int)).toNat=n+k:=by omega
   have xk:Hid (t+(k+1)=V):=K6;obtain⟨z,⟨z0,z1,z2,z3⟩,hz⟩:=HR.out.Cr (n+k) (by omega);have lu:=HR.out.lt;obtain⟨gp,RO⟩:∃gp,wr.heap.size=gp:=⟨_,rfl⟩;have aQ:=(ai wr).alloc (.cells (ag z) 42);have je:=au.aO wr (ag z) 42 4 rfl;rw[RO]at je;have qx4:=HT.out.lt
   have qmJ:gp≠g:=by omega
   have qx1:gp≠gt:=by omega
   obtain⟨W2,gT⟩:∃W2,wr.alloc (.cells (ag z) 42)=W2:=⟨_,rfl⟩;rw[gT]at aQ je;have F8:=ae gT;have HGP:=ae RO;have vW:=HT.out.ext aQ;obtain⟨⟨_,k0⟩,⟨_,k1⟩,⟨_,k2⟩,⟨_,k3⟩,bn,qx5⟩:=vW.at k (by omega);have jw:=bn (k*4);have ku:=bn (k*4+1);have kv:=bn (k*4+2);have oU:=bn (k*4+3);obtain⟨p0,p1,p2,p3⟩:=je.p4
   have hkV:(k:Int)<(V:Int):=by omega
   obtain⟨W3,oN⟩:∃W3,aD W2 gt (k*4) (.int .i64 z.lv) (.bool z.b) (.slice z.a z.n z.p) (.slice z.ka z.kn z.kp)=W3:=⟨_,rfl⟩;have G9:Kp (λb=>M b\/b=gt) W2 W3:=oN ▸ Kp.aD (.inr rfl) _ _ _ _ _;have WN:∀b,b≠gt->W3.heap[b]?=W2.heap[b]?:=λb hb=>oN ▸ fD _ _ _ _ _ _ _ _ hb;have K3:W3.heap.size=W2.heap.size:=oN ▸ kN _ _ _ _ _ _ _
   have Ml:Hid (Kids (λb=>M b\/b=gt) W3 4 gt V (λi=>if k<=i then xX n V G R0 i else[])):=by
    have h5:=vW.set (.inr rfl) k (by omega) (hz.ext aQ);rw[oN]at h5;refine h5.congr λi hi=>?_
    by_cases h1:i=k
    ·subst h1;rw[av rfl,av (aA _),qp1,show V-(i+1)=t by omega];exact af.refl _
    ·rw[aj h1]
     by_cases h2:k+1<=i
     ·rw[av h2,av (by omega)];exact af.refl _
     ·rw[aj h2,aj (by omega)];exact af.refl _
   have nI:Hid (Kids (λb=>M b\/b=gt) W3 4 g (n+V) (qd k (G n) (iC n V G R0 t (n+k)) G (iC n V G R0 t) 0)):=((HR.out.ext aQ).kp (WN g AQ) G9).congr λi _=>by rw[qBE];exact af.refl _
   have pz:Hid (Kids (λb=>M b\/b=gt) W3 4 gd (n+1) G):=(HG.out.ext aQ).kp (WN gd qxU) G9;have HP3:Hid (P4 W3 gp z):=p9 je.p4 (WN gp qx1);have Qt:Hid (aG (λb=>M b\/b=gt) W3 4 z (iC n V G R0 t (n+k))):=(hz.ext aQ).kp G9;have mf:Hid (Mb (λb=>M b\/b=gt) W3):=(dQ.out.ext aQ).size (by omega);have qhq:Hid (w.grownBy W3 (some g)):=oN ▸ qb6 (Q0 wU.out aQ) (.inr (Nat.le_of_eq FU.out.symm)) _ _ _ _ _;have Uh:Hid (∀i,i<n+(k+1)->fU L (B+V*C) (A+V*(D+1)) (iC n V G R0 t i)):=λi hi=>qkN.out t (by omega) i (by omega);unfold aD at oN;have Jt:=ae oN;clear hz iq K6 gT RO oN vW bn je aQ G9 WN K3 HT HR HG dQ wU qkN lu qx4
   go_upto_region 9 with(fail)
   rw[F8.out,HGP.out];clear z0 z1 z2 z3
   go_upto_region 10 with(fail)
   rw[Jt.out];clear k0 k1 k2 k3 jw ku kv oU p0 p1 p2 p3 qx5 F8 Jt HGP;go_wp2
   go_loopw [47] (λjv uu=>∃j:Nat,j<=n+k/\jv=.int .i64 (j:Int)/\Hid (Kids (λb=>M b\/b=gt) uu 4 g (n+V) (qd k (G n) (iC n V G R0 t (n+k)) G (iC n V G R0 t) j))/\Hid (Kids (λb=>M b\/b=gt) uu 4 gt V (λi=>if k<=i then xX n V G R0 i else[]))/\Hid (Kids (λb=>M b\/b=gt) uu 4 gd (n+1) G)/\Hid (P4 uu gp z)/\Hid (aG (λb=>M b\/b=gt) uu 4 z (iC n V G R0 t (n+k)))/\Hid (Mb (λb=>M b\/b=gt) uu)/\Hid (w.grownBy uu (some g))) (λjv _=>n+k-(intOf jv).toNat)
   case atStart=>exact⟨0,bu _,rfl,nI,Ml,pz,HP3,Qt,mf,qhq⟩
   case round=>
    clear nI Ml pz HP3 Qt mf qhq;obtain⟨j,hj,rfl,HR,HT,HG,HP,HZ,dQ,wU⟩:=hrel
    by_cases rC:j<n+k
    ·have uC:=ae rC
     have wE:(j:Int)<(n:Int)+(k:Int):=by omega
     have hj0:(0:Int)<=(j:Int):=jE _;obtain⟨y,Sy,hy⟩:=HR.out.Cr j (by omega);rw[qBB]at hy;obtain⟨c,ig,hc⟩:=HG.out.Cr n (by omega);have G7:=HR.out.lt;have Wt:=HG.out.lt;have hd:=(ai wr).drew;have hS:Cf g (j*4) y gd (n*4) c wr.drew:=Cf.ext ⟨Sy,ig,G7,Wt⟩ hd;have HR4:=ae (HR.out.ext hd);have Ev:=ae (HT.out.ext hd);have BJ:=ae (HG.out.ext hd);have F4:Hid (P4 wr.drew gp z):=HP.out.ext hd;have Gd:=ae (HZ.out.ext hd);have ZH:=ae (dQ.out.ext hd);have qhr:=ae (Q0 wU.out hd);have Cb:=ae (hy.ext hd);have HC4:=ae (hc.ext hd);have qmO:g<wr.drew.heap.size:=hS.2.2.1;have qxV:gd<wr.drew.heap.size:=hS.2.2.2;have qGe:(0:Int)<=(n:Int):=iN
     have qGD:(n:Int)<(n:Int)+1:=by omega
     clear Sy ig hy hc hd HR HT HG HP HZ dQ wU rC
     go_upto_region 14 with(fail)
     refine fB (Cf g (j*4) y gd (n*4) c) 12 hS λhHeld=>?_;clear hS;generalize wr.drew=wd at*
     have C14:Hid (∀W:World,Ext wd W->Calls Tryz.prog 24 #[.agg (ag y),.agg (ag c)] W (di (λb=>M b\/b=gt) W 4 (aC (iC n V G R0 t j) (G n)))):=λW he=>by
      have h1:=Uh.out j (by have:=uC.out;omega);have h2:=Ug.out n (by omega);have h3:=HA.out;exact TC _ y c _ _ (B+V*C) C W (ZH.out.ext he) (Cb.out.ext he).pi (HC4.out.ext he).pi (by have:=h1.2.2.2;have:=h2.2.2.2;omega) h1.2.2.1 h2.2.2.1 oF.out
     refine bH [0,1,2,3,4,5,6,7,8,9] ?_;(iterate 10 refine bG ?_ (hy:=by intro wS hSw;obtain⟨⟨S1,S2,S3,S4⟩,⟨S5,S6,S7,S8⟩,S9,oI⟩:=hSw;go_simp;try with_reducible rfl));refine bI ?_
     (refine aI 10 λK hK=>?_);go_simp;(refine(C14.out _ (ai _)).mono ?_);rintro e_ u1 ⟨v,rfl,hv,kS⟩;go_wp2_with (fail);(try clear ak);(refine ny hK (hHeld.ext kS) λak=>?_);clear hK K
     refine bH [11] ?_;(iterate 1 refine bG ?_ (hy:=by intro wS hSw;obtain⟨⟨S1,S2,S3,S4⟩,⟨S5,S6,S7,S8⟩,S9,oI⟩:=hSw;go_simp;try with_reducible rfl));refine bI ?_;have NI:=HR4.out.ext kS;obtain⟨⟨_,k0⟩,⟨_,k1⟩,⟨_,k2⟩,⟨_,k3⟩,bn,hg5⟩:=NI.at j (by have:=uC.out;omega);have jw:=bn (j*4);have ku:=bn (j*4+1);have kv:=bn (j*4+2);have oU:=bn (j*4+3);obtain⟨W4,gN⟩:∃W4,aD u1 g (j*4) (.int .i64 v.lv) (.bool v.b) (.slice v.a v.n v.p) (.slice v.ka v.kn v.kp)=W4:=⟨_,rfl⟩;have Fa:Kp (λb=>M b\/b=gt) u1 W4:=gN ▸ Kp.aD (.inl FX.out) _ _ _ _ _;have Fg:∀b,b≠g->W4.heap[b]?=u1.heap[b]?:=λb hb=>gN ▸ fD _ _ _ _ _ _ _ _ hb;have K4:W4.heap.size=u1.heap.size:=gN ▸ kN _ _ _ _ _ _ _
     have Mg:Hid (Kids (λb=>M b\/b=gt) W4 4 g (n+V) (λi=>if i=j then aC (iC n V G R0 t j) (G n)else qd k (G n) (iC n V G R0 t (n+k)) G (iC n V G R0 t) j i)):=by
      have h5:=NI.set (.inl FX.out) j (by have:=uC.out;omega) hv;rw[gN]at h5;exact h5
     have yx:Hid (Kids (λb=>M b\/b=gt) W4 4 gt V (λi=>if k<=i then xX n V G R0 i else[])):=(Ev.out.ext kS).kp (Fg gt (Ne.symm AQ)) Fa;have PK:Hid (Kids (λb=>M b\/b=gt) W4 4 gd (n+1) G):=(BJ.out.ext kS).kp (Fg gd jc) Fa;have BR:Hid (P4 W4 gp z):=p9 (F4.out.ext kS) (Fg gp qmJ);have qV:Hid (aG (λb=>M b\/b=gt) W4 4 z (iC n V G R0 t (n+k))):=(Gd.out.ext kS).kp Fa;have qi:Hid (Mb (λb=>M b\/b=gt) W4):=(ZH.out.ext kS).size (by omega);have Zw:Hid (w.grownBy W4 (some g)):=gN ▸ qb6 (Q0 qhr.out kS) (.inl rfl) _ _ _ _ _;unfold aD at gN;have xm:=ae gN;clear NI bn hv kS Fa Fg K4 gN HR4 Ev BJ F4 Gd ZH qhr Cb HC4 C14 hHeld ak
     (refine aI 12 λK hK=>?_);go_simp;(refine fz hK ?_);clear hK K
     go_upto_region 15 with(fail)
     rw[xm.out];clear k0 k1 k2 k3 jw ku kv oU hg5 xm
     by_cases lC:k<=j
     ·have qye:(k:Int)<=(j:Int):=by omega
      have HJK:=ae lC;obtain⟨q,hq⟩:∃q,q=j-k:=⟨_,rfl⟩
      have hqI:(j:Int)-(k:Int)=(q:Int):=by omega
      have qK:(0:Int)<=(q:Int):=jE _
      have KU:(q:Int)<(n:Int)+1:=by have:=uC.out;omega
      have qek:q<n+1:=by omega
      have hwq:IntKind.i64.wrap (q:Int)=(q:Int):=by rw[IntKind.wrap_i64];omega
      obtain⟨y2,Sy,hy⟩:=Mg.out.Cr j (by have:=uC.out;omega);rw[av rfl]at hy;obtain⟨c2,ig,hc⟩:=PK.out.Cr q qek;have G7:=Mg.out.lt;have Wt:=PK.out.lt;have hd:=(ai W4).drew;have qmK:=dM _ _ BR.out.1;have hS:Cg g (j*4) y2 gp z gd (q*4) c2 W4.drew:=Cg.ext ⟨Sy,BR.out,ig,G7,qmK,Wt⟩ hd;have Mh:=ae (Mg.out.ext hd);have HT6:=ae (yx.out.ext hd);have PL:=ae (PK.out.ext hd);have HP6:Hid (P4 W4.drew gp z):=BR.out.ext hd;have MC:=ae (qV.out.ext hd);have UA:=ae (qi.out.ext hd);have qhs:=ae (Q0 Zw.out hd);have HY6:=ae (hy.ext hd);have HC6:=ae (hc.ext hd);have HQ:=ae hq;have qmO:g<W4.drew.heap.size:=hS.2.2.2.1;have qxV:gd<W4.drew.heap.size:=hS.2.2.2.2.2;have qF9:gp<W4.drew.heap.size:=hS.2.2.2.2.1;have HQN:=ae qek;clear Sy ig hy hc hd Mg yx PK BR qV qi Zw lC hq qek G7 Wt qmK
      go_upto_region 16 with(fail)
      refine fB (Cg g (j*4) y2 gp z gd (q*4) c2) 16 hS λhHeld=>?_;clear hS;generalize W4.drew=wd2 at*;have PO:Hid (fU L (B+V*C+C) (A+V*(D+1)+D) (aC (iC n V G R0 t j) (G n))):=(Uh.out j (by have:=uC.out;omega)).aC (Ug.out n (by omega));have wY:Hid (fU L (B+V*C+C) (A+V*(D+1)+D) (aC (iC n V G R0 t (n+k)) (G q))):=(Uh.out (n+k) (by omega)).aC (Ug.out q HQN.out)
      have C16:Hid (∀W:World,Ext wd2 W->Calls Tryz.prog 24 #[.agg (ag z),.agg (ag c2)] W (di (λb=>M b\/b=gt) W 4 (aC (iC n V G R0 t (n+k)) (G q)))):=λW he=>by
       have h1:=Uh.out (n+k) (by omega);have h2:=Ug.out q HQN.out;have h3:=HA.out;exact TC _ z c2 _ _ (B+V*C) C W (UA.out.ext he) (MC.out.ext he).pi (HC6.out.ext he).pi (by have:=h1.2.2.2;have:=h2.2.2.2;omega) h1.2.2.1 h2.2.2.1 oF.out
      have C17:Hid (∀(W:World)(x:PE),Ext wd2 W->aG (λb=>M b\/b=gt) W 4 x (aC (iC n V G R0 t (n+k)) (G q))->Calls Tryz.prog 9 #[.agg (ag y2),.agg (ag x)] W (di (λb=>M b\/b=gt) W 4 (aC (iC n V G R0 t j) (G n)++cB (aC (iC n V G R0 t (n+k)) (G q))))):=λW x he hx=>by
       have h1:=PO.out.sub wY.out;have h3:=HA.out;have h4:=HB.out;exact X9 _ y2 x _ _ (B+V*C+C) W (UA.out.ext he) (HY6.out.ext he).pi hx.pi (aK h1.2.2.2 (by omega)) (by have:=wY.out.2.2.2;omega) wY.out.2.2.1 (by omega)
      refine bH [0,1,2,3,4,5,6,7,8,9,10,11,12] ?_;(iterate 13 refine bG ?_);refine bI ?_
      (refine aI 13 λK hK=>?_);go_simp;(refine(C16.out _ (ai _)).mono ?_);rintro e_ u2 ⟨x,rfl,hx,kS⟩;go_wp2_with (fail);(try clear ak);(refine ny hK (hHeld.ext kS) λak=>?_);clear hK K
      (refine aI 14 λK hK=>?_);go_simp;(refine(C17.out _ x kS hx).mono ?_);rintro e_ u3 ⟨v2,rfl,hv2,vP⟩;go_wp2_with (fail);(try clear ak);(refine ny hK (hHeld.ext (kS.trans vP)) λak=>?_);clear hK K
      refine bH [15] ?_;(iterate 1 refine bG ?_);refine bI ?_;have Gu:=kS.trans vP;have hR7:=Mh.out.ext Gu;obtain⟨⟨_,k0⟩,⟨_,k1⟩,⟨_,k2⟩,⟨_,k3⟩,bn,hg5⟩:=hR7.at j (by have:=uC.out;omega);have jw:=bn (j*4);have ku:=bn (j*4+1);have kv:=bn (j*4+2);have oU:=bn (j*4+3);have Fa:Kp (λb=>M b\/b=gt) u3 (aD u3 g (j*4) (.int .i64 v2.lv) (.bool v2.b) (.slice v2.a v2.n v2.p) (.slice v2.ka v2.kn v2.kp)):=Kp.aD (.inl FX.out) _ _ _ _ _;have Fg:∀b,b≠g->(aD u3 g (j*4) (.int .i64 v2.lv) (.bool v2.b) (.slice v2.a v2.n v2.p) (.slice v2.ka v2.kn v2.kp)).heap[b]?=u3.heap[b]?:=λb hb=>fD _ _ _ _ _ _ _ _ hb;have K4:(aD u3 g (j*4) (.int .i64 v2.lv) (.bool v2.b) (.slice v2.a v2.n v2.p) (.slice v2.ka v2.kn v2.kp)).heap.size=u3.heap.size:=kN _ _ _ _ _ _ _
      have HR7:Hid (Kids (λb=>M b\/b=gt) (aD u3 g (j*4) (.int .i64 v2.lv) (.bool v2.b) (.slice v2.a v2.n v2.p) (.slice v2.ka v2.kn v2.kp)) 4 g (n+V) (qd k (G n) (iC n V G R0 t (n+k)) G (iC n V G R0 t) (j+1))):=by
       refine(hR7.set (.inl FX.out) j (by have:=uC.out;omega) hv2).congr λi _=>?_;rw[qBC _ _ _ _ _ _ _ HJK.out, <-HQ.out]
       by_cases h1:i=j
       ·rw[av h1,av h1];exact af.refl _
       ·rw[aj h1,aj h1,aj h1];exact af.refl _
      have HT7:Hid (Kids (λb=>M b\/b=gt) (aD u3 g (j*4) (.int .i64 v2.lv) (.bool v2.b) (.slice v2.a v2.n v2.p) (.slice v2.ka v2.kn v2.kp)) 4 gt V (λi=>if k<=i then xX n V G R0 i else[])):=(HT6.out.ext Gu).kp (Fg gt (Ne.symm AQ)) Fa;have Zu:Hid (Kids (λb=>M b\/b=gt) (aD u3 g (j*4) (.int .i64 v2.lv) (.bool v2.b) (.slice v2.a v2.n v2.p) (.slice v2.ka v2.kn v2.kp)) 4 gd (n+1) G):=(PL.out.ext Gu).kp (Fg gd jc) Fa;have HP7:Hid (P4 (aD u3 g (j*4) (.int .i64 v2.lv) (.bool v2.b) (.slice v2.a v2.n v2.p) (.slice v2.ka v2.kn v2.kp)) gp z):=p9 (HP6.out.ext Gu) (Fg gp qmJ);have HZ7:Hid (aG (λb=>M b\/b=gt) (aD u3 g (j*4) (.int .i64 v2.lv) (.bool v2.b) (.slice v2.a v2.n v2.p) (.slice v2.ka v2.kn v2.kp)) 4 z (iC n V G R0 t (n+k))):=(MC.out.ext Gu).kp Fa;have zW:Hid (Mb (λb=>M b\/b=gt) (aD u3 g (j*4) (.int .i64 v2.lv) (.bool v2.b) (.slice v2.a v2.n v2.p) (.slice v2.ka v2.kn v2.kp))):=(UA.out.ext Gu).size (by omega);have qsq:Hid (w.grownBy (aD u3 g (j*4) (.int .i64 v2.lv) (.bool v2.b) (.slice v2.a v2.n v2.p) (.slice v2.ka v2.kn v2.kp)) (some g)):=qb6 (Q0 qhs.out Gu) (.inl rfl) _ _ _ _ _;clear hR7 bn hx hv2 kS vP Gu Fa Fg K4 Mh HT6 PL HP6 MC UA qhs HY6 HC6 C16 C17 hHeld ak PO wY
      (refine aI 16 λK hK=>?_);go_simp;(refine fz hK ?_);clear hK K
      go_wp2
      go_roundw
      case rel=>exact⟨j+1,uC.out,by go_num,HR7,HT7,Zu,HP7,HZ7,zW,qsq⟩
      case measure=>have:=uC.out;simp[intOf];omega
     ·have qye:¬(k:Int)<=(j:Int):=by omega
      have Mh:Hid (Kids (λb=>M b\/b=gt) W4 4 g (n+V) (qd k (G n) (iC n V G R0 t (n+k)) G (iC n V G R0 t) (j+1))):=Mg.out.congr λi _=>by rw[qBD _ _ _ _ _ _ _ lC];exact af.refl _
      clear Mg;go_wp2
      go_roundw
      case rel=>exact⟨j+1,uC.out,by go_num,Mh,yx,PK,BR,qV,qi,Zw⟩
      case measure=>have:=uC.out;simp[intOf];omega
    ·obtain rfl:j=n+k:=by omega
     have jy:¬(((n+k:Nat):Int))<(n:Int)+(k:Int):=by omega
     have Mh:Hid (Kids (λb=>M b\/b=gt) wr 4 g (n+V) (iC n V G R0 (t+1))):=by
      have h5:=qp0 (n:=n) (V:=V) (k:=k) G R0 (by have:=xk.out;omega);rw[show V-(k+1)=t by have:=xk.out;omega,show V-k=t+1 by have:=xk.out;omega]at h5;rw[h5];exact HR.out
     have qtr:Hid (t+1+k=V):=by have:=xk.out;show _=_;omega
     clear HR HP HZ;go_wp2
     go_roundw
     case rel=>exact⟨t+1,k,qtr.out,by go_num,rfl,Mh,HT,HG,dQ,wU⟩
     case measure=>have:=xk.out;simp[intOf];omega
end Go.Proofs.YtaafefeafonhdaaGreat
