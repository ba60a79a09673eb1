/- Ec -/
import Derived.Test.YtmcfpnmoklnhoaaGreatEa
import Derived.Test.YtmcfpnmoklnhoaaGreatDa
import Derived.Test.YtmcfpnmoklnhoaaGreatBh
set_option linter.unusedVariables false
set_option maxRecDepth 100000
set_option maxHeartbeats 400000000
set_option linter.unusedSimpArgs false
namespace Go.Proofs.YtmcfpnmoklnhoaaGreat
open Go.RowKit
theorem OI{L N:Nat}(h1:1<=L)(h4:L<=4){l:List Tm}(hl:NN l)(h:∀m,aB l m≠0->m.get L<(N:Int)):ae (aJ L N λi=>ck L (i:Int) l) l:=λm=>by
 rw[qg9 h1 h4]
 by_cases ha:0<=m.get L/\m.get L<(N:Int)
 ·rw[if_pos ha]
 ·rw[if_neg ha];refine(Classical.byContradiction λhc=>?_);have h3:=h m (λe=>hc e.symm)
  have h5:m.nn=true:=by
   cases hq:m.nn with
   |true=>rfl
   |false=>exact absurd (hl m hq).symm hc
  have:=vL h5 L;omega
theorem Z7{L B A:Nat}(h1:1<=L)(h4:L<=4){l:List Tm}(hl:NN l)(hB:bn B l)(hA:az (aC l)<=A)(e:Int):iA L B A (ck L e l):=
 ⟨eQ h1 h4 hl,uY h1 h4 e l,ZT h1 h4 hB,Nat.le_trans (ji (TT L e l)) hA⟩
theorem qhb{L C D:Nat}{c:List Tm}(h:iA L C D c):∀t:Nat,iA L (t*C) (t*D+1) (bA c t)
 |0=>by
  refine⟨Aq λt ht=>?_,λm hm=>?_,λm hm k=>?_,?_⟩
  ·simp only[bA,List.mem_singleton]at ht;subst ht;rfl
  ·simp only[bA,aB]at hm
   by_cases e:Mo.zero=m
   ·rw[<-e,ve]
   ·rw[if_neg e]at hm;exact absurd rfl hm
  ·simp only[bA,aB]at hm
   by_cases e:Mo.zero=m
   ·rw[<-e,ve];omega
   ·rw[if_neg e]at hm;exact absurd rfl hm
  ·show az (1+0)<=_;rw[o9,Nat.zero_mul];decide
 |t+1=>by
  rw[JO,Nat.add_mul,Nat.add_mul,Nat.one_mul,Nat.one_mul];exact((qhb h t).ai h).mono (Nat.le_refl _) (by omega)
def rF(L:Nat)(f:List Tm)(n V:Nat):Prop:=(ae f []/\V=0)\/(¬ae f []/\∃a,bD L f a/\V=a+1-n)
theorem rF.lt{L n V:Nat}{f:List Tm}(h:rF L f n V)(m:Mo)(hm:aB f m≠0):m.get L<((n+V:Nat):Int):=by
 rcases h with⟨hz,_⟩|⟨_,a,ha,rfl⟩
 ·exact absurd (hz m) hm
 ·have:=ha.1 m hm;omega
abbrev eZ(L:Nat)(l:List Tm)(i:Nat):List Tm:=ck L (i:Int) l
def G6(L n V:Nat)(f g:List Tm):List Tm:=aJ L V λi=>ai (uG n V (eZ L g) (eZ L f) i) (bA (ck L (n:Int) g) i)
def kg(L n V:Nat)(f g:List Tm):List Tm:=aJ L n (fT n V (eZ L g) (eZ L f) V)
structure kX(L n V B C A D:Nat)(f g:List Tm):Prop where
 h1:1<=L
 h4:L<=4
 nf:NN f
 ng:NN g
 hB:bn B f
 hC:bn C g
 hA:az (aC f)<=A
 hD:az (aC g)<=D
 dg:bD L g n
 st:rF L f n V
section
variable{L n V B C A D:Nat}{f g:List Tm}
theorem kX.cf(h:kX L n V B C A D f g)(i:Nat):iA L B A (eZ L f i):=Z7 h.h1 h.h4 h.nf h.hB h.hA _
theorem kX.cg(h:kX L n V B C A D f g)(i:Nat):iA L C D (eZ L g i):=Z7 h.h1 h.h4 h.ng h.hC h.hD _
theorem kX.all(h:kX L n V B C A D f g)(t:Nat)(ht:t<=V):Bl L n V B C A D (ck L (n:Int) g) f g (V-t) (fT n V (eZ L g) (eZ L f) t) (uG n V (eZ L g) (eZ L f)):=
 qc7 (OI h.h1 h.h4 h.nf h.st.lt) (λi _=>h.cf i) (OI h.h1 h.h4 h.ng λm hm=>by have:=h.dg.1 m hm;omega) (λi _=>h.cg i) t ht
theorem kX.law(h:kX L n V B C A D f g):ae (ai (bA (ck L (n:Int) g) V) f) (ai (G6 L n V f g) g++kg L n V f g):=by
 have h1:=h.all V (Nat.le_refl V);rw[Nat.sub_self]at h1;exact h1.done
theorem kX.top(h:kX L n V B C A D f g)(i:Nat)(hi:i<V):iA L (B+V*C) (A+V*(D+1)) (uG n V (eZ L g) (eZ L f) i):=by
 have h1:=h.all V (Nat.le_refl V);exact h1.2.2 i (by omega) hi
theorem kX.rest(h:kX L n V B C A D f g)(i:Nat)(hi:i<n):iA L (B+V*C) (A+V*(D+1)) (fT n V (eZ L g) (eZ L f) V i):=by
 have h1:=(h.all V (Nat.le_refl V)).2.1 i (by omega);rw[Nat.sub_self,Nat.sub_zero]at h1;exact h1
theorem kX.quo(h:kX L n V B C A D f g)(i:Nat)(hi:i<V):iA L (B+V*C+V*C) (A+V*(D+1)+(V*D+1)) (ai (uG n V (eZ L g) (eZ L f) i) (bA (ck L (n:Int) g) i)):=by
 have e1:=Nat.mul_le_mul_right C (show i<=V by omega);have e2:=Nat.mul_le_mul_right D (show i<=V by omega);exact((h.top i hi).ai (qhb (h.cg n) i)).mono (by omega) (by omega)
theorem kX.qdi(h:kX L n V B C A D f g):NN (G6 L n V f g):=NN.aJ λi hi=>(h.quo i hi).1
theorem kX.qdj(h:kX L n V B C A D f g):NN (kg L n V f g):=NN.aJ λi hi=>(h.rest i hi).1
theorem kX.small(h:kX L n V B C A D f g){a:Nat}(hz:¬ae (kg L n V f g) [])(hd:bD L (kg L n V f g) a):a<n:=
 qxE h.h1 h.h4 (λi hi=>(h.rest i hi).2.1) (λi hi=>(h.rest i hi).1) hz hd
end
theorem qnt(M:Nat->Prop)(a:Option Addr)(N cap n gd:Nat)(w:World)(hN:N<=n)(hn:n<=1000000):
 Calls Tryz.prog 61 #[.slice a N cap,.slice (some ⟨gd,0,none⟩) (n+1) (n+1)] w λe w'=>∃gt,e=.returned (.tuple #[.slice (some ⟨gt,0,none⟩) 0 0,.slice a N cap])/\w.heap.size<=gt/\gt<w'.heap.size/\Kids M w' 4 gt 0 (λ_=>[])/\Ext w w':=by
 obtain⟨i0,hi,hz0,hz1,hz2⟩:=info_parts Tryz.yo;have iw:(0:Int)<=(n:Int):=Int.natCast_nonneg _;have Pm:(0:Int)<=(N:Int):=Int.natCast_nonneg _
 have Jn:(n:Int)<=1000000:=by omega
 have hNI:(N:Int)<=(n:Int):=by omega
 have hmx:max ((N:Int)-(n:Int)) 0=0:=by omega
 have qCf:(max ((N:Int)-(n:Int)) 0).toNat=0:=by omega
 go_enter Tryz.func61,Tryz.ntmps61
 go_upto_region 3 with(fail)
 go_wp2_with (first|(at_make;refine Nb _ rfl _ _ _ rfl 33 i0 (.agg #[.int .i64 0,.bool false,.slice none 0 0,.slice none 0 0]) 4 Tryz.underlying31 hi hz0 hz1 .i64 .i64 _ _ 0 rfl rfl ?c4 ?c5 ?c2 ?c3 ?_))
 case c2=>omega
 case c3=>unfold maxLen;omega
 case c4=>first|rfl|go_num|omega
 case c5=>first|rfl|go_num|omega
 have bI:=OA w 0 33;have af:=(Ext.refl w).alloc (.cells (madeCells (Value.agg #[.int .i64 0,.bool false,.slice none 0 0,.slice none 0 0]).cells (0*4)) 33);intro w1 hw1;replace hw1:w.alloc (.cells (madeCells (Value.agg #[.int .i64 0,.bool false,.slice none 0 0,.slice none 0 0]).cells (0*4)) 33)=w1:=hw1.out.symm;rw[hw1]at bI af;have HK:Hid (Kids M w1 4 w.heap.size 0 (λ_=>[])):=Kids.fresh bI;have HF:Hid (∃gt,(Ending.returned (.tuple #[.slice (some ⟨w.heap.size,0,none⟩) 0 0,.slice a N cap]))=.returned (.tuple #[.slice (some ⟨gt,0,none⟩) 0 0,.slice a N cap])/\w.heap.size<=gt/\gt<w1.heap.size/\Kids M w1 4 gt 0 (λ_=>[])/\Ext w w1):=⟨_,rfl,Nat.le_refl _,bI.lt,HK.out,af⟩;clear hw1 bI af HK hi hz0 hz1 hz2;go_wp2;refine wp_loop_rounds 1 ?_;rw[rounds_succ];go_wp2;exact bodyPost_ret (v:=.tuple #[.slice (some ⟨w.heap.size,0,none⟩) 0 0,.slice a N cap]) (by simp[results,Tryz.results61,go_sem]) rfl HF.out
def qqI(M0 M1:Nat->Prop)(w0 w:World)(L n V gd:Nat)(f g:List Tm)(e:Ending)(w':World):Prop:=
 ∃(gt:Nat)(ra:Option Addr)(rn rc:Nat)(R:Nat->List Tm),e=.returned (.tuple #[.slice (some ⟨gt,0,none⟩) V V,.slice ra rn rc])/\w.heap.size<=gt/\Kids (λb=>M1 b\/b=gt) w' 4 gt V (uG n V (eZ L g) (eZ L f))/\Kids (λb=>M1 b\/b=gt) w' 4 gd (n+1) (eZ L g)/\dV (λb=>M0 b\/b=gt) w' 4 (.slice ra rn rc) rn R/\rn<=n/\(∀i,i<rn->R i=fT n V (eZ L g) (eZ L f) V i)/\ae (aJ L rn R) (kg L n V f g)/\Ext w0 w'
theorem qxV(M0 M1:Nat->Prop)(w0 w:World)(L n V B C A D gd:Nat)(f g:List Tm)(rv:Value)(hE:Ext w0 w)(hM:Mb M1 w)(dw:Mb M0 w0)(Cq:∀b,M0 b->M1 b)(H:kX L n V B C A D f g)(hG:Kids M1 w 4 gd (n+1) (eZ L g))
 (hf:(ae f []/\rv=.slice none 0 0)\/(¬ae f []/\∃a gf,rv=.slice (some ⟨gf,0,none⟩) (a+1) (a+1)/\w0.heap.size<=gf/\gf≠gd/\M1 gf/\bD L f a/\Kids M1 w 4 gf (a+1) (eZ L f)))
 (hnV:n+V<=1000000) (hB:B+V*C+C<=1000000) (mF:(B+V*C+1)*(C+1)<=1099511627776) (hA:A+V*(D+1)+D+2<=549755813888):
 Calls Tryz.prog 61 #[rv,.slice (some ⟨gd,0,none⟩) (n+1) (n+1)] w (qqI M0 M1 w0 w L n V gd f g):=by
 have qkn:=(hG.at 0 (by omega)).2.2.2.2.2;have hF:∀N:Nat,(∀m,aB f m≠0->m.get L<(N:Int))->ae (aJ L N (eZ L f)) f:=λN h=>OI H.h1 H.h4 H.nf h;rcases hf with⟨hz,rfl⟩|⟨hz,a,gf,rfl,Jj,hne,lX,BV,hK⟩
 ·have hV:V=0:=by
   rcases H.st with⟨_,h⟩|⟨h,_⟩
   ·exact h
   ·exact absurd hz h
  subst hV;refine(qnt M1 none 0 0 n gd w (Nat.zero_le _) (by omega)).mono ?_;rintro e w' ⟨gt,rfl,h1,h2,h3,h4⟩
  have Cg:∀b,(M1 b\/b=gt)->M1 b\/w.heap.size<=b:=λb hb=>hb.imp id λh=>by omega
  refine⟨gt,none,0,0,λ_=>[],rfl,h1,⟨fu,?_,λi hi=>absurd hi (Nat.not_lt_zero _)⟩,(hG.more Cg).ext h4,⟨Nat.zero_le _,.inl ⟨rfl,rfl⟩⟩,Nat.zero_le _,λi hi=>absurd hi (Nat.not_lt_zero _),?_,hE.trans h4⟩
  ·obtain⟨fn,hb,_⟩:=h3;exact hb.congr λi hi=>absurd hi (by omega)
  ·exact((hF n λm hm=>absurd (hz m) hm).trans hz).symm
 ·obtain⟨a',ha',hV⟩:∃a',bD L f a'/\V=a'+1-n:=by
   rcases H.st with⟨h,_⟩|⟨_,h⟩
   ·exact absurd h hz
   ·exact h
  obtain rfl:=Le H.nf hz BV ha'
  have hlt:∀m,aB f m≠0->m.get L<((a+1:Nat):Int):=λm hm=>by have:=BV.1 m hm;omega
  by_cases h0:V=0
  ·subst h0;refine(qnt M1 (some ⟨gf,0,none⟩) (a+1) (a+1) n gd w (by omega) (by omega)).mono ?_;rintro e w' ⟨gt,rfl,h1,h2,h3,h4⟩
   have Cg:∀b,(M1 b\/b=gt)->M1 b\/w.heap.size<=b:=λb hb=>hb.imp id λh=>by omega
   refine⟨gt,some ⟨gf,0,none⟩,a+1,a+1,eZ L f,rfl,h1,⟨fu,?_,λi hi=>absurd hi (Nat.not_lt_zero _)⟩,(hG.more Cg).ext h4,(hK.pre (M':=λb=>M0 b\/b=gt) (λb hb=>hb.elim (λh=>.inl (Cq b h)) λh=>.inr (by omega)) (λhh=>hh.elim (dw.new Jj) λe=>by have:=hK.lt;omega) (by omega) (Nat.le_refl _) (by unfold maxLen;omega)).ext h4,by omega,λi _=>rfl,?_,hE.trans h4⟩
   ·obtain⟨fn,hb,_⟩:=h3;exact hb.congr λi hi=>absurd hi (by omega)
   ·exact(hF _ hlt).trans (hF n λm hm=>by have:=hlt m hm;omega).symm
  ·have hN:a+1=n+V:=by omega
   rw[hN]at hK⊢;refine(qxU M1 L n V B C A D gf gd (eZ L f) (eZ L g) w hM lX (Ne.symm hne) hK hG (by omega) hnV (λi _=>H.cf i) (λi _=>H.cg i) hB mF hA).mono ?_;rintro e w' ⟨gt,rfl,h1,h2,h3,h4⟩
   have Cg:∀b,(M1 b\/b=gt)->M1 b\/w.heap.size<=b:=λb hb=>hb.imp id λh=>by omega
   refine⟨gt,some ⟨gf,0,none⟩,n,n+V,fT n V (eZ L g) (eZ L f) V,rfl,h1,h3,(hG.more Cg).kp (h4.block gd qkn (λe=>hne (Option.some.inj e).symm)) (Kp.grown h4 λk hk=>by cases hk;exact .inl lX),h2.pre (M':=λb=>M0 b\/b=gt) (λb hb=>.inl (hb.imp (Cq b) id)) (λhh=>hh.elim (dw.new Jj) λe=>by have:=hK.lt;omega) (by omega) (by omega) (by unfold maxLen;omega),Nat.le_refl _,λi _=>rfl,ae.refl _,hE.grown h4 λk hk=>by cases hk;exact Jj⟩
structure J3(M:Nat->Prop)(w:World)(x y:PE)(W:World):Prop where
 e:Ext w W
 px:P4 W w.heap.size x
 py:P4 W (w.heap.size+1) y
 bq:ak W (w.heap.size+2) 33 4 (arr zA)
 br:ak W (w.heap.size+3) 33 4 (arr zA)
 mb:Mb (Mx M w.heap.size (w.heap.size+4)) W
 sz:w.heap.size+4<=W.heap.size
theorem J3.ext{M:Nat->Prop}{w W W':World}{x y:PE}(h:J3 M w x y W)(he:Ext W W'):J3 M w x y W':=
 ⟨h.e.trans he,h.px.ext he,h.py.ext he,h.bq.ext he,h.br.ext he,h.mb.ext he,Nat.le_trans h.sz he.size⟩
theorem qAg(f:Nat->Value)(hf:∀i,i<4->f i=arr zA i):∀i,i<4->wZ f 0 (.int .i64 0) (.bool false) (.slice none 0 0) (.slice none 0 0) i=arr zA i:=by
 intro i hi
 match i,hi with
 |0,_=>exact Cy _ _ _ _ _ _
 |1,_=>exact Cz _ 0 _ _ _ _
 |2,_=>exact CB _ 0 _ _ _ _
 |3,_=>exact CV _ 0 _ _ _ _
theorem J3.put{M:Nat->Prop}{w W:World}{x y:PE}(h:J3 M w x y W)(b:Nat)(hb:b=w.heap.size+2\/b=w.heap.size+3):J3 M w x y (aH W b 0 (.int .i64 0) (.bool false) (.slice none 0 0) (.slice none 0 0)):=by
 have rR:∀q,q≠b->(aH W b 0 (.int .i64 0) (.bool false) (.slice none 0 0) (.slice none 0 0)).heap[q]?=W.heap[q]?:=λq hq=>il _ _ _ _ _ _ _ _ hq
 have hblk:∀q,(q=w.heap.size+2\/q=w.heap.size+3)->ak W q 33 4 (arr zA)->ak (aH W b 0 (.int .i64 0) (.bool false) (.slice none 0 0) (.slice none 0 0)) q 33 4 (arr zA):=λq _ hk=>by
  by_cases e:q=b
  ·subst e;exact(hk.aH 0 _ _ _ _).congr (qAg _ λ_ _=>rfl)
  ·exact hk.of_heap (rR q e)
 exact⟨h.e.aH (by omega) _ _ _ _ _,rW h.px (rR _ (by omega)),rW h.py (rR _ (by omega)),hblk _ (.inl rfl) h.bq,hblk _ (.inr rfl) h.br,h.mb.size (by rw[lU];exact Nat.le_refl _),by rw[lU];exact h.sz⟩
end Go.Proofs.YtmcfpnmoklnhoaaGreat
