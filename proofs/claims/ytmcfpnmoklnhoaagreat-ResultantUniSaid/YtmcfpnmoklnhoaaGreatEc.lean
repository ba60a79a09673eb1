/- Ec -/
import Derived.Test.YtmcfpnmoklnhoaaGreatEa
import Derived.Test.YtmcfpnmoklnhoaaGreatDa
import Derived.Test.YtmcfpnmoklnhoaaGreatBh
set_option linter.unusedVariables false
set_option maxRecDepth 100000
set_option maxHeartbeats 400000000
set_option linter.unusedSimpArgs false
namespace Go.Proofs.YtmcfpnmoklnhoaaGreat
open Go.RowKit
theorem Ng{L N:Nat}(h1:1<=L)(h4:L<=4){l:List Tm}(hl:NN l)(h:∀m,aL l m≠0->m.get L<(N:Int)):af (aQ L N λi=>ck L (i:Int) l) l:=λm=>by
 rw[qiZ h1 h4]
 by_cases ha:0<=m.get L/\m.get L<(N:Int)
 ·rw[ai ha]
 ·rw[ah ha];refine(eF λhc=>?_);have h3:=h m (λe=>hc e.symm)
  have h5:m.nn=true:=by
   cases hq:m.nn with
   |true=>rfl
   |false=>exact absurd (hl m hq).symm hc
  have:=wZ h5 L;omega
theorem qbe{L B A:Nat}(h1:1<=L)(h4:L<=4){l:List Tm}(hl:NN l)(hB:bH B l)(hA:aH (aK l)<=A)(e:Int):ji L B A (ck L e l):=
 ⟨fK h1 h4 hl,vD h1 h4 e l,Qr h1 h4 hB,aR (jB (GU L e l)) hA⟩
theorem qi1{L C D:Nat}{c:List Tm}(h:ji L C D c):∀t:Nat,ji L (t*C) (t*D+1) (bO c t)
 |0=>by
  refine⟨xe λt ht=>?_,λm hm=>?_,λm hm k=>?_,?_⟩
  ·simp only[bO,List.mem_singleton]at ht;subst ht;rfl
  ·simp only[bO,aL]at hm
   by_cases e:Mo.zero=m
   ·rw[<-e,uw]
   ·rw[ah e]at hm;exact absurd rfl hm
  ·simp only[bO,aL]at hm
   by_cases e:Mo.zero=m
   ·rw[<-e,uw];omega
   ·rw[ah e]at hm;exact absurd rfl hm
  ·show aH (1+0)<=_;rw[lZ,Nat.zero_mul];decide
 |t+1=>by
  rw[Lm,Nat.add_mul,Nat.add_mul,Nat.one_mul,Nat.one_mul];exact((qi1 h t).aF h).mono (aI _) (by omega)
def uu(L:Nat)(f:List Tm)(n V:Nat):Prop:=(af f []/\V=0)\/(¬af f []/\∃a,bE L f a/\V=a+1-n)
theorem uu.lt{L n V:Nat}{f:List Tm}(h:uu L f n V)(m:Mo)(hm:aL f m≠0):m.get L<((n+V:Nat):Int):=by
 rcases h with⟨hz,_⟩|⟨_,a,ha,rfl⟩
 ·exact absurd (hz m) hm
 ·have:=ha.1 m hm;omega
abbrev gL(L:Nat)(l:List Tm)(i:Nat):List Tm:=ck L (i:Int) l
def Li(L n V:Nat)(f g:List Tm):List Tm:=aQ L V λi=>aF (vQ n V (gL L g) (gL L f) i) (bO (ck L (n:Int) g) i)
def lQ(L n V:Nat)(f g:List Tm):List Tm:=aQ L n (iE n V (gL L g) (gL L f) V)
structure mF(L n V B C A D:Nat)(f g:List Tm):Prop where
 h1:1<=L
 h4:L<=4
 nf:NN f
 ng:NN g
 hB:bH B f
 hC:bH C g
 hA:aH (aK f)<=A
 hD:aH (aK g)<=D
 dg:bE L g n
 st:uu L f n V
section
variable{L n V B C A D:Nat}{f g:List Tm}
theorem mF.cf(h:mF L n V B C A D f g)(i:Nat):ji L B A (gL L f i):=qbe h.h1 h.h4 h.nf h.hB h.hA _
theorem mF.cg(h:mF L n V B C A D f g)(i:Nat):ji L C D (gL L g i):=qbe h.h1 h.h4 h.ng h.hC h.hD _
theorem mF.all(h:mF L n V B C A D f g)(t:Nat)(ht:t<=V):Da L n V B C A D (ck L (n:Int) g) f g (V-t) (iE n V (gL L g) (gL L f) t) (vQ n V (gL L g) (gL L f)):=
 qeq (Ng h.h1 h.h4 h.nf h.st.lt) (λi _=>h.cf i) (Ng h.h1 h.h4 h.ng λm hm=>by have:=h.dg.1 m hm;omega) (λi _=>h.cg i) t ht
theorem mF.law(h:mF L n V B C A D f g):af (aF (bO (ck L (n:Int) g) V) f) (aF (Li L n V f g) g++lQ L n V f g):=by
 have h1:=h.all V (aI V);rw[Nat.sub_self]at h1;exact h1.done
theorem mF.top(h:mF L n V B C A D f g)(i:Nat)(hi:i<V):ji L (B+V*C) (A+V*(D+1)) (vQ n V (gL L g) (gL L f) i):=by
 have h1:=h.all V (aI V);exact h1.2.2 i (by omega) hi
theorem mF.rest(h:mF L n V B C A D f g)(i:Nat)(hi:i<n):ji L (B+V*C) (A+V*(D+1)) (iE n V (gL L g) (gL L f) V i):=by
 have h1:=(h.all V (aI V)).2.1 i (by omega);rw[Nat.sub_self,Nat.sub_zero]at h1;exact h1
theorem mF.quo(h:mF L n V B C A D f g)(i:Nat)(hi:i<V):ji L (B+V*C+V*C) (A+V*(D+1)+(V*D+1)) (aF (vQ n V (gL L g) (gL L f) i) (bO (ck L (n:Int) g) i)):=by
 have e1:=eB C (show i<=V by omega);have e2:=eB D (show i<=V by omega);exact((h.top i hi).aF (qi1 (h.cg n) i)).mono (by omega) (by omega)
theorem mF.qeA(h:mF L n V B C A D f g):NN (Li L n V f g):=NN.aQ λi hi=>(h.quo i hi).1
theorem mF.qeB(h:mF L n V B C A D f g):NN (lQ L n V f g):=NN.aQ λi hi=>(h.rest i hi).1
theorem mF.small(h:mF L n V B C A D f g){a:Nat}(hz:¬af (lQ L n V f g) [])(hd:bE L (lQ L n V f g) a):a<n:=
 qAc h.h1 h.h4 (λi hi=>(h.rest i hi).2.1) (λi hi=>(h.rest i hi).1) hz hd
end
theorem qpw(M:Nat->Prop)(a:Option Addr)(N cap n gd:Nat)(w:World)(hN:N<=n)(hn:n<=1000000):
 Calls Tryz.prog 61 #[.slice a N cap,.slice (some ⟨gd,0,none⟩) (n+1) (n+1)] w λe w'=>∃gt,e=.returned (.tuple #[.slice (some ⟨gt,0,none⟩) 0 0,.slice a N cap])/\w.heap.size<=gt/\gt<w'.heap.size/\Kids M w' 4 gt 0 (λ_=>[])/\Ext w w':=by
 obtain⟨i0,hi,hz0,hz1,hz2⟩:=info_parts Tryz.zH;have jg:(0:Int)<=(n:Int):=iw _;have Wq:(0:Int)<=(N:Int):=iw _
 have Oc:(n:Int)<=1000000:=by omega
 have hNI:(N:Int)<=(n:Int):=by omega
 have hmx:max ((N:Int)-(n:Int)) 0=0:=by omega
 have qEN:(max ((N:Int)-(n:Int)) 0).toNat=0:=by omega
 go_enter Tryz.func61,Tryz.ntmps61
 go_upto_region 3 with(fail)
 go_wp2_with (first|(at_make;refine LK _ rfl _ _ _ rfl 33 i0 (.agg #[.int .i64 0,.bool false,.slice none 0 0,.slice none 0 0]) 4 Tryz.underlying31 hi hz0 hz1 .i64 .i64 _ _ 0 rfl rfl ?c4 ?c5 ?c2 ?c3 ?_))
 case c2=>omega
 case c3=>unfold maxLen;omega
 case c4=>first|rfl|go_num|omega
 case c5=>first|rfl|go_num|omega
 have cO:=Ql w 0 33;have az:=(aA w).alloc (.cells (madeCells (Value.agg #[.int .i64 0,.bool false,.slice none 0 0,.slice none 0 0]).cells (0*4)) 33);intro w1 hw1;replace hw1:w.alloc (.cells (madeCells (Value.agg #[.int .i64 0,.bool false,.slice none 0 0,.slice none 0 0]).cells (0*4)) 33)=w1:=hw1.out.symm;rw[hw1]at cO az;have HK:Hid (Kids M w1 4 w.heap.size 0 (λ_=>[])):=Kids.fresh cO;have HF:Hid (∃gt,(Ending.returned (.tuple #[.slice (some ⟨w.heap.size,0,none⟩) 0 0,.slice a N cap]))=.returned (.tuple #[.slice (some ⟨gt,0,none⟩) 0 0,.slice a N cap])/\w.heap.size<=gt/\gt<w1.heap.size/\Kids M w1 4 gt 0 (λ_=>[])/\Ext w w1):=⟨_,rfl,aI _,cO.lt,HK.out,az⟩;clear hw1 cO az HK hi hz0 hz1 hz2;go_wp2;refine wp_loop_rounds 1 ?_;rw[rounds_succ];go_wp2;exact bu (v:=.tuple #[.slice (some ⟨w.heap.size,0,none⟩) 0 0,.slice a N cap]) (by simp[results,Tryz.results61,go_sem]) rfl HF.out
def qsS(M0 M1:Nat->Prop)(w0 w:World)(L n V gd:Nat)(f g:List Tm)(e:Ending)(w':World):Prop:=
 ∃(gt:Nat)(ra:Option Addr)(rn rc:Nat)(R:Nat->List Tm),e=.returned (.tuple #[.slice (some ⟨gt,0,none⟩) V V,.slice ra rn rc])/\w.heap.size<=gt/\Kids (λb=>M1 b\/b=gt) w' 4 gt V (vQ n V (gL L g) (gL L f))/\Kids (λb=>M1 b\/b=gt) w' 4 gd (n+1) (gL L g)/\eY (λb=>M0 b\/b=gt) w' 4 (.slice ra rn rc) rn R/\rn<=n/\(∀i,i<rn->R i=iE n V (gL L g) (gL L f) V i)/\af (aQ L rn R) (lQ L n V f g)/\Ext w0 w'
theorem qAu(M0 M1:Nat->Prop)(w0 w:World)(L n V B C A D gd:Nat)(f g:List Tm)(rv:Value)(hE:Ext w0 w)(hM:Mb M1 w)(dD:Mb M0 w0)(Eb:∀b,M0 b->M1 b)(H:mF L n V B C A D f g)(hG:Kids M1 w 4 gd (n+1) (gL L g))
 (hf:(af f []/\rv=.slice none 0 0)\/(¬af f []/\∃a gf,rv=.slice (some ⟨gf,0,none⟩) (a+1) (a+1)/\w0.heap.size<=gf/\gf≠gd/\M1 gf/\bE L f a/\Kids M1 w 4 gf (a+1) (gL L f)))
 (hnV:n+V<=1000000) (hB:B+V*C+C<=1000000) (oH:(B+V*C+1)*(C+1)<=1099511627776) (hA:A+V*(D+1)+D+2<=549755813888):
 Calls Tryz.prog 61 #[rv,.slice (some ⟨gd,0,none⟩) (n+1) (n+1)] w (qsS M0 M1 w0 w L n V gd f g):=by
 have qmf:=(hG.at 0 (by omega)).2.2.2.2.2;have hF:∀N:Nat,(∀m,aL f m≠0->m.get L<(N:Int))->af (aQ L N (gL L f)) f:=λN h=>Ng H.h1 H.h4 H.nf h;rcases hf with⟨hz,rfl⟩|⟨hz,a,gf,rfl,KL,hne,o9,DK,hK⟩
 ·have hV:V=0:=by
   rcases H.st with⟨_,h⟩|⟨h,_⟩
   ·exact h
   ·exact absurd hz h
  subst hV;refine(qpw M1 none 0 0 n gd w (bK _) (by omega)).mono ?_;rintro e w' ⟨gt,rfl,h1,h2,h3,h4⟩
  have DY:∀b,(M1 b\/b=gt)->M1 b\/w.heap.size<=b:=λb hb=>hb.imp id λh=>by omega
  refine⟨gt,none,0,0,λ_=>[],rfl,h1,⟨gN,?_,λi hi=>absurd hi (Nat.not_lt_zero _)⟩,(hG.more DY).ext h4,⟨bK _,.inl ⟨rfl,rfl⟩⟩,bK _,λi hi=>absurd hi (Nat.not_lt_zero _),?_,hE.trans h4⟩
  ·obtain⟨fn,hb,_⟩:=h3;exact hb.congr λi hi=>absurd hi (by omega)
  ·exact((hF n λm hm=>absurd (hz m) hm).trans hz).symm
 ·obtain⟨a',ha',hV⟩:∃a',bE L f a'/\V=a'+1-n:=by
   rcases H.st with⟨h,_⟩|⟨_,h⟩
   ·exact absurd h hz
   ·exact h
  obtain rfl:=G5 H.nf hz DK ha'
  have hlt:∀m,aL f m≠0->m.get L<((a+1:Nat):Int):=λm hm=>by have:=DK.1 m hm;omega
  by_cases h0:V=0
  ·subst h0;refine(qpw M1 (some ⟨gf,0,none⟩) (a+1) (a+1) n gd w (by omega) (by omega)).mono ?_;rintro e w' ⟨gt,rfl,h1,h2,h3,h4⟩
   have DY:∀b,(M1 b\/b=gt)->M1 b\/w.heap.size<=b:=λb hb=>hb.imp id λh=>by omega
   refine⟨gt,some ⟨gf,0,none⟩,a+1,a+1,gL L f,rfl,h1,⟨gN,?_,λi hi=>absurd hi (Nat.not_lt_zero _)⟩,(hG.more DY).ext h4,(hK.pre (M':=λb=>M0 b\/b=gt) (λb hb=>hb.elim (λh=>.inl (Eb b h)) λh=>.inr (by omega)) (λhh=>hh.elim (dD.new KL) λe=>by have:=hK.lt;omega) (by omega) (aI _) (by unfold maxLen;omega)).ext h4,by omega,λi _=>rfl,?_,hE.trans h4⟩
   ·obtain⟨fn,hb,_⟩:=h3;exact hb.congr λi hi=>absurd hi (by omega)
   ·exact(hF _ hlt).trans (hF n λm hm=>by have:=hlt m hm;omega).symm
  ·have hN:a+1=n+V:=by omega
   rw[hN]at hK⊢;refine(qAt M1 L n V B C A D gf gd (gL L f) (gL L g) w hM o9 (Ne.symm hne) hK hG (by omega) hnV (λi _=>H.cf i) (λi _=>H.cg i) hB oH hA).mono ?_;rintro e w' ⟨gt,rfl,h1,h2,h3,h4⟩
   have DY:∀b,(M1 b\/b=gt)->M1 b\/w.heap.size<=b:=λb hb=>hb.imp id λh=>by omega
   refine⟨gt,some ⟨gf,0,none⟩,n,n+V,iE n V (gL L g) (gL L f) V,rfl,h1,h3,(hG.more DY).kp (h4.block gd qmf (λe=>hne (Option.some.inj e).symm)) (Kp.grown h4 λk hk=>by cases hk;exact .inl o9),h2.pre (M':=λb=>M0 b\/b=gt) (λb hb=>.inl (hb.imp (Eb b) id)) (λhh=>hh.elim (dD.new KL) λe=>by have:=hK.lt;omega) (by omega) (by omega) (by unfold maxLen;omega),aI _,λi _=>rfl,af.refl _,hE.grown h4 λk hk=>by cases hk;exact KL⟩
end Go.Proofs.YtmcfpnmoklnhoaaGreat
