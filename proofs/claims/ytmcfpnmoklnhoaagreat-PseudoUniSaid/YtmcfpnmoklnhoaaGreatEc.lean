/- pseudo-division: what the answers are, plain; pseudo.reduce where there is nothing to do. pseudo.reduce for any dividend; the memory of pseudo.Divide. pseudo.Divide: the walk. -/
import Derived.Test.YtmcfpnmoklnhoaaGreatEa
import Derived.Test.YtmcfpnmoklnhoaaGreatDa
import Derived.Test.YtmcfpnmoklnhoaaGreatBh
set_option linter.unusedVariables false
set_option maxRecDepth 100000
set_option maxHeartbeats 400000000
set_option linter.unusedSimpArgs false

namespace Go.Proofs.YtmcfpnmoklnhoaaGreat
open Go.RowKit

theorem qjw {L N:Nat} (h1:1<=L) (h4:L<=4) {l:List Tm} (hl:NN l) (h : ∀ m,qab l m≠0->m.get L<(N:Int)):Sim (poly L N fun i=>ck L (i:Int) l) l:=fun m=>by
 rw [qlP h1 h4]
 by_cases ha:0<=m.get L/\m.get L<(N:Int)
 ·rw [if_pos ha]
 ·rw [if_neg ha];refine (Classical.byContradiction fun hc=>?_);have h3:=h m (fun e=>hc e.symm)
  have h5:m.nn=true:=by
   cases hq:m.nn with
   | true=>rfl
   | false=>exact absurd (hl m hq).symm hc
  have:=qcZ h5 L;omega
theorem qo9 {L B A:Nat} (h1:1<=L) (h4:L<=4) {l:List Tm} (hl:NN l) (hB:Deg B l) (hA:dlen (nrm l)<=A) (e:Int):Cof L B A (ck L e l):=
 ⟨qbg h1 h4 hl,qdj h1 h4 e l,qlS h1 h4 hB,Nat.le_trans (qah (qlR L e l)) hA⟩
theorem qkn {L C D:Nat} {c:List Tm} (h:Cof L C D c) : ∀ t:Nat,Cof L (t*C) (t*D+1) (qaO c t)
 | 0=>by
  refine ⟨qaM fun t ht=>?_,fun m hm=>?_,fun m hm k=>?_,?_⟩
  ·simp only [qaO,List.mem_singleton] at ht;subst ht;rfl
  ·simp only [qaO,qab] at hm
   by_cases e:Mo.zero=m
   ·rw [<- e,qbl]
   ·rw [if_neg e] at hm;exact absurd rfl hm
  ·simp only [qaO,qab] at hm
   by_cases e:Mo.zero=m
   ·rw [<- e,qbl];omega
   ·rw [if_neg e] at hm;exact absurd rfl hm
  ·show dlen (1+0)<=_;rw [qao,Nat.zero_mul];decide
 | t+1=>by
  rw [qcE,Nat.add_mul,Nat.add_mul,Nat.one_mul,Nat.one_mul];exact ((qkn h t).pmul h).mono (Nat.le_refl _) (by omega)
def StR (L:Nat) (f:List Tm) (n V:Nat):Prop:=(Sim f []/\V=0)∨(¬ Sim f [] /\ ∃ a,DgR L f a/\V=a+1 - n)
theorem StR.lt {L n V:Nat} {f:List Tm} (h:StR L f n V) (m:Mo) (hm:qab f m≠0):m.get L<((n+V:Nat):Int):=by
 rcases h with ⟨hz,_⟩ | ⟨_,a,ha,rfl⟩
 ·exact absurd (hz m) hm
 ·have:=ha.1 m hm;omega
theorem StR.le {L n V B:Nat} {f:List Tm} (h:StR L f n V) (hB:Deg B f):V<=B+1:=by
 rcases h with ⟨_,rfl⟩ | ⟨_,a,ha,rfl⟩
 ·omega
 ·have:=qmG ha hB;omega
abbrev qbI (L:Nat) (l:List Tm) (i:Nat):List Tm:=ck L (i:Int) l
def qeV (L n V:Nat) (f g:List Tm):List Tm:=poly L V fun i=>pmul (qdR n V (qbI L g) (qbI L f) i) (qaO (ck L (n:Int) g) i)
def qbU (L n V:Nat) (f g:List Tm):List Tm:=poly L n (pdR n V (qbI L g) (qbI L f) V)
structure PdH (L n V B C A D:Nat) (f g:List Tm):Prop where
 h1:1<=L
 h4:L<=4
 nf:NN f
 ng:NN g
 hB:Deg B f
 hC:Deg C g
 hA:dlen (nrm f)<=A
 hD:dlen (nrm g)<=D
 dg:DgR L g n
 st:StR L f n V
section
variable {L n V B C A D:Nat} {f g:List Tm}
theorem PdH.cf (h:PdH L n V B C A D f g) (i:Nat):Cof L B A (qbI L f i):=qo9 h.h1 h.h4 h.nf h.hB h.hA _
theorem PdH.cg (h:PdH L n V B C A D f g) (i:Nat):Cof L C D (qbI L g i):=qo9 h.h1 h.h4 h.ng h.hC h.hD _
theorem PdH.all (h:PdH L n V B C A D f g) (t:Nat) (ht:t<=V):PdT L n V B C A D (ck L (n:Int) g) f g (V - t) (pdR n V (qbI L g) (qbI L f) t) (qdR n V (qbI L g) (qbI L f)):=
 qj3 (qjw h.h1 h.h4 h.nf h.st.lt) (fun i _=>h.cf i) (qjw h.h1 h.h4 h.ng fun m hm=>by have:=h.dg.1 m hm;omega) (fun i _=>h.cg i) t ht
theorem PdH.law (h:PdH L n V B C A D f g):Sim (pmul (qaO (ck L (n:Int) g) V) f) (pmul (qeV L n V f g) g ++ qbU L n V f g):=by
 have h1:=h.all V (Nat.le_refl V);rw [Nat.sub_self] at h1;exact h1.done
theorem PdH.top (h:PdH L n V B C A D f g) (i:Nat) (hi:i<V):Cof L (B+V*C) (A+V*(D+1)) (qdR n V (qbI L g) (qbI L f) i):=by
 have h1:=h.all V (Nat.le_refl V);exact h1.2.2 i (by omega) hi
theorem PdH.rest (h:PdH L n V B C A D f g) (i:Nat) (hi:i<n):Cof L (B+V*C) (A+V*(D+1)) (pdR n V (qbI L g) (qbI L f) V i):=by
 have h1:=(h.all V (Nat.le_refl V)).2.1 i (by omega);rw [Nat.sub_self,Nat.sub_zero] at h1;exact h1
theorem PdH.quo (h:PdH L n V B C A D f g) (i:Nat) (hi:i<V):Cof L (B+V*C+V*C) (A+V*(D+1)+(V*D+1)) (pmul (qdR n V (qbI L g) (qbI L f) i) (qaO (ck L (n:Int) g) i)):=by
 have e1:=Nat.mul_le_mul_right C (show i<=V by omega);have e2:=Nat.mul_le_mul_right D (show i<=V by omega);exact ((h.top i hi).pmul (qkn (h.cg n) i)).mono (by omega) (by omega)
theorem PdH.quo_nn (h:PdH L n V B C A D f g):NN (qeV L n V f g):=NN.poly fun i hi=>(h.quo i hi).1
theorem PdH.rem_nn (h:PdH L n V B C A D f g):NN (qbU L n V f g):=NN.poly fun i hi=>(h.rest i hi).1
theorem PdH.small (h:PdH L n V B C A D f g) {a:Nat} (hz : ¬ Sim (qbU L n V f g) []) (hd:DgR L (qbU L n V f g) a):a<n:=
 qql h.h1 h.h4 (fun i hi=>(h.rest i hi).2.1) (fun i hi=>(h.rest i hi).1) hz hd
end
theorem qhj (M : Nat -> Prop) (a : Option Addr) (N cap n gd : Nat) (w : World) (hN : N <= n) (hn : n <= 1000000) :
  Calls Tryz.prog 61 #[.slice a N cap,.slice (some ⟨gd,0,none⟩) (n+1) (n+1)] w fun e w'=>∃ gt,e = .returned (.tuple #[.slice (some ⟨gt,0,none⟩) 0 0,.slice a N cap])/\w.heap.size<=gt/\gt<w'.heap.size/\qaz M w' 4 gt 0 (fun _=>[])/\Ext w w':=by
 obtain ⟨i0,hi,hz0,hz1,hz2⟩:=info_parts Tryz.info33;have hn0:(0:Int)<=(n:Int):=Int.natCast_nonneg _;have hN0:(0:Int)<=(N:Int):=Int.natCast_nonneg _
 have hnI:(n:Int)<=1000000:=by omega
 have hNI:(N:Int)<=(n:Int):=by omega
 have hmx:max ((N:Int) - (n:Int)) 0=0:=by omega
 have hmx2:(max ((N:Int) - (n:Int)) 0).toNat=0:=by omega
 go_enter Tryz.func61,Tryz.ntmps61
 go_upto_region 3 with (fail)
 go_wp2_with (first | (at_make;refine qbP _ rfl _ _ _ rfl 33 i0 (.agg #[.int .i64 0,.bool false,.slice none 0 0,.slice none 0 0]) 4 Tryz.underlying31 hi hz0 hz1 .i64 .i64 _ _ 0 rfl rfl ?c4 ?c5 ?c2 ?c3 ?_))
 case c2=>omega
 case c3=>unfold maxLen;omega
 case c4=>first | rfl | go_num | omega
 case c5=>first | rfl | go_num | omega
 have hBk:=qb6 w 0 33;have he1:=(Ext.refl w).alloc (.cells (madeCells (Value.agg #[.int .i64 0,.bool false,.slice none 0 0,.slice none 0 0]).cells (0*4)) 33);intro w1 hw1;replace hw1:w.alloc (.cells (madeCells (Value.agg #[.int .i64 0,.bool false,.slice none 0 0,.slice none 0 0]).cells (0*4)) 33)=w1:=hw1.out.symm;rw [hw1] at hBk he1;have HK:Hid (qaz M w1 4 w.heap.size 0 (fun _=>[])):=qaz.fresh hBk;have HF:Hid (∃ gt,(Ending.returned (.tuple #[.slice (some ⟨w.heap.size,0,none⟩) 0 0,.slice a N cap])) = .returned (.tuple #[.slice (some ⟨gt,0,none⟩) 0 0,.slice a N cap])/\w.heap.size<=gt/\gt<w1.heap.size/\qaz M w1 4 gt 0 (fun _=>[])/\Ext w w1):=⟨_,rfl,Nat.le_refl _,hBk.lt,HK.out,he1⟩;clear hw1 hBk he1 HK hi hz0 hz1 hz2;go_wp2;refine wp_loop_rounds 1 ?_;rw [rounds_succ];go_wp2;exact bodyPost_ret (v:=.tuple #[.slice (some ⟨w.heap.size,0,none⟩) 0 0,.slice a N cap]) (by simp [results,Tryz.results61,go_sem]) rfl HF.out


def qxa (M0 M1:Nat->Prop) (w0 w:World) (L n V gd:Nat) (f g:List Tm) (e:Ending) (w':World):Prop:=
 ∃ (gt:Nat) (ra:Option Addr) (rn rc:Nat) (R:Nat->List Tm),e = .returned (.tuple #[.slice (some ⟨gt,0,none⟩) V V,.slice ra rn rc])/\w.heap.size<=gt/\qaz (fun b=>M1 b∨b=gt) w' 4 gt V (qdR n V (qbI L g) (qbI L f))/\qaz (fun b=>M1 b∨b=gt) w' 4 gd (n+1) (qbI L g)/\qa7 (fun b=>M0 b∨b=gt) w' 4 (.slice ra rn rc) rn R/\rn<=n/\(∀ i,i<rn->R i=pdR n V (qbI L g) (qbI L f) V i)/\Sim (poly L rn R) (qbU L n V f g)/\Ext w0 w'
theorem qhi (M0 M1 : Nat -> Prop) (w0 w : World) (L n V B C A D gd : Nat) (f g : List Tm) (rv : Value) (hE : Ext w0 w) (hM : Mb M1 w) (hM0 : Mb M0 w0) (hsub : ∀ b, M0 b -> M1 b) (H : PdH L n V B C A D f g) (hG : qaz M1 w 4 gd (n + 1) (qbI L g))
  (hf:(Sim f []/\rv = .slice none 0 0)∨(¬ Sim f [] /\ ∃ a gf,rv = .slice (some ⟨gf,0,none⟩) (a+1) (a+1)/\w0.heap.size<=gf/\gf≠gd/\M1 gf/\DgR L f a/\qaz M1 w 4 gf (a+1) (qbI L f)))
  (hnV:n+V<=1000000) (hB:B+V*C+C<=1000000) (hBC:(B+V*C+1)*(C+1)<=1099511627776) (hA:A+V*(D+1)+D+2<=549755813888) :
  Calls Tryz.prog 61 #[rv,.slice (some ⟨gd,0,none⟩) (n+1) (n+1)] w (qxa M0 M1 w0 w L n V gd f g):=by
 have hgdl:=(hG.at 0 (by omega)).2.2.2.2.2;have hF : ∀ N:Nat,(∀ m,qab f m≠0->m.get L<(N:Int))->Sim (poly L N (qbI L f)) f:=fun N h=>qjw H.h1 H.h4 H.nf h;rcases hf with ⟨hz,rfl⟩ | ⟨hz,a,gf,rfl,hgf,hne,hMg,hda,hK⟩
 ·have hV : V = 0 := by
   rcases H.st with ⟨_,h⟩ | ⟨h,_⟩
   ·exact h
   ·exact absurd hz h
  subst hV;refine (qhj M1 none 0 0 n gd w (Nat.zero_le _) (by omega)).mono ?_;rintro e w' ⟨gt,rfl,h1,h2,h3,h4⟩
  have hmg : ∀ b,(M1 b∨b=gt)->M1 b∨w.heap.size<=b:=fun b hb=>hb.imp id fun h=>by omega
  refine ⟨gt,none,0,0,fun _=>[],rfl,h1,⟨zc4,?_,fun i hi=>absurd hi (Nat.not_lt_zero _)⟩,(hG.more hmg).ext h4,⟨Nat.zero_le _,.inl ⟨rfl,rfl⟩⟩,Nat.zero_le _,fun i hi=>absurd hi (Nat.not_lt_zero _),?_,hE.trans h4⟩
  ·obtain ⟨fn,hb,_⟩:=h3;exact hb.congr fun i hi=>absurd hi (by omega)
  ·exact ((hF n fun m hm=>absurd (hz m) hm).trans hz).symm
 ·obtain ⟨a', ha', hV⟩ : ∃ a', DgR L f a' /\ V = a' + 1 - n := by
   rcases H.st with ⟨h,_⟩ | ⟨_,h⟩
   ·exact absurd h hz
   ·exact h
  obtain rfl:=qcx H.nf hz hda ha'
  have hlt : ∀ m,qab f m≠0->m.get L<((a+1:Nat):Int):=fun m hm=>by have:=hda.1 m hm;omega
  by_cases h0:V=0
  ·subst h0;refine (qhj M1 (some ⟨gf,0,none⟩) (a+1) (a+1) n gd w (by omega) (by omega)).mono ?_;rintro e w' ⟨gt,rfl,h1,h2,h3,h4⟩
   have hmg : ∀ b,(M1 b∨b=gt)->M1 b∨w.heap.size<=b:=fun b hb=>hb.imp id fun h=>by omega
   refine ⟨gt,some ⟨gf,0,none⟩,a+1,a+1,qbI L f,rfl,h1,⟨zc4,?_,fun i hi=>absurd hi (Nat.not_lt_zero _)⟩,(hG.more hmg).ext h4,(hK.pre (M':=fun b=>M0 b∨b=gt) (fun b hb=>hb.elim (fun h=>.inl (hsub b h)) fun h=>.inr (by omega)) (fun hh=>hh.elim (hM0.new hgf) fun e=>by have:=hK.lt;omega) (by omega) (Nat.le_refl _) (by unfold maxLen;omega)).ext h4,by omega,fun i _=>rfl,?_,hE.trans h4⟩
   ·obtain ⟨fn,hb,_⟩:=h3;exact hb.congr fun i hi=>absurd hi (by omega)
   ·exact (hF _ hlt).trans (hF n fun m hm=>by have:=hlt m hm;omega).symm
  ·have hN:a+1=n+V:=by omega
   rw [hN] at hK ⊢;refine (qnR M1 L n V B C A D gf gd (qbI L f) (qbI L g) w hM hMg (Ne.symm hne) hK hG (by omega) hnV (fun i _=>H.cf i) (fun i _=>H.cg i) hB hBC hA).mono ?_;rintro e w' ⟨gt,rfl,h1,h2,h3,h4⟩
   have hmg : ∀ b,(M1 b∨b=gt)->M1 b∨w.heap.size<=b:=fun b hb=>hb.imp id fun h=>by omega
   refine ⟨gt,some ⟨gf,0,none⟩,n,n+V,pdR n V (qbI L g) (qbI L f) V,rfl,h1,h3,(hG.more hmg).kp (h4.block gd hgdl (fun e=>hne (Option.some.inj e).symm)) (Kp.grown h4 fun k hk=>by cases hk;exact .inl hMg),h2.pre (M':=fun b=>M0 b∨b=gt) (fun b hb=>.inl (hb.imp (hsub b) id)) (fun hh=>hh.elim (hM0.new hgf) fun e=>by have:=hK.lt;omega) (by omega) (by omega) (by unfold maxLen;omega),Nat.le_refl _,fun i _=>rfl,Sim.refl _,hE.grown h4 fun k hk=>by cases hk;exact hgf⟩
structure DvB (M:Nat->Prop) (w:World) (x y:PE) (W:World):Prop where
 e:Ext w W
 px:P4 W w.heap.size x
 py:P4 W (w.heap.size+1) y
 bq:Blk W (w.heap.size+2) 33 4 (arr zA)
 br:Blk W (w.heap.size+3) 33 4 (arr zA)
 mb:Mb (Mx M w.heap.size (w.heap.size+4)) W
 sz:w.heap.size+4<=W.heap.size
theorem DvB.ext {M:Nat->Prop} {w W W':World} {x y:PE} (h:DvB M w x y W) (he:Ext W W'):DvB M w x y W':=
 ⟨h.e.trans he,h.px.ext he,h.py.ext he,h.bq.ext he,h.br.ext he,h.mb.ext he,Nat.le_trans h.sz he.size⟩
theorem DvB.start {M:Nat->Prop} {w:World} (hM:Mb M w) (x y:PE):DvB M w x y ((((w.alloc (.cells (peA x) 33)).alloc (.cells (peA y) 33)).alloc (.cells zA 33)).alloc (.cells zA 33)):=by
 obtain ⟨h1,h2,h3,h4,h5⟩:=qks hM x y;have he:=(Ext.refl (((w.alloc (.cells (peA x) 33)).alloc (.cells (peA y) 33)).alloc (.cells zA 33))).alloc (.cells zA 33);have hb:=Blk.of_arr (((w.alloc (.cells (peA x) 33)).alloc (.cells (peA y) 33)).alloc (.cells zA 33)) zA 33 4 rfl
 have hs:(((w.alloc (.cells (peA x) 33)).alloc (.cells (peA y) 33)).alloc (.cells zA 33)).heap.size=w.heap.size+3:=by simp
 rw [hs] at hb;exact ⟨h1.trans he,h2.ext he,h3.ext he,h4.ext he,hb,Mx.mb hM (by simp;omega) (by simp),by simp⟩
theorem quv (f:Nat->Value) (hf : ∀ i,i<4->f i=arr zA i) : ∀ i,i<4->qjJ f 0 (.int .i64 0) (.bool false) (.slice none 0 0) (.slice none 0 0) i=arr zA i:=by
 intro i hi
 match i,hi with
 | 0,_=>exact qcR _ _ _ _ _ _
 | 1,_=>exact qcQ _ 0 _ _ _ _
 | 2,_=>exact qcP _ 0 _ _ _ _
 | 3,_=>exact qcO _ 0 _ _ _ _
theorem DvB.put {M:Nat->Prop} {w W:World} {x y:PE} (h:DvB M w x y W) (b:Nat) (hb:b=w.heap.size+2∨b=w.heap.size+3):DvB M w x y (set4 W b 0 (.int .i64 0) (.bool false) (.slice none 0 0) (.slice none 0 0)):=by
 have hot : ∀ q,q≠b->(set4 W b 0 (.int .i64 0) (.bool false) (.slice none 0 0) (.slice none 0 0)).heap[q]? = W.heap[q]?:=fun q hq=>qaf _ _ _ _ _ _ _ _ hq
 have hblk : ∀ q,(q=w.heap.size+2∨q=w.heap.size+3)->Blk W q 33 4 (arr zA)->Blk (set4 W b 0 (.int .i64 0) (.bool false) (.slice none 0 0) (.slice none 0 0)) q 33 4 (arr zA):=fun q _ hk=>by
  by_cases e:q=b
  ·subst e;exact (hk.set4 0 _ _ _ _).congr (quv _ fun _ _=>rfl)
  ·exact hk.of_heap (hot q e)
 exact ⟨h.e.set4 (by omega) _ _ _ _ _,qar h.px (hot _ (by omega)),qar h.py (hot _ (by omega)),hblk _ (.inl rfl) h.bq,hblk _ (.inr rfl) h.br,h.mb.size (by rw [qap];exact Nat.le_refl _),by rw [qap];exact h.sz⟩
theorem DvB.far {M:Nat->Prop} {w W:World} {x y:PE} (h:DvB M w x y W) {b:Nat} (hb:w.heap.size+4<=b) (o:Nat) (e0 e1 e2 e3:Value):DvB M w x y (set4 W b o e0 e1 e2 e3):=by
 have hot : ∀ q,q≠b->(set4 W b o e0 e1 e2 e3).heap[q]? = W.heap[q]?:=fun q hq=>qaf _ _ _ _ _ _ _ _ hq;exact ⟨h.e.set4 (by omega) _ _ _ _ _,qar h.px (hot _ (by omega)),qar h.py (hot _ (by omega)),h.bq.of_heap (hot _ (by omega)),h.br.of_heap (hot _ (by omega)),h.mb.size (by rw [qap];exact Nat.le_refl _),by rw [qap];exact h.sz⟩


theorem StR.uniq {L n V V':Nat} {f:List Tm} (hf:NN f) (h:StR L f n V) (k:StR L f n V'):V=V':=by
 rcases h with ⟨h1,rfl⟩ | ⟨h1,a,h2,rfl⟩
 ·rcases k with ⟨_,rfl⟩ | ⟨k1,_⟩
  ·rfl
  ·exact absurd h1 k1
 ·rcases k with ⟨k1,_⟩ | ⟨_,b,k2,rfl⟩
  ·exact absurd k1 h1
  ·rw [qcx hf h1 h2 k2]
def ZB4 (W:World) (b:Nat):Prop:=W.cell? ⟨b,0,none⟩=some (.int .i64 0)/\W.cell? ⟨b,1,none⟩=some (.bool false)/\W.cell? ⟨b,2,none⟩=some (.slice none 0 0)/\W.cell? ⟨b,3,none⟩=some (.slice none 0 0)
theorem qir {W:World} {b:Nat} (h:Blk W b 33 4 (arr zA)):ZB4 W b:=⟨h.cell (i:=0) (by omega),h.cell (i:=1) (by omega),h.cell (i:=2) (by omega),h.cell (i:=3) (by omega)⟩
def SZ (M:Nat->Prop) (w:World) (x y:PE) (W:World):Prop:=DvB M w x y W/\ZB4 W (w.heap.size+2)/\ZB4 W (w.heap.size+3)
theorem DvB.sz4 {M:Nat->Prop} {w W:World} {x y:PE} (h:DvB M w x y W):SZ M w x y W:=⟨h,qir h.bq,qir h.br⟩
theorem SZ.two {M : Nat -> Prop} {w W : World} {x y : PE} (h : SZ M w x y W) : ∃ W1, W1 = set4 W (w.heap.size + 2) 0 (.int .i64 0) (.bool false) (.slice none 0 0) (.slice none 0 0) /\ ZB4 W (w.heap.size + 2) /\ (∀ o, W.frozen? ⟨w.heap.size + 2, o, none⟩ = false) /\ SZ M w x y W1 /\
  ∃ W2,W2=set4 W1 (w.heap.size+3) 0 (.int .i64 0) (.bool false) (.slice none 0 0) (.slice none 0 0)/\ZB4 W1 (w.heap.size+3)/\(∀ o,W1.frozen? ⟨w.heap.size+3,o,none⟩=false)/\SZ M w x y W2:=by
 have h1:=(h.1.put _ (.inl rfl)).sz4;exact ⟨_,rfl,h.2.1,h.1.bq.frozen,h1,_,rfl,h1.2.2,h1.1.br.frozen,(h1.1.put _ (.inr rfl)).sz4⟩
theorem qqG {M:Nat->Prop} {W:World} {b:Nat} {x:PE} {l:List Tm} (hb:Blk W b 33 4 (arr (peA x))) (hc:CRx M W 4 x l):qaz M W 4 b 1 (fun _=>l):=
 ⟨arr (peA x),hb,fun i hi=>by
  obtain rfl:i=0:=by omega
  exact hc⟩
def S2K (g o:Nat) (y:PE) (gd o2:Nat) (c:PE) (w:World):Prop:=S14 g o y gd o2 c w
def DvO (M:Nat->Prop) (w':World) (f g:List Tm) (L:Int) (x y:PE) (er:Int):Prop:=
 (¬ (1<=L/\L<=4)/\er=4/\x=PE.z/\y=PE.z)∨((1<=L/\L<=4)/\Sim g []/\er=2/\x=PE.z/\y=PE.z) ∨
 (∃ J n V:Nat,L=J/\1<=J/\J<=4 /\ ¬ Sim g []/\DgR J g n/\StR J f n V/\er=0/\CRx M w' 4 x (qeV J n V f g)/\CRx M w' 4 y (qbU J n V f g))
def qps (M:Nat->Prop) (w:World) (f g:List Tm) (L:Int) (e:Ending) (w':World):Prop:=∃ (x y:PE) (er:Int),e = .returned (.tuple #[.agg (peA x),.agg (peA y),.int .i64 er])/\DvO M w' f g L x y er/\Ext w w'
structure DvN (B C A D:Nat):Prop where
 n1:B+(B+1)*C+(B+1)*C+C+B+2<=100000
 n2:(B+C+2)*(B+(B+1)*C+(B+1)*C+1) ^ 4<=1099511627776
 n3:A+(B+1)*(D+1)+((B+1)*D+1)+D+10<=549755813888
theorem qnS (M : Nat -> Prop) (x y : PE) (f g : List Tm) (L : Int) (B C A D : Nat) (w : World) (hM : Mb M w) (h : PI M w x f) (k : PI M w y g) (nf : NN f) (ng : NN g) (hB : Deg B f) (hC : Deg C g) (hA : dlen (nrm f) <= A) (hD : dlen (nrm g) <= D) (hN : DvN B C A D) :
  Calls Tryz.prog 12 #[.agg (peA x),.agg (peA y),.int .i64 L] w (qps M w f g L):=by
 have D0:=DvB.start hM x y;have h0:=(h.more (M':=Mx M w.heap.size (w.heap.size+4)) (Mx.more (Nat.le_refl _))).ext D0.e;have k0:=(k.more (M':=Mx M w.heap.size (w.heap.size+4)) (Mx.more (Nat.le_refl _))).ext D0.e;generalize hW:((((w.alloc (.cells (peA x) 33)).alloc (.cells (peA y) 33)).alloc (.cells zA 33)).alloc (.cells zA 33))=W at D0 h0 k0;have HW:=Lib.hid hW;have HD:=Lib.hid D0;have HX:=Lib.hid h0;have HY:=Lib.hid k0;have HNF:=Lib.hid nf;have HNG:=Lib.hid ng;have HB:=Lib.hid hB;have HC:=Lib.hid hC;have HA:=Lib.hid hA;have HDD:=Lib.hid hD;have HN:=Lib.hid hN;clear hW D0 h0 k0 hM h k nf ng hB hC hA hD hN
 go_enter Tryz.func12,Tryz.ntmps12
 go_upto_region 1 with (fail)
 rw [HW.out];clear HW
 by_cases hl:1<=L/\L<=4
 ·obtain ⟨J,rfl⟩ : ∃ J:Nat,L=J:=⟨L.toNat,by omega⟩;have HJ:Hid (1<=J/\J<=4):=⟨by omega,by omega⟩
  have hl1 : ¬ (J:Int)<1:=by omega
  have hl4 : ¬ (4:Int)<(J:Int):=by omega
  have hltb:w.heap.size+4<=W.heap.size:=HD.out.sz;obtain ⟨y0,y1,y2,y3⟩:=HD.out.py;have hEb:=(Ext.refl W).alloc (.cells (peA y) 33);have hBb:=Blk.of_arr W (peA y) 33 4 rfl;clear hl;go_wp2_with (fail);refine (qgv (Mx M w.heap.size (w.heap.size+4)) y g W.heap.size 0 1 _ (HD.out.mb.ext hEb) hBb.p4 hBb.lt (HY.out.ext hEb)).mono ?_;rintro e w1 ⟨er,rfl,her,he1⟩;have HD1:=Lib.hid (HD.out.ext (hEb.trans he1));have HX1:=Lib.hid (HX.out.ext (hEb.trans he1));have HY1:=Lib.hid (HY.out.ext (hEb.trans he1));have hs1:w.heap.size+4<=w1.heap.size:=HD1.out.sz;clear y0 y1 y2 y3 hEb hBb he1 HD HX HY hltb;rcases her with ⟨rfl,hz⟩ | ⟨rfl,hz⟩
  ·have HZ:=Lib.hid hz;clear hz
   go_upto_region 5 with (fail)
   have hS:=(HD1.out.ext (Ext.refl w1).drew).sz4;refine qae (SZ M w x y) 6 (by kernel_rfl) hS (fun hHeld=>?_);clear hS;have HD2:=Lib.hid hHeld.1;generalize w1.drew=wd at *;(refine tkB [0,1,2] ?_;(iterate 3 (refine tk1 (oi:=?_) (v:=?_) (by kernel_rfl) (by first | exact hSn | exact hHeld) ?_ ?_ ?_ ?_ ?_;rotate_left 2;(simp only [xgA,xgB,xgC];rfl);rfl;(intro wS hSw;obtain ⟨S0,⟨S1,S2,S3,S4⟩,⟨S5,S6,S7,S8⟩⟩:=hSw;go_simp;try with_reducible rfl);(exact fun _ _ _ h=>h);(try simp only [Act.put,xgD,xgE,xgF])));refine tkE ?_);obtain ⟨W1,hW1,⟨q0,q1,q2,q3⟩,hf,hS1,W2,hW2,⟨p0,p1,p2,p3⟩,hg,hS2⟩:=(show SZ M w x y wd from hHeld).two;have f0:=hf 0;have f1:=hf 1;have f2:=hf 2;have f3:=hf 3;have g0:=hg 0;have g1:=hg 1;have g2:=hg 2;have g3:=hg 3;unfold set4 at hW1 hW2;clear hf hg;(refine qaa 3 (o:=?_) (by kernel_rfl) ?_ ?_;rotate_left 1;(simp only [xgA,xgB,xgC];rfl);intro K hK);go_simp;rw [<- hW1];clear hW1;refine hK.out _ _ (fun _=>hS1) ?_;clear hK K q0 q1 q2 q3 f0 f1 f2 f3;(try simp only [Act.put,xgD,xgE,xgF]);(refine qaa 4 (o:=?_) (by kernel_rfl) ?_ ?_;rotate_left 1;(simp only [xgA,xgB,xgC];rfl);intro K hK);go_simp;rw [<- hW2];clear hW2;refine hK.out _ _ (fun _=>hS2) ?_;clear hK K p0 p1 p2 p3 g0 g1 g2 g3;(try simp only [Act.put,xgD,xgE,xgF]);have hSn:=hS2;(refine tkB [5] ?_;(iterate 1 (refine tk1 (oi:=?_) (v:=?_) (by kernel_rfl) (by first | exact hSn | exact hHeld) ?_ ?_ ?_ ?_ ?_;rotate_left 2;(simp only [xgA,xgB,xgC];rfl);rfl;(intro wS hSw;obtain ⟨S0,⟨S1,S2,S3,S4⟩,⟨S5,S6,S7,S8⟩⟩:=hSw;go_simp;try with_reducible rfl);(exact fun _ _ _ h=>h);(try simp only [Act.put,xgD,xgE,xgF])));refine tkE ?_)
   refine qac (by kernel_rfl) ?_ _;obtain ⟨⟨r0,r1,r2,r3⟩,⟨t0,t1,t2,t3⟩⟩:=hS2.2;have HF:Hid (qps M w f g J (.returned (.tuple #[.agg (peA PE.z),.agg (peA PE.z),.int .i64 2])) W2):=⟨PE.z,PE.z,2,rfl,.inr (.inl ⟨⟨by have:=HJ.out;omega,by have:=HJ.out;omega⟩,HZ.out,rfl,rfl,rfl⟩),hS2.1.e⟩;clear hS1 hS2 hSn hHeld HD2 HD1 HX1 HY1 HZ;go_wp2;exact bodyPost_ret (v:=.tuple #[.agg (peA PE.z),.agg (peA PE.z),.int .i64 2]) (by simp [results,Tryz.results12,go_sem,r0,r1,r2,r3,t0,t1,t2,t3,PE.z]) rfl HF.out
  ·have HZ:=Lib.hid hz;clear hz;have hBq:=HN.out.n1
   have hB4:Hid ((B+1) ^ 4<=1099511627776):=by
    have h2:=HN.out.n2;refine Nat.le_trans ?_ h2;refine Nat.le_trans (Nat.pow_le_pow_left (show B+1<=B+(B+1)*C+(B+1)*C+1 by omega) 4) (Nat.le_mul_of_pos_left _ (by omega))
   have hCC:C<=(B+1)*C:=Nat.le_mul_of_pos_left _ (by omega)
   have hC4:Hid ((C+1) ^ 4<=1099511627776):=by
    have h2:=HN.out.n2;refine Nat.le_trans ?_ h2;refine Nat.le_trans (Nat.pow_le_pow_left (show C+1<=B+(B+1)*C+(B+1)*C+1 by omega) 4) (Nat.le_mul_of_pos_left _ (by omega))
   have hCn:Hid (C+1<=1073741824/\B+1<=1073741824):=⟨by omega,by omega⟩
   have hR:Hid (dlen (nrm g)<=1099511627776/\dlen (nrm f)<=1099511627776):=by
    have h3:=HN.out.n3
    have hd1:D<=1099511627776:=by omega
    have ha1:A<=1099511627776:=by omega
    exact ⟨Nat.le_trans HDD.out hd1,Nat.le_trans HA.out ha1⟩
   clear hBq hCC;obtain ⟨y0,y1,y2,y3⟩:=HD1.out.py;go_wp2_with (fail);refine (qed (Mx M w.heap.size (w.heap.size+4)) y g J C w1 HD1.out.mb HY1.out HC.out hC4.out hCn.out.1 hR.out.1).mono ?_;rintro e w2 ⟨hr,he2⟩;rcases hr with ⟨hz,_⟩ | ⟨_,hl,_⟩ | ⟨_,J',n,gd,hJ',_,_,rfl,hgd,hdg,hkd⟩
   ·exact absurd hz HZ.out
   ·exact absurd ⟨by have:=HJ.out;omega,by have:=HJ.out;omega⟩ hl
   obtain rfl:J=J':=by omega
   have hn:n<=C:=qmG hdg HC.out;have HG2:=Lib.hid hkd;have HD2:=Lib.hid (HD1.out.ext he2);have HX2:=Lib.hid (HX1.out.ext he2);have HDG:=Lib.hid hdg;have HE2:=Lib.hid he2;have HD1w:=HD1;have hgd0:w.heap.size+4<=gd:=Nat.le_trans HD1.out.sz hgd;have HGD:=Lib.hid hgd;have hgdl:=hkd.lt;have hM2:Mb (fun b=>Mx M w.heap.size (w.heap.size+4) b∨b=gd) w2:=qb1 HD2.out.mb hgdl;have CC2:=Lib.hid (qed (fun b=>Mx M w.heap.size (w.heap.size+4) b∨b=gd) x f J B w2 hM2 ((HX1.out.more (M':=fun b=>Mx M w.heap.size (w.heap.size+4) b∨b=gd) (fun b hb=>hb.imp id fun e=>by omega)).ext he2) HB.out hB4.out hCn.out.2 hR.out.2);have HM2:=Lib.hid hM2;clear hkd hdg hgd he2 hM2 y0 y1 y2 y3 HX2 HX1 HY1 hB4 hC4 hCn hR;obtain ⟨x0,x1,x2,x3⟩:=HD2.out.px;go_wp2_with (fail);refine CC2.out.mono ?_;rintro e w3 ⟨hr,he3⟩;have hM4:Mb (Mx M w.heap.size (w.heap.size+4)) w1:=HD1.out.mb
   have hsplit : ∃ (M1 : Nat -> Prop) (V : Nat) (rv : Value), e = .returned rv /\ Mb M1 w3 /\ (∀ b, Mx M w.heap.size (w.heap.size + 4) b -> M1 b) /\ StR J f n V /\ qaz M1 w3 4 gd (n + 1) (qbI J g) /\ M1 gd /\
     ((Sim f []/\rv = .slice none 0 0)∨(¬ Sim f [] /\ ∃ a gf,rv = .slice (some ⟨gf,0,none⟩) (a+1) (a+1)/\w1.heap.size<=gf/\gf≠gd/\M1 gf/\DgR J f a/\qaz M1 w3 4 gf (a+1) (qbI J f))):=by
    have hg3:=HG2.out.ext he3;have hw2s:=HE2.out.size;rcases hr with ⟨hz,rfl⟩ | ⟨_,hl,_⟩ | ⟨hz,J',a,gf,hJ',_,_,rfl,hgf,hda,hkf⟩
    ·exact ⟨_,0,_,rfl,HM2.out.ext he3,fun b hb=>.inl hb,.inl ⟨hz,rfl⟩,hg3,.inr rfl,.inl ⟨hz,rfl⟩⟩
    ·exact absurd ⟨by have:=HJ.out;omega,by have:=HJ.out;omega⟩ hl
    ·obtain rfl:J=J':=by omega
     have hgd2:=HG2.out.lt;exact ⟨fun b=>(Mx M w.heap.size (w.heap.size+4) b∨b=gd)∨b=gf,a+1 - n,_,rfl,qb1 (HM2.out.ext he3) hkf.lt,fun b hb=>.inl (.inl hb),.inr ⟨hz,a,hda,rfl⟩,(HG2.out.more (M':=fun b=>(Mx M w.heap.size (w.heap.size+4) b∨b=gd)∨b=gf) (fun b hb=>hb.imp id fun e=>by omega)).ext he3,.inl (.inr rfl),.inr ⟨hz,a,gf,rfl,by omega,by omega,.inr rfl,hda,hkf⟩⟩
   obtain ⟨M1,V,rv,rfl,hM13,hsub,hst,hG3,hM1g,hfr⟩:=hsplit;have hV:=hst.le HB.out;have hPC:V*C<=(B+1)*C:=Nat.mul_le_mul_right C hV;have hPD:V*(D+1)<=(B+1)*(D+1):=Nat.mul_le_mul_right (D+1) hV;have hPE:V*D<=(B+1)*D:=Nat.mul_le_mul_right D hV;have hN1:=HN.out.n1;have hN3:=HN.out.n3;have hPd:PdH J n V B C A D f g:=⟨HJ.out.1,HJ.out.2,HNF.out,HNG.out,HB.out,HC.out,HA.out,HDD.out,HDG.out,hst⟩;have hmul : ∀ a b:Nat,a<=100000->b<=100000->a*b<=1099511627776:=fun a b ha hb=>Nat.le_trans (Nat.mul_le_mul ha hb) (by decide);have CR:=Lib.hid (qhi (Mx M w.heap.size (w.heap.size+4)) M1 w1 w3 J n V B C A D gd f g rv (HE2.out.trans he3) hM13 hM4 hsub hPd hG3 hfr (by omega) (by omega) (hmul _ _ (by omega) (by omega)) (by omega));have HPD:=Lib.hid hPd;have HV:=Lib.hid hV;have HNUM:Hid (V<=B+1/\n<=C/\V*C<=(B+1)*C/\V*(D+1)<=(B+1)*(D+1)/\V*D<=(B+1)*D):=⟨hV,hn,hPC,hPD,hPE⟩;have hgd3:=hG3.lt;have hw13:w1.heap.size<=w3.heap.size:=(HE2.out.trans he3).size;have HM13:=Lib.hid hM13;have HSUB:=Lib.hid hsub;have HM1g:=Lib.hid hM1g;have HST:=Lib.hid hst;have HD1e:=HD1;clear hM4 hV hPC hPD hPE hN1 hN3 hPd hmul hM13 hsub hst hG3 hfr hr he3 hM1g CC2 HG2 HD2 HM2 HE2 hn x0 x1 x2 x3;go_wp2_with (fail);refine CR.out.mono ?_;rintro e w4 ⟨gt,ra,rn,rc,R,rfl,hgt,hT,hG4,hrow,hrn,hRe,hRs,he4⟩;have HD4:=Lib.hid (HD1.out.ext he4);have HT4:=Lib.hid hT;have HG4:=Lib.hid hG4;have HROW:=Lib.hid hrow;have HRN:=Lib.hid hrn;have HRE:=Lib.hid hRe;have HRS:=Lib.hid hRs;have HM4:Hid (Mb (fun b=>M1 b∨b=gt) w4):=qb1 (HM13.out.size (by have:=hT.lt;omega)) hT.lt
   clear hT hG4 hrow hrn hRe hRs he4 CR HM13;obtain ⟨T,hTe⟩ : ∃ T,T=qdR n V (qbI J g) (qbI J f):=⟨_,rfl⟩;obtain ⟨c,hce⟩ : ∃ c,c=ck J (n:Int) g:=⟨_,rfl⟩
   have HQT:Hid (∀ i,i<V->Cof J (B+V*C) (A+V*(D+1)) (T i)):=fun i hi=>by rw [hTe];exact HPD.out.top i hi
   have HQP:Hid (∀ t,t<=V->Cof J (V*C) (V*D+1) (qaO c t)):=fun t ht=>by
    rw [hce];have e1:=Nat.mul_le_mul_right C ht;have e2:=Nat.mul_le_mul_right D ht;exact (qkn (HPD.out.cg n) t).mono (by omega) (by omega)
   have HQC:Hid (Cof J C D c):=by show Cof _ _ _ _;rw [hce];exact HPD.out.cg n
   have HQU:Hid (poly J V (fun i=>pmul (T i) (qaO c i))=qeV J n V f g):=by show _=_;rw [hTe,hce];rfl
   have HT4':Hid (qaz (fun b=>M1 b∨b=gt) w4 4 gt V T):=by show qaz _ _ _ _ _ _;rw [hTe];exact HT4.out
   have HG4':Hid (qaz (fun b=>M1 b∨b=gt) w4 4 gd (n+1) (qbI J g)):=HG4.out;have HCE:Hid (qbI J g n=c):=hce.symm;clear hTe hce HT4 HG4;have CI:=Lib.hid (qhu (M:=fun b=>M1 b∨b=gt) 1 w4 HM4.out (by omega) (by omega));go_wp2_with (fail);refine CI.out.mono ?_;rintro e w5 ⟨e0,e1,rfl,hi,he5⟩;obtain ⟨ib,ia,il,ip,rfl,rfl⟩:=hi.form;have CK:=Lib.hid (qd5 (fun b=>M1 b∨b=gt) ib ia il ip 1 w5 (HM4.out.ext he5) hi.toV);have HE5:=Lib.hid he5;clear hi he5 CI;go_wp2_with (fail);refine CK.out.mono ?_;rintro e w6 ⟨pw,rfl,hpw,he6⟩;have hE6:=HE5.out.trans he6;have hpw4:CRx (fun b=>M1 b∨b=gt) w6 4 pw [(1,Mo.zero)]:=CR.up hpw (Nat.zero_le 4);have hgt6:gt<w6.heap.size:=Nat.lt_of_lt_of_le HT4'.out.lt hE6.size;have hgd6:gd<w6.heap.size:=Nat.lt_of_lt_of_le HG4'.out.lt hE6.size;obtain ⟨gp,hgp⟩ : ∃ gp,w6.heap.size=gp:=⟨_,rfl⟩;have hEa:=(Ext.refl w6).alloc (.cells (peA pw) 33);have hBa:=Blk.of_arr w6 (peA pw) 33 4 rfl;obtain ⟨W7,hW7⟩ : ∃ W7,w6.alloc (.cells (peA pw) 33)=W7:=⟨_,rfl⟩;rw [hgp] at hBa;rw [hW7] at hEa hBa
   have hm3 : ∀ b,((M1 b∨b=gt)∨b=gp)->(M1 b∨b=gt)∨w6.heap.size<=b:=fun b hb=>hb.imp id fun e=>by omega
   have hm34 : ∀ b,((M1 b∨b=gt)∨b=gp)->(M1 b∨b=gt)∨w4.heap.size<=b:=fun b hb=>hb.imp id fun e=>by have:=hE6.size;omega
   have HPB:Hid (qaz (fun b=>(M1 b∨b=gt)∨b=gp) W7 4 gp 1 (fun _=>qaO c (0 - 1))):=qqG hBa ((hpw4.more hm3).ext hEa)
   have HT7:Hid (qaz (fun b=>(M1 b∨b=gt)∨b=gp) W7 4 gt V (fun i=>if i<0 then pmul (T i) (qaO c i) else T i)):=(((HT4'.out.more hm34).ext (hE6.trans hEa))).congr fun i _=>by rw [if_neg (Nat.not_lt_zero _)];exact Sim.refl _
   have HG7:Hid (qaz (fun b=>(M1 b∨b=gt)∨b=gp) W7 4 gd (n+1) (qbI J g)):=(HG4'.out.more hm34).ext (hE6.trans hEa);have HD7:=Lib.hid (HD4.out.ext (hE6.trans hEa));have HROW7:Hid (qa7 (fun b=>(Mx M w.heap.size (w.heap.size+4) b∨b=gt)∨b=gp) W7 4 (.slice ra rn rc) rn R):=(HROW.out.more (M':=(fun b=>(Mx M w.heap.size (w.heap.size+4) b∨b=gt)∨b=gp)) (fun b hb=>hb.imp id fun e=>by have:=hE6.size;omega)).ext (hE6.trans hEa);have HM7:Hid (Mb (fun b=>(M1 b∨b=gt)∨b=gp) W7):=qb1 (HM4.out.ext (hE6.trans hEa)) hBa.lt
   have hgtp:gp≠gt:=by omega
   have hgdp:gp≠gd:=by omega
   have hgtd:gt≠gd:=by omega
   have hgt4:w.heap.size+4<=gt:=by omega
   have hgp4:w.heap.size+4<=gp:=by omega
   have HW7:=Lib.hid hW7;have HGP:=Lib.hid hgp;have hVI:(0:Int)<=(V:Int):=Int.natCast_nonneg _
   have hVB:(V:Int)<=100001:=by have:=HNUM.out;have:=HN.out.n1;omega
   have HGT1:Hid (w1.heap.size<=gt):=by show _<=_;omega
   clear hpw hpw4 he6 hE6 hEa hBa hW7 hgp hm3 hm34 HE5 CK HT4' HG4' HD4 HROW HM4 hgt6 hgd6 hgt
   go_upto_region 9 with (fail)
   rw [HW7.out,HGP.out];clear HW7 HGP;go_wp2
   go_loopw [46] (fun jv wr=>∃ j:Nat,j<=V/\jv = .int .i64 (j:Int)/\Hid (qaz (fun b=>(M1 b∨b=gt)∨b=gp) wr 4 gt V (fun i=>if i<j then pmul (T i) (qaO c i) else T i))/\Hid (qaz (fun b=>(M1 b∨b=gt)∨b=gp) wr 4 gd (n+1) (qbI J g))/\Hid (qaz (fun b=>(M1 b∨b=gt)∨b=gp) wr 4 gp 1 (fun _=>qaO c (j - 1)))/\Hid (qa7 (fun b=>(Mx M w.heap.size (w.heap.size+4) b∨b=gt)∨b=gp) wr 4 (.slice ra rn rc) rn R)/\Hid (DvB M w x y wr)/\Hid (Mb (fun b=>(M1 b∨b=gt)∨b=gp) wr)) (fun jv _=>V - (intOf jv).toNat)
   case atStart=>exact ⟨0,Nat.zero_le _,rfl,HT7,HG7,HPB,HROW7,HD7,HM7⟩
   case round=>
    clear HT7 HG7 HPB HROW7 HD7 HM7;obtain ⟨j,hj,rfl,HT,HG,HPB,HROW,HD,HMB⟩:=hrel
    by_cases hlt:j<V
    ·have hltI:(j:Int)<(V:Int):=by omega
     have hj0':(0:Int)<=(j:Int):=Int.natCast_nonneg _;have HLT:=Lib.hid hlt;have hgdl2:=HG.out.lt;have hgpl2:=HPB.out.lt;have hgtl2:=HT.out.lt
     by_cases hj0:j=0
     case' pos=>
      have hgtI : ¬ (0:Int)<(j:Int):=by omega
      have HPB8:Hid (qaz (fun b=>(M1 b∨b=gt)∨b=gp) wr 4 gp 1 (fun _=>qaO c j)):=HPB.out.congr fun i _=>by rw [hj0];exact Sim.refl _
      have HT8:=HT;have HG8:=HG;have HROW8:=HROW;have HD8:=HD;have HMB8:=HMB;clear HT HG HPB HROW HD HMB hlt hj0 hgdl2 hgpl2 hgtl2
      go_upto_region 14 with (fail)
      generalize wr=W8 at *
     case' neg=>
      have hgtI:(0:Int)<(j:Int):=by omega
      obtain ⟨pv,hpc,hpv⟩:=HPB.out.cel 0 (by omega);obtain ⟨cc,hcc,hc⟩:=HG.out.cel n (by omega);rw [HCE.out] at hc;have hd:=(Ext.refl wr).drew;have hpc2:qaI wr gp 0 pv:=hpc;have hS:S14 gp 0 pv gd (n*4) cc wr.drew:=S14.ext ⟨hpc2,hcc,hgpl2,hgdl2⟩ hd;have HT9:=Lib.hid (HT.out.ext hd);have HG9:=Lib.hid (HG.out.ext hd);have HPB9:=Lib.hid (HPB.out.ext hd);have HROW9:=Lib.hid (HROW.out.ext hd);have HD9:=Lib.hid (HD.out.ext hd);have HMB9:=Lib.hid (HMB.out.ext hd);have HPV9:=Lib.hid (hpv.ext hd);have HCC9:=Lib.hid (hc.ext hd)
      have HJ0:Hid (j - 1+1=j):=by show _=_;omega
      have hgpwd:gp<wr.drew.heap.size:=hS.2.2.1;have hgdwd:gd<wr.drew.heap.size:=hS.2.2.2;clear hpc hpc2 hcc hc hpv hd HT HG HPB HROW HD HMB hlt hj0 hgdl2 hgpl2 hgtl2
      go_upto_region 13 with (fail)
      refine qae (S14 gp 0 pv gd (n*4) cc) 8 (by kernel_rfl) hS (fun hHeld=>?_);clear hS;generalize wr.drew=wd at *;have hn0:(0:Int)<=(n:Int):=Int.natCast_nonneg _
      have hnI:(n:Int)+1<=100001:=by have:=HNUM.out;have:=HN.out.n1;omega
      have hwn:IntKind.i64.wrap ((n:Int)+1 - 1)=(n:Int):=by rw [IntKind.wrap_i64];omega
      have hwn2:IntKind.i64.wrap (n:Int)=(n:Int):=by rw [IntKind.wrap_i64];omega
      have hnn1:(n:Int)<(n:Int)+1:=by omega
      have C13:Hid (∀ W:World,Ext wd W->Calls Tryz.prog 55 #[.agg (peA pv),.agg (peA cc)] W (qa4 (fun b=>(M1 b∨b=gt)∨b=gp) W 4 (pmul (qaO c (j - 1)) c))):=fun W he=>by
       have h1:=HQP.out (j - 1) (by have:=HLT.out;omega);have h2:=HQC.out;have h3:=HN.out.n3;have h4:=HN.out.n1;have h5:=HNUM.out;exact qfC _ pv cc _ _ (V*C) C W (HMB9.out.ext he) (HPV9.out.ext he).pi (HCC9.out.ext he).pi (by have:=h1.2.2.2;have:=h2.2.2.2;omega) h1.2.2.1 h2.2.2.1 (Nat.le_trans (Nat.mul_le_mul (show V*C+1<=100000 by omega) (show C+1<=100000 by omega)) (by decide))
      (refine tkB [0,1,2,3,4,5,6] ?_;(iterate 7 (refine tk1 (oi:=?_) (v:=?_) (by kernel_rfl) (by first | exact hSn | exact hHeld) ?_ ?_ ?_ ?_ ?_;rotate_left 2;(simp only [xgA,xgB,xgC];rfl);rfl;(intro wS hSw;obtain ⟨⟨S1,S2,S3,S4⟩,⟨S5,S6,S7,S8⟩,S9,S10⟩:=hSw;go_simp;try with_reducible rfl);(exact fun _ _ _ h=>h);(try simp only [Act.put,xgD,xgE,xgF])));refine tkE ?_);((refine qaa 7 (o:=?_) (by kernel_rfl) ?_ ?_;rotate_left 1;(simp only [xgA,xgB,xgC];rfl);intro K hK);go_simp;(refine (C13.out _ (Ext.refl _)).mono ?_);rintro e_ u1 ⟨v,rfl,hv,ed1⟩;go_wp2_with (fail);(try clear hSn);(have hSn:=hHeld.ext ed1);(refine hK.out _ _ (fun _=>hSn) ?_);clear hK K;(try simp only [Act.put,xgD,xgE,xgF]));have hP10:=HPB9.out.ext ed1;obtain ⟨⟨_,k0⟩,⟨_,k1⟩,⟨_,k2⟩,⟨_,k3⟩,hfr,hg5⟩:=hP10.at 0 (by omega);have hf0:=hfr (0*4);have hf1:=hfr (0*4+1);have hf2:=hfr (0*4+2);have hf3:=hfr (0*4+3);rw [Nat.zero_mul] at k0 k1 k2 k3 hf0 hf1 hf2 hf3;rw [Nat.zero_add] at k1 k2 k3 hf1 hf2 hf3;obtain ⟨W8,hW8⟩ : ∃ W8,set4 u1 gp 0 (.int .i64 v.lv) (.bool v.b) (.slice v.a v.n v.p) (.slice v.ka v.kn v.kp)=W8:=⟨_,rfl⟩;have hkp4:Kp (fun b=>(M1 b∨b=gt)∨b=gp) u1 W8:=hW8 ▸ Kp.set4 (.inr rfl) _ _ _ _ _;have hkp5:Kp (fun b=>(Mx M w.heap.size (w.heap.size+4) b∨b=gt)∨b=gp) u1 W8:=hW8 ▸ Kp.set4 (.inr rfl) _ _ _ _ _;have hot4 : ∀ b,b≠gp->W8.heap[b]? = u1.heap[b]?:=fun b hb=>hW8 ▸ qaf _ _ _ _ _ _ _ _ hb;have hsz4:W8.heap.size=u1.heap.size:=hW8 ▸ qap _ _ _ _ _ _ _
      have HPB8:Hid (qaz (fun b=>(M1 b∨b=gt)∨b=gp) W8 4 gp 1 (fun _=>qaO c j)):=by
       have h5:=hP10.set (.inr rfl) 0 (by omega) hv;rw [Nat.zero_mul,hW8] at h5;refine h5.congr fun i hi=>?_;rw [if_pos (by omega),<- HJ0.out];exact Sim.refl _
      have HT8:Hid (qaz (fun b=>(M1 b∨b=gt)∨b=gp) W8 4 gt V (fun i=>if i<j then pmul (T i) (qaO c i) else T i)):=(HT9.out.ext ed1).kp (hot4 gt (Ne.symm hgtp)) hkp4;have HG8:Hid (qaz (fun b=>(M1 b∨b=gt)∨b=gp) W8 4 gd (n+1) (qbI J g)):=(HG9.out.ext ed1).kp (hot4 gd (Ne.symm hgdp)) hkp4;have HROW8:Hid (qa7 (fun b=>(Mx M w.heap.size (w.heap.size+4) b∨b=gt)∨b=gp) W8 4 (.slice ra rn rc) rn R):=(HROW9.out.ext ed1).kp hkp5;have HD8:Hid (DvB M w x y W8):=hW8 ▸ (HD9.out.ext ed1).far hgp4 _ _ _ _ _;have HMB8:Hid (Mb (fun b=>(M1 b∨b=gt)∨b=gp) W8):=(HMB9.out.ext ed1).size (by omega);unfold set4 at hW8;have HW8:=Lib.hid hW8;clear hP10 hfr hv ed1 hkp4 hkp5 hot4 hsz4 hW8 HT9 HG9 HPB9 HROW9 HD9 HMB9 HPV9 HCC9 C13 hHeld hSn HJ0 hgpwd hgdwd;((refine qaa 8 (o:=?_) (by kernel_rfl) ?_ ?_;rotate_left 1;(simp only [xgA,xgB,xgC];rfl);intro K hK);go_simp;(refine hK.out _ _ (fun h=>absurd rfl h) ?_);clear hK K;refine qac (by kernel_rfl) ?_ _)
      go_upto_region 14 with (fail)
      rw [HW8.out];clear k0 k1 k2 k3 hf0 hf1 hf2 hf3 hg5 HW8 hn0 hnI hwn hwn2 hnn1
     all_goals
      obtain ⟨tv,htc,htv⟩:=HT8.out.cel j HLT.out;rw [if_neg (Nat.lt_irrefl j)] at htv;obtain ⟨pv,hpc,hpv⟩:=HPB8.out.cel 0 (by omega);have hgpl2:=HPB8.out.lt;have hgtl2:=HT8.out.lt;have hd:=(Ext.refl W8).drew;have hpc2:qaI W8 gp 0 pv:=hpc;have hS:S14 gt (j*4) tv gp 0 pv W8.drew:=S14.ext ⟨htc,hpc2,hgtl2,hgpl2⟩ hd;have HT9:=Lib.hid (HT8.out.ext hd);have HG9:=Lib.hid (HG8.out.ext hd);have HPB9:=Lib.hid (HPB8.out.ext hd);have HROW9:=Lib.hid (HROW8.out.ext hd);have HD9:=Lib.hid (HD8.out.ext hd);have HMB9:=Lib.hid (HMB8.out.ext hd);have HPV9:=Lib.hid (hpv.ext hd);have HTV9:=Lib.hid (htv.ext hd);have hgtwd:gt<W8.drew.heap.size:=hS.2.2.1;have hgpwd:gp<W8.drew.heap.size:=hS.2.2.2;clear htc hpc hpc2 htv hpv hd HT8 HG8 HPB8 HROW8 HD8 HMB8 hgpl2 hgtl2;refine qae (S14 gt (j*4) tv gp 0 pv) 9 (by kernel_rfl) hS (fun hHeld=>?_);clear hS;generalize W8.drew=wd at *
      have C14:Hid (∀ W:World,Ext wd W->Calls Tryz.prog 55 #[.agg (peA tv),.agg (peA pv)] W (qa4 (fun b=>(M1 b∨b=gt)∨b=gp) W 4 (pmul (T j) (qaO c j)))):=fun W he=>by
       have h1:=HQT.out j HLT.out;have h2:=HQP.out j (Nat.le_of_lt HLT.out);have h3:=HN.out.n3;have h4:=HN.out.n1;have h5:=HNUM.out;exact qfC _ tv pv _ _ (B+V*C) (V*C) W (HMB9.out.ext he) (HTV9.out.ext he).pi (HPV9.out.ext he).pi (by have:=h1.2.2.2;have:=h2.2.2.2;omega) h1.2.2.1 h2.2.2.1 (Nat.le_trans (Nat.mul_le_mul (show B+V*C+1<=100000 by omega) (show V*C+1<=100000 by omega)) (by decide))
      (refine tkB [0,1,2,3,4,5,6] ?_;(iterate 7 (refine tk1 (oi:=?_) (v:=?_) (by kernel_rfl) (by first | exact hSn | exact hHeld) ?_ ?_ ?_ ?_ ?_;rotate_left 2;(simp only [xgA,xgB,xgC];rfl);rfl;(intro wS hSw;obtain ⟨⟨S1,S2,S3,S4⟩,⟨S5,S6,S7,S8⟩,S9,S10⟩:=hSw;go_simp;try with_reducible rfl);(exact fun _ _ _ h=>h);(try simp only [Act.put,xgD,xgE,xgF])));refine tkE ?_);((refine qaa 7 (o:=?_) (by kernel_rfl) ?_ ?_;rotate_left 1;(simp only [xgA,xgB,xgC];rfl);intro K hK);go_simp;(refine (C14.out _ (Ext.refl _)).mono ?_);rintro e_ u1 ⟨v,rfl,hv,ed1⟩;go_wp2_with (fail);(try clear hSn);(have hSn:=hHeld.ext ed1);(refine hK.out _ _ (fun _=>hSn) ?_);clear hK K;(try simp only [Act.put,xgD,xgE,xgF]));(refine tkB [8] ?_;(iterate 1 (refine tk1 (oi:=?_) (v:=?_) (by kernel_rfl) (by first | exact hSn | exact hHeld) ?_ ?_ ?_ ?_ ?_;rotate_left 2;(simp only [xgA,xgB,xgC];rfl);rfl;(intro wS hSw;obtain ⟨⟨S1,S2,S3,S4⟩,⟨S5,S6,S7,S8⟩,S9,S10⟩:=hSw;go_simp;try with_reducible rfl);(exact fun _ _ _ h=>h);(try simp only [Act.put,xgD,xgE,xgF])));refine tkE ?_);have hT10:=HT9.out.ext ed1;obtain ⟨⟨_,k0⟩,⟨_,k1⟩,⟨_,k2⟩,⟨_,k3⟩,hfr,hg5⟩:=hT10.at j HLT.out;have hf0:=hfr (j*4);have hf1:=hfr (j*4+1);have hf2:=hfr (j*4+2);have hf3:=hfr (j*4+3);have hkp4:Kp (fun b=>(M1 b∨b=gt)∨b=gp) u1 (set4 u1 gt (j*4) (.int .i64 v.lv) (.bool v.b) (.slice v.a v.n v.p) (.slice v.ka v.kn v.kp)):=Kp.set4 (.inl (.inr rfl)) _ _ _ _ _;have hkp5:Kp (fun b=>(Mx M w.heap.size (w.heap.size+4) b∨b=gt)∨b=gp) u1 (set4 u1 gt (j*4) (.int .i64 v.lv) (.bool v.b) (.slice v.a v.n v.p) (.slice v.ka v.kn v.kp)):=Kp.set4 (.inl (.inr rfl)) _ _ _ _ _
      have hot4 : ∀ b,b≠gt->(set4 u1 gt (j*4) (.int .i64 v.lv) (.bool v.b) (.slice v.a v.n v.p) (.slice v.ka v.kn v.kp)).heap[b]? = u1.heap[b]?:=fun b hb=>qaf _ _ _ _ _ _ _ _ hb
      have HT11:Hid (qaz (fun b=>(M1 b∨b=gt)∨b=gp) (set4 u1 gt (j*4) (.int .i64 v.lv) (.bool v.b) (.slice v.a v.n v.p) (.slice v.ka v.kn v.kp)) 4 gt V (fun i=>if i<j+1 then pmul (T i) (qaO c i) else T i)):=by
       refine (hT10.set (.inl (.inr rfl)) j HLT.out hv).congr fun i _=>?_
       by_cases h1:i=j
       ·subst h1;rw [if_pos rfl,if_pos (by omega)];exact Sim.refl _
       ·rw [if_neg h1]
        by_cases h2:i<j
        ·rw [if_pos h2,if_pos (by omega)];exact Sim.refl _
        ·rw [if_neg h2,if_neg (by omega)];exact Sim.refl _
      have HG11:Hid (qaz (fun b=>(M1 b∨b=gt)∨b=gp) (set4 u1 gt (j*4) (.int .i64 v.lv) (.bool v.b) (.slice v.a v.n v.p) (.slice v.ka v.kn v.kp)) 4 gd (n+1) (qbI J g)):=(HG9.out.ext ed1).kp (hot4 gd (Ne.symm hgtd)) hkp4;have HP11:Hid (qaz (fun b=>(M1 b∨b=gt)∨b=gp) (set4 u1 gt (j*4) (.int .i64 v.lv) (.bool v.b) (.slice v.a v.n v.p) (.slice v.ka v.kn v.kp)) 4 gp 1 (fun _=>qaO c (j+1 - 1))):=(HPB9.out.ext ed1).kp (hot4 gp hgtp) hkp4;have HROW11:Hid (qa7 (fun b=>(Mx M w.heap.size (w.heap.size+4) b∨b=gt)∨b=gp) (set4 u1 gt (j*4) (.int .i64 v.lv) (.bool v.b) (.slice v.a v.n v.p) (.slice v.ka v.kn v.kp)) 4 (.slice ra rn rc) rn R):=(HROW9.out.ext ed1).kp hkp5;have HD11:Hid (DvB M w x y (set4 u1 gt (j*4) (.int .i64 v.lv) (.bool v.b) (.slice v.a v.n v.p) (.slice v.ka v.kn v.kp))):=(HD9.out.ext ed1).far hgt4 _ _ _ _ _;have HM11:Hid (Mb (fun b=>(M1 b∨b=gt)∨b=gp) (set4 u1 gt (j*4) (.int .i64 v.lv) (.bool v.b) (.slice v.a v.n v.p) (.slice v.ka v.kn v.kp))):=(HMB9.out.ext ed1).size (by rw [qap];exact Nat.le_refl _);clear hT10 hfr hv ed1 hkp4 hkp5 hot4 HT9 HG9 HPB9 HROW9 HD9 HMB9 HPV9 HTV9 C14 hHeld hSn;((refine qaa 9 (o:=?_) (by kernel_rfl) ?_ ?_;rotate_left 1;(simp only [xgA,xgB,xgC];rfl);intro K hK);go_simp;(refine hK.out _ _ (fun h=>absurd rfl h) ?_);clear hK K;refine qac (by kernel_rfl) ?_ _);go_wp2
      go_roundw
      case rel=>exact ⟨j+1,HLT.out,by go_num,HT11,HG11,HP11,HROW11,HD11,HM11⟩
      case measure=>have:=HLT.out;simp [intOf];omega
    ·have hjV:V=j:=by omega
     subst hjV
     have hge : ¬ (V:Int)<(V:Int):=by omega
     have hM4:Mb (Mx M w.heap.size (w.heap.size+4)) wr:=HD.out.mb;have h1:=HN.out.n1;have h2:=HN.out.n2;have h3:=HN.out.n3;have h5:=HNUM.out;have hpow : ∀ a b:Nat,a<=B+C+2->b<=B+(B+1)*C+(B+1)*C->a*(b+1) ^ 4<=1099511627776:=fun a b ha hb=>Nat.le_trans (Nat.mul_le_mul ha (Nat.pow_le_pow_left (by omega) 4)) h2
     have hrow1:qa7 (Mx M w.heap.size (w.heap.size+4)) wr 4 (.slice (some ⟨gt,0,none⟩) V V) V (fun i=>pmul (T i) (qaO c i)):=(HT.out.pre (M':=Mx M w.heap.size (w.heap.size+4)) (fun b hb=>.inl (.inl (.inl (HSUB.out b hb)))) (fun hh=>by have:=HD1.out.mb gt hh;have:=HGT1.out;omega) (by omega) (Nat.le_refl _) (by unfold maxLen;omega)).congr fun i hi=>by rw [if_pos hi];exact Sim.refl _
     have CJ1:=Lib.hid (qic (L:=J) (S:=B+V*C+V*C) (A:=A+V*(D+1)+(V*D+1)) wr hM4 hrow1 HJ.out.1 HJ.out.2 (fun i hi=>(((HQT.out i hi).pmul (HQP.out i (Nat.le_of_lt hi))).2.2.1)) (hpow _ _ (by omega) (by omega)) (by omega) (fun i hi=>((HQT.out i hi).pmul (HQP.out i (Nat.le_of_lt hi))).2.2.2) (by omega));rw [HQU.out] at CJ1;have hrow2:qa7 (Mx M w.heap.size (w.heap.size+4)) wr 4 (.slice ra rn rc) rn R:=HROW.out.more fun b hb=>.inl (.inl (.inl hb))
     have hRc : ∀ i,i<rn->Cof J (B+V*C) (A+V*(D+1)) (R i):=fun i hi=>by rw [HRE.out i hi];exact HPD.out.rest i (by have:=HRN.out;omega)
     have CJ2:Hid (∀ W,Ext wr W->Calls Tryz.prog 62 #[.slice ra rn rc,.int .i64 (J:Int)] W (qa4 (Mx M w.heap.size (w.heap.size+4)) W 4 (poly J rn R))):=fun W he=>qic (L:=J) (S:=B+V*C) (A:=A+V*(D+1)) W (hM4.ext he) (hrow2.ext he) HJ.out.1 HJ.out.2 (fun i hi=>(hRc i hi).2.2.1) (hpow _ _ (by have:=HRN.out;omega) (by omega)) (by have:=HRN.out;omega) (fun i hi=>(hRc i hi).2.2.2) (by omega);clear hM4 h1 h2 h3 h5 hpow hrow1 hrow2 hRc HT HG HPB HROW HMB hlt;go_wp2_with (fail);refine CJ1.out.mono ?_;rintro e w8 ⟨q,rfl,hq,he8⟩;have HE8:=Lib.hid he8;have HQ8:=Lib.hid hq;clear hq he8;go_wp2_with (fail);refine (CJ2.out _ HE8.out).mono ?_;rintro e w9 ⟨r,rfl,hr,he9⟩;have D9:=HD.out.ext (HE8.out.trans he9);have hq9:=HQ8.out.ext he9;have hr9:=hr.sim HRS.out;obtain ⟨q0,q1,q2,q3⟩:=qir D9.bq;have f0:=D9.bq.frozen 0;have f1:=D9.bq.frozen 1;have f2:=D9.bq.frozen 2;have f3:=D9.bq.frozen 3;obtain ⟨W10,hW10⟩ : ∃ W10,set4 w9 (w.heap.size+2) 0 (.int .i64 q.lv) (.bool q.b) (.slice q.a q.n q.p) (.slice q.ka q.kn q.kp)=W10:=⟨_,rfl⟩;have hot10 : ∀ b,b≠w.heap.size+2->W10.heap[b]? = w9.heap[b]?:=fun b hb=>hW10 ▸ qaf _ _ _ _ _ _ _ _ hb;have hb10:Blk W10 (w.heap.size+3) 33 4 (arr zA):=D9.br.of_heap (hot10 _ (by omega));obtain ⟨p0,p1,p2,p3⟩:=qir hb10;have g0:=hb10.frozen 0;have g1:=hb10.frozen 1;have g2:=hb10.frozen 2;have g3:=hb10.frozen 3;obtain ⟨W11,hW11⟩ : ∃ W11,set4 W10 (w.heap.size+3) 0 (.int .i64 r.lv) (.bool r.b) (.slice r.a r.n r.p) (.slice r.ka r.kn r.kp)=W11:=⟨_,rfl⟩;have hot11 : ∀ b,b≠w.heap.size+3->W11.heap[b]? = W10.heap[b]?:=fun b hb=>hW11 ▸ qaf _ _ _ _ _ _ _ _ hb
     have hbq:Blk W11 (w.heap.size+2) 33 4 (qjJ (arr zA) 0 (.int .i64 q.lv) (.bool q.b) (.slice q.a q.n q.p) (.slice q.ka q.kn q.kp)):=(hW10 ▸ D9.bq.set4 0 _ _ _ _:Blk W10 _ _ _ _).of_heap (hot11 _ (by omega));have hbr:Blk W11 (w.heap.size+3) 33 4 (qjJ (arr zA) 0 (.int .i64 r.lv) (.bool r.b) (.slice r.a r.n r.p) (.slice r.ka r.kn r.kp)):=hW11 ▸ hb10.set4 0 _ _ _ _
     have r0:W11.cell? ⟨w.heap.size+2,0,none⟩=some (.int .i64 q.lv):=by rw [hbq.cell (by omega)];exact congrArg some (qcR _ 0 _ _ _ _)
     have r1:W11.cell? ⟨w.heap.size+2,1,none⟩=some (.bool q.b):=by rw [hbq.cell (by omega)];exact congrArg some (qcQ _ 0 _ _ _ _)
     have r2:W11.cell? ⟨w.heap.size+2,2,none⟩=some (.slice q.a q.n q.p):=by rw [hbq.cell (by omega)];exact congrArg some (qcP _ 0 _ _ _ _)
     have r3:W11.cell? ⟨w.heap.size+2,3,none⟩=some (.slice q.ka q.kn q.kp):=by rw [hbq.cell (by omega)];exact congrArg some (qcO _ 0 _ _ _ _)
     have t0:W11.cell? ⟨w.heap.size+3,0,none⟩=some (.int .i64 r.lv):=by rw [hbr.cell (by omega)];exact congrArg some (qcR _ 0 _ _ _ _)
     have t1:W11.cell? ⟨w.heap.size+3,1,none⟩=some (.bool r.b):=by rw [hbr.cell (by omega)];exact congrArg some (qcQ _ 0 _ _ _ _)
     have t2:W11.cell? ⟨w.heap.size+3,2,none⟩=some (.slice r.a r.n r.p):=by rw [hbr.cell (by omega)];exact congrArg some (qcP _ 0 _ _ _ _)
     have t3:W11.cell? ⟨w.heap.size+3,3,none⟩=some (.slice r.ka r.kn r.kp):=by rw [hbr.cell (by omega)];exact congrArg some (qcO _ 0 _ _ _ _)
     have hkp:Kp (Mx M w.heap.size (w.heap.size+4)) w9 W11:=(hW10 ▸ Kp.set4 (Mx.at (by omega)) _ _ _ _ _:Kp _ w9 W10).trans (hW11 ▸ Kp.set4 (Mx.at (by omega)) _ _ _ _ _);have hE11:Ext w W11:=hW11 ▸ ((hW10 ▸ D9.e.set4 (g:=w.heap.size+2) (by omega) 0 _ _ _ _:Ext w W10).set4 (g:=w.heap.size+3) (by omega) 0 _ _ _ _);have HF:Hid (qps M w f g J (.returned (.tuple #[.agg (peA q),.agg (peA r),.int .i64 0])) W11):=⟨q,r,0,rfl,.inr (.inr ⟨J,n,V,rfl,HJ.out.1,HJ.out.2,HZ.out,HDG.out,HST.out,rfl,(hq9.kp hkp).more fun b hb=>.inl (Mx.sub b hb),((hr9:CRx _ _ _ _ _).kp hkp).more fun b hb=>.inl (Mx.sub b hb)⟩),hE11⟩;unfold set4 at hW10 hW11;have hs9:w.heap.size+4<=w9.heap.size:=D9.sz;clear hot10 hot11 hb10 hbq hbr hkp hE11 D9 hq9 hr9 hr he9 HD HE8 HQ8 CJ1 CJ2;go_wp2;exact bodyPost_ret (v:=.tuple #[.agg (peA q),.agg (peA r),.int .i64 0]) (by simp [results,Tryz.results12,go_sem,r0,r1,r2,r3,t0,t1,t2,t3]) rfl HF.out
 ·have HL:=Lib.hid hl;have hltb:w.heap.size+4<=W.heap.size:=HD.out.sz
  by_cases hl1:L<1
  case' pos=>
   clear hl
   go_upto_region 2 with (fail)
  case' neg=>
   have hl4:4<L:=by omega
   clear hl
   go_upto_region 2 with (fail)
  all_goals
   have hS:=(HD.out.ext (Ext.refl W).drew).sz4;refine qae (SZ M w x y) 5 (by kernel_rfl) hS (fun hHeld=>?_);clear hS;have HD2:=Lib.hid hHeld.1;generalize W.drew=wd at *;(refine tkB [0,1] ?_;(iterate 2 (refine tk1 (oi:=?_) (v:=?_) (by kernel_rfl) (by first | exact hSn | exact hHeld) ?_ ?_ ?_ ?_ ?_;rotate_left 2;(simp only [xgA,xgB,xgC];rfl);rfl;(intro wS hSw;obtain ⟨S0,⟨S1,S2,S3,S4⟩,⟨S5,S6,S7,S8⟩⟩:=hSw;go_simp;try with_reducible rfl);(exact fun _ _ _ h=>h);(try simp only [Act.put,xgD,xgE,xgF])));refine tkE ?_);obtain ⟨W1,hW1,⟨q0,q1,q2,q3⟩,hf,hS1,W2,hW2,⟨p0,p1,p2,p3⟩,hg,hS2⟩:=(show SZ M w x y wd from hHeld).two;have f0:=hf 0;have f1:=hf 1;have f2:=hf 2;have f3:=hf 3;have g0:=hg 0;have g1:=hg 1;have g2:=hg 2;have g3:=hg 3;unfold set4 at hW1 hW2;clear hf hg;(refine qaa 2 (o:=?_) (by kernel_rfl) ?_ ?_;rotate_left 1;(simp only [xgA,xgB,xgC];rfl);intro K hK);go_simp;rw [<- hW1];clear hW1;refine hK.out _ _ (fun _=>hS1) ?_;clear hK K q0 q1 q2 q3 f0 f1 f2 f3;(try simp only [Act.put,xgD,xgE,xgF]);(refine qaa 3 (o:=?_) (by kernel_rfl) ?_ ?_;rotate_left 1;(simp only [xgA,xgB,xgC];rfl);intro K hK);go_simp;rw [<- hW2];clear hW2;refine hK.out _ _ (fun _=>hS2) ?_;clear hK K p0 p1 p2 p3 g0 g1 g2 g3;(try simp only [Act.put,xgD,xgE,xgF]);have hSn:=hS2;(refine tkB [4] ?_;(iterate 1 (refine tk1 (oi:=?_) (v:=?_) (by kernel_rfl) (by first | exact hSn | exact hHeld) ?_ ?_ ?_ ?_ ?_;rotate_left 2;(simp only [xgA,xgB,xgC];rfl);rfl;(intro wS hSw;obtain ⟨S0,⟨S1,S2,S3,S4⟩,⟨S5,S6,S7,S8⟩⟩:=hSw;go_simp;try with_reducible rfl);(exact fun _ _ _ h=>h);(try simp only [Act.put,xgD,xgE,xgF])));refine tkE ?_)
   refine qac (by kernel_rfl) ?_ _;obtain ⟨⟨r0,r1,r2,r3⟩,⟨t0,t1,t2,t3⟩⟩:=hS2.2;have HF:Hid (qps M w f g L (.returned (.tuple #[.agg (peA PE.z),.agg (peA PE.z),.int .i64 4])) W2):=⟨PE.z,PE.z,4,rfl,.inl ⟨HL.out,rfl,rfl,rfl⟩,hS2.1.e⟩;clear hS1 hS2 hSn hHeld HD2 HD HX HY HL;go_wp2;exact bodyPost_ret (v:=.tuple #[.agg (peA PE.z),.agg (peA PE.z),.int .i64 4]) (by simp [results,Tryz.results12,go_sem,r0,r1,r2,r3,t0,t1,t2,t3,PE.z]) rfl HF.out
end Go.Proofs.YtmcfpnmoklnhoaaGreat
