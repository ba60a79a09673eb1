/- pseudo-division: what the answers are, plain; pseudo.reduce where there is nothing to do. pseudo.reduce for any dividend; the memory of pseudo.Divide. pseudo.Divide: the walk. -/
import Derived.Test.YtmcfpnmoklnhoaaGreatEa
import Derived.Test.YtmcfpnmoklnhoaaGreatDa
import Derived.Test.YtmcfpnmoklnhoaaGreatBh
set_option linter.unusedVariables false
set_option maxRecDepth 100000
set_option maxHeartbeats 400000000
set_option linter.unusedSimpArgs false

namespace Go.Proofs.YtmcfpnmoklnhoaaGreat
open Go.RowKit

theorem qf3 {L N:Nat} (h1:1<=L) (h4:L<=4) {l:List Tm} (hl:NN l) (h : ∀ m,qab l m≠0->m.get L<(N:Int)):Sim (poly L N fun i=>ck L (i:Int) l) l:=fun m=>by
 rw [qj7 h1 h4]
 by_cases ha:0<=m.get L/\m.get L<(N:Int)
 ·rw [if_pos ha]
 ·rw [if_neg ha];refine (Classical.byContradiction fun hc=>?_);have h3:=h m (fun e=>hc e.symm)
  have h5:m.nn=true:=by
   cases hq:m.nn with
   | true=>rfl
   | false=>exact absurd (hl m hq).symm hc
  have:=qcw h5 L;omega
theorem qng {L B A:Nat} (h1:1<=L) (h4:L<=4) {l:List Tm} (hl:NN l) (hB:Deg B l) (hA:dlen (nrm l)<=A) (e:Int):Cof L B A (ck L e l):=
 ⟨qb2 h1 h4 hl,qfZ h1 h4 e l,qia h1 h4 hB,Nat.le_trans (qal (qew L e l)) hA⟩
theorem qnf {L C D:Nat} {c:List Tm} (h:Cof L C D c) : ∀ t:Nat,Cof L (t*C) (t*D+1) (qbm c t)
 | 0=>by
  refine ⟨qaT fun t ht=>?_,fun m hm=>?_,fun m hm k=>?_,?_⟩
  ·simp only [qbm,List.mem_singleton] at ht;subst ht;rfl
  ·simp only [qbm,qab] at hm
   by_cases e:Mo.zero=m
   ·rw [<- e,qbc]
   ·rw [if_neg e] at hm;exact absurd rfl hm
  ·simp only [qbm,qab] at hm
   by_cases e:Mo.zero=m
   ·rw [<- e,qbc];omega
   ·rw [if_neg e] at hm;exact absurd rfl hm
  ·show dlen (1+0)<=_;rw [qan,Nat.zero_mul];decide
 | t+1=>by
  rw [qcu,Nat.add_mul,Nat.add_mul,Nat.one_mul,Nat.one_mul];exact ((qnf h t).pmul h).mono (Nat.le_refl _) (by omega)
def StR (L:Nat) (f:List Tm) (n V:Nat):Prop:=(Sim f []/\V=0)∨(¬ Sim f [] /\ ∃ a,DgR L f a/\V=a+1 - n)
theorem StR.lt {L n V:Nat} {f:List Tm} (h:StR L f n V) (m:Mo) (hm:qab f m≠0):m.get L<((n+V:Nat):Int):=by
 rcases h with ⟨hz,_⟩ | ⟨_,a,ha,rfl⟩
 ·exact absurd (hz m) hm
 ·have:=ha.1 m hm;omega
abbrev qb3 (L:Nat) (l:List Tm) (i:Nat):List Tm:=ck L (i:Int) l
def qto (L n V:Nat) (f g:List Tm):List Tm:=poly L V fun i=>pmul (qdu n V (qb3 L g) (qb3 L f) i) (qbm (ck L (n:Int) g) i)
def qdv (L n V:Nat) (f g:List Tm):List Tm:=poly L n (pdR n V (qb3 L g) (qb3 L f) V)
structure PdH (L n V B C A D:Nat) (f g:List Tm):Prop where
 h1:1<=L
 h4:L<=4
 nf:NN f
 ng:NN g
 hB:Deg B f
 hC:Deg C g
 hA:dlen (nrm f)<=A
 hD:dlen (nrm g)<=D
 dg:DgR L g n
 st:StR L f n V
section
variable {L n V B C A D:Nat} {f g:List Tm}
theorem PdH.cf (h:PdH L n V B C A D f g) (i:Nat):Cof L B A (qb3 L f i):=qng h.h1 h.h4 h.nf h.hB h.hA _
theorem PdH.cg (h:PdH L n V B C A D f g) (i:Nat):Cof L C D (qb3 L g i):=qng h.h1 h.h4 h.ng h.hC h.hD _
theorem PdH.all (h:PdH L n V B C A D f g) (t:Nat) (ht:t<=V):PdT L n V B C A D (ck L (n:Int) g) f g (V - t) (pdR n V (qb3 L g) (qb3 L f) t) (qdu n V (qb3 L g) (qb3 L f)):=
 qiy (qf3 h.h1 h.h4 h.nf h.st.lt) (fun i _=>h.cf i) (qf3 h.h1 h.h4 h.ng fun m hm=>by have:=h.dg.1 m hm;omega) (fun i _=>h.cg i) t ht
theorem PdH.law (h:PdH L n V B C A D f g):Sim (pmul (qbm (ck L (n:Int) g) V) f) (pmul (qto L n V f g) g ++ qdv L n V f g):=by
 have h1:=h.all V (Nat.le_refl V);rw [Nat.sub_self] at h1;exact h1.done
theorem PdH.top (h:PdH L n V B C A D f g) (i:Nat) (hi:i<V):Cof L (B+V*C) (A+V*(D+1)) (qdu n V (qb3 L g) (qb3 L f) i):=by
 have h1:=h.all V (Nat.le_refl V);exact h1.2.2 i (by omega) hi
theorem PdH.rest (h:PdH L n V B C A D f g) (i:Nat) (hi:i<n):Cof L (B+V*C) (A+V*(D+1)) (pdR n V (qb3 L g) (qb3 L f) V i):=by
 have h1:=(h.all V (Nat.le_refl V)).2.1 i (by omega);rw [Nat.sub_self,Nat.sub_zero] at h1;exact h1
theorem PdH.quo (h:PdH L n V B C A D f g) (i:Nat) (hi:i<V):Cof L (B+V*C+V*C) (A+V*(D+1)+(V*D+1)) (pmul (qdu n V (qb3 L g) (qb3 L f) i) (qbm (ck L (n:Int) g) i)):=by
 have e1:=Nat.mul_le_mul_right C (show i<=V by omega);have e2:=Nat.mul_le_mul_right D (show i<=V by omega);exact ((h.top i hi).pmul (qnf (h.cg n) i)).mono (by omega) (by omega)
theorem PdH.rem_nn (h:PdH L n V B C A D f g):NN (qdv L n V f g):=NN.poly fun i hi=>(h.rest i hi).1
end
theorem qfS (M : Nat -> Prop) (a : Option Addr) (N cap n gd : Nat) (w : World) (hN : N <= n) (hn : n <= 1000000) :
  Calls Tryz.prog 61 #[.slice a N cap,.slice (some ⟨gd,0,none⟩) (n+1) (n+1)] w fun e w'=>∃ gt,e = .returned (.tuple #[.slice (some ⟨gt,0,none⟩) 0 0,.slice a N cap])/\w.heap.size<=gt/\gt<w'.heap.size/\qax M w' 4 gt 0 (fun _=>[])/\Ext w w':=by
 obtain ⟨i0,hi,hz0,hz1,hz2⟩:=info_parts Tryz.info33;have hn0:(0:Int)<=(n:Int):=Int.natCast_nonneg _;have hN0:(0:Int)<=(N:Int):=Int.natCast_nonneg _
 have hnI:(n:Int)<=1000000:=by omega
 have hNI:(N:Int)<=(n:Int):=by omega
 have hmx:max ((N:Int) - (n:Int)) 0=0:=by omega
 have hmx2:(max ((N:Int) - (n:Int)) 0).toNat=0:=by omega
 go_enter Tryz.func61,Tryz.ntmps61
 go_upto_region 3 with (fail)
 go_wp2_with (first | (at_make;refine qbS _ rfl _ _ _ rfl 33 i0 (.agg #[.int .i64 0,.bool false,.slice none 0 0,.slice none 0 0]) 4 Tryz.underlying31 hi hz0 hz1 .i64 .i64 _ _ 0 rfl rfl ?c4 ?c5 ?c2 ?c3 ?_))
 case c2=>omega
 case c3=>unfold maxLen;omega
 case c4=>first | rfl | go_num | omega
 case c5=>first | rfl | go_num | omega
 have hBk:=qbJ w 0 33;have he1:=(Ext.refl w).alloc (.cells (madeCells (Value.agg #[.int .i64 0,.bool false,.slice none 0 0,.slice none 0 0]).cells (0*4)) 33);intro w1 hw1;replace hw1:w.alloc (.cells (madeCells (Value.agg #[.int .i64 0,.bool false,.slice none 0 0,.slice none 0 0]).cells (0*4)) 33)=w1:=hw1.out.symm;rw [hw1] at hBk he1;have HK:Hid (qax M w1 4 w.heap.size 0 (fun _=>[])):=qax.fresh hBk;have HF:Hid (∃ gt,(Ending.returned (.tuple #[.slice (some ⟨w.heap.size,0,none⟩) 0 0,.slice a N cap])) = .returned (.tuple #[.slice (some ⟨gt,0,none⟩) 0 0,.slice a N cap])/\w.heap.size<=gt/\gt<w1.heap.size/\qax M w1 4 gt 0 (fun _=>[])/\Ext w w1):=⟨_,rfl,Nat.le_refl _,hBk.lt,HK.out,he1⟩;clear hw1 hBk he1 HK hi hz0 hz1 hz2;go_wp2;refine wp_loop_rounds 1 ?_;rw [rounds_succ];go_wp2;exact bodyPost_ret (v:=.tuple #[.slice (some ⟨w.heap.size,0,none⟩) 0 0,.slice a N cap]) (by simp [results,Tryz.results61,go_sem]) rfl HF.out


def qtC (M0 M1:Nat->Prop) (w0 w:World) (L n V gd:Nat) (f g:List Tm) (e:Ending) (w':World):Prop:=
 ∃ (gt:Nat) (ra:Option Addr) (rn rc:Nat) (R:Nat->List Tm),e = .returned (.tuple #[.slice (some ⟨gt,0,none⟩) V V,.slice ra rn rc])/\w.heap.size<=gt/\qax (fun b=>M1 b∨b=gt) w' 4 gt V (qdu n V (qb3 L g) (qb3 L f))/\qax (fun b=>M1 b∨b=gt) w' 4 gd (n+1) (qb3 L g)/\qbA (fun b=>M0 b∨b=gt) w' 4 (.slice ra rn rc) rn R/\rn<=n/\(∀ i,i<rn->R i=pdR n V (qb3 L g) (qb3 L f) V i)/\Sim (poly L rn R) (qdv L n V f g)/\Ext w0 w'
theorem qkw (M0 M1 : Nat -> Prop) (w0 w : World) (L n V B C A D gd : Nat) (f g : List Tm) (rv : Value) (hE : Ext w0 w) (hM : Mb M1 w) (hM0 : Mb M0 w0) (hsub : ∀ b, M0 b -> M1 b) (H : PdH L n V B C A D f g) (hG : qax M1 w 4 gd (n + 1) (qb3 L g))
  (hf:(Sim f []/\rv = .slice none 0 0)∨(¬ Sim f [] /\ ∃ a gf,rv = .slice (some ⟨gf,0,none⟩) (a+1) (a+1)/\w0.heap.size<=gf/\gf≠gd/\M1 gf/\DgR L f a/\qax M1 w 4 gf (a+1) (qb3 L f)))
  (hnV:n+V<=1000000) (hB:B+V*C+C<=1000000) (hBC:(B+V*C+1)*(C+1)<=1099511627776) (hA:A+V*(D+1)+D+2<=549755813888) :
  Calls Tryz.prog 61 #[rv,.slice (some ⟨gd,0,none⟩) (n+1) (n+1)] w (qtC M0 M1 w0 w L n V gd f g):=by
 have hgdl:=(hG.at 0 (by omega)).2.2.2.2.2;have hF : ∀ N:Nat,(∀ m,qab f m≠0->m.get L<(N:Int))->Sim (poly L N (qb3 L f)) f:=fun N h=>qf3 H.h1 H.h4 H.nf h;rcases hf with ⟨hz,rfl⟩ | ⟨hz,a,gf,rfl,hgf,hne,hMg,hda,hK⟩
 ·have hV : V = 0 := by
   rcases H.st with ⟨_,h⟩ | ⟨h,_⟩
   ·exact h
   ·exact absurd hz h
  subst hV;refine (qfS M1 none 0 0 n gd w (Nat.zero_le _) (by omega)).mono ?_;rintro e w' ⟨gt,rfl,h1,h2,h3,h4⟩
  have hmg : ∀ b,(M1 b∨b=gt)->M1 b∨w.heap.size<=b:=fun b hb=>hb.imp id fun h=>by omega
  refine ⟨gt,none,0,0,fun _=>[],rfl,h1,⟨zc4,?_,fun i hi=>absurd hi (Nat.not_lt_zero _)⟩,(hG.more hmg).ext h4,⟨Nat.zero_le _,.inl ⟨rfl,rfl⟩⟩,Nat.zero_le _,fun i hi=>absurd hi (Nat.not_lt_zero _),?_,hE.trans h4⟩
  ·obtain ⟨fn,hb,_⟩:=h3;exact hb.congr fun i hi=>absurd hi (by omega)
  ·exact ((hF n fun m hm=>absurd (hz m) hm).trans hz).symm
 ·obtain ⟨a', ha', hV⟩ : ∃ a', DgR L f a' /\ V = a' + 1 - n := by
   rcases H.st with ⟨h,_⟩ | ⟨_,h⟩
   ·exact absurd h hz
   ·exact h
  obtain rfl:=qcM H.nf hz hda ha'
  have hlt : ∀ m,qab f m≠0->m.get L<((a+1:Nat):Int):=fun m hm=>by have:=hda.1 m hm;omega
  by_cases h0:V=0
  ·subst h0;refine (qfS M1 (some ⟨gf,0,none⟩) (a+1) (a+1) n gd w (by omega) (by omega)).mono ?_;rintro e w' ⟨gt,rfl,h1,h2,h3,h4⟩
   have hmg : ∀ b,(M1 b∨b=gt)->M1 b∨w.heap.size<=b:=fun b hb=>hb.imp id fun h=>by omega
   refine ⟨gt,some ⟨gf,0,none⟩,a+1,a+1,qb3 L f,rfl,h1,⟨zc4,?_,fun i hi=>absurd hi (Nat.not_lt_zero _)⟩,(hG.more hmg).ext h4,(hK.pre (M':=fun b=>M0 b∨b=gt) (fun b hb=>hb.elim (fun h=>.inl (hsub b h)) fun h=>.inr (by omega)) (fun hh=>hh.elim (hM0.new hgf) fun e=>by have:=hK.lt;omega) (by omega) (Nat.le_refl _) (by unfold maxLen;omega)).ext h4,by omega,fun i _=>rfl,?_,hE.trans h4⟩
   ·obtain ⟨fn,hb,_⟩:=h3;exact hb.congr fun i hi=>absurd hi (by omega)
   ·exact (hF _ hlt).trans (hF n fun m hm=>by have:=hlt m hm;omega).symm
  ·have hN:a+1=n+V:=by omega
   rw [hN] at hK ⊢;refine (qlV M1 L n V B C A D gf gd (qb3 L f) (qb3 L g) w hM hMg (Ne.symm hne) hK hG (by omega) hnV (fun i _=>H.cf i) (fun i _=>H.cg i) hB hBC hA).mono ?_;rintro e w' ⟨gt,rfl,h1,h2,h3,h4⟩
   have hmg : ∀ b,(M1 b∨b=gt)->M1 b∨w.heap.size<=b:=fun b hb=>hb.imp id fun h=>by omega
   refine ⟨gt,some ⟨gf,0,none⟩,n,n+V,pdR n V (qb3 L g) (qb3 L f) V,rfl,h1,h3,(hG.more hmg).kp (h4.block gd hgdl (fun e=>hne (Option.some.inj e).symm)) (Kp.grown h4 fun k hk=>by cases hk;exact .inl hMg),h2.pre (M':=fun b=>M0 b∨b=gt) (fun b hb=>.inl (hb.imp (hsub b) id)) (fun hh=>hh.elim (hM0.new hgf) fun e=>by have:=hK.lt;omega) (by omega) (by omega) (by unfold maxLen;omega),Nat.le_refl _,fun i _=>rfl,Sim.refl _,hE.grown h4 fun k hk=>by cases hk;exact hgf⟩


end Go.Proofs.YtmcfpnmoklnhoaaGreat
