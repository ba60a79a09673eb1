/- recpoly: mul at two nodes of one level. -/
import Derived.Test.YtmcfpnmoklnhoaaGreatMf
set_option linter.unusedVariables false
set_option maxRecDepth 100000
set_option maxHeartbeats 400000000
set_option linter.unusedSimpArgs false

namespace Go.Proofs.YtmcfpnmoklnhoaaGreat
open Go.RowKit

theorem Tryz.info31:(Tryz.prog.info? 31).map (fun i=>(i.zero,i.size,i.bytes))=some (some (.slice none 0 0),1,24):=by kernel_rfl
def qnI (gp k0 bx b o b' o':Nat) (vk X3 Y3:Value) (u t:PE) (w:World):Prop:=w.cell? ⟨gp,k0,none⟩=some vk/\w.cell? ⟨bx,3,none⟩=some X3/\w.cell? ⟨bx+1,3,none⟩=some Y3/\qaZ w b o u/\qaZ w b' o' t
theorem qnI.heap {gp k0 bx b o b' o':Nat} {vk X3 Y3:Value} {u t:PE} {w w':World} (h:qnI gp k0 bx b o b' o' vk X3 Y3 u t w) (he : ∀ q,q=gp∨q=bx∨q=bx+1∨q=b∨q=b'->w'.heap[q]? = w.heap[q]?):qnI gp k0 bx b o b' o' vk X3 Y3 u t w':=by
 have hc : ∀ q o,q=gp∨q=bx∨q=bx+1∨q=b∨q=b'->w'.cell? ⟨q,o,none⟩=w.cell? ⟨q,o,none⟩:=fun q o hq=>World.cell?_of_block (w:=w) (he q hq);obtain ⟨h1,h2,h3,⟨h4,h5,h6,h7⟩,h8,h9,h10,h11⟩:=h;refine ⟨?_,?_,?_,⟨?_,?_,?_,?_⟩,?_,?_,?_,?_⟩
 ·rw [hc _ _ (by simp)];exact h1
 ·rw [hc _ _ (by simp)];exact h2
 ·rw [hc _ _ (by simp)];exact h3
 ·rw [hc _ _ (by simp)];exact h4
 ·rw [hc _ _ (by simp)];exact h5
 ·rw [hc _ _ (by simp)];exact h6
 ·rw [hc _ _ (by simp)];exact h7
 ·rw [hc _ _ (by simp)];exact h8
 ·rw [hc _ _ (by simp)];exact h9
 ·rw [hc _ _ (by simp)];exact h10
 ·rw [hc _ _ (by simp)];exact h11
theorem qnI.ext {gp k0 bx b o b' o':Nat} {vk X3 Y3:Value} {u t:PE} {w w':World} (h:qnI gp k0 bx b o b' o' vk X3 Y3 u t w) (he:Ext w w'):qnI gp k0 bx b o b' o' vk X3 Y3 u t w':=
 h.heap fun q hq=>he.heap (by
  obtain ⟨h1,h2,h3,⟨h4,_⟩,h8,_⟩:=h;rcases hq with rfl | rfl | rfl | rfl | rfl
  ·exact World.block_lt_of_cell? _ _ h1
  ·exact World.block_lt_of_cell? _ _ h2
  ·exact World.block_lt_of_cell? _ _ h3
  ·exact World.block_lt_of_cell? _ _ h4
  ·exact World.block_lt_of_cell? _ _ h8)
theorem qbY.grow_cr {M : Nat -> Prop} {B0 : Nat} {w wa wb : World} {D gp K : Nat} {v : Nat -> Value} {c : Nat -> Nat} {xx : Nat -> Nat -> PE} {S : Nat -> Nat -> List Tm} (_ : qbY M B0 w D gp K v c xx S) {k0 : Nat} (hk : k0 < K) {gg : Nat} {y : PE} {l : List Tm}
  (hg:wa.grownBy wb (v k0).ownBlock) (hat:(v k0).ownBlock=some gg∨wa.heap.size<=gg) (hy:CRx (MP M v K) wa D y l):CRx (fun b=>MP M v K b∨b=gg) wb D y l:=by
 refine (hy.more ?_).kp (Kp.grown hg fun q hq=>.inl (.inr ⟨k0,hk,hq⟩));rintro b (hb | rfl)
 ·exact .inl hb
 ·rcases hat with h1 | h1
  ·exact .inl (.inr ⟨k0,hk,h1⟩)
  ·exact .inr h1
theorem qbY.after_cr {M : Nat -> Prop} {B0 : Nat} {w wc : World} {D gp K : Nat} {v : Nat -> Value} {c : Nat -> Nat} {xx : Nat -> Nat -> PE} {S : Nat -> Nat -> List Tm} (h : qbY M B0 w D gp K v c xx S) {k0 : Nat} {gg n cap2 : Nat} {y : PE} {l : List Tm} (u : Value)
  (hy:CRx (fun b=>MP M v K b∨b=gg) wc D y l):CRx (MP M (qc3 v k0 (.slice (some ⟨gg,0,none⟩) n cap2)) K) (wc.setCell ⟨gp,k0,none⟩ u) D y l:=by
 refine (hy.kp (Kp.set _ _ (p:=⟨gp,k0,none⟩) (.inl (.inl h.gpM)) _)).more ?_;rintro b (hb | ⟨k,hkK,e⟩)
 ·exact .inl (.inl (.inl hb))
 ·by_cases hkk:k=k0
  ·subst hkk;rw [qaF] at e;cases e;exact .inl (.inr rfl)
  ·rw [qaV _ _ _ _ hkk] at e;exact .inl (.inl (.inr ⟨k,hkK,e⟩))
theorem qjs {w:World} {base g cap c:Nat} {f:Nat->Value} (h:Own w base 33 4 (.slice (some ⟨g,0,none⟩) (c+1) cap) (c+1) f):(∃ e,w.cell? ⟨g,c*4,none⟩=some e)/\(∃ e,w.cell? ⟨g,c*4+1,none⟩=some e)/\(∃ e,w.cell? ⟨g,c*4+2,none⟩=some e)/\(∃ e,w.cell? ⟨g,c*4+3,none⟩=some e)/\(∀ o,w.frozen? ⟨g,o,none⟩=false)/\g<w.heap.size/\c+1<=cap/\cap<=maxLen:=by
 rcases h with ⟨h1,_⟩ | ⟨g',cap',F,h1,hg,hB,hc,hm,hF⟩
 ·cases h1
 ·simp only [Value.slice.injEq,Option.some.injEq,Addr.mk.injEq,and_true,true_and] at h1;obtain ⟨rfl,rfl⟩:=h1;exact ⟨⟨_,hB.cell (by omega)⟩,⟨_,hB.cell (by omega)⟩,⟨_,hB.cell (by omega)⟩,⟨_,hB.cell (by omega)⟩,hB.frozen,hB.lt,hc,hm⟩
def qk5 (M:Nat->Prop) (w w7 wr:World) (gp D K:Nat) (acc:List Tm) (cnt:Nat) (v:Nat->Value) (c:Nat->Nat) (xx:Nat->Nat->PE) (S:Nat->Nat->List Tm):Prop:=
 qbY M w7.heap.size wr D gp K v c xx S/\Kp (fun b=>b=gp) w7 wr/\Ext w wr/\(∀ k,c k<=cnt)/\Sim (poly (D+1) K fun k=>qaK (c k) (S k)) acc/\nrm (poly (D+1) K fun k=>qaK (c k) (S k))=nrm acc
theorem qk5.ext {M:Nat->Prop} {w w7 wr w':World} {gp D K:Nat} {acc:List Tm} {cnt:Nat} {v:Nat->Value} {c:Nat->Nat} {xx:Nat->Nat->PE} {S:Nat->Nat->List Tm} (h:qk5 M w w7 wr gp D K acc cnt v c xx S) (he:Ext wr w'):qk5 M w w7 w' gp D K acc cnt v c xx S:=
 ⟨h.1.ext he,h.2.1.trans (Kp.of_ext he),h.2.2.1.trans he,h.2.2.2⟩
theorem qk5.step {M : Nat -> Prop} {w w7 wr wa wb wc : World} {gp D K : Nat} {acc : List Tm} {cnt : Nat} {v : Nat -> Value} {c : Nat -> Nat} {xx : Nat -> Nat -> PE} {S : Nat -> Nat -> List Tm} (h : qk5 M w w7 wr gp D K acc cnt v c xx S) {k0 : Nat} (hk : k0 < K) {gg cap2 : Nat} {y : PE} {l : List Tm} (hw : w.heap.size <= gp) (hgp : gp < w7.heap.size)
  (he:Ext wr wa) (hO:Own wb w7.heap.size 33 4 (.slice (some ⟨gg,0,none⟩) (c k0+1) cap2) (c k0+1) (px (qc0 (xx k0) (c k0) y))) (hg:wa.grownBy wb (v k0).ownBlock) (hat:(v k0).ownBlock=some gg∨wa.heap.size<=gg)
  (he2:Ext wb wc) (hy:CRx (fun b=>MP M v K b∨b=gg) wc D y l) :
  qk5 M w w7 (wc.setCell ⟨gp,k0,none⟩ (.slice (some ⟨gg,0,none⟩) (c k0+1) cap2)) gp D K (acc ++ shift (xp (D+1) (k0:Int)) l) (cnt+1) (qc3 v k0 (.slice (some ⟨gg,0,none⟩) (c k0+1) cap2)) (qc3 c k0 (c k0+1)) (qc3 xx k0 (qc0 (xx k0) (c k0) y)) (qc3 S k0 (qc0 (S k0) (c k0) l)):=by
 obtain ⟨h1,h2,h3,h4,h5,h6⟩:=h;have hob : ∀ b,(v k0).ownBlock=some b->w7.heap.size<=b:=fun b hb=>((h1.own k0 hk).lt b hb).1;obtain ⟨p1,p2⟩:=qdK (L:=D+1) hk (F:=fun k=>qaK (c k) (S k)) (F':=fun k=>qaK (qc3 c k0 (c k0+1) k) (qc3 S k0 (qc0 (S k0) (c k0) l) k)) (l:=l) (fun k _ hne=>by simp only [qaV _ _ _ _ hne]) (by simp only [qaF];exact qfc _ _ _);have hw7:=h2.1;refine ⟨h1.step hk he hO hg hat he2 hy,⟨?_,fun b hb hne=>?_⟩,?_,fun k=>?_,?_,?_⟩
 ·have:=he.size;have:=hg.size;have:=he2.size;simp [World.setCell];omega
 ·have hba:b<wa.heap.size:=by have:=he.size;omega
  have hbb:b<wb.heap.size:=by have:=hg.size;omega
  rw [Below.heap_setCell _ _ _ _ hne,he2.heap hbb,hg.block b hba (fun e=>by have:=hob b e.symm;omega),he.heap (by omega)];exact h2.2 b hb hne
 ·exact (((h3.trans he).grown hg (fun b hb=>by have:=hob b hb;omega)).trans (Ext.trans (Ext.refl _) he2)).set (by exact hw) _
 ·by_cases hkk:k=k0
  ·subst hkk;rw [qaF];have:=h4 k;omega
  ·rw [qaV _ _ _ _ hkk];have:=h4 k;omega
 ·exact p1.trans (h5.append (Sim.refl _))
 ·rw [p2,h6,qai,qaS]
theorem qk5.replace {M : Nat -> Prop} {w w7 wr : World} {gp D K : Nat} {acc : List Tm} {cnt : Nat} {v : Nat -> Value} {c : Nat -> Nat} {xx : Nat -> Nat -> PE} {S : Nat -> Nat -> List Tm} {k0 q : Nat} {vk : Value} {sk : Nat -> PE} {Sk : Nat -> List Tm} (h : qk5 M w w7 wr gp D K acc cnt (qc3 v k0 vk) (qc3 c k0 (q + 1)) (qc3 xx k0 sk) (qc3 S k0 (qc0 Sk q []))) (hk : k0 < K) {gg cap2 : Nat} {y : PE} {l : List Tm} (hw : w.heap.size <= w7.heap.size)
  (hv:vk = .slice (some ⟨gg,0,none⟩) (q+1) cap2) (hy:CRx (MP M (qc3 v k0 vk) K) wr D y l) :
  ∃ xx' S',qk5 M w w7 (set4 wr gg (q*4) (.int .i64 y.lv) (.bool y.b) (.slice y.a y.n y.p) (.slice y.ka y.kn y.kp)) gp D K (acc ++ shift (xp (D+1) (k0:Int)) l) cnt (qc3 v k0 vk) (qc3 c k0 (q+1)) xx' S':=by
 obtain ⟨h1,h2,h3,h4,h5,h6⟩:=h;have hgg:w7.heap.size<=gg:=((h1.own k0 hk).lt gg (by rw [qaF,hv];rfl)).1
 obtain ⟨p1,p2⟩:=qdK (L:=D+1) hk (F:=fun k=>qaK (qc3 c k0 (q+1) k) (qc3 S k0 (qc0 Sk q []) k)) (F':=fun k=>qaK (qc3 c k0 (q+1) k) (qc3 (qc3 S k0 (qc0 Sk q [])) k0 (qc3 (qc3 S k0 (qc0 Sk q []) k0) q l) k)) (l:=l) (fun k _ hne=>by simp only [qaV _ _ _ _ hne]) (by
  simp only [qaF];rw [qar,qar,qaF,qa6,List.append_nil]
  congr 1
  exact qfR fun i hi=>by rw [qaV _ _ _ _ (by omega)])
 refine ⟨_,_,h1.replace hk (gg:=gg) (cap2:=cap2) (q:=q) (y:=y) (l:=l) (by rw [qaF,qaF];exact hv) (by rw [qaF];omega) hy,⟨?_,fun b hb hne=>?_⟩,h3.set4 (by omega) _ _ _ _ _,h4,p1.trans (h5.append (Sim.refl _)),?_⟩
 ·rw [qaq];exact h2.1
 ·rw [qag _ _ _ _ _ _ _ _ (by omega)];exact h2.2 b hb hne
 ·rw [p2,h6,qai,qaS]
theorem qsr (L:Nat) (ih : ∀ D,D<L->qki D):qs4 L:=by
 intro M lx ly B1 C1 X Y w hM hX hY hdl hDB hDC hBC1 hXY hX0 hzx hzy;obtain ⟨i0,hi,hz0,hz1,hz2⟩:=info_parts Tryz.info33;obtain ⟨j0,hj,hy0',hy1',hy2'⟩:=info_parts Tryz.info31;obtain ⟨lvX,bX,aX,nX,pX,kaX,n,cap⟩:=X;obtain ⟨lvY,bY,aY,nY,pY,kaY,n',cap'⟩:=Y;unfold CRx at hX hY;simp only at hX hY hXY hX0 hzx hzy;subst hXY;obtain ⟨D,hDe,hD4,hDL,_,_,b,off,n1,cap1,P,hc1,hc2,hc3,hn2,hnL,hnc,hcm,hb,hMb,hkid,hlow,hnz,hsim,hnr⟩:=hX.node_inv hX0;obtain ⟨D2,hDe2,_,_,_,_,b',off',n1',cap1',Q,kc1,kc2,kc3,kn2,knL,knc,kcm,kb,kMb,kkid,klow,knz,ksim,knr⟩:=hY.node_inv hX0
 have:D2=D:=by omega
 subst this;simp only [Value.bool.injEq,Value.slice.injEq] at hc1 hc2 hc3 kc1 kc2 kc3;obtain ⟨rfl,rfl,rfl⟩:=hc3;obtain ⟨rfl,rfl,rfl⟩:=kc3;subst hDe;clear hc1 hc2 kc1 kc2 hDe2 hX0;obtain ⟨hdn,hdk⟩:=qbp hD4 (by omega) hlow hnz (hDB.sim hsim.symm);obtain ⟨kdn,kdk⟩:=qbp hD4 (by omega) klow knz (hDC.sim ksim.symm);have HKD:=Lib.hid hkid;have HKE:=Lib.hid kkid;have HSP:=Lib.hid hsim;have HSQ:=Lib.hid ksim;have HNRP:=Lib.hid hnr;have HNRQ:=Lib.hid knr;have HDK:=Lib.hid hdk;have HEK:=Lib.hid kdk;have HDL:=Lib.hid hdl;have HBC:=Lib.hid hBC1;have HNP:Hid (∀ i,i<n->nrm (P i)<=nrm lx):=fun i hi=>Nat.le_trans (qaN (D2+1) n P i hi) hnr;have HNQ:Hid (∀ i,i<n'->nrm (Q i)<=nrm ly):=fun i hi=>Nat.le_trans (qaN (D2+1) n' Q i hi) knr;have HCI:=Lib.hid (ih D2 (by omega));have hD0:(0:Int)<=(D2:Int):=Int.natCast_nonneg _
 have hDz:((D2:Int)+1 == 0)=false:=by simp;omega
 have hgt':decide ((D2:Int)+1<(D2:Int)+1)=false:=decide_eq_false (by omega);have hE0:Ext w (((w.alloc (.cells #[.int .i64 ((D2:Int)+1),.bool bX,.slice aX nX pX,.slice (some ⟨b,off,none⟩) n cap] 33)).alloc (.cells #[.int .i64 ((D2:Int)+1),.bool bY,.slice aY nY pY,.slice (some ⟨b',off',none⟩) n' cap'] 33)).alloc (.cells #[.int .i64 0,.bool false,.slice none 0 0,.slice none 0 0] 33)):=(((Ext.refl w).alloc _).alloc _).alloc _;have b0:=((Blk.of_arr w #[.int .i64 ((D2:Int)+1),.bool bX,.slice aX nX pX,.slice (some ⟨b,off,none⟩) n cap] 33 4 rfl).alloc (.cells #[.int .i64 ((D2:Int)+1),.bool bY,.slice aY nY pY,.slice (some ⟨b',off',none⟩) n' cap'] 33)).alloc (.cells #[.int .i64 0,.bool false,.slice none 0 0,.slice none 0 0] 33);have b1:=(Blk.of_arr (w.alloc (.cells #[.int .i64 ((D2:Int)+1),.bool bX,.slice aX nX pX,.slice (some ⟨b,off,none⟩) n cap] 33)) #[.int .i64 ((D2:Int)+1),.bool bY,.slice aY nY pY,.slice (some ⟨b',off',none⟩) n' cap'] 33 4 rfl).alloc (.cells #[.int .i64 0,.bool false,.slice none 0 0,.slice none 0 0] 33);have b2:=Blk.of_arr ((w.alloc (.cells #[.int .i64 ((D2:Int)+1),.bool bX,.slice aX nX pX,.slice (some ⟨b,off,none⟩) n cap] 33)).alloc (.cells #[.int .i64 ((D2:Int)+1),.bool bY,.slice aY nY pY,.slice (some ⟨b',off',none⟩) n' cap'] 33)) #[.int .i64 0,.bool false,.slice none 0 0,.slice none 0 0] 33 4 rfl;simp only [World.size_alloc] at b1 b2
 have hw0:w.heap.size+3<=(((w.alloc (.cells #[.int .i64 ((D2:Int)+1),.bool bX,.slice aX nX pX,.slice (some ⟨b,off,none⟩) n cap] 33)).alloc (.cells #[.int .i64 ((D2:Int)+1),.bool bY,.slice aY nY pY,.slice (some ⟨b',off',none⟩) n' cap'] 33)).alloc (.cells #[.int .i64 0,.bool false,.slice none 0 0,.slice none 0 0] 33)).heap.size:=by simp
 have ctX:=fun W=>qbU ((D2:Int)+1) bX aX nX pX (some ⟨b,off,none⟩) n cap W;have ctY:=fun W=>qbU ((D2:Int)+1) bY aY nY pY (some ⟨b',off',none⟩) n' cap' W;rw [hzx] at ctX;rw [hzy] at ctY;have CTX:=Lib.hid ctX;have CTY:=Lib.hid ctY;have HE0:=Lib.hid hE0;have HB0:=Lib.hid b0;have HB1:=Lib.hid b1;have HB2:=Lib.hid b2;have HW0:=Lib.hid hw0;clear hX hY hkid kkid hlow klow hnz knz hsim ksim hnr knr hdk kdk hdl hDB hDC hBC1 ih hzx hzy ctX ctY hE0 b0 b1 b2 hw0;have HR:Hid (Sim (pmul lx ly) (pmul lx ly)):=Sim.refl _
 go_enter Tryz.func118,Tryz.ntmps118
 go_wp2_with (fail);refine (CTX.out _).mono ?_;rintro e w1 ⟨rfl,he1⟩;have hs1:=he1.size;have hw1:w.heap.size+3<=w1.heap.size:=Nat.le_trans HW0.out hs1;clear hs1;have HC0:=Lib.hid (HB0.out.ext he1);have HC1:=Lib.hid (HB1.out.ext he1);have HC2:=Lib.hid (HB2.out.ext he1);have HE1:=Lib.hid (HE0.out.trans he1);have y0:=HC1.out.cell (i:=0) (by omega);have y1:=HC1.out.cell (i:=1) (by omega);have y2:=HC1.out.cell (i:=2) (by omega);have y3:=HC1.out.cell (i:=3) (by omega);simp only [arr] at y0 y1 y2 y3
 have hv2:w.heap.size+1<w1.heap.size:=by omega
 clear he1 HB0 HB1 HB2 HE0 HW0;go_wp2_with (fail);refine (CTY.out _).mono ?_;rintro e w2 ⟨rfl,he2⟩;have hs2:=he2.size
 have hw3:w.heap.size+3<=w2.heap.size:=by omega
 have HD0':=Lib.hid (HC0.out.ext he2);have HD1':=Lib.hid (HC1.out.ext he2);have HD2:=Lib.hid (HC2.out.ext he2);have HE2:=Lib.hid (HE1.out.trans he2);clear he2 HC0 HC1 HC2 HE1 y0 y1 y2 y3 hv2 hs2;have x0:=HD0'.out.cell (i:=0) (by omega);have x3:=HD0'.out.cell (i:=3) (by omega);have y0:=HD1'.out.cell (i:=0) (by omega);have y3:=HD1'.out.cell (i:=3) (by omega);simp only [arr] at x0 x3 y0 y3
 have hu1:w.heap.size<w2.heap.size:=by omega
 have hu2:w.heap.size+1<w2.heap.size:=by omega
 have hKL:n+n'<=1099511627776:=by
  have h1:n*n'<=(B1+1)*(C1+1):=Nat.mul_le_mul hdn kdn;have h2:=HBC.out
  have h3:n+n'<=n*n':=by
   obtain ⟨p,rfl⟩ : ∃ p,n=p+2:=⟨n - 2,by omega⟩;obtain ⟨q,rfl⟩ : ∃ q,n'=q+2:=⟨n' - 2,by omega⟩;rw [Nat.add_mul,Nat.mul_add];omega
  omega
 have HNN:Hid (n*n'<=1099511627776):=Nat.le_trans (Nat.mul_le_mul hdn kdn) HBC.out
 go_wp2_with (at_make;go_must (refine wpList_make_full _ rfl _ _ _ rfl w2.heap.size 31 j0 (.slice none 0 0) 1 Tryz.underlying176 hj hy0' hy1' .i64 .i64 _ _ (n+n' - 1) rfl rfl ?m4 ?m5 ?m2 ?m3 ?m6 ?_))
 case m2=>rw [hy2'];omega
 case m3=>unfold maxLen;omega
 case m4=>omega
 case m5=>omega
 case m6=>omega
 intro w5 hown hgrow;have hBk:=Blk.made1 hown;have he5:=qaw hgrow;have hgp:w2.heap.size<w5.heap.size:=hBk.lt;have HBP:=Lib.hid hBk;have HE5:=Lib.hid (HE2.out.trans he5);have HF0:=Lib.hid (HD0'.out.ext he5);have HF1:=Lib.hid (HD1'.out.ext he5);have HF2:=Lib.hid (HD2.out.ext he5);rw [<- he5.cell hu1] at x0 x3;rw [<- he5.cell hu2] at y0 y3
 have ht1:w.heap.size<w5.heap.size:=by omega
 have ht2:w.heap.size+1<w5.heap.size:=by omega
 have HM5:Hid (Mb (Mx M w.heap.size (w2.heap.size+1)) w5):=Mx.mb hM HE5.out.size (by omega);have HKX:Hid (qbA (Mx M w.heap.size (w2.heap.size+1)) w5 D2 (.slice (some ⟨b,off,none⟩) n cap) n P):=(qbA.ext (qbA.more ⟨hnL,.inr ⟨b,off,cap,rfl,hnc,hcm,⟨hb,hMb⟩,HKD.out⟩⟩ (Mx.more (Nat.le_refl _))) HE5.out);have HKY:Hid (qbA (Mx M w.heap.size (w2.heap.size+1)) w5 D2 (.slice (some ⟨b',off',none⟩) n' cap') n' Q):=(qbA.ext (qbA.more ⟨knL,.inr ⟨b',off',cap',rfl,knc,kcm,⟨kb,kMb⟩,HKE.out⟩⟩ (Mx.more (Nat.le_refl _))) HE5.out);clear hown hgrow hBk he5 HE2 HD0' HD1' HD2 hu1 hu2;go_wp2_with (fail);refine (qfN _ D2 _ n' Q w5 HM5.out HKY.out).mono ?_;rintro e w6 ⟨uy,cy',τ,nzy,rfl,hIy,hSely,hnzy,he6⟩;rw [<- he6.cell ht1] at x0 x3;rw [<- he6.cell ht2] at y0 y3;have hs6:=he6.size
 have ht3:w.heap.size<w6.heap.size:=by omega
 have ht4:w.heap.size+1<w6.heap.size:=by omega
 have HIY:=Lib.hid hIy;have HSELY:=Lib.hid hSely;have HNZY:=Lib.hid hnzy;have HE6:=Lib.hid he6;clear hIy hSely hnzy he6;go_wp2_with (fail);refine (qfN _ D2 _ n P w6 (HM5.out.ext HE6.out) (HKX.out.ext HE6.out)).mono ?_;rintro e w7 ⟨ux,cx',σ,nzx,rfl,hIx,hSelx,hnzx,he7⟩;have hs7:=he7.size;have HIX:=Lib.hid hIx;have HIY7:=Lib.hid (HIY.out.ext he7);have HSELX:=Lib.hid hSelx;have HNZX:=Lib.hid hnzx;have HE7:=Lib.hid (HE6.out.trans he7);have hcx:=hSelx.len;have hcy:=HSELY.out.len;clear hIx hSelx hnzx he7;obtain ⟨ax,apx,rfl⟩:=HIX.out.form;obtain ⟨ay,apy,rfl⟩:=HIY7.out.form
 have HPX:Hid (qbY (Mx M w.heap.size (w2.heap.size+1)) w7.heap.size w7 D2 w2.heap.size (n+n' - 1) (fun _=>.slice none 0 0) (fun _=>0) (fun _ _=>PE.z) (fun _ _=>[])):=by
  refine ⟨HBP.out.ext HE7.out,fun k _=>Own.nil _ _ _ _ _,(fun k k' _ _ _ b hb=>by cases hb),(fun k _ i hi=>by omega),Mx.at (by omega),by omega,HM5.out.ext HE7.out,fun g hg=>?_⟩;exact (HM5.out.ext HE7.out) g hg
 have HG0:=Lib.hid (HF0.out.ext HE7.out);have HG1:=Lib.hid (HF1.out.ext HE7.out);have HG2:=Lib.hid (HF2.out.ext HE7.out);have HEW7:=Lib.hid (HE5.out.trans HE7.out);clear x0 x3 y0 y3 HIY HF0 HF1 HF2 HE6 HBP;go_wp2
 go_loopw [87] (fun i wr=>∃ (a:Nat) (v:Nat->Value) (c:Nat->Nat) (xx:Nat->Nat->PE) (S:Nat->Nat->List Tm),a<=cx'/\i = .int .i64 a/\Hid (qk5 (Mx M w.heap.size (w2.heap.size+1)) w w7 wr w2.heap.size D2 (n+n' - 1) (qaK a fun a=>qaK cy' fun b=>zij (D2+1) P Q (σ a) (τ b)) (a*cy') v c xx S)) (fun i _=>cx' - (intOf i).toNat)
 case atStart=>
  have hz : ∀ K,poly (D2+1) K (fun k=>qaK 0 (fun _=>([]:List Tm))) = []:=by
   intro K
   induction K with
   | zero=>rfl
   | succ K ih=>rw [qaf,ih];rfl
  exact ⟨0,_,_,_,_,Nat.zero_le _,rfl,HPX.out,Kp.refl _ _,HEW7.out,fun k=>by simp,by rw [hz];exact Sim.refl _,by rw [hz];rfl⟩
 case round=>
  clear HPX;obtain ⟨a,v,c,xx,S,ha,rfl,HMI⟩:=hrel;have hszr:=HMI.out.2.1.1
  by_cases hlt:a<cx'
  ·obtain ⟨gx,rfl,hx1,hx2,hx3,hx4',hx5⟩:=HIX.out.at a hlt;have hgxp:gx≠w2.heap.size:=fun e=>hx4' (e ▸ Mx.at (by omega));rw [<- HMI.out.2.1.cell hx3 hgxp] at hx5
   have hxw:gx<wr.heap.size:=by omega
   obtain ⟨hσ1,hσ2⟩:=HSELX.out.mem a hlt;go_wp2;obtain ⟨wo,rfl⟩ : ∃ wo:World,wo=wr:=⟨_,rfl⟩
   go_loopw [93] (fun i wr=>∃ (q:Nat) (v:Nat->Value) (c:Nat->Nat) (xx:Nat->Nat->PE) (S:Nat->Nat->List Tm),q<=cy'/\i = .int .i64 q/\Hid (qk5 (Mx M w.heap.size (w2.heap.size+1)) w w7 wr w2.heap.size D2 (n+n' - 1) ((qaK a fun a=>qaK cy' fun b=>zij (D2+1) P Q (σ a) (τ b)) ++ qaK q fun b=>zij (D2+1) P Q (σ a) (τ b)) (a*cy'+q) v c xx S)) (fun i _=>cy' - (intOf i).toNat)
   case atStart=>exact ⟨0,v,c,xx,S,Nat.zero_le _,rfl,by show qk5 _ _ _ _ _ _ _ _ _ _ _ _ _;rw [qhz,List.append_nil];exact HMI.out⟩
   case round=>
    clear HMI hx5 hszr hxw;obtain ⟨q,v,c,xx,S,hq,rfl,HMI⟩:=hrel;have hszr:=HMI.out.2.1.1
    by_cases hqc:q<cy'
    ·obtain ⟨gy,rfl,hy1,hy2,hy3,hy4',hy5⟩:=HIY7.out.at q hqc;have hgyp:gy≠w2.heap.size:=fun e=>hy4' (e ▸ Mx.at (by omega));rw [<- HMI.out.2.1.cell hy3 hgyp] at hy5
     have hyw:gy<wr.heap.size:=by omega
     obtain ⟨hτ1,hτ2⟩:=HSELY.out.mem q hqc;go_wp2
     go_cut [98] (fun s wx=>(s = .bool true∨s = .bool false)/\Hid (Ext wr wx))
     case first=>
      go_region
      all_goals
       go_wp2_with (fail)
       go_meet
       exact ⟨by simp,((Ext.refl wr).alloc _).drew⟩
     case rest=>
      obtain ⟨hs98,HEC⟩:=hcut;have hszc:=HEC.out.size;have HMC:=Lib.hid (HMI.out.ext HEC.out);clear HMI hy5 hyw HEC
      have hk0:σ a+τ q<n+n' - 1:=by omega
      have hk1:(0:Int)<=(σ a:Int):=Int.natCast_nonneg _;have hk2:(0:Int)<=(τ q:Int):=Int.natCast_nonneg _
      have hk3:(σ a:Int)<(n:Int):=by omega
      have hk4:(τ q:Int)<(n':Int):=by omega
      obtain ⟨va,vc,hv0⟩:=(HMC.out.1.own _ hk0).form;have HV0:=Lib.hid hv0;obtain ⟨e0,e1,e2,e3,z0,z1,z2,z3,hCu⟩:=HKD.out (σ a) hσ1;obtain ⟨u,rfl,rfl,rfl,rfl,hu,_⟩:=hCu.pe;obtain ⟨e0,e1,e2,e3,s0,s1,s2,s3,hCt⟩:=HKE.out (τ q) hτ1;obtain ⟨t,rfl,rfl,rfl,rfl,ht,_⟩:=hCt.pe
      have hS:qnI w2.heap.size (σ a+τ q) w.heap.size b (off+σ a*4) b' (off'+τ q*4) (.slice va (c (σ a+τ q)) vc) (.slice (some ⟨b,off,none⟩) n cap) (.slice (some ⟨b',off',none⟩) n' cap') u t wc.drew:=by
       refine qnI.ext (w:=wc) ⟨by rw [HMC.out.1.blk.cell hk0,hv0],?_,?_,qaZ.ext ⟨z0,z1,z2,z3⟩ hb HMC.out.2.2.1,qaZ.ext ⟨s0,s1,s2,s3⟩ kb HMC.out.2.2.1⟩ (Ext.refl _).drew
       ·rw [HMC.out.2.1.cell HG0.out.lt (by omega)];exact HG0.out.cell (i:=3) (by omega)
       ·rw [HMC.out.2.1.cell HG1.out.lt (by omega)];exact HG1.out.cell (i:=3) (by omega)
      have HS:=Lib.hid hS
      have hmore : ∀ g,MP (Mx M w.heap.size (w2.heap.size+1)) v (n+n' - 1) g->M g∨w.heap.size<=g:=by
       rintro g (hg | ⟨k,hk,e⟩)
       ·exact Mx.more (Nat.le_refl _) g hg
       ·have:=((HMC.out.1.own k hk).lt g e).1;exact .inr (by omega)
      have HU:Hid (CRx (MP (Mx M w.heap.size (w2.heap.size+1)) v (n+n' - 1)) wc.drew D2 u (P (σ a))):=((hu.more hmore).ext HMC.out.2.2.1).ext (Ext.refl _).drew;have HT:Hid (CRx (MP (Mx M w.heap.size (w2.heap.size+1)) v (n+n' - 1)) wc.drew D2 t (Q (τ q))):=((ht.more hmore).ext HMC.out.2.2.1).ext (Ext.refl _).drew
      have hck:c (σ a+τ q)+1<=1099511627776:=by
       have h1:=HMC.out.2.2.2.1 (σ a+τ q);have h2:(a+1)*cy'<=n*n':=Nat.mul_le_mul (by omega) hcy;rw [Nat.add_mul] at h2;have h3:=HNN.out;omega
      have HMD:=Lib.hid (HMC.out.ext (Ext.refl wc).drew)
      have HOW:Hid (Own wc.drew w7.heap.size 33 4 (.slice va (c (σ a+τ q)) vc) (c (σ a+τ q)) (px (xx (σ a+τ q)))):=by have:=HMD.out.1.own _ hk0;rw [hv0] at this;exact this
      have HDD:Hid (dlen (nrm (P (σ a)))+dlen (nrm (Q (τ q)))<=1099511627776):=by
       have h1:=qal (HNP.out (σ a) hσ1);have h2:=qal (HNQ.out (τ q) hτ1);have h3:=HDL.out;show _<=_;omega
      have hszd:w7.heap.size<=wc.drew.heap.size:=HMD.out.2.1.1;have hgpd:=HMD.out.1.blk.lt;have hfz:=HMD.out.1.blk.frozen (σ a+τ q);clear hCu hCt hS hu ht z0 z1 z2 z3 s0 s1 s2 s3 hv0 hmore
      have hlowb : ∀ p,p=w2.heap.size∨p=w.heap.size∨p=w.heap.size+1∨p=b∨p=b'->p<w7.heap.size:=by
       intro p hp;have:=HEW7.out.size;omega
      have hK1:(σ a:Int)+(τ q:Int)<((n+n' - 1:Nat):Int):=by omega
      have hK2:(0:Int)<=(σ a:Int)+(τ q:Int):=by omega
      have hK3:((σ a:Int)+(τ q:Int)).toNat=σ a+τ q:=by omega
      have hK4:IntKind.i64.wrap ((σ a:Int)+(τ q:Int))=(σ a:Int)+(τ q:Int):=IntWalk.i64_in _ (by omega);rcases hs98 with rfl | rfl
      ·go_wp2;refine qad (qnI w2.heap.size (σ a+τ q) w.heap.size b (off+σ a*4) b' (off'+τ q*4) (.slice va (c (σ a+τ q)) vc) (.slice (some ⟨b,off,none⟩) n cap) (.slice (some ⟨b',off',none⟩) n' cap') u t) 25 (by kernel_rfl) HS.out (fun hHeld=>?_);(refine tkB [0,1,2,3,4,5,6,7,8,9,10,11,12,13,14,15,16,17,18,19,21] ?_;(iterate 21 (refine tk1 (oi:=?_) (v:=?_) (by kernel_rfl) (by first | exact hSn | exact hHeld) ?_ ?_ ?_ ?_ ?_;rotate_left 2;(simp only [xgA,xgB,xgC];rfl);rfl;(intro wS hSw;obtain ⟨S1,S2,S3,⟨S4,S5,S6,S7⟩,S8,S9,S10,S11⟩:=hSw;go_simp;try with_reducible rfl);(exact fun _ _ _ h=>h);(try simp only [Act.put,xgD,xgE,xgF])));refine tkE ?_);(refine qau 20 22 (oi:=?_) (oj:=?_) (by kernel_rfl) ?_ ?_ ?_ ?_;rotate_left 2;(simp only [xgA,xgB,xgC];rfl);(simp only [xgA,xgB,xgC];rfl);all_goals intro K hK)
       ·go_simp;refine (HCI.out _ _ _ _ _ _ _ _ _ _ _ _ _ _ HMD.out.1.mb HU.out HT.out HDD.out (HDK.out _ hσ1) (HEK.out _ hτ1) HBC.out).mono ?_;rintro e w8 ⟨d0,d1,d2,d3,rfl,hCR,he8⟩;obtain ⟨y,rfl,rfl,rfl,rfl,hy,_⟩:=hCR.pe;go_wp2_with (fail);refine hK.out _ _ (fun _=>hHeld.ext he8) ?_;clear hK K;(try simp only [Act.put,xgD,xgE,xgF]);(refine qaa 22 (o:=?_) (by kernel_rfl) ?_ ?_;rotate_left 1;(simp only [xgA,xgB,xgC];rfl);intro K hK);go_simp;have hEA:Ext wc.drew (w8.alloc (.cells #[.int .i64 0,.bool false,.slice none 0 0,.slice none 0 0] 33)):=he8.alloc _;have hHeld2:=hHeld.ext hEA;refine hK.out _ _ (fun _=>hHeld2) ?_;clear hK K;(try simp only [Act.put,xgD,xgE,xgF]);(refine qaa 23 (o:=?_) (by kernel_rfl) ?_ ?_;rotate_left 1;(simp only [xgA,xgB,xgC];rfl);intro K hK);have hs8:=he8.size;refine qbP _ (by rfl) (.tmp 108) (.tmp 121) _ (by rfl) w7.heap.size 33 i0 _ 4 64 Tryz.underlying31 hi hz0 hz1 hz2 rfl (by omega) (.slice va (c (σ a+τ q)) vc) (c (σ a+τ q)) (px (xx (σ a+τ q))) (by rfl) (HOW.out.ext hEA) w8.heap.size 33 1 (arr #[.int .i64 0,.bool false,.slice none 0 0,.slice none 0 0]) (by rfl) (Blk.of_arr w8 #[.int .i64 0,.bool false,.slice none 0 0,.slice none 0 0] 33 4 rfl) (qhD PE.z) (by unfold maxLen;omega) (by omega) (by simp;omega) ?_;intro gg cap2 w9 hO6 hg6 hat hlt6;have hown7 : ∀ g,(Value.slice va (c (σ a+τ q)) vc).ownBlock=some g->w7.heap.size<=g:=fun g hg=>(HOW.out.lt g hg).1;have hS9:=hHeld2.heap fun q hq=>hg6.block q (by have:=hlowb q hq;simp;omega) (fun e=>by have:=hown7 q e.symm;have:=hlowb q hq;omega)
        have hfz9:w9.frozen? ⟨w2.heap.size,σ a+τ q,none⟩=false:=((HMD.out.1.blk.ext hEA).grown hg6 (fun e=>by have:=hown7 _ e.symm;omega)).frozen _;refine hK.out _ _ (fun _=>hS9) ?_;clear hK K;(try simp only [Act.put,xgD,xgE,xgF]);(refine qaa 24 (o:=?_) (by kernel_rfl) ?_ ?_;rotate_left 1;(simp only [xgA,xgB,xgC];rfl);intro K hK);go_simp;refine hK.out _ _ (fun _=>hS9) ?_;clear hK K;(try simp only [Act.put,xgD,xgE,xgF]);have hc9:=hS9.1;(refine qaa 25 (o:=?_) (by kernel_rfl) ?_ ?_;rotate_left 1;(simp only [xgA,xgB,xgC];rfl);intro K hK);go_simp;refine hK.out _ _ (fun h=>absurd rfl h) ?_;clear hK K;refine qac (by kernel_rfl) ?_ _;have hO7:=hO6.congr fun j hj=>qhy (xx (σ a+τ q)) (c (σ a+τ q)) PE.z j hj;rw [<- HV0.out] at hg6 hat;have hF:=HMD.out.step (l:=[]) hk0 (by omega) (by omega) hEA hO7 hg6 hat (Ext.refl w9) (CR.zero _ _ _);have hy10:=HMD.out.1.after_cr (k0:=σ a+τ q) (n:=c (σ a+τ q)+1) (cap2:=cap2) (.slice (some ⟨gg,0,none⟩) (c (σ a+τ q)+1) cap2) (HMD.out.1.grow_cr hk0 hg6 hat (hy.ext ((Ext.refl w8).alloc _)));have hown:=hF.1.own _ hk0;rw [qaF,qaF] at hown;obtain ⟨⟨_,g0⟩,⟨_,g1⟩,⟨_,g2⟩,⟨_,g3⟩,hfr,hgl,hcl,hcm2⟩:=qjs hown;have hf0:=hfr (c (σ a+τ q)*4);have hf1:=hfr (c (σ a+τ q)*4+1);have hf2:=hfr (c (σ a+τ q)*4+2);have hf3:=hfr (c (σ a+τ q)*4+3);obtain ⟨xx2,S2,hF2⟩:=hF.replace hk0 (by omega) rfl hy10;have HF:=Lib.hid hF2
        have HACC:Hid (((qaK a fun a=>qaK cy' fun b=>zij (D2+1) P Q (σ a) (τ b)) ++ qaK q fun b=>zij (D2+1) P Q (σ a) (τ b)) ++ shift (xp (D2+1) ((σ a+τ q:Nat):Int)) [] ++ shift (xp (D2+1) ((σ a+τ q:Nat):Int)) (pmul (P (σ a)) (Q (τ q)))=((qaK a fun a=>qaK cy' fun b=>zij (D2+1) P Q (σ a) (τ b)) ++ qaK (q+1) fun b=>zij (D2+1) P Q (σ a) (τ b))):=by
         show _=_;rw [qar,show shift (xp (D2+1) ((σ a+τ q:Nat):Int)) [] = [] from rfl,List.append_nil,List.append_assoc];rfl
        rw [HACC.out] at HF;clear hO6 hg6 hat hO7 hS9 hHeld2 hHeld hEA hy hCR he8 hK1 hK2 hK3 hK4 hF hF2 hown hy10 hfr;go_wp2
        go_roundw
        case rel=>exact ⟨q+1,_,_,_,_,by omega,by go_num,HF⟩
        case measure=>simp [intOf];omega
       ·go_simp;have hEZ:Ext wc.drew (wc.drew.alloc (.cells #[.int .i64 0,.bool false,.slice none 0 0,.slice none 0 0] 33)):=(Ext.refl _).alloc _;refine hK.out _ _ (fun _=>hHeld.ext hEZ) ?_;clear hK K;(try simp only [Act.put,xgD,xgE,xgF]);(refine qaa 20 (o:=?_) (by kernel_rfl) ?_ ?_;rotate_left 1;(simp only [xgA,xgB,xgC];rfl);intro K hK);go_simp;refine (HCI.out _ _ _ _ _ _ _ _ _ _ _ _ _ _ (HMD.out.1.mb.ext hEZ) (HU.out.ext hEZ) (HT.out.ext hEZ) HDD.out (HDK.out _ hσ1) (HEK.out _ hτ1) HBC.out).mono ?_;rintro e w8 ⟨d0,d1,d2,d3,rfl,hCR,he8⟩;obtain ⟨y,rfl,rfl,rfl,rfl,hy,_⟩:=hCR.pe;go_wp2_with (fail);have hEA:Ext wc.drew w8:=hEZ.trans he8;have hHeld2:=hHeld.ext hEA;refine hK.out _ _ (fun _=>hHeld2) ?_;clear hK K;(try simp only [Act.put,xgD,xgE,xgF]);(refine qaa 23 (o:=?_) (by kernel_rfl) ?_ ?_;rotate_left 1;(simp only [xgA,xgB,xgC];rfl);intro K hK);have hs8:=he8.size;refine qbP _ (by rfl) (.tmp 108) (.tmp 121) _ (by rfl) w7.heap.size 33 i0 _ 4 64 Tryz.underlying31 hi hz0 hz1 hz2 rfl (by omega) (.slice va (c (σ a+τ q)) vc) (c (σ a+τ q)) (px (xx (σ a+τ q))) (by rfl) (HOW.out.ext hEA) wc.drew.heap.size 33 1 (arr #[.int .i64 0,.bool false,.slice none 0 0,.slice none 0 0]) (by rfl) ((Blk.of_arr wc.drew #[.int .i64 0,.bool false,.slice none 0 0,.slice none 0 0] 33 4 rfl).ext he8) (qhD PE.z) (by unfold maxLen;omega) (by omega) (by have:=hEA.size;omega) ?_;intro gg cap2 w9 hO6 hg6 hat hlt6;have hown7 : ∀ g,(Value.slice va (c (σ a+τ q)) vc).ownBlock=some g->w7.heap.size<=g:=fun g hg=>(HOW.out.lt g hg).1
        have hS9:=hHeld2.heap fun q hq=>hg6.block q (by have:=hlowb q hq;have:=hEA.size;omega) (fun e=>by have:=hown7 q e.symm;have:=hlowb q hq;omega);have hfz9:w9.frozen? ⟨w2.heap.size,σ a+τ q,none⟩=false:=((HMD.out.1.blk.ext hEA).grown hg6 (fun e=>by have:=hown7 _ e.symm;omega)).frozen _;refine hK.out _ _ (fun _=>hS9) ?_;clear hK K;(try simp only [Act.put,xgD,xgE,xgF]);(refine qaa 24 (o:=?_) (by kernel_rfl) ?_ ?_;rotate_left 1;(simp only [xgA,xgB,xgC];rfl);intro K hK);go_simp;refine hK.out _ _ (fun _=>hS9) ?_;clear hK K;(try simp only [Act.put,xgD,xgE,xgF]);have hc9:=hS9.1;(refine qaa 25 (o:=?_) (by kernel_rfl) ?_ ?_;rotate_left 1;(simp only [xgA,xgB,xgC];rfl);intro K hK);go_simp;refine hK.out _ _ (fun h=>absurd rfl h) ?_;clear hK K;refine qac (by kernel_rfl) ?_ _;have hO7:=hO6.congr fun j hj=>qhy (xx (σ a+τ q)) (c (σ a+τ q)) PE.z j hj;rw [<- HV0.out] at hg6 hat;have hF:=HMD.out.step (l:=[]) hk0 (by omega) (by omega) hEA hO7 hg6 hat (Ext.refl w9) (CR.zero _ _ _);have hy10:=HMD.out.1.after_cr (k0:=σ a+τ q) (n:=c (σ a+τ q)+1) (cap2:=cap2) (.slice (some ⟨gg,0,none⟩) (c (σ a+τ q)+1) cap2) (HMD.out.1.grow_cr hk0 hg6 hat hy);have hown:=hF.1.own _ hk0;rw [qaF,qaF] at hown;obtain ⟨⟨_,g0⟩,⟨_,g1⟩,⟨_,g2⟩,⟨_,g3⟩,hfr,hgl,hcl,hcm2⟩:=qjs hown;have hf0:=hfr (c (σ a+τ q)*4);have hf1:=hfr (c (σ a+τ q)*4+1);have hf2:=hfr (c (σ a+τ q)*4+2);have hf3:=hfr (c (σ a+τ q)*4+3);obtain ⟨xx2,S2,hF2⟩:=hF.replace hk0 (by omega) rfl hy10;have HF:=Lib.hid hF2
        have HACC:Hid (((qaK a fun a=>qaK cy' fun b=>zij (D2+1) P Q (σ a) (τ b)) ++ qaK q fun b=>zij (D2+1) P Q (σ a) (τ b)) ++ shift (xp (D2+1) ((σ a+τ q:Nat):Int)) [] ++ shift (xp (D2+1) ((σ a+τ q:Nat):Int)) (pmul (P (σ a)) (Q (τ q)))=((qaK a fun a=>qaK cy' fun b=>zij (D2+1) P Q (σ a) (τ b)) ++ qaK (q+1) fun b=>zij (D2+1) P Q (σ a) (τ b))):=by
         show _=_;rw [qar,show shift (xp (D2+1) ((σ a+τ q:Nat):Int)) [] = [] from rfl,List.append_nil,List.append_assoc];rfl
        rw [HACC.out] at HF;clear hO6 hg6 hat hO7 hS9 hHeld2 hHeld hEA hy hCR he8 hK1 hK2 hK3 hK4 hF hF2 hown hy10 hfr;go_wp2
        go_roundw
        case rel=>exact ⟨q+1,_,_,_,_,by omega,by go_num,HF⟩
        case measure=>simp [intOf];omega
      ·go_wp2;refine qad (qnI w2.heap.size (σ a+τ q) w.heap.size b (off+σ a*4) b' (off'+τ q*4) (.slice va (c (σ a+τ q)) vc) (.slice (some ⟨b,off,none⟩) n cap) (.slice (some ⟨b',off',none⟩) n' cap') u t) 24 (by kernel_rfl) HS.out (fun hHeld=>?_);(refine tkB [0,1,2,3,4,5,6,7,8,9,10,11,12,13,14,15,16,17,18,19] ?_;(iterate 20 (refine tk1 (oi:=?_) (v:=?_) (by kernel_rfl) (by first | exact hSn | exact hHeld) ?_ ?_ ?_ ?_ ?_;rotate_left 2;(simp only [xgA,xgB,xgC];rfl);rfl;(intro wS hSw;obtain ⟨S1,S2,S3,⟨S4,S5,S6,S7⟩,S8,S9,S10,S11⟩:=hSw;go_simp;try with_reducible rfl);(exact fun _ _ _ h=>h);(try simp only [Act.put,xgD,xgE,xgF])));refine tkE ?_);(refine qaa 20 (o:=?_) (by kernel_rfl) ?_ ?_;rotate_left 1;(simp only [xgA,xgB,xgC];rfl);intro K hK);go_simp;refine (HCI.out _ _ _ _ _ _ _ _ _ _ _ _ _ _ HMD.out.1.mb HU.out HT.out HDD.out (HDK.out _ hσ1) (HEK.out _ hτ1) HBC.out).mono ?_;rintro e w8 ⟨d0,d1,d2,d3,rfl,hCR,he8⟩;obtain ⟨y,rfl,rfl,rfl,rfl,hy,_⟩:=hCR.pe;go_wp2_with (fail);refine hK.out _ _ (fun _=>hHeld.ext he8) ?_;clear hK K;(try simp only [Act.put,xgD,xgE,xgF]);(refine qaa 21 (o:=?_) (by kernel_rfl) ?_ ?_;rotate_left 1;(simp only [xgA,xgB,xgC];rfl);intro K hK);go_simp;have hEA:Ext wc.drew (w8.alloc (.cells (peA y) 33)):=he8.alloc _;have hHeld2:=hHeld.ext hEA;refine hK.out _ _ (fun _=>hHeld2) ?_;clear hK K;(try simp only [Act.put,xgD,xgE,xgF]);(refine qaa 22 (o:=?_) (by kernel_rfl) ?_ ?_;rotate_left 1;(simp only [xgA,xgB,xgC];rfl);intro K hK);have hs8:=he8.size;refine qbP _ (by rfl) (.tmp 134) (.tmp 146) _ (by rfl) w7.heap.size 33 i0 _ 4 64 Tryz.underlying31 hi hz0 hz1 hz2 rfl (by omega) (.slice va (c (σ a+τ q)) vc) (c (σ a+τ q)) (px (xx (σ a+τ q))) (by rfl) (HOW.out.ext hEA) w8.heap.size 33 1 (arr (peA y)) (by rfl) (Blk.of_arr w8 (peA y) 33 4 rfl) (qhD y) (by unfold maxLen;omega) (by omega) (by simp;omega) ?_
       intro gg cap2 w9 hO6 hg6 hat hlt6;have hown7 : ∀ g,(Value.slice va (c (σ a+τ q)) vc).ownBlock=some g->w7.heap.size<=g:=fun g hg=>(HOW.out.lt g hg).1;have hS9:=hHeld2.heap fun q hq=>hg6.block q (by have:=hlowb q hq;simp;omega) (fun e=>by have:=hown7 q e.symm;have:=hlowb q hq;omega);have hfz9:w9.frozen? ⟨w2.heap.size,σ a+τ q,none⟩=false:=((HMD.out.1.blk.ext hEA).grown hg6 (fun e=>by have:=hown7 _ e.symm;omega)).frozen _;refine hK.out _ _ (fun _=>hS9) ?_;clear hK K;(try simp only [Act.put,xgD,xgE,xgF]);(refine qaa 23 (o:=?_) (by kernel_rfl) ?_ ?_;rotate_left 1;(simp only [xgA,xgB,xgC];rfl);intro K hK);go_simp;refine hK.out _ _ (fun _=>hS9) ?_;clear hK K;(try simp only [Act.put,xgD,xgE,xgF]);have hc9:=hS9.1;(refine qaa 24 (o:=?_) (by kernel_rfl) ?_ ?_;rotate_left 1;(simp only [xgA,xgB,xgC];rfl);intro K hK);go_simp;refine hK.out _ _ (fun h=>absurd rfl h) ?_;clear hK K;refine qac (by kernel_rfl) ?_ _;have hO7:=hO6.congr fun j hj=>qhy (xx (σ a+τ q)) (c (σ a+τ q)) y j hj;rw [<- HV0.out] at hg6 hat;have HF:=Lib.hid (HMD.out.step hk0 (by omega) (by omega) hEA hO7 hg6 hat (Ext.refl w9) (HMD.out.1.grow_cr hk0 hg6 hat (hy.ext ((Ext.refl w8).alloc _))))
       have HACC:Hid (((qaK a fun a=>qaK cy' fun b=>zij (D2+1) P Q (σ a) (τ b)) ++ qaK q fun b=>zij (D2+1) P Q (σ a) (τ b)) ++ shift (xp (D2+1) ((σ a+τ q:Nat):Int)) (pmul (P (σ a)) (Q (τ q)))=((qaK a fun a=>qaK cy' fun b=>zij (D2+1) P Q (σ a) (τ b)) ++ qaK (q+1) fun b=>zij (D2+1) P Q (σ a) (τ b))):=by
        show _=_;rw [qar,List.append_assoc];rfl
       rw [HACC.out] at HF;clear hO6 hg6 hat hO7 hS9 hHeld2 hHeld hEA hy hCR he8 hK1 hK2 hK3 hK4;go_wp2
       go_roundw
       case rel=>exact ⟨q+1,_,_,_,_,by omega,by go_num,HF⟩
       case measure=>simp [intOf];omega
    ·have hqc':q=cy':=by omega
     subst hqc'
     have HF:Hid (qk5 (Mx M w.heap.size (w2.heap.size+1)) w w7 wr w2.heap.size D2 (n+n' - 1) (qaK (a+1) fun a=>qaK q fun b=>zij (D2+1) P Q (σ a) (τ b)) ((a+1)*q) v c xx S):=by
      have:=HMI.out;rw [qar,Nat.add_mul,Nat.one_mul];exact this
     clear HMI;go_wp2
     go_roundw
     case rel=>exact ⟨a+1,v,c,xx,S,by omega,by go_num,HF⟩
     case measure=>simp [intOf];omega
  ·have hac:a=cx':=by omega
   subst hac;obtain ⟨wo,rfl⟩ : ∃ wo:World,wo=wr:=⟨_,rfl⟩
   go_wp2_with (at_make;go_must (refine wpList_make_full _ rfl _ _ _ rfl wo.heap.size 33 i0 (.agg #[.int .i64 0,.bool false,.slice none 0 0,.slice none 0 0]) 4 Tryz.underlying31 hi hz0 hz1 .i64 .i64 _ _ (n+n' - 1) rfl rfl ?k4 ?k5 ?k2 ?k3 ?k6 ?_))
   case k2=>rw [hz2];omega
   case k3=>unfold maxLen;omega
   case k4=>simp
   case k5=>simp
   case k6=>omega
   intro w8 hown hgrow;have hBk:=(Blk.made hown rfl (by omega)).congr (f':=zc4) (fun i _=>qbL i);have he8:=qaw hgrow;have HMI8:=Lib.hid (HMI.out.ext he8)
   have hs8:wo.heap.size+1<=w8.heap.size:=by have:=hBk.lt;omega
   have HKF:Hid (qax (Mx (Mx M w.heap.size (w2.heap.size+1)) wo.heap.size (wo.heap.size+1)) w8 D2 wo.heap.size (n+n' - 1) (fun _=>[])):=qax.fresh hBk
   have HKR8:Hid (∀ k,k<n+n' - 1->qbA (Mx (Mx M w.heap.size (w2.heap.size+1)) wo.heap.size (wo.heap.size+1)) w8 D2 (v k) (c k) (S k)):=fun k hk=>by
    have h1:=HMI.out.1;refine ((h1.own k hk).toK (M:=Mx M w.heap.size (w2.heap.size+1)) (D:=D2) (S:=S k) (fun i hi=>(h1.cr k hk i hi).more fun g hg=>.inl (.inl hg)) (fun g hg hh=>by have:=h1.BM g hh;omega) ?_ |>.more (Mx.more (Nat.le_refl _))).ext he8;have h2:=HMI.out.2.2.2.1 k;have h3:a*cy'<=n*n':=Nat.mul_le_mul hcx hcy;have h4:=HNN.out;omega
   have HNL:Hid (∀ k,k<n+n' - 1->dlen (nrm (qaK (c k) (S k)))<=1099511627776):=fun k hk=>by
    have h1:=qaN (D2+1) (n+n' - 1) (fun k=>qaK (c k) (S k)) k hk;have h2:=HMI.out.2.2.2.2.2
    have h3:nrm (qaK a fun a=>qaK cy' fun b=>zij (D2+1) P Q (σ a) (τ b))<=nrm lx*nrm ly:=by
     refine Nat.le_trans (qeo HSELX.out fun i=>qaK cy' fun b=>zij (D2+1) P Q i (τ b)) ?_;refine Nat.le_trans (qfd fun i _=>qeo HSELY.out fun j=>zij (D2+1) P Q i j) ?_;rw [qqp];exact Nat.mul_le_mul HNRP.out HNRQ.out
    have h4:=qaD (nrm lx) (nrm ly);have h5:=qal (Nat.le_trans h1 (h2 ▸ h3));have h6:=HDL.out;omega
   have HSIMF:Hid (Sim (poly (D2+1) (n+n' - 1) fun k=>qaK (c k) (S k)) (pmul lx ly)):=by
    refine Sim.trans HMI.out.2.2.2.2.1 (Sim.trans ?_ ((qlZ (D2+1) n n' P Q).symm.trans (Sim.pmul HSP.out HSQ.out)))
    have hzij : ∀ i j,Sim (P i) []∨Sim (Q j) []->Sim (zij (D2+1) P Q i j) []:=by
     intro i j hh;unfold zij
     have:Sim (pmul (P i) (Q j)) []:=by
      rcases hh with h | h
      ·exact h.pmul_left (Q j)
      ·exact (h.pmul_right (P i)).trans (by rw [qdM];exact Sim.refl _)
     exact this.shift _
    have hnil : ∀ m (F:Nat->List Tm),(∀ j,j<m->Sim (F j) [])->Sim (qaK m F) []:=by
     intro m F h
     induction m with
     | zero=>exact Sim.refl _
     | succ m ih=>
      rw [qar];have:=(ih fun j hj=>h j (by omega)).append (h m (by omega));simpa using this
    refine Sim.trans (qjl HSELX.out (fun i=>qaK cy' fun b=>zij (D2+1) P Q i (τ b)) fun i hi hz=>?_) (qcG fun i hi=>qjl HSELY.out (fun j=>zij (D2+1) P Q i j) fun j hj hz=>?_)
    ·refine hnil _ _ fun j _=>hzij i (τ j) (.inl ?_)
     exact Classical.byContradiction fun hc=>by have:=(HNZX.out i hi).2 hc;rw [hz] at this;cases this
    ·refine hzij i j (.inr ?_)
     exact Classical.byContradiction fun hc=>by have:=(HNZY.out j hj).2 hc;rw [hz] at this;cases this
   have HBP8:=Lib.hid HMI8.out.1.blk;have HE8:=Lib.hid HMI8.out.2.2.1;have hszr2:=HMI.out.2.1.1;have hw7o:=HMI.out.1.blk.lt;have HQ0:Hid (Blk w8 w.heap.size 33 4 (arr #[.int .i64 ((D2:Int)+1),.bool bX,.slice aX nX pX,.slice (some ⟨b,off,none⟩) n cap])):=HG0.out.of_heap (HMI8.out.2.1.2 _ HG0.out.lt (by omega));have HQ2:Hid (Blk w8 (w.heap.size+2) 33 4 (arr #[.int .i64 0,.bool false,.slice none 0 0,.slice none 0 0])):=HG2.out.of_heap (HMI8.out.2.1.2 _ HG2.out.lt (by omega));clear hown hgrow hBk he8 HMI HMI8;go_wp2
   go_loopw [156] (fun i wr=>∃ k:Nat,k<=n+n' - 1/\i = .int .i64 k/\wo.heap.size+1<=wr.heap.size/\Hid (qax (Mx (Mx M w.heap.size (w2.heap.size+1)) wo.heap.size (wo.heap.size+1)) wr D2 wo.heap.size (n+n' - 1) (fun i=>if i<k then qaK (c i) (S i) else []))/\Hid (Ext w wr)/\Hid (Kp (fun b=>b=wo.heap.size) w8 wr)) (fun i _=>(n+n' - 1) - (intOf i).toNat)
   case atStart=>exact ⟨0,Nat.zero_le _,rfl,hs8,HKF.out.congr fun i _=>by rw [if_neg (by omega)];exact Sim.refl _,HE8,Kp.refl _ _⟩
   case round=>
    clear HKF HE8;obtain ⟨k,hk,rfl,hsz,HK,HEW,HKP⟩:=hrel
    by_cases hlt2:k<n+n' - 1
    ·obtain ⟨va,vc,hv0⟩:=(HKR8.out k hlt2).form;have s0:=HBP8.out.cell hlt2;rw [<- HKP.out.cell HBP8.out.lt (by omega),hv0] at s0
     have hgpw:w2.heap.size<wr.heap.size:=by have:=HKP.out.1;have:=HBP8.out.lt;omega
     have hKRk:=HKR8.out k hlt2;rw [hv0] at hKRk;have hkr:qbA (Mx (Mx M w.heap.size (w2.heap.size+1)) wo.heap.size (wo.heap.size+1)) wr D2 (.slice va (c k) vc) (c k) (S k):=hKRk.kp (HKP.out.mono fun b hb=>by subst hb;exact Mx.at (by omega));have hMk:Mb (Mx (Mx M w.heap.size (w2.heap.size+1)) wo.heap.size (wo.heap.size+1)) wr:=Mx.mb (Mx.mb hM HEW.out.size (by omega)) (Nat.le_refl _) (by omega);have CTR:=Lib.hid (qpa D2 _ _ _ _ wr hMk hkr (HNL.out k hlt2))
     have hkk:(k:Int)<((n+n' - 1:Nat):Int):=by omega
     have hkk0:(0:Int)<=(k:Int):=Int.natCast_nonneg _;clear hKRk hkr hMk hv0;go_wp2_with (fail);refine (CTR.out).mono ?_;rintro e w9 ⟨d0,d1,d2,d3,rfl,hCR,he9⟩;obtain ⟨lv2,b2,a2,n2,p2,ka2,kn2,kp2,rfl,rfl,rfl,rfl,_⟩:=hCR.form;have hK4:=HK.out.ext he9;obtain ⟨⟨_,k0⟩,⟨_,k1⟩,⟨_,k2⟩,⟨_,k3⟩,hfr,hg4⟩:=hK4.at k hlt2;have hf0:=hfr (k*4);have hf1:=hfr (k*4+1);have hf2:=hfr (k*4+2);have hf3:=hfr (k*4+3)
     have HK5:Hid (qax (Mx (Mx M w.heap.size (w2.heap.size+1)) wo.heap.size (wo.heap.size+1)) (set4 w9 wo.heap.size (k*4) (.int .i64 lv2) (.bool b2) (.slice a2 n2 p2) (.slice ka2 kn2 kp2)) D2 wo.heap.size (n+n' - 1) (fun i=>if i<k+1 then qaK (c i) (S i) else [])):=by
      refine (hK4.set (Mx.at (by omega)) k hlt2 hCR).congr fun i _=>?_
      by_cases hik:i=k
      ·subst hik;rw [if_pos rfl,if_pos (by omega)];exact Sim.refl _
      ·rw [if_neg hik]
       by_cases h3:i<k
       ·rw [if_pos h3,if_pos (by omega)];exact Sim.refl _
       ·rw [if_neg h3,if_neg (by omega)];exact Sim.refl _
     have HE5:Hid (Ext w (set4 w9 wo.heap.size (k*4) (.int .i64 lv2) (.bool b2) (.slice a2 n2 p2) (.slice ka2 kn2 kp2))):=(HEW.out.trans he9).set4 (by omega) _ _ _ _ _;have HKP5:Hid (Kp (fun b=>b=wo.heap.size) w8 (set4 w9 wo.heap.size (k*4) (.int .i64 lv2) (.bool b2) (.slice a2 n2 p2) (.slice ka2 kn2 kp2))):=(HKP.out.trans (Kp.of_ext he9)).trans (Kp.set4 (M:=fun b=>b=wo.heap.size) (g:=wo.heap.size) rfl _ _ _ _ _)
     have HSZ5:Hid (wo.heap.size+1<=(set4 w9 wo.heap.size (k*4) (.int .i64 lv2) (.bool b2) (.slice a2 n2 p2) (.slice ka2 kn2 kp2)).heap.size):=by show _<=_;rw [qaq];have:=he9.size;omega
     clear hK4 hfr hCR he9 s0;go_wp2
     go_roundw
     case rel=>exact ⟨k+1,by omega,by go_num,HSZ5.out,HK5,HE5,HKP5⟩
     case measure=>simp [intOf];omega
    ·have hkn:k=n+n' - 1:=by omega
     have hQ0:=HQ0.out.of_heap (HKP.out.2 _ HQ0.out.lt (by omega));have hQ2:=HQ2.out.of_heap (HKP.out.2 _ HQ2.out.lt (by omega));have x0:=hQ0.cell (i:=0) (by omega);simp only [arr] at x0;have hx0l:=hQ0.lt
     have HKR:Hid (qbA (Mx M w.heap.size (w.heap.size+3)) wr D2 (.slice (some ⟨wo.heap.size,0,none⟩) (n+n' - 1) (n+n' - 1)) (n+n' - 1) (fun i=>qaK (c i) (S i))):=by
      refine qbA.congr (qbA.of_kids (HK.out.more fun g hg=>.inl (.inl (hg.imp id fun h=>by omega))) (fun hh=>hh.elim (hM.new (by omega)) (by omega)) (by omega)) fun i hi=>?_;rw [if_pos (by omega)];exact Sim.refl _
     have CTR:=Lib.hid (qir (Mx M w.heap.size (w.heap.size+3)) D2 _ _ _ wr (Mx.mb hM HEW.out.size (by omega)) hD4 HKR.out);have HQ2':=Lib.hid hQ2;have hk':decide (k<n+n' - 1)=false:=decide_eq_false hlt2;clear hQ0 hQ2 hkn;go_wp2_with (fail);refine (CTR.out).mono ?_;rintro e w9 ⟨d0,d1,d2,d3,rfl,hCR,he9⟩;obtain ⟨lv2,b2,a2,n2,p2,ka2,kn2,kp2,rfl,rfl,rfl,rfl,_⟩:=hCR.form;obtain ⟨⟨q0,q1,q2,q3⟩,⟨f0,f1,f2,f3⟩,⟨r0,r1,r2,r3⟩,HF⟩:=qit (M:=M) (w:=w) (L:=L) (HQ2'.out.ext he9) (Mx.at (by omega)) (by omega) (HEW.out.trans he9) ((hCR.up hDL).sim HSIMF.out) Mx.sub;simp only [arr] at q0 q1 q2 q3;clear hCR he9;go_wp2;exact bodyPost_ret (v:=.agg #[.int .i64 lv2,.bool b2,.slice a2 n2 p2,.slice ka2 kn2 kp2]) (by simp [results,Tryz.results118,go_sem,r0,r1,r2,r3]) rfl HF.out
theorem qr4 (L:Nat):qki L:=by
 induction L using Nat.strongRecOn with
 | _ L ih=>exact qol L (fun D hD=>ih D hD) (qsr L fun D hD=>ih D hD)
end Go.Proofs.YtmcfpnmoklnhoaaGreat
