/- Mg -/
import Derived.Test.YtmcfpnmoklnhoaaGreatMf
set_option linter.unusedVariables false
set_option maxRecDepth 100000
set_option maxHeartbeats 400000000
set_option linter.unusedSimpArgs false
namespace Go.Proofs.YtmcfpnmoklnhoaaGreat
open Go.RowKit
theorem Tryz.qvQ:(Tryz.prog.info? 31).map (λi=>(i.zero,i.size,i.bytes))=some (some (.slice none 0 0),1,24):=by kernel_rfl
def Bj(gp k0 bx b o b' o':Nat)(vk X3 Y3:Value)(u t:PE)(w:World):Prop:=w.cell? ⟨gp,k0,none⟩=some vk/\w.cell? ⟨bx,3,none⟩=some X3/\w.cell? ⟨bx+1,3,none⟩=some Y3/\eX w b o u/\eX w b' o' t
theorem Bj.heap{gp k0 bx b o b' o':Nat}{vk X3 Y3:Value}{u t:PE}{w w':World}(h:Bj gp k0 bx b o b' o' vk X3 Y3 u t w)(he:∀q,q=gp\/q=bx\/q=bx+1\/q=b\/q=b'->w'.heap[q]?=w.heap[q]?):Bj gp k0 bx b o b' o' vk X3 Y3 u t w':=by
 have hc:∀q o,q=gp\/q=bx\/q=bx+1\/q=b\/q=b'->w'.cell? ⟨q,o,none⟩=w.cell? ⟨q,o,none⟩:=λq o hq=>World.cell?_of_block (w:=w) (he q hq);obtain⟨h1,h2,h3,⟨h4,h5,h6,h7⟩,h8,h9,OZ,h11⟩:=h;refine⟨?_,?_,?_,⟨?_,?_,?_,?_⟩,?_,?_,?_,?_⟩
 ·rw[hc _ _ (by simp)];exact h1
 ·rw[hc _ _ (by simp)];exact h2
 ·rw[hc _ _ (by simp)];exact h3
 ·rw[hc _ _ (by simp)];exact h4
 ·rw[hc _ _ (by simp)];exact h5
 ·rw[hc _ _ (by simp)];exact h6
 ·rw[hc _ _ (by simp)];exact h7
 ·rw[hc _ _ (by simp)];exact h8
 ·rw[hc _ _ (by simp)];exact h9
 ·rw[hc _ _ (by simp)];exact OZ
 ·rw[hc _ _ (by simp)];exact h11
theorem Bj.ext{gp k0 bx b o b' o':Nat}{vk X3 Y3:Value}{u t:PE}{w w':World}(h:Bj gp k0 bx b o b' o' vk X3 Y3 u t w)(he:Ext w w'):Bj gp k0 bx b o b' o' vk X3 Y3 u t w':=
 h.heap λq hq=>he.heap (by
  obtain⟨h1,h2,h3,⟨h4,_⟩,h8,_⟩:=h;rcases hq with rfl|rfl|rfl|rfl|rfl
  ·exact World.block_lt_of_cell? _ _ h1
  ·exact World.block_lt_of_cell? _ _ h2
  ·exact World.block_lt_of_cell? _ _ h3
  ·exact World.block_lt_of_cell? _ _ h4
  ·exact World.block_lt_of_cell? _ _ h8)
theorem rE.qay{M:Nat->Prop}{B0:Nat}{w wa wb:World}{D gp K:Nat}{v:Nat->Value}{c:Nat->Nat}{xx:Nat->Nat->PE}{S:Nat->Nat->List Tm}(_:rE M B0 w D gp K v c xx S){k0:Nat}(hk:k0<K){gg:Nat}{y:PE}{l:List Tm}
 (hg:wa.grownBy wb (v k0).ownBlock) (hat:(v k0).ownBlock=some gg\/wa.heap.size<=gg) (hy:aI (MP M v K) wa D y l):aI (λb=>MP M v K b\/b=gg) wb D y l:=by
 refine(hy.more ?_).kp (Kp.grown hg λq hq=>.inl (.inr ⟨k0,hk,hq⟩));rintro b (hb|rfl)
 ·exact .inl hb
 ·rcases hat with h1|h1
  ·exact .inl (.inr ⟨k0,hk,h1⟩)
  ·exact .inr h1
theorem rE.qgK{M:Nat->Prop}{B0:Nat}{w wc:World}{D gp K:Nat}{v:Nat->Value}{c:Nat->Nat}{xx:Nat->Nat->PE}{S:Nat->Nat->List Tm}(h:rE M B0 w D gp K v c xx S){k0:Nat}{gg n cap2:Nat}{y:PE}{l:List Tm}(u:Value)
 (hy:aI (λb=>MP M v K b\/b=gg) wc D y l):aI (MP M (jc v k0 (.slice (some ⟨gg,0,none⟩) n cap2)) K) (wc.setCell ⟨gp,k0,none⟩ u) D y l:=by
 refine(hy.kp (Kp.set _ _ (p:=⟨gp,k0,none⟩) (.inl (.inl h.OX)) _)).more ?_;rintro b (hb|⟨k,jS,e⟩)
 ·exact .inl (.inl (.inl hb))
 ·by_cases hkk:k=k0
  ·subst hkk;rw[jJ]at e;cases e;exact .inl (.inr rfl)
  ·rw[oD _ _ _ _ hkk]at e;exact .inl (.inl (.inr ⟨k,jS,e⟩))
theorem qnb{w:World}{base g cap c:Nat}{f:Nat->Value}(h:Own w base 33 4 (.slice (some ⟨g,0,none⟩) (c+1) cap) (c+1) f):(∃e,w.cell? ⟨g,c*4,none⟩=some e)/\(∃e,w.cell? ⟨g,c*4+1,none⟩=some e)/\(∃e,w.cell? ⟨g,c*4+2,none⟩=some e)/\(∃e,w.cell? ⟨g,c*4+3,none⟩=some e)/\(∀o,w.frozen? ⟨g,o,none⟩=false)/\g<w.heap.size/\c+1<=cap/\cap<=maxLen:=by
 rcases h with⟨h1,_⟩|⟨g',cap',F,h1,hg,hB,hc,hm,hF⟩
 ·cases h1
 ·simp only[Value.slice.injEq,Option.some.injEq,Addr.mk.injEq,and_true,true_and]at h1;obtain⟨rfl,rfl⟩:=h1;exact⟨⟨_,hB.cell (by omega)⟩,⟨_,hB.cell (by omega)⟩,⟨_,hB.cell (by omega)⟩,⟨_,hB.cell (by omega)⟩,hB.frozen,hB.lt,hc,hm⟩
def vY(M:Nat->Prop)(w w7 wr:World)(gp D K:Nat)(acc:List Tm)(cnt:Nat)(v:Nat->Value)(c:Nat->Nat)(xx:Nat->Nat->PE)(S:Nat->Nat->List Tm):Prop:=
 rE M w7.heap.size wr D gp K v c xx S/\Kp (λb=>b=gp) w7 wr/\Ext w wr/\(∀k,c k<=cnt)/\ae (aJ (D+1) K λk=>bB (c k) (S k)) acc/\aC (aJ (D+1) K λk=>bB (c k) (S k))=aC acc
theorem vY.ext{M:Nat->Prop}{w w7 wr w':World}{gp D K:Nat}{acc:List Tm}{cnt:Nat}{v:Nat->Value}{c:Nat->Nat}{xx:Nat->Nat->PE}{S:Nat->Nat->List Tm}(h:vY M w w7 wr gp D K acc cnt v c xx S)(he:Ext wr w'):vY M w w7 w' gp D K acc cnt v c xx S:=
 ⟨h.1.ext he,h.2.1.trans (Kp.jC he),h.2.2.1.trans he,h.2.2.2⟩
theorem vY.step{M:Nat->Prop}{w w7 wr wa wb wc:World}{gp D K:Nat}{acc:List Tm}{cnt:Nat}{v:Nat->Value}{c:Nat->Nat}{xx:Nat->Nat->PE}{S:Nat->Nat->List Tm}(h:vY M w w7 wr gp D K acc cnt v c xx S){k0:Nat}(hk:k0<K){gg cap2:Nat}{y:PE}{l:List Tm}(hw:w.heap.size<=gp)(En:gp<w7.heap.size)
 (he:Ext wr wa) (hO:Own wb w7.heap.size 33 4 (.slice (some ⟨gg,0,none⟩) (c k0+1) cap2) (c k0+1) (px (snoc (xx k0) (c k0) y))) (hg:wa.grownBy wb (v k0).ownBlock) (hat:(v k0).ownBlock=some gg\/wa.heap.size<=gg)
 (aA:Ext wb wc) (hy:aI (λb=>MP M v K b\/b=gg) wc D y l):
 vY M w w7 (wc.setCell ⟨gp,k0,none⟩ (.slice (some ⟨gg,0,none⟩) (c k0+1) cap2)) gp D K (acc++shift (xp (D+1) (k0:Int)) l) (cnt+1) (jc v k0 (.slice (some ⟨gg,0,none⟩) (c k0+1) cap2)) (jc c k0 (c k0+1)) (jc xx k0 (snoc (xx k0) (c k0) y)) (jc S k0 (snoc (S k0) (c k0) l)):=by
 obtain⟨h1,h2,h3,h4,h5,h6⟩:=h;have Cj:∀b,(v k0).ownBlock=some b->w7.heap.size<=b:=λb hb=>((h1.own k0 hk).lt b hb).1;obtain⟨p1,p2⟩:=qda (L:=D+1) hk (F:=λk=>bB (c k) (S k)) (F':=λk=>bB (jc c k0 (c k0+1) k) (jc S k0 (snoc (S k0) (c k0) l) k)) (l:=l) (λk _ hne=>by simp only[oD _ _ _ _ hne]) (by simp only[jJ];exact qdd _ _ _);have hw7:=h2.1;refine⟨h1.step hk he hO hg hat aA hy,⟨?_,λb hb hne=>?_⟩,?_,λk=>?_,?_,?_⟩
 ·have:=he.size;have:=hg.size;have:=aA.size;simp[World.setCell];omega
 ·have hba:b<wa.heap.size:=by have:=he.size;omega
  have LP:b<wb.heap.size:=by have:=hg.size;omega
  rw[Below.heap_setCell _ _ _ _ hne,aA.heap LP,hg.block b hba (λe=>by have:=Cj b e.symm;omega),he.heap (by omega)];exact h2.2 b hb hne
 ·exact(((h3.trans he).grown hg (λb hb=>by have:=Cj b hb;omega)).trans (Ext.trans (Ext.refl _) aA)).set (by exact hw) _
 ·by_cases hkk:k=k0
  ·subst hkk;rw[jJ];have:=h4 k;omega
  ·rw[oD _ _ _ _ hkk];have:=h4 k;omega
 ·exact p1.trans (h5.append (ae.refl _))
 ·rw[p2,h6,kT,yu]
theorem vY.replace{M:Nat->Prop}{w w7 wr:World}{gp D K:Nat}{acc:List Tm}{cnt:Nat}{v:Nat->Value}{c:Nat->Nat}{xx:Nat->Nat->PE}{S:Nat->Nat->List Tm}{k0 q:Nat}{vk:Value}{sk:Nat->PE}{Sk:Nat->List Tm}(h:vY M w w7 wr gp D K acc cnt (jc v k0 vk) (jc c k0 (q+1)) (jc xx k0 sk) (jc S k0 (snoc Sk q [])))(hk:k0<K){gg cap2:Nat}{y:PE}{l:List Tm}(hw:w.heap.size<=w7.heap.size)
 (hv:vk=.slice (some ⟨gg,0,none⟩) (q+1) cap2) (hy:aI (MP M (jc v k0 vk) K) wr D y l):
 ∃xx' S',vY M w w7 (aH wr gg (q*4) (.int .i64 y.lv) (.bool y.b) (.slice y.a y.n y.p) (.slice y.ka y.kn y.kp)) gp D K (acc++shift (xp (D+1) (k0:Int)) l) cnt (jc v k0 vk) (jc c k0 (q+1)) xx' S':=by
 obtain⟨h1,h2,h3,h4,h5,h6⟩:=h;have Gi:w7.heap.size<=gg:=((h1.own k0 hk).lt gg (by rw[jJ,hv];rfl)).1
 obtain⟨p1,p2⟩:=qda (L:=D+1) hk (F:=λk=>bB (jc c k0 (q+1) k) (jc S k0 (snoc Sk q []) k)) (F':=λk=>bB (jc c k0 (q+1) k) (jc (jc S k0 (snoc Sk q [])) k0 (jc (jc S k0 (snoc Sk q []) k0) q l) k)) (l:=l) (λk _ hne=>by simp only[oD _ _ _ _ hne]) (by
  simp only[jJ];rw[kr,kr,jJ,tH,List.append_nil]
  congr 1
  exact qnw λi hi=>by rw[oD _ _ _ _ (by omega)])
 refine⟨_,_,h1.replace hk (gg:=gg) (cap2:=cap2) (q:=q) (y:=y) (l:=l) (by rw[jJ,jJ];exact hv) (by rw[jJ];omega) hy,⟨?_,λb hb hne=>?_⟩,h3.aH (by omega) _ _ _ _ _,h4,p1.trans (h5.append (ae.refl _)),?_⟩
 ·rw[lU];exact h2.1
 ·rw[il _ _ _ _ _ _ _ _ (by omega)];exact h2.2 b hb hne
 ·rw[p2,h6,kT,yu]
theorem mul_eq(L:Nat)(ih:∀D,D<L->Tj D):qgn L:=by
 intro M lx ly B1 C1 X Y w hM hX hY ky O9 Pb O5 hXY nO EI EJ;obtain⟨i0,hi,hz0,hz1,hz2⟩:=info_parts Tryz.yo;obtain⟨j0,hj,qvC,qvD,qvE⟩:=info_parts Tryz.qvQ;obtain⟨lvX,bX,aX,nX,pX,kaX,n,cap⟩:=X;obtain⟨lvY,bY,aY,nY,pY,kaY,n',cap'⟩:=Y;unfold aI at hX hY;simp only at hX hY hXY nO EI EJ;subst hXY;obtain⟨D,zn,jk,uw,_,_,b,off,n1,uj,P,dR,dO,oH,lu,eu,kP,gm,hb,pq,dh,bT,fF,eB,jo⟩:=hX.GX nO;obtain⟨D2,qtr,_,_,_,_,b',off',n1',qra,Q,Vr,Vs,QK,j6,knL,knc,kcm,kb,kMb,QL,QM,Vv,JD,knr⟩:=hY.GX nO
 have:D2=D:=by omega
 subst this;simp only[Value.bool.injEq,Value.slice.injEq]at dR dO oH Vr Vs QK;obtain⟨rfl,rfl,rfl⟩:=oH;obtain⟨rfl,rfl,rfl⟩:=QK;subst zn;clear dR dO Vr Vs qtr nO;obtain⟨lZ,wJ⟩:=BD jk (by omega) bT fF (O9.bZ eB.symm);obtain⟨kdn,kdk⟩:=BD jk (by omega) QM Vv (Pb.bZ JD.symm);have xq:=Lib.hid dh;have yM:=Lib.hid QL;have YD:=Lib.hid eB;have N9:=Lib.hid JD;have qpV:=Lib.hid jo;have qpW:=Lib.hid knr;have E8:=Lib.hid wJ;have XK:=Lib.hid kdk;have Di:=Lib.hid ky;have oL:=Lib.hid O5;have Su:Hid (∀i,i<n->aC (P i)<=aC lx):=λi hi=>Nat.le_trans (JL (D2+1) n P i hi) jo;have Kj:Hid (∀i,i<n'->aC (Q i)<=aC ly):=λi hi=>Nat.le_trans (JL (D2+1) n' Q i hi) knr;have yJ:=Lib.hid (ih D2 (by omega));have uu:(0:Int)<=(D2:Int):=Int.natCast_nonneg _
 have xS:((D2:Int)+1==0)=false:=by simp;omega
 have qur:decide ((D2:Int)+1<(D2:Int)+1)=false:=decide_eq_false (by omega);have aQ:Ext w (((w.alloc (.cells #[.int .i64 ((D2:Int)+1),.bool bX,.slice aX nX pX,.slice (some ⟨b,off,none⟩) n cap] 33)).alloc (.cells #[.int .i64 ((D2:Int)+1),.bool bY,.slice aY nY pY,.slice (some ⟨b',off',none⟩) n' cap'] 33)).alloc (.cells #[.int .i64 0,.bool false,.slice none 0 0,.slice none 0 0] 33)):=(((Ext.refl w).alloc _).alloc _).alloc _;have b0:=((ak.bf w #[.int .i64 ((D2:Int)+1),.bool bX,.slice aX nX pX,.slice (some ⟨b,off,none⟩) n cap] 33 4 rfl).alloc (.cells #[.int .i64 ((D2:Int)+1),.bool bY,.slice aY nY pY,.slice (some ⟨b',off',none⟩) n' cap'] 33)).alloc (.cells #[.int .i64 0,.bool false,.slice none 0 0,.slice none 0 0] 33);have b1:=(ak.bf (w.alloc (.cells #[.int .i64 ((D2:Int)+1),.bool bX,.slice aX nX pX,.slice (some ⟨b,off,none⟩) n cap] 33)) #[.int .i64 ((D2:Int)+1),.bool bY,.slice aY nY pY,.slice (some ⟨b',off',none⟩) n' cap'] 33 4 rfl).alloc (.cells #[.int .i64 0,.bool false,.slice none 0 0,.slice none 0 0] 33);have b2:=ak.bf ((w.alloc (.cells #[.int .i64 ((D2:Int)+1),.bool bX,.slice aX nX pX,.slice (some ⟨b,off,none⟩) n cap] 33)).alloc (.cells #[.int .i64 ((D2:Int)+1),.bool bY,.slice aY nY pY,.slice (some ⟨b',off',none⟩) n' cap'] 33)) #[.int .i64 0,.bool false,.slice none 0 0,.slice none 0 0] 33 4 rfl;simp only[World.size_alloc]at b1 b2
 have wT:w.heap.size+3<=(((w.alloc (.cells #[.int .i64 ((D2:Int)+1),.bool bX,.slice aX nX pX,.slice (some ⟨b,off,none⟩) n cap] 33)).alloc (.cells #[.int .i64 ((D2:Int)+1),.bool bY,.slice aY nY pY,.slice (some ⟨b',off',none⟩) n' cap'] 33)).alloc (.cells #[.int .i64 0,.bool false,.slice none 0 0,.slice none 0 0] 33)).heap.size:=by simp
 have Bw:=λW=>He ((D2:Int)+1) bX aX nX pX (some ⟨b,off,none⟩) n cap W;have BA:=λW=>He ((D2:Int)+1) bY aY nY pY (some ⟨b',off',none⟩) n' cap' W;rw[EI]at Bw;rw[EJ]at BA;have CTX:=Lib.hid Bw;have CTY:=Lib.hid BA;have gB:=Lib.hid aQ;have gQ:=Lib.hid b0;have cB:=Lib.hid b1;have fH:=Lib.hid b2;have Fy:=Lib.hid wT;clear hX hY dh QL bT QM fF Vv eB JD jo knr wJ kdk ky O9 Pb O5 ih EI EJ Bw BA aQ b0 b1 b2 wT;have HR:Hid (ae (ai lx ly) (ai lx ly)):=ae.refl _
 go_enter Tryz.func118,Tryz.ntmps118
 go_wp2_with (fail);refine(CTX.out _).mono ?_;rintro e w1 ⟨rfl,af⟩;have dP:=af.size;have hw1:w.heap.size+3<=w1.heap.size:=Nat.le_trans Fy.out dP;clear dP;have oM:=Lib.hid (gQ.out.ext af);have De:=Lib.hid (cB.out.ext af);have mf:=Lib.hid (fH.out.ext af);have aL:=Lib.hid (gB.out.trans af);have y0:=De.out.cell (i:=0) (by omega);have y1:=De.out.cell (i:=1) (by omega);have y2:=De.out.cell (i:=2) (by omega);have y3:=De.out.cell (i:=3) (by omega);simp only[arr]at y0 y1 y2 y3
 have hv2:w.heap.size+1<w1.heap.size:=by omega
 clear af gQ cB fH gB Fy;go_wp2_with (fail);refine(CTY.out _).mono ?_;rintro e w2 ⟨rfl,aA⟩;have hs2:=aA.size
 have l6:w.heap.size+3<=w2.heap.size:=by omega
 have Dh:=Lib.hid (oM.out.ext aA);have RO:=Lib.hid (De.out.ext aA);have uM:=Lib.hid (mf.out.ext aA);have aU:=Lib.hid (aL.out.trans aA);clear aA oM De mf aL y0 y1 y2 y3 hv2 hs2;have x0:=Dh.out.cell (i:=0) (by omega);have x3:=Dh.out.cell (i:=3) (by omega);have y0:=RO.out.cell (i:=0) (by omega);have y3:=RO.out.cell (i:=3) (by omega);simp only[arr]at x0 x3 y0 y3
 have hu1:w.heap.size<w2.heap.size:=by omega
 have oJ:w.heap.size+1<w2.heap.size:=by omega
 have hKL:n+n'<=1099511627776:=by
  have h1:n*n'<=(B1+1)*(C1+1):=Nat.mul_le_mul lZ kdn;have h2:=oL.out
  have h3:n+n'<=n*n':=by
   obtain⟨p,rfl⟩:∃p,n=p+2:=⟨n-2,by omega⟩;obtain⟨q,rfl⟩:∃q,n'=q+2:=⟨n'-2,by omega⟩;rw[Nat.add_mul,Nat.mul_add];omega
  omega
 have xz:Hid (n*n'<=1099511627776):=Nat.le_trans (Nat.mul_le_mul lZ kdn) oL.out
 go_wp2_with (at_make;go_must (refine wpList_make_full _ rfl _ _ _ rfl w2.heap.size 31 j0 (.slice none 0 0) 1 Tryz.underlying176 hj qvC qvD .i64 .i64 _ _ (n+n'-1) rfl rfl ?m4 ?m5 ?m2 ?m3 ?m6 ?_))
 case m2=>rw[qvE];omega
 case m3=>unfold maxLen;omega
 case m4=>omega
 case m5=>omega
 case m6=>omega
 intro w5 hown hgrow;have bI:=ak.Am hown;have aR:=lM hgrow;have En:w2.heap.size<w5.heap.size:=bI.lt;have HBP:=Lib.hid bI;have eD:=Lib.hid (aU.out.trans aR);have NG:=Lib.hid (Dh.out.ext aR);have NH:=Lib.hid (RO.out.ext aR);have dY:=Lib.hid (uM.out.ext aR);rw[<-aR.cell hu1]at x0 x3;rw[<-aR.cell oJ]at y0 y3
 have GI:w.heap.size<w5.heap.size:=by omega
 have ht2:w.heap.size+1<w5.heap.size:=by omega
 have yP:Hid (Mb (Mx M w.heap.size (w2.heap.size+1)) w5):=Mx.mb hM eD.out.size (by omega);have HKX:Hid (dV (Mx M w.heap.size (w2.heap.size+1)) w5 D2 (.slice (some ⟨b,off,none⟩) n cap) n P):=(dV.ext (dV.more ⟨eu,.inr ⟨b,off,cap,rfl,kP,gm,⟨hb,pq⟩,xq.out⟩⟩ (Mx.more (Nat.le_refl _))) eD.out);have HKY:Hid (dV (Mx M w.heap.size (w2.heap.size+1)) w5 D2 (.slice (some ⟨b',off',none⟩) n' cap') n' Q):=(dV.ext (dV.more ⟨knL,.inr ⟨b',off',cap',rfl,knc,kcm,⟨kb,kMb⟩,yM.out⟩⟩ (Mx.more (Nat.le_refl _))) eD.out);clear hown hgrow bI aR aU Dh RO uM hu1 oJ;go_wp2_with (fail);refine(qnX _ D2 _ n' Q w5 yP.out HKY.out).mono ?_;rintro e w6 ⟨uy,qj,τ,nzy,rfl,Ph,qjq,qk5,fe⟩;rw[<-fe.cell GI]at x0 x3;rw[<-fe.cell ht2]at y0 y3;have Jr:=fe.size
 have ht3:w.heap.size<w6.heap.size:=by omega
 have ht4:w.heap.size+1<w6.heap.size:=by omega
 have Sa:=Lib.hid Ph;have SH:=Lib.hid qjq;have qp0:=Lib.hid qk5;have fw:=Lib.hid fe;clear Ph qjq qk5 fe;go_wp2_with (fail);refine(qnX _ D2 _ n P w6 (yP.out.ext fw.out) (HKX.out.ext fw.out)).mono ?_;rintro e w7 ⟨ux,Uc,σ,nzx,rfl,Pg,qbb,qk4,fE⟩;have hs7:=fE.size;have R9:=Lib.hid Pg;have qeT:=Lib.hid (Sa.out.ext fE);have YC:=Lib.hid qbb;have qpZ:=Lib.hid qk4;have iB:=Lib.hid (fw.out.trans fE);have UI:=qbb.len;have Eh:=SH.out.len;clear Pg qbb qk4 fE;obtain⟨ax,apx,rfl⟩:=R9.out.form;obtain⟨ay,apy,rfl⟩:=qeT.out.form
 have Fu:Hid (rE (Mx M w.heap.size (w2.heap.size+1)) w7.heap.size w7 D2 w2.heap.size (n+n'-1) (λ_=>.slice none 0 0) (λ_=>0) (λ_ _=>PE.z) (λ_ _=>[])):=by
  refine⟨HBP.out.ext iB.out,λk _=>Own.nil _ _ _ _ _,(λk k' _ _ _ b hb=>by cases hb),(λk _ i hi=>by omega),Mx.at (by omega),by omega,yP.out.ext iB.out,λg hg=>?_⟩;exact(yP.out.ext iB.out) g hg
 have ru:=Lib.hid (NG.out.ext iB.out);have xm:=Lib.hid (NH.out.ext iB.out);have HG2:=Lib.hid (dY.out.ext iB.out);have qeD:=Lib.hid (eD.out.trans iB.out);clear x0 x3 y0 y3 Sa NG NH dY fw HBP;go_wp2
 go_loopw [87] (λi wr=>∃(a:Nat)(v:Nat->Value)(c:Nat->Nat)(xx:Nat->Nat->PE)(S:Nat->Nat->List Tm),a<=Uc/\i=.int .i64 a/\Hid (vY (Mx M w.heap.size (w2.heap.size+1)) w w7 wr w2.heap.size D2 (n+n'-1) (bB a λa=>bB qj λb=>kU (D2+1) P Q (σ a) (τ b)) (a*qj) v c xx S)) (λi _=>Uc-(intOf i).toNat)
 case atStart=>
  have hz:∀K,aJ (D2+1) K (λk=>bB 0 (λ_=>([]:List Tm)))=[]:=by
   intro K
   induction K with
   |zero=>rfl
   |succ K ih=>rw[fK,ih];rfl
  exact⟨0,_,_,_,_,Nat.zero_le _,rfl,Fu.out,Kp.refl _ _,qeD.out,λk=>by simp,by rw[hz];exact ae.refl _,by rw[hz];rfl⟩
 case round=>
  clear Fu;obtain⟨a,v,c,xx,S,ha,rfl,pV⟩:=hrel;have qlq:=pV.out.2.1.1
  by_cases hlt:a<Uc
  ·obtain⟨gx,rfl,fG,oK,Ai,qvy,hx5⟩:=R9.out.at a hlt;have quv:gx≠w2.heap.size:=λe=>qvy (e ▸ Mx.at (by omega));rw[<-pV.out.2.1.cell Ai quv]at hx5
   have hxw:gx<wr.heap.size:=by omega
   obtain⟨QD,hσ2⟩:=YC.out.mem a hlt;go_wp2;obtain⟨wo,rfl⟩:∃wo:World,wo=wr:=⟨_,rfl⟩
   go_loopw [93] (λi wr=>∃(q:Nat)(v:Nat->Value)(c:Nat->Nat)(xx:Nat->Nat->PE)(S:Nat->Nat->List Tm),q<=qj/\i=.int .i64 q/\Hid (vY (Mx M w.heap.size (w2.heap.size+1)) w w7 wr w2.heap.size D2 (n+n'-1) ((bB a λa=>bB qj λb=>kU (D2+1) P Q (σ a) (τ b))++bB q λb=>kU (D2+1) P Q (σ a) (τ b)) (a*qj+q) v c xx S)) (λi _=>qj-(intOf i).toNat)
   case atStart=>exact⟨0,v,c,xx,S,Nat.zero_le _,rfl,by show vY _ _ _ _ _ _ _ _ _ _ _ _ _;rw[qnz,List.append_nil];exact pV.out⟩
   case round=>
    clear pV hx5 qlq hxw;obtain⟨q,v,c,xx,S,hq,rfl,pV⟩:=hrel;have qlq:=pV.out.2.1.1
    by_cases hqc:q<qj
    ·obtain⟨gy,rfl,iy,qx,Jw,qvF,hy5⟩:=qeT.out.at q hqc;have quw:gy≠w2.heap.size:=λe=>qvF (e ▸ Mx.at (by omega));rw[<-pV.out.2.1.cell Jw quw]at hy5
     have hyw:gy<wr.heap.size:=by omega
     obtain⟨QE,hτ2⟩:=SH.out.mem q hqc;go_wp2
     go_cut [98] (λs wx=>(s=.bool true\/s=.bool false)/\Hid (Ext wr wx))
     case first=>
      go_region
      all_goals
       go_wp2_with (fail)
       go_meet
       exact⟨by simp,((Ext.refl wr).alloc _).drew⟩
     case rest=>
      obtain⟨qvj,H6⟩:=hcut;have qCw:=H6.out.size;have vU:=Lib.hid (pV.out.ext H6.out);clear pV hy5 hyw H6
      have fJ:σ a+τ q<n+n'-1:=by omega
      have iq:(0:Int)<=(σ a:Int):=Int.natCast_nonneg _;have kz:(0:Int)<=(τ q:Int):=Int.natCast_nonneg _
      have rP:(σ a:Int)<(n:Int):=by omega
      have ll:(τ q:Int)<(n':Int):=by omega
      obtain⟨va,vc,hv0⟩:=(vU.out.1.own _ fJ).form;have Im:=Lib.hid hv0;obtain⟨e0,e1,e2,e3,z0,z1,z2,z3,hCu⟩:=xq.out (σ a) QD;obtain⟨u,rfl,rfl,rfl,rfl,hu,_⟩:=hCu.pe;obtain⟨e0,e1,e2,e3,s0,s1,s2,s3,hCt⟩:=yM.out (τ q) QE;obtain⟨t,rfl,rfl,rfl,rfl,ht,_⟩:=hCt.pe
      have hS:Bj w2.heap.size (σ a+τ q) w.heap.size b (off+σ a*4) b' (off'+τ q*4) (.slice va (c (σ a+τ q)) vc) (.slice (some ⟨b,off,none⟩) n cap) (.slice (some ⟨b',off',none⟩) n' cap') u t wc.drew:=by
       refine Bj.ext (w:=wc) ⟨by rw[vU.out.1.blk.cell fJ,hv0],?_,?_,eX.ext ⟨z0,z1,z2,z3⟩ hb vU.out.2.2.1,eX.ext ⟨s0,s1,s2,s3⟩ kb vU.out.2.2.1⟩ (Ext.refl _).drew
       ·rw[vU.out.2.1.cell ru.out.lt (by omega)];exact ru.out.cell (i:=3) (by omega)
       ·rw[vU.out.2.1.cell xm.out.lt (by omega)];exact xm.out.cell (i:=3) (by omega)
      have HS:=Lib.hid hS
      have wO:∀g,MP (Mx M w.heap.size (w2.heap.size+1)) v (n+n'-1) g->M g\/w.heap.size<=g:=by
       rintro g (hg|⟨k,hk,e⟩)
       ·exact Mx.more (Nat.le_refl _) g hg
       ·have:=((vU.out.1.own k hk).lt g e).1;exact .inr (by omega)
      have HU:Hid (aI (MP (Mx M w.heap.size (w2.heap.size+1)) v (n+n'-1)) wc.drew D2 u (P (σ a))):=((hu.more wO).ext vU.out.2.2.1).ext (Ext.refl _).drew;have HT:Hid (aI (MP (Mx M w.heap.size (w2.heap.size+1)) v (n+n'-1)) wc.drew D2 t (Q (τ q))):=((ht.more wO).ext vU.out.2.2.1).ext (Ext.refl _).drew
      have zN:c (σ a+τ q)+1<=1099511627776:=by
       have h1:=vU.out.2.2.2.1 (σ a+τ q);have h2:(a+1)*qj<=n*n':=Nat.mul_le_mul (by omega) Eh;rw[Nat.add_mul]at h2;have h3:=xz.out;omega
      have kH:=Lib.hid (vU.out.ext (Ext.refl wc).drew)
      have HOW:Hid (Own wc.drew w7.heap.size 33 4 (.slice va (c (σ a+τ q)) vc) (c (σ a+τ q)) (px (xx (σ a+τ q)))):=by have:=kH.out.1.own _ fJ;rw[hv0]at this;exact this
      have yK:Hid (az (aC (P (σ a)))+az (aC (Q (τ q)))<=1099511627776):=by
       have h1:=ji (Su.out (σ a) QD);have h2:=ji (Kj.out (τ q) QE);have h3:=Di.out;show _<=_;omega
      have qcr:w7.heap.size<=wc.drew.heap.size:=kH.out.2.1.1;have qBF:=kH.out.1.blk.lt;have dI:=kH.out.1.blk.frozen (σ a+τ q);clear hCu hCt hS hu ht z0 z1 z2 z3 s0 s1 s2 s3 hv0 wO
      have L8:∀p,p=w2.heap.size\/p=w.heap.size\/p=w.heap.size+1\/p=b\/p=b'->p<w7.heap.size:=by
       intro p hp;have:=qeD.out.size;omega
      have D7:(σ a:Int)+(τ q:Int)<((n+n'-1:Nat):Int):=by omega
      have Lu:(0:Int)<=(σ a:Int)+(τ q:Int):=by omega
      have hK3:((σ a:Int)+(τ q:Int)).toNat=σ a+τ q:=by omega
      have eF:IntKind.i64.wrap ((σ a:Int)+(τ q:Int))=(σ a:Int)+(τ q:Int):=IntWalk.i64_in _ (by omega);rcases qvj with rfl|rfl
      ·go_wp2;refine fM (Bj w2.heap.size (σ a+τ q) w.heap.size b (off+σ a*4) b' (off'+τ q*4) (.slice va (c (σ a+τ q)) vc) (.slice (some ⟨b,off,none⟩) n cap) (.slice (some ⟨b',off',none⟩) n' cap') u t) 25 (by kernel_rfl) HS.out (λhHeld=>?_);(refine dF [0,1,2,3,4,5,6,7,8,9,10,11,12,13,14,15,16,17,18,19,21] ?_;(iterate 21 (refine dD (v:=?_) ?_ ?_;rotate_left 1;(intro wS hSw;obtain⟨S1,S2,S3,⟨S4,S5,S6,S7⟩,S8,S9,vZ,yZ⟩:=hSw;go_simp;try with_reducible rfl);(try simp only[Act.put,aD,aF,aG])));refine dG ?_);(refine xe 20 22 (oi:=?_) (oj:=?_) (by kernel_rfl) ?_ ?_ ?_ ?_;rotate_left 2;(simp only[iL,iM,iN];rfl);(simp only[iL,iM,iN];rfl);all_goals intro K hK)
       ·go_simp;refine(yJ.out _ _ _ _ _ _ _ _ _ _ _ _ _ _ kH.out.1.mb HU.out HT.out yK.out (E8.out _ QD) (XK.out _ QE) oL.out).mono ?_;rintro e w8 ⟨d0,d1,d2,d3,rfl,bR,lN⟩;obtain⟨y,rfl,rfl,rfl,rfl,hy,_⟩:=bR.pe;go_wp2_with (fail);refine hK.out _ _ (λ_=>hHeld.ext lN) ?_;clear hK K;(try simp only[Act.put,aD,aF,aG]);(refine aK 22 ?_;intro K hK);go_simp;have fZ:Ext wc.drew (w8.alloc (.cells #[.int .i64 0,.bool false,.slice none 0 0,.slice none 0 0] 33)):=lN.alloc _;have zD:=hHeld.ext fZ;refine hK.out _ _ (λ_=>zD) ?_;clear hK K;(try simp only[Act.put,aD,aF,aG]);(refine aK 23 ?_;intro K hK);have U9:=lN.size;refine Wi _ (by rfl) (.tmp 108) (.tmp 121) _ (by rfl) w7.heap.size 33 i0 _ 4 64 Tryz.underlying31 hi hz0 hz1 hz2 rfl (by omega) (.slice va (c (σ a+τ q)) vc) (c (σ a+τ q)) (px (xx (σ a+τ q))) (by rfl) (HOW.out.ext fZ) w8.heap.size 33 1 (arr #[.int .i64 0,.bool false,.slice none 0 0,.slice none 0 0]) (by rfl) (ak.bf w8 #[.int .i64 0,.bool false,.slice none 0 0,.slice none 0 0] 33 4 rfl) (Q5 PE.z) (by unfold maxLen;omega) (by omega) (by simp;omega) ?_;intro gg cap2 w9 jP dU hat Ew;have Gy:∀g,(Value.slice va (c (σ a+τ q)) vc).ownBlock=some g->w7.heap.size<=g:=λg hg=>(HOW.out.lt g hg).1;have vz:=zD.heap λq hq=>dU.block q (by have:=L8 q hq;simp;omega) (λe=>by have:=Gy q e.symm;have:=L8 q hq;omega);have qkk:w9.frozen? ⟨w2.heap.size,σ a+τ q,none⟩=false:=((kH.out.1.blk.ext fZ).grown dU (λe=>by have:=Gy _ e.symm;omega)).frozen _
        refine hK.out _ _ (λ_=>vz) ?_;clear hK K;(try simp only[Act.put,aD,aF,aG]);(refine aK 24 ?_;intro K hK);go_simp;refine hK.out _ _ (λ_=>vz) ?_;clear hK K;(try simp only[Act.put,aD,aF,aG]);have hc9:=vz.1;(refine aK 25 ?_;intro K hK);go_simp;refine hK.out _ _ (λh=>absurd rfl h) ?_;clear hK K;refine ek ?_;have vw:=jP.congr λj hj=>Ra (xx (σ a+τ q)) (c (σ a+τ q)) PE.z j hj;rw[<-Im.out]at dU hat;have hF:=kH.out.step (l:=[]) fJ (by omega) (by omega) fZ vw dU hat (Ext.refl w9) (CR.zero _ _ _);have Qx:=kH.out.1.qgK (k0:=σ a+τ q) (n:=c (σ a+τ q)+1) (cap2:=cap2) (.slice (some ⟨gg,0,none⟩) (c (σ a+τ q)+1) cap2) (kH.out.1.qay fJ dU hat (hy.ext ((Ext.refl w8).alloc _)));have hown:=hF.1.own _ fJ;rw[jJ,jJ]at hown;obtain⟨⟨_,g0⟩,⟨_,g1⟩,⟨_,g2⟩,⟨_,g3⟩,aV,dZ,qO,qj3⟩:=qnb hown;have fB:=aV (c (σ a+τ q)*4);have fo:=aV (c (σ a+τ q)*4+1);have lh:=aV (c (σ a+τ q)*4+2);have pG:=aV (c (σ a+τ q)*4+3);obtain⟨xx2,S2,vg⟩:=hF.replace fJ (by omega) rfl Qx;have HF:=Lib.hid vg
        have Nv:Hid (((bB a λa=>bB qj λb=>kU (D2+1) P Q (σ a) (τ b))++bB q λb=>kU (D2+1) P Q (σ a) (τ b))++shift (xp (D2+1) ((σ a+τ q:Nat):Int)) []++shift (xp (D2+1) ((σ a+τ q:Nat):Int)) (ai (P (σ a)) (Q (τ q)))=((bB a λa=>bB qj λb=>kU (D2+1) P Q (σ a) (τ b))++bB (q+1) λb=>kU (D2+1) P Q (σ a) (τ b))):=by
         show _=_;rw[kr,show shift (xp (D2+1) ((σ a+τ q:Nat):Int)) []=[]from rfl,List.append_nil,List.append_assoc];rfl
        rw[Nv.out]at HF;clear jP dU hat vw vz zD hHeld fZ hy bR lN D7 Lu hK3 eF hF vg hown Qx aV;go_wp2
        go_roundw
        case rel=>exact⟨q+1,_,_,_,_,by omega,by go_num,HF⟩
        case measure=>simp[intOf];omega
       ·go_simp;have Pd:Ext wc.drew (wc.drew.alloc (.cells #[.int .i64 0,.bool false,.slice none 0 0,.slice none 0 0] 33)):=(Ext.refl _).alloc _;refine hK.out _ _ (λ_=>hHeld.ext Pd) ?_;clear hK K;(try simp only[Act.put,aD,aF,aG]);(refine aK 20 ?_;intro K hK);go_simp;refine(yJ.out _ _ _ _ _ _ _ _ _ _ _ _ _ _ (kH.out.1.mb.ext Pd) (HU.out.ext Pd) (HT.out.ext Pd) yK.out (E8.out _ QD) (XK.out _ QE) oL.out).mono ?_;rintro e w8 ⟨d0,d1,d2,d3,rfl,bR,lN⟩;obtain⟨y,rfl,rfl,rfl,rfl,hy,_⟩:=bR.pe;go_wp2_with (fail);have fZ:Ext wc.drew w8:=Pd.trans lN;have zD:=hHeld.ext fZ;refine hK.out _ _ (λ_=>zD) ?_;clear hK K;(try simp only[Act.put,aD,aF,aG]);(refine aK 23 ?_;intro K hK);have U9:=lN.size;refine Wi _ (by rfl) (.tmp 108) (.tmp 121) _ (by rfl) w7.heap.size 33 i0 _ 4 64 Tryz.underlying31 hi hz0 hz1 hz2 rfl (by omega) (.slice va (c (σ a+τ q)) vc) (c (σ a+τ q)) (px (xx (σ a+τ q))) (by rfl) (HOW.out.ext fZ) wc.drew.heap.size 33 1 (arr #[.int .i64 0,.bool false,.slice none 0 0,.slice none 0 0]) (by rfl) ((ak.bf wc.drew #[.int .i64 0,.bool false,.slice none 0 0,.slice none 0 0] 33 4 rfl).ext lN) (Q5 PE.z) (by unfold maxLen;omega) (by omega) (by have:=fZ.size;omega) ?_;intro gg cap2 w9 jP dU hat Ew;have Gy:∀g,(Value.slice va (c (σ a+τ q)) vc).ownBlock=some g->w7.heap.size<=g:=λg hg=>(HOW.out.lt g hg).1;have vz:=zD.heap λq hq=>dU.block q (by have:=L8 q hq;have:=fZ.size;omega) (λe=>by have:=Gy q e.symm;have:=L8 q hq;omega)
        have qkk:w9.frozen? ⟨w2.heap.size,σ a+τ q,none⟩=false:=((kH.out.1.blk.ext fZ).grown dU (λe=>by have:=Gy _ e.symm;omega)).frozen _;refine hK.out _ _ (λ_=>vz) ?_;clear hK K;(try simp only[Act.put,aD,aF,aG]);(refine aK 24 ?_;intro K hK);go_simp;refine hK.out _ _ (λ_=>vz) ?_;clear hK K;(try simp only[Act.put,aD,aF,aG]);have hc9:=vz.1;(refine aK 25 ?_;intro K hK);go_simp;refine hK.out _ _ (λh=>absurd rfl h) ?_;clear hK K;refine ek ?_;have vw:=jP.congr λj hj=>Ra (xx (σ a+τ q)) (c (σ a+τ q)) PE.z j hj;rw[<-Im.out]at dU hat;have hF:=kH.out.step (l:=[]) fJ (by omega) (by omega) fZ vw dU hat (Ext.refl w9) (CR.zero _ _ _);have Qx:=kH.out.1.qgK (k0:=σ a+τ q) (n:=c (σ a+τ q)+1) (cap2:=cap2) (.slice (some ⟨gg,0,none⟩) (c (σ a+τ q)+1) cap2) (kH.out.1.qay fJ dU hat hy);have hown:=hF.1.own _ fJ;rw[jJ,jJ]at hown;obtain⟨⟨_,g0⟩,⟨_,g1⟩,⟨_,g2⟩,⟨_,g3⟩,aV,dZ,qO,qj3⟩:=qnb hown;have fB:=aV (c (σ a+τ q)*4);have fo:=aV (c (σ a+τ q)*4+1);have lh:=aV (c (σ a+τ q)*4+2);have pG:=aV (c (σ a+τ q)*4+3);obtain⟨xx2,S2,vg⟩:=hF.replace fJ (by omega) rfl Qx;have HF:=Lib.hid vg
        have Nv:Hid (((bB a λa=>bB qj λb=>kU (D2+1) P Q (σ a) (τ b))++bB q λb=>kU (D2+1) P Q (σ a) (τ b))++shift (xp (D2+1) ((σ a+τ q:Nat):Int)) []++shift (xp (D2+1) ((σ a+τ q:Nat):Int)) (ai (P (σ a)) (Q (τ q)))=((bB a λa=>bB qj λb=>kU (D2+1) P Q (σ a) (τ b))++bB (q+1) λb=>kU (D2+1) P Q (σ a) (τ b))):=by
         show _=_;rw[kr,show shift (xp (D2+1) ((σ a+τ q:Nat):Int)) []=[]from rfl,List.append_nil,List.append_assoc];rfl
        rw[Nv.out]at HF;clear jP dU hat vw vz zD hHeld fZ hy bR lN D7 Lu hK3 eF hF vg hown Qx aV;go_wp2
        go_roundw
        case rel=>exact⟨q+1,_,_,_,_,by omega,by go_num,HF⟩
        case measure=>simp[intOf];omega
      ·go_wp2;refine fM (Bj w2.heap.size (σ a+τ q) w.heap.size b (off+σ a*4) b' (off'+τ q*4) (.slice va (c (σ a+τ q)) vc) (.slice (some ⟨b,off,none⟩) n cap) (.slice (some ⟨b',off',none⟩) n' cap') u t) 24 (by kernel_rfl) HS.out (λhHeld=>?_);(refine dF [0,1,2,3,4,5,6,7,8,9,10,11,12,13,14,15,16,17,18,19] ?_;(iterate 20 (refine dD (v:=?_) ?_ ?_;rotate_left 1;(intro wS hSw;obtain⟨S1,S2,S3,⟨S4,S5,S6,S7⟩,S8,S9,vZ,yZ⟩:=hSw;go_simp;try with_reducible rfl);(try simp only[Act.put,aD,aF,aG])));refine dG ?_);(refine aK 20 ?_;intro K hK);go_simp;refine(yJ.out _ _ _ _ _ _ _ _ _ _ _ _ _ _ kH.out.1.mb HU.out HT.out yK.out (E8.out _ QD) (XK.out _ QE) oL.out).mono ?_;rintro e w8 ⟨d0,d1,d2,d3,rfl,bR,lN⟩;obtain⟨y,rfl,rfl,rfl,rfl,hy,_⟩:=bR.pe;go_wp2_with (fail);refine hK.out _ _ (λ_=>hHeld.ext lN) ?_;clear hK K;(try simp only[Act.put,aD,aF,aG]);(refine aK 21 ?_;intro K hK);go_simp;have fZ:Ext wc.drew (w8.alloc (.cells (ah y) 33)):=lN.alloc _;have zD:=hHeld.ext fZ;refine hK.out _ _ (λ_=>zD) ?_;clear hK K;(try simp only[Act.put,aD,aF,aG]);(refine aK 22 ?_;intro K hK);have U9:=lN.size;refine Wi _ (by rfl) (.tmp 134) (.tmp 146) _ (by rfl) w7.heap.size 33 i0 _ 4 64 Tryz.underlying31 hi hz0 hz1 hz2 rfl (by omega) (.slice va (c (σ a+τ q)) vc) (c (σ a+τ q)) (px (xx (σ a+τ q))) (by rfl) (HOW.out.ext fZ) w8.heap.size 33 1 (arr (ah y)) (by rfl) (ak.bf w8 (ah y) 33 4 rfl) (Q5 y) (by unfold maxLen;omega) (by omega) (by simp;omega) ?_
       intro gg cap2 w9 jP dU hat Ew;have Gy:∀g,(Value.slice va (c (σ a+τ q)) vc).ownBlock=some g->w7.heap.size<=g:=λg hg=>(HOW.out.lt g hg).1;have vz:=zD.heap λq hq=>dU.block q (by have:=L8 q hq;simp;omega) (λe=>by have:=Gy q e.symm;have:=L8 q hq;omega);have qkk:w9.frozen? ⟨w2.heap.size,σ a+τ q,none⟩=false:=((kH.out.1.blk.ext fZ).grown dU (λe=>by have:=Gy _ e.symm;omega)).frozen _;refine hK.out _ _ (λ_=>vz) ?_;clear hK K;(try simp only[Act.put,aD,aF,aG]);(refine aK 23 ?_;intro K hK);go_simp;refine hK.out _ _ (λ_=>vz) ?_;clear hK K;(try simp only[Act.put,aD,aF,aG]);have hc9:=vz.1;(refine aK 24 ?_;intro K hK);go_simp;refine hK.out _ _ (λh=>absurd rfl h) ?_;clear hK K;refine ek ?_;have vw:=jP.congr λj hj=>Ra (xx (σ a+τ q)) (c (σ a+τ q)) y j hj;rw[<-Im.out]at dU hat;have HF:=Lib.hid (kH.out.step fJ (by omega) (by omega) fZ vw dU hat (Ext.refl w9) (kH.out.1.qay fJ dU hat (hy.ext ((Ext.refl w8).alloc _))))
       have Nv:Hid (((bB a λa=>bB qj λb=>kU (D2+1) P Q (σ a) (τ b))++bB q λb=>kU (D2+1) P Q (σ a) (τ b))++shift (xp (D2+1) ((σ a+τ q:Nat):Int)) (ai (P (σ a)) (Q (τ q)))=((bB a λa=>bB qj λb=>kU (D2+1) P Q (σ a) (τ b))++bB (q+1) λb=>kU (D2+1) P Q (σ a) (τ b))):=by
        show _=_;rw[kr,List.append_assoc];rfl
       rw[Nv.out]at HF;clear jP dU hat vw vz zD hHeld fZ hy bR lN D7 Lu hK3 eF;go_wp2
       go_roundw
       case rel=>exact⟨q+1,_,_,_,_,by omega,by go_num,HF⟩
       case measure=>simp[intOf];omega
    ·have qve:q=qj:=by omega
     subst qve
     have HF:Hid (vY (Mx M w.heap.size (w2.heap.size+1)) w w7 wr w2.heap.size D2 (n+n'-1) (bB (a+1) λa=>bB q λb=>kU (D2+1) P Q (σ a) (τ b)) ((a+1)*q) v c xx S):=by
      have:=pV.out;rw[kr,Nat.add_mul,Nat.one_mul];exact this
     clear pV;go_wp2
     go_roundw
     case rel=>exact⟨a+1,v,c,xx,S,by omega,by go_num,HF⟩
     case measure=>simp[intOf];omega
  ·have hac:a=Uc:=by omega
   subst hac;obtain⟨wo,rfl⟩:∃wo:World,wo=wr:=⟨_,rfl⟩
   go_wp2_with (at_make;go_must (refine wpList_make_full _ rfl _ _ _ rfl wo.heap.size 33 i0 (.agg #[.int .i64 0,.bool false,.slice none 0 0,.slice none 0 0]) 4 Tryz.underlying31 hi hz0 hz1 .i64 .i64 _ _ (n+n'-1) rfl rfl ?k4 ?k5 ?k2 ?k3 ?k6 ?_))
   case k2=>rw[hz2];omega
   case k3=>unfold maxLen;omega
   case k4=>simp
   case k5=>simp
   case k6=>omega
   intro w8 hown hgrow;have bI:=(ak.made hown rfl (by omega)).congr (f':=fu) (λi _=>CY i);have lN:=lM hgrow;have NT:=Lib.hid (pV.out.ext lN)
   have U9:wo.heap.size+1<=w8.heap.size:=by have:=bI.lt;omega
   have oP:Hid (Kids (Mx (Mx M w.heap.size (w2.heap.size+1)) wo.heap.size (wo.heap.size+1)) w8 D2 wo.heap.size (n+n'-1) (λ_=>[])):=Kids.fresh bI
   have Sg:Hid (∀k,k<n+n'-1->dV (Mx (Mx M w.heap.size (w2.heap.size+1)) wo.heap.size (wo.heap.size+1)) w8 D2 (v k) (c k) (S k)):=λk hk=>by
    have h1:=pV.out.1;refine((h1.own k hk).toK (M:=Mx M w.heap.size (w2.heap.size+1)) (D:=D2) (S:=S k) (λi hi=>(h1.cr k hk i hi).more λg hg=>.inl (.inl hg)) (λg hg hh=>by have:=h1.BM g hh;omega) ?_ |>.more (Mx.more (Nat.le_refl _))).ext lN;have h2:=pV.out.2.2.2.1 k;have h3:a*qj<=n*n':=Nat.mul_le_mul UI Eh;have h4:=xz.out;omega
   have HNL:Hid (∀k,k<n+n'-1->az (aC (bB (c k) (S k)))<=1099511627776):=λk hk=>by
    have h1:=JL (D2+1) (n+n'-1) (λk=>bB (c k) (S k)) k hk;have h2:=pV.out.2.2.2.2.2
    have h3:aC (bB a λa=>bB qj λb=>kU (D2+1) P Q (σ a) (τ b))<=aC lx*aC ly:=by
     refine Nat.le_trans (qmT YC.out λi=>bB qj λb=>kU (D2+1) P Q i (τ b)) ?_;refine Nat.le_trans (qnx λi _=>qmT SH.out λj=>kU (D2+1) P Q i j) ?_;rw[qxb];exact Nat.mul_le_mul qpV.out qpW.out
    have h4:=qJ (aC lx) (aC ly);have h5:=ji (Nat.le_trans h1 (h2 ▸ h3));have h6:=Di.out;omega
   have qql:Hid (ae (aJ (D2+1) (n+n'-1) λk=>bB (c k) (S k)) (ai lx ly)):=by
    refine ae.trans pV.out.2.2.2.2.1 (ae.trans ?_ ((qxI (D2+1) n n' P Q).symm.trans (ae.ai YD.out N9.out)))
    have qlK:∀i j,ae (P i) []\/ae (Q j) []->ae (kU (D2+1) P Q i j) []:=by
     intro i j hh;unfold kU
     have:ae (ai (P i) (Q j)) []:=by
      rcases hh with h|h
      ·exact h.mY (Q j)
      ·exact(h.rf (P i)).trans (by rw[JN];exact ae.refl _)
     exact this.shift _
    have hnil:∀m(F:Nat->List Tm),(∀j,j<m->ae (F j) [])->ae (bB m F) []:=by
     intro m F h
     induction m with
     |zero=>exact ae.refl _
     |succ m ih=>
      rw[kr];have:=(ih λj hj=>h j (by omega)).append (h m (by omega));simpa using this
    refine ae.trans (qny YC.out (λi=>bB qj λb=>kU (D2+1) P Q i (τ b)) λi hi hz=>?_) (JP λi hi=>qny SH.out (λj=>kU (D2+1) P Q i j) λj hj hz=>?_)
    ·refine hnil _ _ λj _=>qlK i (τ j) (.inl ?_)
     exact Classical.byContradiction λhc=>by have:=(qpZ.out i hi).2 hc;rw[hz]at this;cases this
    ·refine qlK i j (.inr ?_)
     exact Classical.byContradiction λhc=>by have:=(qp0.out j hj).2 hc;rw[hz]at this;cases this
   have Xo:=Lib.hid NT.out.1.blk;have AU:=Lib.hid NT.out.2.2.1;have qCx:=pV.out.2.1.1;have qCD:=pV.out.1.blk.lt;have SC:Hid (ak w8 w.heap.size 33 4 (arr #[.int .i64 ((D2:Int)+1),.bool bX,.slice aX nX pX,.slice (some ⟨b,off,none⟩) n cap])):=ru.out.of_heap (NT.out.2.1.2 _ ru.out.lt (by omega));have oW:Hid (ak w8 (w.heap.size+2) 33 4 (arr #[.int .i64 0,.bool false,.slice none 0 0,.slice none 0 0])):=HG2.out.of_heap (NT.out.2.1.2 _ HG2.out.lt (by omega));clear hown hgrow bI lN pV NT;go_wp2
   go_loopw [156] (λi wr=>∃k:Nat,k<=n+n'-1/\i=.int .i64 k/\wo.heap.size+1<=wr.heap.size/\Hid (Kids (Mx (Mx M w.heap.size (w2.heap.size+1)) wo.heap.size (wo.heap.size+1)) wr D2 wo.heap.size (n+n'-1) (λi=>if i<k then bB (c i) (S i)else[]))/\Hid (Ext w wr)/\Hid (Kp (λb=>b=wo.heap.size) w8 wr)) (λi _=>(n+n'-1)-(intOf i).toNat)
   case atStart=>exact⟨0,Nat.zero_le _,rfl,U9,oP.out.congr λi _=>by rw[if_neg (by omega)];exact ae.refl _,AU,Kp.refl _ _⟩
   case round=>
    clear oP AU;obtain⟨k,hk,rfl,hsz,HK,bL,tY⟩:=hrel
    by_cases nU:k<n+n'-1
    ·obtain⟨va,vc,hv0⟩:=(Sg.out k nU).form;have s0:=Xo.out.cell nU;rw[<-tY.out.cell Xo.out.lt (by omega),hv0]at s0
     have qBG:w2.heap.size<wr.heap.size:=by have:=tY.out.1;have:=Xo.out.lt;omega
     have qaP:=Sg.out k nU;rw[hv0]at qaP;have rQ:dV (Mx (Mx M w.heap.size (w2.heap.size+1)) wo.heap.size (wo.heap.size+1)) wr D2 (.slice va (c k) vc) (c k) (S k):=qaP.kp (tY.out.mono λb hb=>by subst hb;exact Mx.at (by omega));have LB:Mb (Mx (Mx M w.heap.size (w2.heap.size+1)) wo.heap.size (wo.heap.size+1)) wr:=Mx.mb (Mx.mb hM bL.out.size (by omega)) (Nat.le_refl _) (by omega);have aO:=Lib.hid (qnT D2 _ _ _ _ wr LB rQ (HNL.out k nU))
     have hkk:(k:Int)<((n+n'-1:Nat):Int):=by omega
     have qBZ:(0:Int)<=(k:Int):=Int.natCast_nonneg _;clear qaP rQ LB hv0;go_wp2_with (fail);refine(aO.out).mono ?_;rintro e w9 ⟨d0,d1,d2,d3,rfl,bR,pF⟩;obtain⟨kS,b2,a2,n2,p2,iU,j6,iV,rfl,rfl,rfl,rfl,_⟩:=bR.form;have eF:=HK.out.ext pF;obtain⟨⟨_,k0⟩,⟨_,k1⟩,⟨_,k2⟩,⟨_,k3⟩,aV,l5⟩:=eF.at k nU;have fB:=aV (k*4);have fo:=aV (k*4+1);have lh:=aV (k*4+2);have pG:=aV (k*4+3)
     have lJ:Hid (Kids (Mx (Mx M w.heap.size (w2.heap.size+1)) wo.heap.size (wo.heap.size+1)) (aH w9 wo.heap.size (k*4) (.int .i64 kS) (.bool b2) (.slice a2 n2 p2) (.slice iU j6 iV)) D2 wo.heap.size (n+n'-1) (λi=>if i<k+1 then bB (c i) (S i)else[])):=by
      refine(eF.set (Mx.at (by omega)) k nU bR).congr λi _=>?_
      by_cases gH:i=k
      ·subst gH;rw[if_pos rfl,if_pos (by omega)];exact ae.refl _
      ·rw[if_neg gH]
       by_cases h3:i<k
       ·rw[if_pos h3,if_pos (by omega)];exact ae.refl _
       ·rw[if_neg h3,if_neg (by omega)];exact ae.refl _
     have eD:Hid (Ext w (aH w9 wo.heap.size (k*4) (.int .i64 kS) (.bool b2) (.slice a2 n2 p2) (.slice iU j6 iV))):=(bL.out.trans pF).aH (by omega) _ _ _ _ _;have qpB:Hid (Kp (λb=>b=wo.heap.size) w8 (aH w9 wo.heap.size (k*4) (.int .i64 kS) (.bool b2) (.slice a2 n2 p2) (.slice iU j6 iV))):=(tY.out.trans (Kp.jC pF)).trans (Kp.aH (M:=λb=>b=wo.heap.size) (g:=wo.heap.size) rfl _ _ _ _ _)
     have p8:Hid (wo.heap.size+1<=(aH w9 wo.heap.size (k*4) (.int .i64 kS) (.bool b2) (.slice a2 n2 p2) (.slice iU j6 iV)).heap.size):=by show _<=_;rw[lU];have:=pF.size;omega
     clear eF aV bR pF s0;go_wp2
     go_roundw
     case rel=>exact⟨k+1,by omega,by go_num,p8.out,lJ,eD,qpB⟩
     case measure=>simp[intOf];omega
    ·have hkn:k=n+n'-1:=by omega
     have hQ0:=SC.out.of_heap (tY.out.2 _ SC.out.lt (by omega));have D9:=oW.out.of_heap (tY.out.2 _ oW.out.lt (by omega));have x0:=hQ0.cell (i:=0) (by omega);simp only[arr]at x0;have qCI:=hQ0.lt
     have uP:Hid (dV (Mx M w.heap.size (w.heap.size+3)) wr D2 (.slice (some ⟨wo.heap.size,0,none⟩) (n+n'-1) (n+n'-1)) (n+n'-1) (λi=>bB (c i) (S i))):=by
      refine dV.congr (dV.qcX (HK.out.more λg hg=>.inl (.inl (hg.imp id λh=>by omega))) (λhh=>hh.elim (hM.new (by omega)) (by omega)) (by omega)) λi hi=>?_;rw[if_pos (by omega)];exact ae.refl _
     have aO:=Lib.hid (qdo (Mx M w.heap.size (w.heap.size+3)) D2 _ _ _ wr (Mx.mb hM bL.out.size (by omega)) jk uP.out);have qp5:=Lib.hid D9;have hk':decide (k<n+n'-1)=false:=decide_eq_false nU;clear hQ0 D9 hkn;go_wp2_with (fail);refine(aO.out).mono ?_;rintro e w9 ⟨d0,d1,d2,d3,rfl,bR,pF⟩;obtain⟨kS,b2,a2,n2,p2,iU,j6,iV,rfl,rfl,rfl,rfl,_⟩:=bR.form;obtain⟨⟨q0,q1,q2,q3⟩,⟨f0,f1,f2,f3⟩,⟨r0,r1,r2,r3⟩,HF⟩:=uH (M:=M) (w:=w) (L:=L) (qp5.out.ext pF) (Mx.at (by omega)) (by omega) (bL.out.trans pF) ((bR.up uw).bZ qql.out) Mx.sub;simp only[arr]at q0 q1 q2 q3;clear bR pF;go_wp2;exact bodyPost_ret (v:=.agg #[.int .i64 kS,.bool b2,.slice a2 n2 p2,.slice iU j6 iV]) (by simp[results,Tryz.results118,go_sem,r0,r1,r2,r3]) rfl HF.out
theorem qyx(L:Nat):Tj L:=by
 induction L using Nat.strongRecOn with
 |_ L ih=>exact qwE L (λD hD=>ih D hD) (mul_eq L λD hD=>ih D hD)
end Go.Proofs.YtmcfpnmoklnhoaaGreat
