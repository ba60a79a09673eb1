/- Mg -/
import Derived.Test.YtaafefeafonhdaaGreatMf
set_option linter.unusedVariables false
set_option maxRecDepth 100000
set_option maxHeartbeats 400000000
set_option linter.unusedSimpArgs false
namespace Go.Proofs.YtaafefeafonhdaaGreat
open Go.RowKit
theorem Tryz.qzw:(Tryz.prog.info? 34).map (λi=>(i.zero,i.size,i.bytes))=some (some (.slice none 0 0),1,24):=by kernel_rfl
def Cc(gp k0 bx b o b' o':Nat)(vk X3 Y3:Value)(u t:PE)(w:World):Prop:=w.cell? ⟨gp,k0,none⟩=some vk/\w.cell? ⟨bx,3,none⟩=some X3/\w.cell? ⟨bx+1,3,none⟩=some Y3/\eF w b o u/\eF w b' o' t
theorem Cc.heap{gp k0 bx b o b' o':Nat}{vk X3 Y3:Value}{u t:PE}{w w':World}(h:Cc gp k0 bx b o b' o' vk X3 Y3 u t w)(he:∀q,q=gp\/q=bx\/q=bx+1\/q=b\/q=b'->w'.heap[q]?=w.heap[q]?):Cc gp k0 bx b o b' o' vk X3 Y3 u t w':=by
 have hc:∀q o,q=gp\/q=bx\/q=bx+1\/q=b\/q=b'->w'.cell? ⟨q,o,none⟩=w.cell? ⟨q,o,none⟩:=λq o hq=>World.cell?_of_block (w:=w) (he q hq);obtain⟨h1,h2,h3,⟨h4,h5,h6,h7⟩,h8,h9,Q6,h11⟩:=h;refine⟨?_,?_,?_,⟨?_,?_,?_,?_⟩,?_,?_,?_,?_⟩
 ·rw[hc _ _ (by simp)];exact h1
 ·rw[hc _ _ (by simp)];exact h2
 ·rw[hc _ _ (by simp)];exact h3
 ·rw[hc _ _ (by simp)];exact h4
 ·rw[hc _ _ (by simp)];exact h5
 ·rw[hc _ _ (by simp)];exact h6
 ·rw[hc _ _ (by simp)];exact h7
 ·rw[hc _ _ (by simp)];exact h8
 ·rw[hc _ _ (by simp)];exact h9
 ·rw[hc _ _ (by simp)];exact Q6
 ·rw[hc _ _ (by simp)];exact h11
theorem Cc.ext{gp k0 bx b o b' o':Nat}{vk X3 Y3:Value}{u t:PE}{w w':World}(h:Cc gp k0 bx b o b' o' vk X3 Y3 u t w)(he:Ext w w'):Cc gp k0 bx b o b' o' vk X3 Y3 u t w':=
 h.heap λq hq=>he.heap (by
  obtain⟨h1,h2,h3,⟨h4,_⟩,h8,_⟩:=h;rcases hq with rfl|rfl|rfl|rfl|rfl
  ·exact dM _ _ h1
  ·exact dM _ _ h2
  ·exact dM _ _ h3
  ·exact dM _ _ h4
  ·exact dM _ _ h8)
theorem rV.qb7{M:Nat->Prop}{B0:Nat}{w wa wb:World}{D gp K:Nat}{v:Nat->Value}{c:Nat->Nat}{xx:Nat->Nat->PE}{S:Nat->Nat->List Tm}(_:rV M B0 w D gp K v c xx S){k0:Nat}(hk:k0<K){gg:Nat}{y:PE}{l:List Tm}
 (hg:wa.grownBy wb (v k0).ownBlock) (hat:(v k0).ownBlock=some gg\/wa.heap.size<=gg) (hy:aG (MP M v K) wa D y l):aG (λb=>MP M v K b\/b=gg) wb D y l:=by
 refine(hy.more ?_).kp (Kp.grown hg λq hq=>.inl (.inr ⟨k0,hk,hq⟩));rintro b (hb|rfl)
 ·exact .inl hb
 ·rcases hat with h1|h1
  ·exact .inl (.inr ⟨k0,hk,h1⟩)
  ·exact .inr h1
theorem rV.qi7{M:Nat->Prop}{B0:Nat}{w wc:World}{D gp K:Nat}{v:Nat->Value}{c:Nat->Nat}{xx:Nat->Nat->PE}{S:Nat->Nat->List Tm}(h:rV M B0 w D gp K v c xx S){k0:Nat}{gg n cap2:Nat}{y:PE}{l:List Tm}(u:Value)
 (hy:aG (λb=>MP M v K b\/b=gg) wc D y l):aG (MP M (jd v k0 (.slice (some ⟨gg,0,none⟩) n cap2)) K) (wc.setCell ⟨gp,k0,none⟩ u) D y l:=by
 refine(hy.kp (Kp.set _ _ (p:=⟨gp,k0,none⟩) (.inl (.inl h.Q4)) _)).more ?_;rintro b (hb|⟨k,jU,e⟩)
 ·exact .inl (.inl (.inl hb))
 ·by_cases hkk:k=k0
  ·subst hkk;rw[jS]at e;cases e;exact .inl (.inr rfl)
  ·rw[oJ _ _ _ _ hkk]at e;exact .inl (.inl (.inr ⟨k,jU,e⟩))
theorem qpY{w:World}{base g cap c:Nat}{f:Nat->Value}(h:Own w base 42 4 (.slice (some ⟨g,0,none⟩) (c+1) cap) (c+1) f):(∃e,w.cell? ⟨g,c*4,none⟩=some e)/\(∃e,w.cell? ⟨g,c*4+1,none⟩=some e)/\(∃e,w.cell? ⟨g,c*4+2,none⟩=some e)/\(∃e,w.cell? ⟨g,c*4+3,none⟩=some e)/\(∀o,w.frozen? ⟨g,o,none⟩=false)/\g<w.heap.size/\c+1<=cap/\cap<=maxLen:=by
 rcases h with⟨h1,_⟩|⟨g',cap',F,h1,hg,hB,hc,hm,hF⟩
 ·cases h1
 ·simp only[Value.slice.injEq,Option.some.injEq,Addr.mk.injEq,and_true,true_and]at h1;obtain⟨rfl,rfl⟩:=h1;exact⟨⟨_,hB.cell (by omega)⟩,⟨_,hB.cell (by omega)⟩,⟨_,hB.cell (by omega)⟩,⟨_,hB.cell (by omega)⟩,hB.frozen,hB.lt,hc,hm⟩
def xq(M:Nat->Prop)(w w7 wr:World)(gp D K:Nat)(acc:List Tm)(cnt:Nat)(v:Nat->Value)(c:Nat->Nat)(xx:Nat->Nat->PE)(S:Nat->Nat->List Tm):Prop:=
 rV M w7.heap.size wr D gp K v c xx S/\Kp (λb=>b=gp) w7 wr/\Ext w wr/\(∀k,c k<=cnt)/\af (aM (D+1) K λk=>bF (c k) (S k)) acc/\aB (aM (D+1) K λk=>bF (c k) (S k))=aB acc
theorem xq.ext{M:Nat->Prop}{w w7 wr w':World}{gp D K:Nat}{acc:List Tm}{cnt:Nat}{v:Nat->Value}{c:Nat->Nat}{xx:Nat->Nat->PE}{S:Nat->Nat->List Tm}(h:xq M w w7 wr gp D K acc cnt v c xx S)(he:Ext wr w'):xq M w w7 w' gp D K acc cnt v c xx S:=
 ⟨h.1.ext he,h.2.1.trans (Kp.gZ he),h.2.2.1.trans he,h.2.2.2⟩
theorem xq.step{M:Nat->Prop}{w w7 wr wa wb wc:World}{gp D K:Nat}{acc:List Tm}{cnt:Nat}{v:Nat->Value}{c:Nat->Nat}{xx:Nat->Nat->PE}{S:Nat->Nat->List Tm}(h:xq M w w7 wr gp D K acc cnt v c xx S){k0:Nat}(hk:k0<K){gg cap2:Nat}{y:PE}{l:List Tm}(hw:w.heap.size<=gp)(RO:gp<w7.heap.size)
 (he:Ext wr wa) (hO:Own wb w7.heap.size 42 4 (.slice (some ⟨gg,0,none⟩) (c k0+1) cap2) (c k0+1) (px (snoc (xx k0) (c k0) y))) (hg:wa.grownBy wb (v k0).ownBlock) (hat:(v k0).ownBlock=some gg\/wa.heap.size<=gg)
 (az:Ext wb wc) (hy:aG (λb=>MP M v K b\/b=gg) wc D y l):
 xq M w w7 (wc.setCell ⟨gp,k0,none⟩ (.slice (some ⟨gg,0,none⟩) (c k0+1) cap2)) gp D K (acc++shift (xp (D+1) (k0:Int)) l) (cnt+1) (jd v k0 (.slice (some ⟨gg,0,none⟩) (c k0+1) cap2)) (jd c k0 (c k0+1)) (jd xx k0 (snoc (xx k0) (c k0) y)) (jd S k0 (snoc (S k0) (c k0) l)):=by
 obtain⟨h1,h2,h3,h4,h5,h6⟩:=h;have Dp:∀b,(v k0).ownBlock=some b->w7.heap.size<=b:=λb hb=>((h1.own k0 hk).lt b hb).1;obtain⟨p1,p2⟩:=XW (L:=D+1) hk (F:=λk=>bF (c k) (S k)) (F':=λk=>bF (jd c k0 (c k0+1) k) (jd S k0 (snoc (S k0) (c k0) l) k)) (l:=l) (λk _ hne=>by simp only[oJ _ _ _ _ hne]) (by simp only[jS];exact qfs _ _ _);have hw7:=h2.1;refine⟨h1.step hk he hO hg hat az hy,⟨?_,λb hb hne=>?_⟩,?_,λk=>?_,?_,?_⟩
 ·have:=he.size;have:=hg.size;have:=az.size;simp[World.setCell];omega
 ·have hba:b<wa.heap.size:=by have:=he.size;omega
  have Dc:b<wb.heap.size:=by have:=hg.size;omega
  rw[Below.heap_setCell _ _ _ _ hne,az.heap Dc,hg.block b hba (λe=>by have:=Dp b e.symm;omega),he.heap (by omega)];exact h2.2 b hb hne
 ·exact(((h3.trans he).grown hg (λb hb=>by have:=Dp b hb;omega)).trans (Ext.trans (ai _) az)).set (by exact hw) _
 ·by_cases hkk:k=k0
  ·subst hkk;rw[jS];have:=h4 k;omega
  ·rw[oJ _ _ _ _ hkk];have:=h4 k;omega
 ·exact p1.trans (h5.append (af.refl _))
 ·rw[p2,h6,kK,zu]
theorem xq.replace{M:Nat->Prop}{w w7 wr:World}{gp D K:Nat}{acc:List Tm}{cnt:Nat}{v:Nat->Value}{c:Nat->Nat}{xx:Nat->Nat->PE}{S:Nat->Nat->List Tm}{k0 q:Nat}{vk:Value}{sk:Nat->PE}{Sk:Nat->List Tm}(h:xq M w w7 wr gp D K acc cnt (jd v k0 vk) (jd c k0 (q+1)) (jd xx k0 sk) (jd S k0 (snoc Sk q [])))(hk:k0<K){gg cap2:Nat}{y:PE}{l:List Tm}(hw:w.heap.size<=w7.heap.size)
 (hv:vk=.slice (some ⟨gg,0,none⟩) (q+1) cap2) (hy:aG (MP M (jd v k0 vk) K) wr D y l):
 ∃LD S',xq M w w7 (aD wr gg (q*4) (.int .i64 y.lv) (.bool y.b) (.slice y.a y.n y.p) (.slice y.ka y.kn y.kp)) gp D K (acc++shift (xp (D+1) (k0:Int)) l) cnt (jd v k0 vk) (jd c k0 (q+1)) LD S':=by
 obtain⟨h1,h2,h3,h4,h5,h6⟩:=h;have AQ:w7.heap.size<=gg:=((h1.own k0 hk).lt gg (by rw[jS,hv];rfl)).1
 obtain⟨p1,p2⟩:=XW (L:=D+1) hk (F:=λk=>bF (jd c k0 (q+1) k) (jd S k0 (snoc Sk q []) k)) (F':=λk=>bF (jd c k0 (q+1) k) (jd (jd S k0 (snoc Sk q [])) k0 (jd (jd S k0 (snoc Sk q []) k0) q l) k)) (l:=l) (λk _ hne=>by simp only[oJ _ _ _ _ hne]) (by
  simp only[jS];rw[kL,kL,jS,jC,List.append_nil]
  congr 1
  exact qql λi hi=>by rw[oJ _ _ _ _ (by omega)])
 refine⟨_,_,h1.replace hk (gg:=gg) (cap2:=cap2) (q:=q) (y:=y) (l:=l) (by rw[jS,jS];exact hv) (by rw[jS];omega) hy,⟨?_,λb hb hne=>?_⟩,h3.aD (by omega) _ _ _ _ _,h4,p1.trans (h5.append (af.refl _)),?_⟩
 ·rw[kN];exact h2.1
 ·rw[fD _ _ _ _ _ _ _ _ (by omega)];exact h2.2 b hb hne
 ·rw[p2,h6,kK,zu]
theorem mul_eq(L:Nat)(ih:∀D,D<L->U8 D):qiM L:=by
 intro M lx ly B1 C1 X Y w hM hX hY jF Rc Re Q9 hXY kr xR xS;obtain⟨i0,hi,hz0,hz1,hz2⟩:=info_parts Tryz.xU;obtain⟨j0,hj,qzk,qzl,qzm⟩:=info_parts Tryz.qzw;obtain⟨lvX,bX,aX,nX,pX,kaX,n,cap⟩:=X;obtain⟨lvY,bY,aY,nY,pY,kaY,n',cap'⟩:=Y;unfold aG at hX hY;simp only at hX hY hXY kr xR xS;subst hXY;obtain⟨D,yP,nT,Aj,_,_,b,off,n1,xA,P,fw,eX,kT,mI,dY,jG,eu,hb,nV,dw,bZ,fO,eB,jB⟩:=hX.Io kr;obtain⟨D2,qwX,_,_,_,_,b',off',n1',quc,Q,Xq,Xr,SS,kC,knL,Xw,Xu,kb,kMb,Lc,Ld,SY,DL,Xx⟩:=hY.Io kr
 have:D2=D:=by omega
 subst this;simp only[Value.bool.injEq,Value.slice.injEq]at fw eX kT Xq Xr SS;obtain⟨rfl,rfl,rfl⟩:=kT;obtain⟨rfl,rfl,rfl⟩:=SS;subst yP;clear fw eX Xq Xr qwX kr;obtain⟨oQ,GY⟩:=Ag nT (by omega) bZ fO (Rc.bP eB.symm);obtain⟨kdn,kdk⟩:=Ag nT (by omega) Ld SY (Re.bP DL.symm);have El:=ae dw;have zV:=ae Lc;have HSP:=ae eB;have Jm:=ae DL;have qs0:=ae jB;have qs1:=ae Xx;have Pt:=ae GY;have Zq:=ae kdk;have tF:=ae jF;have oF:=ae Q9;have ZO:Hid (∀i,i<n->aB (P i)<=aB lx):=λi hi=>aK (DR (D2+1) n P i hi) jB;have HNQ:Hid (∀i,i<n'->aB (Q i)<=aB ly):=λi hi=>aK (DR (D2+1) n' Q i hi) Xx;have zQ:=ae (ih D2 (by omega));have uQ:(0:Int)<=(D2:Int):=jE _
 have yQ:((D2:Int)+1==0)=false:=by simp;omega
 have qx3:decide ((D2:Int)+1<(D2:Int)+1)=false:=decide_eq_false (by omega);have aL:Ext w (((w.alloc (.cells #[.int .i64 ((D2:Int)+1),.bool bX,.slice aX nX pX,.slice (some ⟨b,off,none⟩) n cap] 42)).alloc (.cells #[.int .i64 ((D2:Int)+1),.bool bY,.slice aY nY pY,.slice (some ⟨b',off',none⟩) n' cap'] 42)).alloc (.cells #[.int .i64 0,.bool false,.slice none 0 0,.slice none 0 0] 42)):=(((ai w).alloc _).alloc _).alloc _;have b0:=((au.aO w #[.int .i64 ((D2:Int)+1),.bool bX,.slice aX nX pX,.slice (some ⟨b,off,none⟩) n cap] 42 4 rfl).alloc (.cells #[.int .i64 ((D2:Int)+1),.bool bY,.slice aY nY pY,.slice (some ⟨b',off',none⟩) n' cap'] 42)).alloc (.cells #[.int .i64 0,.bool false,.slice none 0 0,.slice none 0 0] 42);have b1:=(au.aO (w.alloc (.cells #[.int .i64 ((D2:Int)+1),.bool bX,.slice aX nX pX,.slice (some ⟨b,off,none⟩) n cap] 42)) #[.int .i64 ((D2:Int)+1),.bool bY,.slice aY nY pY,.slice (some ⟨b',off',none⟩) n' cap'] 42 4 rfl).alloc (.cells #[.int .i64 0,.bool false,.slice none 0 0,.slice none 0 0] 42);have b2:=au.aO ((w.alloc (.cells #[.int .i64 ((D2:Int)+1),.bool bX,.slice aX nX pX,.slice (some ⟨b,off,none⟩) n cap] 42)).alloc (.cells #[.int .i64 ((D2:Int)+1),.bool bY,.slice aY nY pY,.slice (some ⟨b',off',none⟩) n' cap'] 42)) #[.int .i64 0,.bool false,.slice none 0 0,.slice none 0 0] 42 4 rfl;simp only[World.size_alloc]at b1 b2
 have wH:w.heap.size+3<=(((w.alloc (.cells #[.int .i64 ((D2:Int)+1),.bool bX,.slice aX nX pX,.slice (some ⟨b,off,none⟩) n cap] 42)).alloc (.cells #[.int .i64 ((D2:Int)+1),.bool bY,.slice aY nY pY,.slice (some ⟨b',off',none⟩) n' cap'] 42)).alloc (.cells #[.int .i64 0,.bool false,.slice none 0 0,.slice none 0 0] 42)).heap.size:=by simp
 have Cu:=λW=>IA ((D2:Int)+1) bX aX nX pX (some ⟨b,off,none⟩) n cap W;have Cv:=λW=>IA ((D2:Int)+1) bY aY nY pY (some ⟨b',off',none⟩) n' cap' W;rw[xR]at Cu;rw[xS]at Cv;have CTX:=ae Cu;have CTY:=ae Cv;have dC:=ae aL;have dO:=ae b0;have bS:=ae b1;have cK:=ae b2;have iY:=ae wH;clear hX hY dw Lc bZ Ld fO SY eB DL jB Xx GY kdk jF Rc Re Q9 ih xR xS Cu Cv aL b0 b1 b2 wH;have HR:Hid (af (aC lx ly) (aC lx ly)):=af.refl _
 go_enter Tryz.func67,Tryz.ntmps67
 go_wp2_with (fail);refine(CTX.out _).mono ?_;rintro e w1 ⟨rfl,ah⟩;have dI:=ah.size;have hw1:w.heap.size+3<=w1.heap.size:=aK iY.out dI;clear dI;have wR:=ae (dO.out.ext ah);have uA:=ae (bS.out.ext ah);have o9:=ae (cK.out.ext ah);have aP:=ae (dC.out.trans ah);have y0:=uA.out.cell (i:=0) (by omega);have y1:=uA.out.cell (i:=1) (by omega);have y2:=uA.out.cell (i:=2) (by omega);have y3:=uA.out.cell (i:=3) (by omega);simp only[arr]at y0 y1 y2 y3
 have hv2:w.heap.size+1<w1.heap.size:=by omega
 clear ah dO bS cK dC iY;go_wp2_with (fail);refine(CTY.out _).mono ?_;rintro e w2 ⟨rfl,az⟩;have hs2:=az.size
 have jW:w.heap.size+3<=w2.heap.size:=by omega
 have Ef:=ae (wR.out.ext az);have Ui:=ae (uA.out.ext az);have kY:=ae (o9.out.ext az);have aZ:=ae (aP.out.trans az);clear az wR uA o9 aP y0 y1 y2 y3 hv2 hs2;have x0:=Ef.out.cell (i:=0) (by omega);have x3:=Ef.out.cell (i:=3) (by omega);have y0:=Ui.out.cell (i:=0) (by omega);have y3:=Ui.out.cell (i:=3) (by omega);simp only[arr]at x0 x3 y0 y3
 have hu1:w.heap.size<w2.heap.size:=by omega
 have om:w.heap.size+1<w2.heap.size:=by omega
 have hKL:n+n'<=1099511627776:=by
  have h1:n*n'<=(B1+1)*(C1+1):=Nat.mul_le_mul oQ kdn;have h2:=oF.out
  have h3:n+n'<=n*n':=by
   obtain⟨p,rfl⟩:∃p,n=p+2:=⟨n-2,by omega⟩;obtain⟨q,rfl⟩:∃q,n'=q+2:=⟨n'-2,by omega⟩;rw[Nat.add_mul,Nat.mul_add];omega
  omega
 have xg:Hid (n*n'<=1099511627776):=aK (Nat.mul_le_mul oQ kdn) oF.out
 go_wp2_with (at_make;go_must (refine wpList_make_full _ rfl _ _ _ rfl w2.heap.size 34 j0 (.slice none 0 0) 1 Tryz.underlying136 hj qzk qzl .i64 .i64 _ _ (n+n'-1) rfl rfl ?m4 ?m5 ?m2 ?m3 ?m6 ?_))
 case m2=>rw[qzm];omega
 case m3=>unfold maxLen;omega
 case m4=>omega
 case m5=>omega
 case m6=>omega
 intro w5 hown hgrow;have bR:=au.Bq hown;have aU:=mE hgrow;have RO:w2.heap.size<w5.heap.size:=bR.lt;have HBP:=ae bR;have cZ:=ae (aZ.out.trans aU);have PG:=ae (Ef.out.ext aU);have PH:=ae (Ui.out.ext aU);have bQ:=ae (kY.out.ext aU);rw[<-aU.cell hu1]at x0 x3;rw[<-aU.cell om]at y0 y3
 have Dx:w.heap.size<w5.heap.size:=by omega
 have Ot:w.heap.size+1<w5.heap.size:=by omega
 have qi:Hid (Mb (Mx M w.heap.size (w2.heap.size+1)) w5):=Mx.mb hM cZ.out.size (by omega);have HKX:Hid (dP (Mx M w.heap.size (w2.heap.size+1)) w5 D2 (.slice (some ⟨b,off,none⟩) n cap) n P):=(dP.ext (dP.more ⟨dY,.inr ⟨b,off,cap,rfl,jG,eu,⟨hb,nV⟩,El.out⟩⟩ (Mx.more (aA _))) cZ.out);have HKY:Hid (dP (Mx M w.heap.size (w2.heap.size+1)) w5 D2 (.slice (some ⟨b',off',none⟩) n' cap') n' Q):=(dP.ext (dP.more ⟨knL,.inr ⟨b',off',cap',rfl,Xw,Xu,⟨kb,kMb⟩,zV.out⟩⟩ (Mx.more (aA _))) cZ.out);clear hown hgrow bR aU aZ Ef Ui kY hu1 om;go_wp2_with (fail);refine(qqQ _ D2 _ n' Q w5 qi.out HKY.out).mono ?_;rintro e w6 ⟨uy,qB,τ,nzy,rfl,Rm,qlL,qnB,fM⟩;rw[<-fM.cell Dx]at x0 x3;rw[<-fM.cell Ot]at y0 y3;have KX:=fM.size
 have ht3:w.heap.size<w6.heap.size:=by omega
 have ht4:w.heap.size+1<w6.heap.size:=by omega
 have Ut:=ae Rm;have UN:=ae qlL;have qs3:=ae qnB;have kZ:=ae fM;clear Rm qlL qnB fM;go_wp2_with (fail);refine(qqQ _ D2 _ n P w6 (qi.out.ext kZ.out) (HKX.out.ext kZ.out)).mono ?_;rintro e w7 ⟨ux,Vy,σ,nzx,rfl,Nw,qde,qnA,mF⟩;have hs7:=mF.size;have PN:=ae Nw;have qhz:=ae (Ut.out.ext mF);have qai:=ae qde;have qs2:=ae qnA;have rP:=ae (kZ.out.trans mF);have NT:=qde.len;have qF:=UN.out.len;clear Nw qde qnA mF;obtain⟨ax,apx,rfl⟩:=PN.out.form;obtain⟨ay,apy,rfl⟩:=qhz.out.form
 have F5:Hid (rV (Mx M w.heap.size (w2.heap.size+1)) w7.heap.size w7 D2 w2.heap.size (n+n'-1) (λ_=>.slice none 0 0) (λ_=>0) (λ_ _=>PE.z) (λ_ _=>[])):=by
  refine⟨HBP.out.ext rP.out,λk _=>Own.nil _ _ _ _ _,(λk k' _ _ _ b hb=>by cases hb),(λk _ i hi=>by omega),Mx.at (by omega),by omega,qi.out.ext rP.out,λg hg=>?_⟩;exact(qi.out.ext rP.out) g hg
 have LX:=ae (PG.out.ext rP.out);have LY:=ae (PH.out.ext rP.out);have HG2:=ae (bQ.out.ext rP.out);have qhg:=ae (cZ.out.trans rP.out);clear x0 x3 y0 y3 Ut PG PH bQ kZ HBP;go_wp2
 go_loopw [87] (λi wr=>∃(a:Nat)(v:Nat->Value)(c:Nat->Nat)(xx:Nat->Nat->PE)(S:Nat->Nat->List Tm),a<=Vy/\i=.int .i64 a/\Hid (xq (Mx M w.heap.size (w2.heap.size+1)) w w7 wr w2.heap.size D2 (n+n'-1) (bF a λa=>bF qB λb=>lH (D2+1) P Q (σ a) (τ b)) (a*qB) v c xx S)) (λi _=>Vy-(intOf i).toNat)
 case atStart=>
  have hz:∀K,aM (D2+1) K (λk=>bF 0 (λ_=>([]:List Tm)))=[]:=by
   intro K
   induction K with
   |zero=>rfl
   |succ K ih=>rw[gF,ih];rfl
  exact⟨0,_,_,_,_,bu _,rfl,F5.out,Kp.refl _ _,qhg.out,λk=>by simp,by rw[hz];exact af.refl _,by rw[hz];rfl⟩
 case round=>
  clear F5;obtain⟨a,v,c,xx,S,ha,rfl,qj⟩:=hrel;have qn1:=qj.out.2.1.1
  by_cases hlt:a<Vy
  ·obtain⟨gx,rfl,fo,sI,Bg,qzf,K8⟩:=PN.out.at a hlt;have qx8:gx≠w2.heap.size:=λe=>qzf (e ▸ Mx.at (by omega));rw[<-qj.out.2.1.cell Bg qx8]at K8
   have hxw:gx<wr.heap.size:=by omega
   obtain⟨SF,hσ2⟩:=qai.out.mem a hlt;go_wp2;obtain⟨wo,rfl⟩:∃wo:World,wo=wr:=⟨_,rfl⟩
   go_loopw [93] (λi wr=>∃(q:Nat)(v:Nat->Value)(c:Nat->Nat)(xx:Nat->Nat->PE)(S:Nat->Nat->List Tm),q<=qB/\i=.int .i64 q/\Hid (xq (Mx M w.heap.size (w2.heap.size+1)) w w7 wr w2.heap.size D2 (n+n'-1) ((bF a λa=>bF qB λb=>lH (D2+1) P Q (σ a) (τ b))++bF q λb=>lH (D2+1) P Q (σ a) (τ b)) (a*qB+q) v c xx S)) (λi _=>qB-(intOf i).toNat)
   case atStart=>exact⟨0,v,c,xx,S,bu _,rfl,by show xq _ _ _ _ _ _ _ _ _ _ _ _ _;rw[qqo,List.append_nil];exact qj.out⟩
   case round=>
    clear qj K8 qn1 hxw;obtain⟨q,v,c,xx,S,hq,rfl,qj⟩:=hrel;have qn1:=qj.out.2.1.1
    by_cases Oi:q<qB
    ·obtain⟨gy,rfl,jX,ui,K9,qzn,hy5⟩:=qhz.out.at q Oi;have qx9:gy≠w2.heap.size:=λe=>qzn (e ▸ Mx.at (by omega));rw[<-qj.out.2.1.cell K9 qx9]at hy5
     have hyw:gy<wr.heap.size:=by omega
     obtain⟨SG,hτ2⟩:=UN.out.mem q Oi;go_wp2
     go_cut [98] (λs wx=>(s=.bool true\/s=.bool false)/\Hid (Ext wr wx))
     case first=>
      go_region
      all_goals
       go_wp2_with (fail)
       go_meet
       exact⟨by simp,((ai wr).alloc _).drew⟩
     case rest=>
      obtain⟨qyY,FQ⟩:=hcut;have qGK:=FQ.out.size;have wZ:=ae (qj.out.ext FQ.out);clear qj hy5 hyw FQ
      have iq:σ a+τ q<n+n'-1:=by omega
      have kU:(0:Int)<=(σ a:Int):=jE _;have mH:(0:Int)<=(τ q:Int):=jE _
      have qJ:(σ a:Int)<(n:Int):=by omega
      have rA:(τ q:Int)<(n':Int):=by omega
      obtain⟨va,vc,hv0⟩:=(wZ.out.1.own _ iq).form;have Jq:=ae hv0;obtain⟨e0,e1,e2,e3,z0,z1,z2,z3,hCu⟩:=El.out (σ a) SF;obtain⟨u,rfl,rfl,rfl,rfl,hu,_⟩:=hCu.pe;obtain⟨e0,e1,e2,e3,s0,s1,s2,s3,hCt⟩:=zV.out (τ q) SG;obtain⟨t,rfl,rfl,rfl,rfl,ht,_⟩:=hCt.pe
      have hS:Cc w2.heap.size (σ a+τ q) w.heap.size b (off+σ a*4) b' (off'+τ q*4) (.slice va (c (σ a+τ q)) vc) (.slice (some ⟨b,off,none⟩) n cap) (.slice (some ⟨b',off',none⟩) n' cap') u t wc.drew:=by
       refine Cc.ext (w:=wc) ⟨by rw[wZ.out.1.blk.cell iq,hv0],?_,?_,eF.ext ⟨z0,z1,z2,z3⟩ hb wZ.out.2.2.1,eF.ext ⟨s0,s1,s2,s3⟩ kb wZ.out.2.2.1⟩ (ai _).drew
       ·rw[wZ.out.2.1.cell LX.out.lt (by omega)];exact LX.out.cell (i:=3) (by omega)
       ·rw[wZ.out.2.1.cell LY.out.lt (by omega)];exact LY.out.cell (i:=3) (by omega)
      have HS:=ae hS
      have xO:∀g,MP (Mx M w.heap.size (w2.heap.size+1)) v (n+n'-1) g->M g\/w.heap.size<=g:=by
       rintro g (hg|⟨k,hk,e⟩)
       ·exact Mx.more (aA _) g hg
       ·have:=((wZ.out.1.own k hk).lt g e).1;exact .inr (by omega)
      have HU:Hid (aG (MP (Mx M w.heap.size (w2.heap.size+1)) v (n+n'-1)) wc.drew D2 u (P (σ a))):=((hu.more xO).ext wZ.out.2.2.1).ext (ai _).drew;have HT:Hid (aG (MP (Mx M w.heap.size (w2.heap.size+1)) v (n+n'-1)) wc.drew D2 t (Q (τ q))):=((ht.more xO).ext wZ.out.2.2.1).ext (ai _).drew
      have Kw:c (σ a+τ q)+1<=1099511627776:=by
       have h1:=wZ.out.2.2.2.1 (σ a+τ q);have h2:(a+1)*qB<=n*n':=Nat.mul_le_mul (by omega) qF;rw[Nat.add_mul]at h2;have h3:=xg.out;omega
      have lV:=ae (wZ.out.ext (ai wc).drew)
      have HOW:Hid (Own wc.drew w7.heap.size 42 4 (.slice va (c (σ a+τ q)) vc) (c (σ a+τ q)) (px (xx (σ a+τ q)))):=by have:=lV.out.1.own _ iq;rw[hv0]at this;exact this
      have tC:Hid (aF (aB (P (σ a)))+aF (aB (Q (τ q)))<=1099511627776):=by
       have h1:=fu (ZO.out (σ a) SF);have h2:=fu (HNQ.out (τ q) SG);have h3:=tF.out;show _<=_;omega
      have K5:w7.heap.size<=wc.drew.heap.size:=lV.out.2.1.1;have qF7:=lV.out.1.blk.lt;have dX:=lV.out.1.blk.frozen (σ a+τ q);clear hCu hCt hS hu ht z0 z1 z2 z3 s0 s1 s2 s3 hv0 xO
      have Oa:∀p,p=w2.heap.size\/p=w.heap.size\/p=w.heap.size+1\/p=b\/p=b'->p<w7.heap.size:=by
       intro p hp;have:=qhg.out.size;omega
      have Am:(σ a:Int)+(τ q:Int)<((n+n'-1:Nat):Int):=by omega
      have Nz:(0:Int)<=(σ a:Int)+(τ q:Int):=by omega
      have hK3:((σ a:Int)+(τ q:Int)).toNat=σ a+τ q:=by omega
      have fJ:IntKind.i64.wrap ((σ a:Int)+(τ q:Int))=(σ a:Int)+(τ q:Int):=IntWalk.i64_in _ (by omega);rcases qyY with rfl|rfl
      ·go_wp2;refine fB (Cc w2.heap.size (σ a+τ q) w.heap.size b (off+σ a*4) b' (off'+τ q*4) (.slice va (c (σ a+τ q)) vc) (.slice (some ⟨b,off,none⟩) n cap) (.slice (some ⟨b',off',none⟩) n' cap') u t) 25 HS.out λhHeld=>?_;refine bH [0,1,2,3,4,5,6,7,8,9,10,11,12,13,14,15,16,17,18,19,21] ?_;(iterate 21 refine bG ?_ (hy:=by intro wS hSw;obtain⟨S1,S2,S3,⟨S4,S5,S6,S7⟩,S8,S9,oI,EA⟩:=hSw;go_simp;try with_reducible rfl));refine bI ?_;refine oC 20 22 ?_ ?_<;>intro K hK
       ·go_simp;refine(zQ.out _ _ _ _ _ _ _ _ _ _ _ _ _ _ lV.out.1.mb HU.out HT.out tC.out (Pt.out _ SF) (Zq.out _ SG) oF.out).mono ?_;rintro e w8 ⟨d0,d1,d2,d3,rfl,bW,kJ⟩;obtain⟨y,rfl,rfl,rfl,rfl,hy,_⟩:=bW.pe;go_wp2_with (fail);refine nx hK (hHeld.ext kJ) ?_;clear hK K;refine aI 22 λK hK=>?_;go_simp;have eZ:Ext wc.drew (w8.alloc (.cells #[.int .i64 0,.bool false,.slice none 0 0,.slice none 0 0] 42)):=kJ.alloc _;have Al:=hHeld.ext eZ;refine nx hK Al ?_;clear hK K;refine aI 23 λK hK=>?_;have Ba:=kJ.size;refine TH _ (by rfl) (.tmp 108) (.tmp 121) _ (by rfl) w7.heap.size 42 i0 _ 4 64 Tryz.underlying34 hi hz0 hz1 hz2 rfl (by omega) (.slice va (c (σ a+τ q)) vc) (c (σ a+τ q)) (px (xx (σ a+τ q))) (by rfl) (HOW.out.ext eZ) w8.heap.size 42 1 (arr #[.int .i64 0,.bool false,.slice none 0 0,.slice none 0 0]) (by rfl) (au.aO w8 #[.int .i64 0,.bool false,.slice none 0 0,.slice none 0 0] 42 4 rfl) (Bu PE.z) (by unfold maxLen;omega) (by omega) (by simp;omega) ?_;intro gg cap2 w9 ed bK hat uf;have Hr:∀g,(Value.slice va (c (σ a+τ q)) vc).ownBlock=some g->w7.heap.size<=g:=λg hg=>(HOW.out.lt g hg).1;have oM:=Al.heap λq hq=>bK.block q (by have:=Oa q hq;simp;omega) (λe=>by have:=Hr q e.symm;have:=Oa q hq;omega);have qmB:w9.frozen? ⟨w2.heap.size,σ a+τ q,none⟩=false:=((lV.out.1.blk.ext eZ).grown bK (λe=>by have:=Hr _ e.symm;omega)).frozen _
        refine nx hK oM ?_;clear hK K;refine aI 24 λK hK=>?_;go_simp;refine nx hK oM ?_;clear hK K;have hc9:=oM.1;refine aI 25 λK hK=>?_;go_simp;refine fz hK ?_;clear hK K;have vU:=ed.congr λj hj=>DT (xx (σ a+τ q)) (c (σ a+τ q)) PE.z j hj;rw[<-Jq.out]at bK hat;have hF:=lV.out.step (l:=[]) iq (by omega) (by omega) eZ vU bK hat (ai w9) (CR.zero _ _ _);have Sw:=lV.out.1.qi7 (k0:=σ a+τ q) (n:=c (σ a+τ q)+1) (cap2:=cap2) (.slice (some ⟨gg,0,none⟩) (c (σ a+τ q)+1) cap2) (lV.out.1.qb7 iq bK hat (hy.ext ((ai w8).alloc _)));have hown:=hF.1.own _ iq;rw[jS,jS]at hown;obtain⟨⟨_,g0⟩,⟨_,g1⟩,⟨_,g2⟩,⟨_,g3⟩,bn,gP,nZ,qdE⟩:=qpY hown;have jw:=bn (c (σ a+τ q)*4);have ku:=bn (c (σ a+τ q)*4+1);have kv:=bn (c (σ a+τ q)*4+2);have oU:=bn (c (σ a+τ q)*4+3);obtain⟨xx2,S2,GA⟩:=hF.replace iq (by omega) rfl Sw;have HF:=ae GA
        have Ph:Hid (((bF a λa=>bF qB λb=>lH (D2+1) P Q (σ a) (τ b))++bF q λb=>lH (D2+1) P Q (σ a) (τ b))++shift (xp (D2+1) ((σ a+τ q:Nat):Int)) []++shift (xp (D2+1) ((σ a+τ q:Nat):Int)) (aC (P (σ a)) (Q (τ q)))=((bF a λa=>bF qB λb=>lH (D2+1) P Q (σ a) (τ b))++bF (q+1) λb=>lH (D2+1) P Q (σ a) (τ b))):=by
         show _=_;rw[kL,show shift (xp (D2+1) ((σ a+τ q:Nat):Int)) []=[]from rfl,List.append_nil,List.append_assoc];rfl
        rw[Ph.out]at HF;clear ed bK hat vU oM Al hHeld eZ hy bW kJ Am Nz hK3 fJ hF GA hown Sw bn;go_wp2
        go_roundw
        case rel=>exact⟨q+1,_,_,_,_,by omega,by go_num,HF⟩
        case measure=>simp[intOf];omega
       ·go_simp;have Rh:Ext wc.drew (wc.drew.alloc (.cells #[.int .i64 0,.bool false,.slice none 0 0,.slice none 0 0] 42)):=(ai _).alloc _;refine nx hK (hHeld.ext Rh) ?_;clear hK K;refine aI 20 λK hK=>?_;go_simp;refine(zQ.out _ _ _ _ _ _ _ _ _ _ _ _ _ _ (lV.out.1.mb.ext Rh) (HU.out.ext Rh) (HT.out.ext Rh) tC.out (Pt.out _ SF) (Zq.out _ SG) oF.out).mono ?_;rintro e w8 ⟨d0,d1,d2,d3,rfl,bW,kJ⟩;obtain⟨y,rfl,rfl,rfl,rfl,hy,_⟩:=bW.pe;go_wp2_with (fail);have eZ:Ext wc.drew w8:=Rh.trans kJ;have Al:=hHeld.ext eZ;refine nx hK Al ?_;clear hK K;refine aI 23 λK hK=>?_;have Ba:=kJ.size;refine TH _ (by rfl) (.tmp 108) (.tmp 121) _ (by rfl) w7.heap.size 42 i0 _ 4 64 Tryz.underlying34 hi hz0 hz1 hz2 rfl (by omega) (.slice va (c (σ a+τ q)) vc) (c (σ a+τ q)) (px (xx (σ a+τ q))) (by rfl) (HOW.out.ext eZ) wc.drew.heap.size 42 1 (arr #[.int .i64 0,.bool false,.slice none 0 0,.slice none 0 0]) (by rfl) ((au.aO wc.drew #[.int .i64 0,.bool false,.slice none 0 0,.slice none 0 0] 42 4 rfl).ext kJ) (Bu PE.z) (by unfold maxLen;omega) (by omega) (by have:=eZ.size;omega) ?_;intro gg cap2 w9 ed bK hat uf;have Hr:∀g,(Value.slice va (c (σ a+τ q)) vc).ownBlock=some g->w7.heap.size<=g:=λg hg=>(HOW.out.lt g hg).1;have oM:=Al.heap λq hq=>bK.block q (by have:=Oa q hq;have:=eZ.size;omega) (λe=>by have:=Hr q e.symm;have:=Oa q hq;omega)
        have qmB:w9.frozen? ⟨w2.heap.size,σ a+τ q,none⟩=false:=((lV.out.1.blk.ext eZ).grown bK (λe=>by have:=Hr _ e.symm;omega)).frozen _;refine nx hK oM ?_;clear hK K;refine aI 24 λK hK=>?_;go_simp;refine nx hK oM ?_;clear hK K;have hc9:=oM.1;refine aI 25 λK hK=>?_;go_simp;refine fz hK ?_;clear hK K;have vU:=ed.congr λj hj=>DT (xx (σ a+τ q)) (c (σ a+τ q)) PE.z j hj;rw[<-Jq.out]at bK hat;have hF:=lV.out.step (l:=[]) iq (by omega) (by omega) eZ vU bK hat (ai w9) (CR.zero _ _ _);have Sw:=lV.out.1.qi7 (k0:=σ a+τ q) (n:=c (σ a+τ q)+1) (cap2:=cap2) (.slice (some ⟨gg,0,none⟩) (c (σ a+τ q)+1) cap2) (lV.out.1.qb7 iq bK hat hy);have hown:=hF.1.own _ iq;rw[jS,jS]at hown;obtain⟨⟨_,g0⟩,⟨_,g1⟩,⟨_,g2⟩,⟨_,g3⟩,bn,gP,nZ,qdE⟩:=qpY hown;have jw:=bn (c (σ a+τ q)*4);have ku:=bn (c (σ a+τ q)*4+1);have kv:=bn (c (σ a+τ q)*4+2);have oU:=bn (c (σ a+τ q)*4+3);obtain⟨xx2,S2,GA⟩:=hF.replace iq (by omega) rfl Sw;have HF:=ae GA
        have Ph:Hid (((bF a λa=>bF qB λb=>lH (D2+1) P Q (σ a) (τ b))++bF q λb=>lH (D2+1) P Q (σ a) (τ b))++shift (xp (D2+1) ((σ a+τ q:Nat):Int)) []++shift (xp (D2+1) ((σ a+τ q:Nat):Int)) (aC (P (σ a)) (Q (τ q)))=((bF a λa=>bF qB λb=>lH (D2+1) P Q (σ a) (τ b))++bF (q+1) λb=>lH (D2+1) P Q (σ a) (τ b))):=by
         show _=_;rw[kL,show shift (xp (D2+1) ((σ a+τ q:Nat):Int)) []=[]from rfl,List.append_nil,List.append_assoc];rfl
        rw[Ph.out]at HF;clear ed bK hat vU oM Al hHeld eZ hy bW kJ Am Nz hK3 fJ hF GA hown Sw bn;go_wp2
        go_roundw
        case rel=>exact⟨q+1,_,_,_,_,by omega,by go_num,HF⟩
        case measure=>simp[intOf];omega
      ·go_wp2;refine fB (Cc w2.heap.size (σ a+τ q) w.heap.size b (off+σ a*4) b' (off'+τ q*4) (.slice va (c (σ a+τ q)) vc) (.slice (some ⟨b,off,none⟩) n cap) (.slice (some ⟨b',off',none⟩) n' cap') u t) 24 HS.out λhHeld=>?_;refine bH [0,1,2,3,4,5,6,7,8,9,10,11,12,13,14,15,16,17,18,19] ?_;(iterate 20 refine bG ?_ (hy:=by intro wS hSw;obtain⟨S1,S2,S3,⟨S4,S5,S6,S7⟩,S8,S9,oI,EA⟩:=hSw;go_simp;try with_reducible rfl));refine bI ?_;refine aI 20 λK hK=>?_;go_simp;refine(zQ.out _ _ _ _ _ _ _ _ _ _ _ _ _ _ lV.out.1.mb HU.out HT.out tC.out (Pt.out _ SF) (Zq.out _ SG) oF.out).mono ?_;rintro e w8 ⟨d0,d1,d2,d3,rfl,bW,kJ⟩;obtain⟨y,rfl,rfl,rfl,rfl,hy,_⟩:=bW.pe;go_wp2_with (fail);refine nx hK (hHeld.ext kJ) ?_;clear hK K;refine aI 21 λK hK=>?_;go_simp;have eZ:Ext wc.drew (w8.alloc (.cells (ag y) 42)):=kJ.alloc _;have Al:=hHeld.ext eZ;refine nx hK Al ?_;clear hK K;refine aI 22 λK hK=>?_;have Ba:=kJ.size;refine TH _ (by rfl) (.tmp 134) (.tmp 146) _ (by rfl) w7.heap.size 42 i0 _ 4 64 Tryz.underlying34 hi hz0 hz1 hz2 rfl (by omega) (.slice va (c (σ a+τ q)) vc) (c (σ a+τ q)) (px (xx (σ a+τ q))) (by rfl) (HOW.out.ext eZ) w8.heap.size 42 1 (arr (ag y)) (by rfl) (au.aO w8 (ag y) 42 4 rfl) (Bu y) (by unfold maxLen;omega) (by omega) (by simp;omega) ?_;intro gg cap2 w9 ed bK hat uf;have Hr:∀g,(Value.slice va (c (σ a+τ q)) vc).ownBlock=some g->w7.heap.size<=g:=λg hg=>(HOW.out.lt g hg).1
       have oM:=Al.heap λq hq=>bK.block q (by have:=Oa q hq;simp;omega) (λe=>by have:=Hr q e.symm;have:=Oa q hq;omega);have qmB:w9.frozen? ⟨w2.heap.size,σ a+τ q,none⟩=false:=((lV.out.1.blk.ext eZ).grown bK (λe=>by have:=Hr _ e.symm;omega)).frozen _;refine nx hK oM ?_;clear hK K;refine aI 23 λK hK=>?_;go_simp;refine nx hK oM ?_;clear hK K;have hc9:=oM.1;refine aI 24 λK hK=>?_;go_simp;refine fz hK ?_;clear hK K;have vU:=ed.congr λj hj=>DT (xx (σ a+τ q)) (c (σ a+τ q)) y j hj;rw[<-Jq.out]at bK hat;have HF:=ae (lV.out.step iq (by omega) (by omega) eZ vU bK hat (ai w9) (lV.out.1.qb7 iq bK hat (hy.ext ((ai w8).alloc _))))
       have Ph:Hid (((bF a λa=>bF qB λb=>lH (D2+1) P Q (σ a) (τ b))++bF q λb=>lH (D2+1) P Q (σ a) (τ b))++shift (xp (D2+1) ((σ a+τ q:Nat):Int)) (aC (P (σ a)) (Q (τ q)))=((bF a λa=>bF qB λb=>lH (D2+1) P Q (σ a) (τ b))++bF (q+1) λb=>lH (D2+1) P Q (σ a) (τ b))):=by
        show _=_;rw[kL,List.append_assoc];rfl
       rw[Ph.out]at HF;clear ed bK hat vU oM Al hHeld eZ hy bW kJ Am Nz hK3 fJ;go_wp2
       go_roundw
       case rel=>exact⟨q+1,_,_,_,_,by omega,by go_num,HF⟩
       case measure=>simp[intOf];omega
    ·have qyT:q=qB:=by omega
     subst qyT
     have HF:Hid (xq (Mx M w.heap.size (w2.heap.size+1)) w w7 wr w2.heap.size D2 (n+n'-1) (bF (a+1) λa=>bF q λb=>lH (D2+1) P Q (σ a) (τ b)) ((a+1)*q) v c xx S):=by
      have:=qj.out;rw[kL,Nat.add_mul,Nat.one_mul];exact this
     clear qj;go_wp2
     go_roundw
     case rel=>exact⟨a+1,v,c,xx,S,by omega,by go_num,HF⟩
     case measure=>simp[intOf];omega
  ·have Wd:a=Vy:=by omega
   subst Wd;obtain⟨wo,rfl⟩:∃wo:World,wo=wr:=⟨_,rfl⟩
   go_wp2_with (at_make;go_must (refine wpList_make_full _ rfl _ _ _ rfl wo.heap.size 42 i0 (.agg #[.int .i64 0,.bool false,.slice none 0 0,.slice none 0 0]) 4 Tryz.underlying34 hi hz0 hz1 .i64 .i64 _ _ (n+n'-1) rfl rfl ?k4 ?k5 ?k2 ?k3 ?k6 ?_))
   case k2=>rw[hz2];omega
   case k3=>unfold maxLen;omega
   case k4=>simp
   case k5=>simp
   case k6=>omega
   intro w8 hown hgrow;have bR:=(au.made hown rfl (by omega)).congr (f':=fH) (λi _=>Ed i);have kJ:=mE hgrow;have PW:=ae (qj.out.ext kJ)
   have Ba:wo.heap.size+1<=w8.heap.size:=by have:=bR.lt;omega
   have l6:Hid (Kids (Mx (Mx M w.heap.size (w2.heap.size+1)) wo.heap.size (wo.heap.size+1)) w8 D2 wo.heap.size (n+n'-1) (λ_=>[])):=Kids.fresh bR
   have Uy:Hid (∀k,k<n+n'-1->dP (Mx (Mx M w.heap.size (w2.heap.size+1)) wo.heap.size (wo.heap.size+1)) w8 D2 (v k) (c k) (S k)):=λk hk=>by
    have h1:=qj.out.1;refine((h1.own k hk).toK (M:=Mx M w.heap.size (w2.heap.size+1)) (D:=D2) (S:=S k) (λi hi=>(h1.cr k hk i hi).more λg hg=>.inl (.inl hg)) (λg hg hh=>by have:=h1.BM g hh;omega) ?_ |>.more (Mx.more (aA _))).ext kJ;have h2:=qj.out.2.2.2.1 k;have h3:a*qB<=n*n':=Nat.mul_le_mul NT qF;have h4:=xg.out;omega
   have HNL:Hid (∀k,k<n+n'-1->aF (aB (bF (c k) (S k)))<=1099511627776):=λk hk=>by
    have h1:=DR (D2+1) (n+n'-1) (λk=>bF (c k) (S k)) k hk;have h2:=qj.out.2.2.2.2.2
    have h3:aB (bF a λa=>bF qB λb=>lH (D2+1) P Q (σ a) (τ b))<=aB lx*aB ly:=by
     refine aK (qpJ qai.out λi=>bF qB λb=>lH (D2+1) P Q i (τ b)) ?_;refine aK (qqm λi _=>qpJ UN.out λj=>lH (D2+1) P Q i j) ?_;rw[qA3];exact Nat.mul_le_mul qs0.out qs1.out
    have h4:=nN (aB lx) (aB ly);have h5:=fu (aK h1 (h2 ▸ h3));have h6:=tF.out;omega
   have qtn:Hid (af (aM (D2+1) (n+n'-1) λk=>bF (c k) (S k)) (aC lx ly)):=by
    refine af.trans qj.out.2.2.2.2.1 (af.trans ?_ ((qBJ (D2+1) n n' P Q).symm.trans (af.aC HSP.out Jm.out)))
    have qov:∀i j,af (P i) []\/af (Q j) []->af (lH (D2+1) P Q i j) []:=by
     intro i j hh;unfold lH
     have:af (aC (P i) (Q j)) []:=by
      rcases hh with h|h
      ·exact h.qN (Q j)
      ·exact(h.vg (P i)).trans (by rw[XT];exact af.refl _)
     exact this.shift _
    have hnil:∀m(F:Nat->List Tm),(∀j,j<m->af (F j) [])->af (bF m F) []:=by
     intro m F h
     induction m with
     |zero=>exact af.refl _
     |succ m ih=>
      rw[kL];have:=(ih λj hj=>h j (by omega)).append (h m (by omega));simpa using this
    refine af.trans (qqn qai.out (λi=>bF qB λb=>lH (D2+1) P Q i (τ b)) λi hi hz=>?_) (Lt λi hi=>qqn UN.out (λj=>lH (D2+1) P Q i j) λj hj hz=>?_)
    ·refine hnil _ _ λj _=>qov i (τ j) (.inl ?_)
     exact gQ λhc=>by have:=(qs2.out i hi).2 hc;rw[hz]at this;cases this
    ·refine qov i j (.inr ?_)
     exact gQ λhc=>by have:=(qs3.out j hj).2 hc;rw[hz]at this;cases this
   have Y4:=ae PW.out.1.blk;have IZ:=ae PW.out.2.2.1;have qGL:=qj.out.2.1.1;have qGS:=qj.out.1.blk.lt;have Md:Hid (au w8 w.heap.size 42 4 (arr #[.int .i64 ((D2:Int)+1),.bool bX,.slice aX nX pX,.slice (some ⟨b,off,none⟩) n cap])):=LX.out.of_heap (PW.out.2.1.2 _ LX.out.lt (by omega));have nH:Hid (au w8 (w.heap.size+2) 42 4 (arr #[.int .i64 0,.bool false,.slice none 0 0,.slice none 0 0])):=HG2.out.of_heap (PW.out.2.1.2 _ HG2.out.lt (by omega));clear hown hgrow bR kJ qj PW;go_wp2
   go_loopw [156] (λi wr=>∃k:Nat,k<=n+n'-1/\i=.int .i64 k/\wo.heap.size+1<=wr.heap.size/\Hid (Kids (Mx (Mx M w.heap.size (w2.heap.size+1)) wo.heap.size (wo.heap.size+1)) wr D2 wo.heap.size (n+n'-1) (λi=>if i<k then bF (c i) (S i)else[]))/\Hid (Ext w wr)/\Hid (Kp (λb=>b=wo.heap.size) w8 wr)) (λi _=>(n+n'-1)-(intOf i).toNat)
   case atStart=>exact⟨0,bu _,rfl,Ba,l6.out.congr λi _=>by rw[aj (by omega)];exact af.refl _,IZ,Kp.refl _ _⟩
   case round=>
    clear l6 IZ;obtain⟨k,hk,rfl,hsz,HK,bM,L6⟩:=hrel
    by_cases rC:k<n+n'-1
    ·obtain⟨va,vc,hv0⟩:=(Uy.out k rC).form;have s0:=Y4.out.cell rC;rw[<-L6.out.cell Y4.out.lt (by omega),hv0]at s0
     have qF8:w2.heap.size<wr.heap.size:=by have:=L6.out.1;have:=Y4.out.lt;omega
     have qcF:=Uy.out k rC;rw[hv0]at qcF;have jA:dP (Mx (Mx M w.heap.size (w2.heap.size+1)) wo.heap.size (wo.heap.size+1)) wr D2 (.slice va (c k) vc) (c k) (S k):=qcF.kp (L6.out.mono λb hb=>by subst hb;exact Mx.at (by omega));have hMk:Mb (Mx (Mx M w.heap.size (w2.heap.size+1)) wo.heap.size (wo.heap.size+1)) wr:=Mx.mb (Mx.mb hM bM.out.size (by omega)) (aA _) (by omega);have aJ:=ae (qqN D2 _ _ _ _ wr hMk jA (HNL.out k rC))
     have hkk:(k:Int)<((n+n'-1:Nat):Int):=by omega
     have qGi:(0:Int)<=(k:Int):=jE _;clear qcF jA hMk hv0;go_wp2_with (fail);refine(aJ.out).mono ?_;rintro e w9 ⟨d0,d1,d2,d3,rfl,bW,mG⟩;obtain⟨lF,b2,a2,n2,p2,iW,kC,iX,rfl,rfl,rfl,rfl,_⟩:=bW.form;have fJ:=HK.out.ext mG;obtain⟨⟨_,k0⟩,⟨_,k1⟩,⟨_,k2⟩,⟨_,k3⟩,bn,jh⟩:=fJ.at k rC;have jw:=bn (k*4);have ku:=bn (k*4+1);have kv:=bn (k*4+2);have oU:=bn (k*4+3)
     have nD:Hid (Kids (Mx (Mx M w.heap.size (w2.heap.size+1)) wo.heap.size (wo.heap.size+1)) (aD w9 wo.heap.size (k*4) (.int .i64 lF) (.bool b2) (.slice a2 n2 p2) (.slice iW kC iX)) D2 wo.heap.size (n+n'-1) (λi=>if i<k+1 then bF (c i) (S i)else[])):=by
      refine(fJ.set (Mx.at (by omega)) k rC bW).congr λi _=>?_
      by_cases fe:i=k
      ·subst fe;rw[av rfl,av (by omega)];exact af.refl _
      ·rw[aj fe]
       by_cases h3:i<k
       ·rw[av h3,av (by omega)];exact af.refl _
       ·rw[aj h3,aj (by omega)];exact af.refl _
     have cZ:Hid (Ext w (aD w9 wo.heap.size (k*4) (.int .i64 lF) (.bool b2) (.slice a2 n2 p2) (.slice iW kC iX))):=(bM.out.trans mG).aD (by omega) _ _ _ _ _;have qsD:Hid (Kp (λb=>b=wo.heap.size) w8 (aD w9 wo.heap.size (k*4) (.int .i64 lF) (.bool b2) (.slice a2 n2 p2) (.slice iW kC iX))):=(L6.out.trans (Kp.gZ mG)).trans (Kp.aD (M:=λb=>b=wo.heap.size) (g:=wo.heap.size) rfl _ _ _ _ _)
     have uG:Hid (wo.heap.size+1<=(aD w9 wo.heap.size (k*4) (.int .i64 lF) (.bool b2) (.slice a2 n2 p2) (.slice iW kC iX)).heap.size):=by show _<=_;rw[kN];have:=mG.size;omega
     clear fJ bn bW mG s0;go_wp2
     go_roundw
     case rel=>exact⟨k+1,by omega,by go_num,uG.out,nD,cZ,qsD⟩
     case measure=>simp[intOf];omega
    ·have hkn:k=n+n'-1:=by omega
     have hQ0:=Md.out.of_heap (L6.out.2 _ Md.out.lt (by omega));have EN:=nH.out.of_heap (L6.out.2 _ nH.out.lt (by omega));have x0:=hQ0.cell (i:=0) (by omega);simp only[arr]at x0;have qG1:=hQ0.lt
     have rT:Hid (dP (Mx M w.heap.size (w.heap.size+3)) wr D2 (.slice (some ⟨wo.heap.size,0,none⟩) (n+n'-1) (n+n'-1)) (n+n'-1) (λi=>bF (c i) (S i))):=by
      refine dP.congr (dP.qfi (HK.out.more λg hg=>.inl (.inl (hg.imp id λh=>by omega))) (λhh=>hh.elim (hM.new (by omega)) (by omega)) (by omega)) λi hi=>?_;rw[av (by omega)];exact af.refl _
     have aJ:=ae (qfK (Mx M w.heap.size (w.heap.size+3)) D2 _ _ _ wr (Mx.mb hM bM.out.size (by omega)) nT rT.out);have qta:=ae EN;have hk':decide (k<n+n'-1)=false:=decide_eq_false rC;clear hQ0 EN hkn;go_wp2_with (fail);refine(aJ.out).mono ?_;rintro e w9 ⟨d0,d1,d2,d3,rfl,bW,mG⟩;obtain⟨lF,b2,a2,n2,p2,iW,kC,iX,rfl,rfl,rfl,rfl,_⟩:=bW.form;obtain⟨⟨q0,q1,q2,q3⟩,⟨f0,f1,f2,f3⟩,⟨r0,r1,r2,r3⟩,HF⟩:=vw (M:=M) (w:=w) (L:=L) (qta.out.ext mG) (Mx.at (by omega)) (by omega) (bM.out.trans mG) ((bW.up Aj).bP qtn.out) Mx.sub;simp only[arr]at q0 q1 q2 q3;clear bW mG;go_wp2;exact aV (v:=.agg #[.int .i64 lF,.bool b2,.slice a2 n2 p2,.slice iW kC iX]) (by simp[results,Tryz.results67,go_sem,r0,r1,r2,r3]) rfl HF.out
theorem qCG(L:Nat):U8 L:=by
 induction L using Nat.strongRecOn with
 |_ L ih=>exact qAu L (λD hD=>ih D hD) (mul_eq L λD hD=>ih D hD)
end Go.Proofs.YtaafefeafonhdaaGreat
