/- Mg -/
import Derived.Test.YtmcfpnmoklnhoaaGreatMf
set_option linter.unusedVariables false
set_option maxRecDepth 100000
set_option maxHeartbeats 400000000
set_option linter.unusedSimpArgs false
namespace Go.Proofs.YtmcfpnmoklnhoaaGreat
open Go.RowKit
theorem Tryz.qyp:(Tryz.prog.info? 31).map (λi=>(i.zero,i.size,i.bytes))=some (some (.slice none 0 0),1,24):=by kernel_rfl
def CY(gp k0 bx b o b' o':Nat)(vk X3 Y3:Value)(u t:PE)(w:World):Prop:=w.cell? ⟨gp,k0,none⟩=some vk/\w.cell? ⟨bx,3,none⟩=some X3/\w.cell? ⟨bx+1,3,none⟩=some Y3/\jK w b o u/\jK w b' o' t
theorem CY.heap{gp k0 bx b o b' o':Nat}{vk X3 Y3:Value}{u t:PE}{w w':World}(h:CY gp k0 bx b o b' o' vk X3 Y3 u t w)(he:∀q,q=gp\/q=bx\/q=bx+1\/q=b\/q=b'->w'.heap[q]?=w.heap[q]?):CY gp k0 bx b o b' o' vk X3 Y3 u t w':=by
 have hc:∀q o,q=gp\/q=bx\/q=bx+1\/q=b\/q=b'->w'.cell? ⟨q,o,none⟩=w.cell? ⟨q,o,none⟩:=λq o hq=>World.cell?_of_block (w:=w) (he q hq);obtain⟨h1,h2,h3,⟨h4,h5,h6,h7⟩,h8,h9,QN,h11⟩:=h;refine⟨?_,?_,?_,⟨?_,?_,?_,?_⟩,?_,?_,?_,?_⟩
 ·rw[hc _ _ (by simp)];exact h1
 ·rw[hc _ _ (by simp)];exact h2
 ·rw[hc _ _ (by simp)];exact h3
 ·rw[hc _ _ (by simp)];exact h4
 ·rw[hc _ _ (by simp)];exact h5
 ·rw[hc _ _ (by simp)];exact h6
 ·rw[hc _ _ (by simp)];exact h7
 ·rw[hc _ _ (by simp)];exact h8
 ·rw[hc _ _ (by simp)];exact h9
 ·rw[hc _ _ (by simp)];exact QN
 ·rw[hc _ _ (by simp)];exact h11
theorem CY.ext{gp k0 bx b o b' o':Nat}{vk X3 Y3:Value}{u t:PE}{w w':World}(h:CY gp k0 bx b o b' o' vk X3 Y3 u t w)(he:Ext w w'):CY gp k0 bx b o b' o' vk X3 Y3 u t w':=
 h.heap λq hq=>he.heap (by
  obtain⟨h1,h2,h3,⟨h4,_⟩,h8,_⟩:=h;rcases hq with rfl|rfl|rfl|rfl|rfl
  ·exact oF _ _ h1
  ·exact oF _ _ h2
  ·exact oF _ _ h3
  ·exact oF _ _ h4
  ·exact oF _ _ h8)
theorem sW.qbQ{M:Nat->Prop}{B0:Nat}{w wa wb:World}{D gp K:Nat}{v:Nat->Value}{c:Nat->Nat}{xx:Nat->Nat->PE}{S:Nat->Nat->List Tm}(_:sW M B0 w D gp K v c xx S){k0:Nat}(hk:k0<K){gg:Nat}{y:PE}{l:List Tm}
 (hg:wa.grownBy wb (v k0).ownBlock) (hat:(v k0).ownBlock=some gg\/wa.heap.size<=gg) (hy:aN (MP M v K) wa D y l):aN (λb=>MP M v K b\/b=gg) wb D y l:=by
 refine(hy.more ?_).kp (Kp.grown hg λq hq=>.inl (.inr ⟨k0,hk,hq⟩));rintro b (hb|rfl)
 ·exact .inl hb
 ·rcases hat with h1|h1
  ·exact .inl (.inr ⟨k0,hk,h1⟩)
  ·exact .inr h1
theorem sW.qiE{M:Nat->Prop}{B0:Nat}{w wc:World}{D gp K:Nat}{v:Nat->Value}{c:Nat->Nat}{xx:Nat->Nat->PE}{S:Nat->Nat->List Tm}(h:sW M B0 w D gp K v c xx S){k0:Nat}{gg n cap2:Nat}{y:PE}{l:List Tm}(u:Value)
 (hy:aN (λb=>MP M v K b\/b=gg) wc D y l):aN (MP M (jP v k0 (.slice (some ⟨gg,0,none⟩) n cap2)) K) (wc.setCell ⟨gp,k0,none⟩ u) D y l:=by
 refine(hy.kp (Kp.set _ _ (p:=⟨gp,k0,none⟩) (.inl (.inl h.QL)) _)).more ?_;rintro b (hb|⟨k,kS,e⟩)
 ·exact .inl (.inl (.inl hb))
 ·by_cases hkk:k=k0
  ·subst hkk;rw[kK]at e;cases e;exact .inl (.inr rfl)
  ·rw[pR _ _ _ _ hkk]at e;exact .inl (.inl (.inr ⟨k,kS,e⟩))
theorem qpd{w:World}{base g cap c:Nat}{f:Nat->Value}(h:Own w base 33 4 (.slice (some ⟨g,0,none⟩) (c+1) cap) (c+1) f):(∃e,w.cell? ⟨g,c*4,none⟩=some e)/\(∃e,w.cell? ⟨g,c*4+1,none⟩=some e)/\(∃e,w.cell? ⟨g,c*4+2,none⟩=some e)/\(∃e,w.cell? ⟨g,c*4+3,none⟩=some e)/\(∀o,w.frozen? ⟨g,o,none⟩=false)/\g<w.heap.size/\c+1<=cap/\cap<=maxLen:=by
 rcases h with⟨h1,_⟩|⟨g',cap',F,h1,hg,hB,hc,hm,hF⟩
 ·cases h1
 ·simp only[Value.slice.injEq,Option.some.injEq,Addr.mk.injEq,and_true,true_and]at h1;obtain⟨rfl,rfl⟩:=h1;exact⟨⟨_,hB.cell (by omega)⟩,⟨_,hB.cell (by omega)⟩,⟨_,hB.cell (by omega)⟩,⟨_,hB.cell (by omega)⟩,hB.frozen,hB.lt,hc,hm⟩
def xD(M:Nat->Prop)(w w7 wr:World)(gp D K:Nat)(acc:List Tm)(cnt:Nat)(v:Nat->Value)(c:Nat->Nat)(xx:Nat->Nat->PE)(S:Nat->Nat->List Tm):Prop:=
 sW M w7.heap.size wr D gp K v c xx S/\Kp (λb=>b=gp) w7 wr/\Ext w wr/\(∀k,c k<=cnt)/\af (aQ (D+1) K λk=>bP (c k) (S k)) acc/\aK (aQ (D+1) K λk=>bP (c k) (S k))=aK acc
theorem xD.ext{M:Nat->Prop}{w w7 wr w':World}{gp D K:Nat}{acc:List Tm}{cnt:Nat}{v:Nat->Value}{c:Nat->Nat}{xx:Nat->Nat->PE}{S:Nat->Nat->List Tm}(h:xD M w w7 wr gp D K acc cnt v c xx S)(he:Ext wr w'):xD M w w7 w' gp D K acc cnt v c xx S:=
 ⟨h.1.ext he,h.2.1.trans (Kp.kV he),h.2.2.1.trans he,h.2.2.2⟩
theorem xD.step{M:Nat->Prop}{w w7 wr wa wb wc:World}{gp D K:Nat}{acc:List Tm}{cnt:Nat}{v:Nat->Value}{c:Nat->Nat}{xx:Nat->Nat->PE}{S:Nat->Nat->List Tm}(h:xD M w w7 wr gp D K acc cnt v c xx S){k0:Nat}(hk:k0<K){gg cap2:Nat}{y:PE}{l:List Tm}(hw:w.heap.size<=gp)(FC:gp<w7.heap.size)
 (he:Ext wr wa) (hO:Own wb w7.heap.size 33 4 (.slice (some ⟨gg,0,none⟩) (c k0+1) cap2) (c k0+1) (px (snoc (xx k0) (c k0) y))) (hg:wa.grownBy wb (v k0).ownBlock) (hat:(v k0).ownBlock=some gg\/wa.heap.size<=gg)
 (aJ:Ext wb wc) (hy:aN (λb=>MP M v K b\/b=gg) wc D y l):
 xD M w w7 (wc.setCell ⟨gp,k0,none⟩ (.slice (some ⟨gg,0,none⟩) (c k0+1) cap2)) gp D K (acc++shift (xp (D+1) (k0:Int)) l) (cnt+1) (jP v k0 (.slice (some ⟨gg,0,none⟩) (c k0+1) cap2)) (jP c k0 (c k0+1)) (jP xx k0 (snoc (xx k0) (c k0) y)) (jP S k0 (snoc (S k0) (c k0) l)):=by
 obtain⟨h1,h2,h3,h4,h5,h6⟩:=h;have D6:∀b,(v k0).ownBlock=some b->w7.heap.size<=b:=λb hb=>((h1.own k0 hk).lt b hb).1;obtain⟨p1,p2⟩:=qet (L:=D+1) hk (F:=λk=>bP (c k) (S k)) (F':=λk=>bP (jP c k0 (c k0+1) k) (jP S k0 (snoc (S k0) (c k0) l) k)) (l:=l) (λk _ hne=>by simp only[pR _ _ _ _ hne]) (by simp only[kK];exact qew _ _ _);have hw7:=h2.1;refine⟨h1.step hk he hO hg hat aJ hy,⟨?_,λb hb hne=>?_⟩,?_,λk=>?_,?_,?_⟩
 ·have:=he.size;have:=hg.size;have:=aJ.size;simp[World.setCell];omega
 ·have hba:b<wa.heap.size:=by have:=he.size;omega
  have NR:b<wb.heap.size:=by have:=hg.size;omega
  rw[Below.heap_setCell _ _ _ _ hne,aJ.heap NR,hg.block b hba (λe=>by have:=D6 b e.symm;omega),he.heap (by omega)];exact h2.2 b hb hne
 ·exact(((h3.trans he).grown hg (λb hb=>by have:=D6 b hb;omega)).trans (Ext.trans (aA _) aJ)).set (by exact hw) _
 ·by_cases hkk:k=k0
  ·subst hkk;rw[kK];have:=h4 k;omega
  ·rw[pR _ _ _ _ hkk];have:=h4 k;omega
 ·exact p1.trans (h5.append (af.refl _))
 ·rw[p2,h6,lN,xg]
theorem xD.replace{M:Nat->Prop}{w w7 wr:World}{gp D K:Nat}{acc:List Tm}{cnt:Nat}{v:Nat->Value}{c:Nat->Nat}{xx:Nat->Nat->PE}{S:Nat->Nat->List Tm}{k0 q:Nat}{vk:Value}{sk:Nat->PE}{Sk:Nat->List Tm}(h:xD M w w7 wr gp D K acc cnt (jP v k0 vk) (jP c k0 (q+1)) (jP xx k0 sk) (jP S k0 (snoc Sk q [])))(hk:k0<K){gg cap2:Nat}{y:PE}{l:List Tm}(hw:w.heap.size<=w7.heap.size)
 (hv:vk=.slice (some ⟨gg,0,none⟩) (q+1) cap2) (hy:aN (MP M (jP v k0 vk) K) wr D y l):
 ∃xx' S',xD M w w7 (aM wr gg (q*4) (.int .i64 y.lv) (.bool y.b) (.slice y.a y.n y.p) (.slice y.ka y.kn y.kp)) gp D K (acc++shift (xp (D+1) (k0:Int)) l) cnt (jP v k0 vk) (jP c k0 (q+1)) xx' S':=by
 obtain⟨h1,h2,h3,h4,h5,h6⟩:=h;have Ia:w7.heap.size<=gg:=((h1.own k0 hk).lt gg (by rw[kK,hv];rfl)).1
 obtain⟨p1,p2⟩:=qet (L:=D+1) hk (F:=λk=>bP (jP c k0 (q+1) k) (jP S k0 (snoc Sk q []) k)) (F':=λk=>bP (jP c k0 (q+1) k) (jP (jP S k0 (snoc Sk q [])) k0 (jP (jP S k0 (snoc Sk q []) k0) q l) k)) (l:=l) (λk _ hne=>by simp only[pR _ _ _ _ hne]) (by
  simp only[kK];rw[lF,lF,kK,uL,List.append_nil]
  congr 1
  exact qpy λi hi=>by rw[pR _ _ _ _ (by omega)])
 refine⟨_,_,h1.replace hk (gg:=gg) (cap2:=cap2) (q:=q) (y:=y) (l:=l) (by rw[kK,kK];exact hv) (by rw[kK];omega) hy,⟨?_,λb hb hne=>?_⟩,h3.aM (by omega) _ _ _ _ _,h4,p1.trans (h5.append (af.refl _)),?_⟩
 ·rw[nW];exact h2.1
 ·rw[iI _ _ _ _ _ _ _ _ (by omega)];exact h2.2 b hb hne
 ·rw[p2,h6,lN,xg]
theorem mul_eq(L:Nat)(ih:∀D,D<L->Vh D):qih L:=by
 intro M lx ly B1 C1 X Y w hM hX hY jZ QW QX QS hXY ky FR FT;obtain⟨i0,hi,hz0,hz1,hz2⟩:=info_parts Tryz.zH;obtain⟨j0,hj,qya,qyb,qyc⟩:=info_parts Tryz.qyp;obtain⟨lvX,bX,aX,nX,pX,kaX,n,cap⟩:=X;obtain⟨lvY,bY,aY,nY,pY,kaY,n',cap'⟩:=Y;unfold aN at hX hY;simp only at hX hY hXY ky FR FT;subst hXY;obtain⟨D,AY,l7,vG,_,_,b,off,n1,xH,P,fF,fw,oI,mg,gH,mi,iB,hb,qC,dP,dB,fQ,fJ,gQ⟩:=hX.IY ky;obtain⟨D2,qvU,_,_,_,_,b',off',n1',qtl,Q,XJ,XK,SG,lD,knL,knc,kcm,kb,kMb,SH,SI,XN,K7,knr⟩:=hY.IY ky
 have:D2=D:=by omega
 subst this;simp only[Value.bool.injEq,Value.slice.injEq]at fF fw oI XJ XK SG;obtain⟨rfl,rfl,rfl⟩:=oI;obtain⟨rfl,rfl,rfl⟩:=SG;subst AY;clear fF fw XJ XK qvU ky;obtain⟨ou,xS⟩:=Dp l7 (by omega) dB fQ (QW.dh fJ.symm);obtain⟨kdn,kdk⟩:=Dp l7 (by omega) SI XN (QX.dh K7.symm);have yz:=ae dP;have Ah:=ae SH;have HSP:=ae fJ;have PV:=ae K7;have qsa:=ae gQ;have qsb:=ae knr;have Gf:=ae xS;have Zy:=ae kdk;have Ev:=ae jZ;have qg:=ae QS;have UM:Hid (∀i,i<n->aK (P i)<=aK lx):=λi hi=>aR (Lg (D2+1) n P i hi) gQ;have Me:Hid (∀i,i<n'->aK (Q i)<=aK ly):=λi hi=>aR (Lg (D2+1) n' Q i hi) knr;have Ad:=ae (ih D2 (by omega));have vE:(0:Int)<=(D2:Int):=iw _
 have yV:((D2:Int)+1==0)=false:=by simp;omega
 have qwV:decide ((D2:Int)+1<(D2:Int)+1)=false:=decide_eq_false (by omega);have aV:Ext w (((w.alloc (.cells #[.int .i64 ((D2:Int)+1),.bool bX,.slice aX nX pX,.slice (some ⟨b,off,none⟩) n cap] 33)).alloc (.cells #[.int .i64 ((D2:Int)+1),.bool bY,.slice aY nY pY,.slice (some ⟨b',off',none⟩) n' cap'] 33)).alloc (.cells #[.int .i64 0,.bool false,.slice none 0 0,.slice none 0 0] 33)):=(((aA w).alloc _).alloc _).alloc _;have b0:=((aG.bq w #[.int .i64 ((D2:Int)+1),.bool bX,.slice aX nX pX,.slice (some ⟨b,off,none⟩) n cap] 33 4 rfl).alloc (.cells #[.int .i64 ((D2:Int)+1),.bool bY,.slice aY nY pY,.slice (some ⟨b',off',none⟩) n' cap'] 33)).alloc (.cells #[.int .i64 0,.bool false,.slice none 0 0,.slice none 0 0] 33);have b1:=(aG.bq (w.alloc (.cells #[.int .i64 ((D2:Int)+1),.bool bX,.slice aX nX pX,.slice (some ⟨b,off,none⟩) n cap] 33)) #[.int .i64 ((D2:Int)+1),.bool bY,.slice aY nY pY,.slice (some ⟨b',off',none⟩) n' cap'] 33 4 rfl).alloc (.cells #[.int .i64 0,.bool false,.slice none 0 0,.slice none 0 0] 33);have b2:=aG.bq ((w.alloc (.cells #[.int .i64 ((D2:Int)+1),.bool bX,.slice aX nX pX,.slice (some ⟨b,off,none⟩) n cap] 33)).alloc (.cells #[.int .i64 ((D2:Int)+1),.bool bY,.slice aY nY pY,.slice (some ⟨b',off',none⟩) n' cap'] 33)) #[.int .i64 0,.bool false,.slice none 0 0,.slice none 0 0] 33 4 rfl;simp only[World.size_alloc]at b1 b2
 have yf:w.heap.size+3<=(((w.alloc (.cells #[.int .i64 ((D2:Int)+1),.bool bX,.slice aX nX pX,.slice (some ⟨b,off,none⟩) n cap] 33)).alloc (.cells #[.int .i64 ((D2:Int)+1),.bool bY,.slice aY nY pY,.slice (some ⟨b',off',none⟩) n' cap'] 33)).alloc (.cells #[.int .i64 0,.bool false,.slice none 0 0,.slice none 0 0] 33)).heap.size:=by simp
 have Dj:=λW=>Jf ((D2:Int)+1) bX aX nX pX (some ⟨b,off,none⟩) n cap W;have Dl:=λW=>Jf ((D2:Int)+1) bY aY nY pY (some ⟨b',off',none⟩) n' cap' W;rw[FR]at Dj;rw[FT]at Dl;have CTX:=ae Dj;have CTY:=ae Dl;have gI:=ae aV;have dY:=ae b0;have dF:=ae b1;have eG:=ae b2;have Gz:=ae yf;clear hX hY dP SH dB SI fQ XN fJ K7 gQ knr xS kdk jZ QW QX QS ih FR FT Dj Dl aV b0 b1 b2 yf;have HR:Hid (af (aF lx ly) (aF lx ly)):=af.refl _
 go_enter Tryz.func118,Tryz.ntmps118
 go_wp2_with (fail);refine(CTX.out _).mono ?_;rintro e w1 ⟨rfl,az⟩;have eU:=az.size;have hw1:w.heap.size+3<=w1.heap.size:=aR Gz.out eU;clear eU;have qh:=ae (dY.out.ext az);have Ep:=ae (dF.out.ext az);have qi:=ae (eG.out.ext az);have aS:=ae (gI.out.trans az);have y0:=Ep.out.cell (i:=0) (by omega);have y1:=Ep.out.cell (i:=1) (by omega);have y2:=Ep.out.cell (i:=2) (by omega);have y3:=Ep.out.cell (i:=3) (by omega);simp only[arr]at y0 y1 y2 y3
 have hv2:w.heap.size+1<w1.heap.size:=by omega
 clear az dY dF eG gI Gz;go_wp2_with (fail);refine(CTY.out _).mono ?_;rintro e w2 ⟨rfl,aJ⟩;have hs2:=aJ.size
 have lC:w.heap.size+3<=w2.heap.size:=by omega
 have Et:=ae (qh.out.ext aJ);have Uj:=ae (Ep.out.ext aJ);have qW:=ae (qi.out.ext aJ);have aZ:=ae (aS.out.trans aJ);clear aJ qh Ep qi aS y0 y1 y2 y3 hv2 hs2;have x0:=Et.out.cell (i:=0) (by omega);have x3:=Et.out.cell (i:=3) (by omega);have y0:=Uj.out.cell (i:=0) (by omega);have y3:=Uj.out.cell (i:=3) (by omega);simp only[arr]at x0 x3 y0 y3
 have hu1:w.heap.size<w2.heap.size:=by omega
 have mo:w.heap.size+1<w2.heap.size:=by omega
 have hKL:n+n'<=1099511627776:=by
  have h1:n*n'<=(B1+1)*(C1+1):=Nat.mul_le_mul ou kdn;have h2:=qg.out
  have h3:n+n'<=n*n':=by
   obtain⟨p,rfl⟩:∃p,n=p+2:=⟨n-2,by omega⟩;obtain⟨q,rfl⟩:∃q,n'=q+2:=⟨n'-2,by omega⟩;rw[Nat.add_mul,Nat.mul_add];omega
  omega
 have UL:Hid (n*n'<=1099511627776):=aR (Nat.mul_le_mul ou kdn) qg.out
 go_wp2_with (at_make;go_must (refine wpList_make_full _ rfl _ _ _ rfl w2.heap.size 31 j0 (.slice none 0 0) 1 Tryz.underlying176 hj qya qyb .i64 .i64 _ _ (n+n'-1) rfl rfl ?m4 ?m5 ?m2 ?m3 ?m6 ?_))
 case m2=>rw[qyc];omega
 case m3=>unfold maxLen;omega
 case m4=>omega
 case m5=>omega
 case m6=>omega
 intro w5 hown hgrow;have cO:=aG.BK hown;have bn:=nL hgrow;have FC:w2.heap.size<w5.heap.size:=cO.lt;have HBP:=ae cO;have dV:=ae (aZ.out.trans bn);have Px:=ae (Et.out.ext bn);have Ex:=ae (Uj.out.ext bn);have dI:=ae (qW.out.ext bn);rw[<-bn.cell hu1]at x0 x3;rw[<-bn.cell mo]at y0 y3
 have Iz:w.heap.size<w5.heap.size:=by omega
 have ht2:w.heap.size+1<w5.heap.size:=by omega
 have uR:Hid (Mb (Mx M w.heap.size (w2.heap.size+1)) w5):=Mx.mb hM dV.out.size (by omega);have HKX:Hid (eY (Mx M w.heap.size (w2.heap.size+1)) w5 D2 (.slice (some ⟨b,off,none⟩) n cap) n P):=(eY.ext (eY.more ⟨gH,.inr ⟨b,off,cap,rfl,mi,iB,⟨hb,qC⟩,yz.out⟩⟩ (Mx.more (aI _))) dV.out);have HKY:Hid (eY (Mx M w.heap.size (w2.heap.size+1)) w5 D2 (.slice (some ⟨b',off',none⟩) n' cap') n' Q):=(eY.ext (eY.more ⟨knL,.inr ⟨b',off',cap',rfl,knc,kcm,⟨kb,kMb⟩,Ah.out⟩⟩ (Mx.more (aI _))) dV.out);clear hown hgrow cO bn aZ Et Uj qW hu1 mo;go_wp2_with (fail);refine(qp2 _ D2 _ n' Q w5 uR.out HKY.out).mono ?_;rintro e w6 ⟨uy,ry,τ,nzy,rfl,Q3,qli,qmW,fO⟩;rw[<-fO.cell Iz]at x0 x3;rw[<-fO.cell ht2]at y0 y3;have KT:=fO.size
 have ht3:w.heap.size<w6.heap.size:=by omega
 have ht4:w.heap.size+1<w6.heap.size:=by omega
 have Uy:=ae Q3;have UX:=ae qli;have qsf:=ae qmW;have fT:=ae fO;clear Q3 qli qmW fO;go_wp2_with (fail);refine(qp2 _ D2 _ n P w6 (uR.out.ext fT.out) (HKX.out.ext fT.out)).mono ?_;rintro e w7 ⟨ux,VL,σ,nzx,rfl,Q0,qcs,qmV,gX⟩;have hs7:=gX.size;have Ux:=ae Q0;have qgD:=ae (Uy.out.ext gX);have qal:=ae qcs;have qse:=ae qmV;have ni:=ae (fT.out.trans gX);have Wz:=qcs.len;have Fx:=UX.out.len;clear Q0 qcs qmV gX;obtain⟨ax,apx,rfl⟩:=Ux.out.form;obtain⟨ay,apy,rfl⟩:=qgD.out.form
 have Gu:Hid (sW (Mx M w.heap.size (w2.heap.size+1)) w7.heap.size w7 D2 w2.heap.size (n+n'-1) (λ_=>.slice none 0 0) (λ_=>0) (λ_ _=>PE.z) (λ_ _=>[])):=by
  refine⟨HBP.out.ext ni.out,λk _=>Own.nil _ _ _ _ _,(λk k' _ _ _ b hb=>by cases hb),(λk _ i hi=>by omega),Mx.at (by omega),by omega,uR.out.ext ni.out,λg hg=>?_⟩;exact(uR.out.ext ni.out) g hg
 have sO:=ae (Px.out.ext ni.out);have xk:=ae (Ex.out.ext ni.out);have HG2:=ae (dI.out.ext ni.out);have qgn:=ae (dV.out.trans ni.out);clear x0 x3 y0 y3 Uy Px Ex dI fT HBP;go_wp2
 go_loopw [87] (λi wr=>∃(a:Nat)(v:Nat->Value)(c:Nat->Nat)(xx:Nat->Nat->PE)(S:Nat->Nat->List Tm),a<=VL/\i=.int .i64 a/\Hid (xD (Mx M w.heap.size (w2.heap.size+1)) w w7 wr w2.heap.size D2 (n+n'-1) (bP a λa=>bP ry λb=>mD (D2+1) P Q (σ a) (τ b)) (a*ry) v c xx S)) (λi _=>VL-(intOf i).toNat)
 case atStart=>
  have hz:∀K,aQ (D2+1) K (λk=>bP 0 (λ_=>([]:List Tm)))=[]:=by
   intro K
   induction K with
   |zero=>rfl
   |succ K ih=>rw[gT,ih];rfl
  exact⟨0,_,_,_,_,bK _,rfl,Gu.out,Kp.refl _ _,qgn.out,λk=>by simp,by rw[hz];exact af.refl _,by rw[hz];rfl⟩
 case round=>
  clear Gu;obtain⟨a,v,c,xx,S,ha,rfl,qZ⟩:=hrel;have qnl:=qZ.out.2.1.1
  by_cases hlt:a<VL
  ·obtain⟨gx,rfl,gY,qd,BG,qx5,hx5⟩:=Ux.out.at a hlt;have qwY:gx≠w2.heap.size:=λe=>qx5 (e ▸ Mx.at (by omega));rw[<-qZ.out.2.1.cell BG qwY]at hx5
   have hxw:gx<wr.heap.size:=by omega
   obtain⟨Sq,hσ2⟩:=qal.out.mem a hlt;go_wp2;obtain⟨wo,rfl⟩:∃wo:World,wo=wr:=⟨_,rfl⟩
   go_loopw [93] (λi wr=>∃(q:Nat)(v:Nat->Value)(c:Nat->Nat)(xx:Nat->Nat->PE)(S:Nat->Nat->List Tm),q<=ry/\i=.int .i64 q/\Hid (xD (Mx M w.heap.size (w2.heap.size+1)) w w7 wr w2.heap.size D2 (n+n'-1) ((bP a λa=>bP ry λb=>mD (D2+1) P Q (σ a) (τ b))++bP q λb=>mD (D2+1) P Q (σ a) (τ b)) (a*ry+q) v c xx S)) (λi _=>ry-(intOf i).toNat)
   case atStart=>exact⟨0,v,c,xx,S,bK _,rfl,by show xD _ _ _ _ _ _ _ _ _ _ _ _ _;rw[qpB,List.append_nil];exact qZ.out⟩
   case round=>
    clear qZ hx5 qnl hxw;obtain⟨q,v,c,xx,S,hq,rfl,qZ⟩:=hrel;have qnl:=qZ.out.2.1.1
    by_cases hqc:q<ry
    ·obtain⟨gy,rfl,jh,rC,K3,qyd,hy5⟩:=qgD.out.at q hqc;have qwZ:gy≠w2.heap.size:=λe=>qyd (e ▸ Mx.at (by omega));rw[<-qZ.out.2.1.cell K3 qwZ]at hy5
     have hyw:gy<wr.heap.size:=by omega
     obtain⟨Su,hτ2⟩:=UX.out.mem q hqc;go_wp2
     go_cut [98] (λs wx=>(s=.bool true\/s=.bool false)/\Hid (Ext wr wx))
     case first=>
      go_region
      all_goals
       go_wp2_with (fail)
       go_meet
       exact⟨by simp,((aA wr).alloc _).drew⟩
     case rest=>
      obtain⟨qxQ,Jv⟩:=hcut;have qE5:=Jv.out.size;have xu:=ae (qZ.out.ext Jv.out);clear qZ hy5 hyw Jv
      have iO:σ a+τ q<n+n'-1:=by omega
      have j5:(0:Int)<=(σ a:Int):=iw _;have jf:(0:Int)<=(τ q:Int):=iw _
      have tN:(σ a:Int)<(n:Int):=by omega
      have mI:(τ q:Int)<(n':Int):=by omega
      obtain⟨va,vc,hv0⟩:=(xu.out.1.own _ iO).form;have JN:=ae hv0;obtain⟨e0,e1,e2,e3,z0,z1,z2,z3,hCu⟩:=yz.out (σ a) Sq;obtain⟨u,rfl,rfl,rfl,rfl,hu,_⟩:=hCu.pe;obtain⟨e0,e1,e2,e3,s0,s1,s2,s3,hCt⟩:=Ah.out (τ q) Su;obtain⟨t,rfl,rfl,rfl,rfl,ht,_⟩:=hCt.pe
      have hS:CY w2.heap.size (σ a+τ q) w.heap.size b (off+σ a*4) b' (off'+τ q*4) (.slice va (c (σ a+τ q)) vc) (.slice (some ⟨b,off,none⟩) n cap) (.slice (some ⟨b',off',none⟩) n' cap') u t wc.drew:=by
       refine CY.ext (w:=wc) ⟨by rw[xu.out.1.blk.cell iO,hv0],?_,?_,jK.ext ⟨z0,z1,z2,z3⟩ hb xu.out.2.2.1,jK.ext ⟨s0,s1,s2,s3⟩ kb xu.out.2.2.1⟩ (aA _).drew
       ·rw[xu.out.2.1.cell sO.out.lt (by omega)];exact sO.out.cell (i:=3) (by omega)
       ·rw[xu.out.2.1.cell xk.out.lt (by omega)];exact xk.out.cell (i:=3) (by omega)
      have HS:=ae hS
      have xW:∀g,MP (Mx M w.heap.size (w2.heap.size+1)) v (n+n'-1) g->M g\/w.heap.size<=g:=by
       rintro g (hg|⟨k,hk,e⟩)
       ·exact Mx.more (aI _) g hg
       ·have:=((xu.out.1.own k hk).lt g e).1;exact .inr (by omega)
      have HU:Hid (aN (MP (Mx M w.heap.size (w2.heap.size+1)) v (n+n'-1)) wc.drew D2 u (P (σ a))):=((hu.more xW).ext xu.out.2.2.1).ext (aA _).drew;have HT:Hid (aN (MP (Mx M w.heap.size (w2.heap.size+1)) v (n+n'-1)) wc.drew D2 t (Q (τ q))):=((ht.more xW).ext xu.out.2.2.1).ext (aA _).drew
      have Bj:c (σ a+τ q)+1<=1099511627776:=by
       have h1:=xu.out.2.2.2.1 (σ a+τ q);have h2:(a+1)*ry<=n*n':=Nat.mul_le_mul (by omega) Fx;rw[Nat.add_mul]at h2;have h3:=UL.out;omega
      have lW:=ae (xu.out.ext (aA wc).drew)
      have HOW:Hid (Own wc.drew w7.heap.size 33 4 (.slice va (c (σ a+τ q)) vc) (c (σ a+τ q)) (px (xx (σ a+τ q)))):=by have:=lW.out.1.own _ iO;rw[hv0]at this;exact this
      have wy:Hid (aH (aK (P (σ a)))+aH (aK (Q (τ q)))<=1099511627776):=by
       have h1:=jB (UM.out (σ a) Sq);have h2:=jB (Me.out (τ q) Su);have h3:=Ev.out;show _<=_;omega
      have Xj:w7.heap.size<=wc.drew.heap.size:=lW.out.2.1.1;have qEf:=lW.out.1.blk.lt;have eT:=lW.out.1.blk.frozen (σ a+τ q);clear hCu hCt hS hu ht z0 z1 z2 z3 s0 s1 s2 s3 hv0 xW
      have N8:∀p,p=w2.heap.size\/p=w.heap.size\/p=w.heap.size+1\/p=b\/p=b'->p<w7.heap.size:=by
       intro p hp;have:=qgn.out.size;omega
      have Fe:(σ a:Int)+(τ q:Int)<((n+n'-1:Nat):Int):=by omega
      have NC:(0:Int)<=(σ a:Int)+(τ q:Int):=by omega
      have hK3:((σ a:Int)+(τ q:Int)).toNat=σ a+τ q:=by omega
      have fo:IntKind.i64.wrap ((σ a:Int)+(τ q:Int))=(σ a:Int)+(τ q:Int):=IntWalk.i64_in _ (by omega);rcases qxQ with rfl|rfl
      ·go_wp2;refine gB (CY w2.heap.size (σ a+τ q) w.heap.size b (off+σ a*4) b' (off'+τ q*4) (.slice va (c (σ a+τ q)) vc) (.slice (some ⟨b,off,none⟩) n cap) (.slice (some ⟨b',off',none⟩) n' cap') u t) 25 (by kernel_rfl) HS.out (λhHeld=>?_);(refine cB [0,1,2,3,4,5,6,7,8,9,10,11,12,13,14,15,16,17,18,19,21] ?_;(iterate 21 (refine bZ (v:=?_) ?_ ?_;rotate_left 1;(intro wS hSw;obtain⟨S1,S2,S3,⟨S4,S5,S6,S7⟩,S8,S9,rM,uW⟩:=hSw;go_simp;try with_reducible rfl);(try simp only[Act.put,aB,aC,aD])));refine cK ?_);(refine pI 20 22 (oi:=?_) (oj:=?_) (by kernel_rfl) ?_ ?_ ?_ ?_;rotate_left 2;(simp only[fC,fD,fE];rfl);(simp only[fC,fD,fE];rfl);all_goals intro K hK)
       ·go_simp;refine(Ad.out _ _ _ _ _ _ _ _ _ _ _ _ _ _ lW.out.1.mb HU.out HT.out wy.out (Gf.out _ Sq) (Zy.out _ Su) qg.out).mono ?_;rintro e w8 ⟨d0,d1,d2,d3,rfl,dG,nM⟩;obtain⟨y,rfl,rfl,rfl,rfl,hy,_⟩:=dG.pe;go_wp2_with (fail);refine hK.out _ _ (λ_=>hHeld.ext nM) ?_;clear hK K;(try simp only[Act.put,aB,aC,aD]);(refine aO 22 ?_;intro K hK);go_simp;have jl:Ext wc.drew (w8.alloc (.cells #[.int .i64 0,.bool false,.slice none 0 0,.slice none 0 0] 33)):=nM.alloc _;have Bb:=hHeld.ext jl;refine hK.out _ _ (λ_=>Bb) ?_;clear hK K;(try simp only[Act.put,aB,aC,aD]);(refine aO 23 ?_;intro K hK);have Xg:=nM.size;refine Yw _ (by rfl) (.tmp 108) (.tmp 121) _ (by rfl) w7.heap.size 33 i0 _ 4 64 Tryz.underlying31 hi hz0 hz1 hz2 rfl (by omega) (.slice va (c (σ a+τ q)) vc) (c (σ a+τ q)) (px (xx (σ a+τ q))) (by rfl) (HOW.out.ext jl) w8.heap.size 33 1 (arr #[.int .i64 0,.bool false,.slice none 0 0,.slice none 0 0]) (by rfl) (aG.bq w8 #[.int .i64 0,.bool false,.slice none 0 0,.slice none 0 0] 33 4 rfl) (Tq PE.z) (by unfold maxLen;omega) (by omega) (by simp;omega) ?_;intro gg cap2 w9 l9 fG hat KO;have Iq:∀g,(Value.slice va (c (σ a+τ q)) vc).ownBlock=some g->w7.heap.size<=g:=λg hg=>(HOW.out.lt g hg).1;have rW:=Bb.heap λq hq=>fG.block q (by have:=N8 q hq;simp;omega) (λe=>by have:=Iq q e.symm;have:=N8 q hq;omega);have qmb:w9.frozen? ⟨w2.heap.size,σ a+τ q,none⟩=false:=((lW.out.1.blk.ext jl).grown fG (λe=>by have:=Iq _ e.symm;omega)).frozen _
        refine hK.out _ _ (λ_=>rW) ?_;clear hK K;(try simp only[Act.put,aB,aC,aD]);(refine aO 24 ?_;intro K hK);go_simp;refine hK.out _ _ (λ_=>rW) ?_;clear hK K;(try simp only[Act.put,aB,aC,aD]);have hc9:=rW.1;(refine aO 25 ?_;intro K hK);go_simp;refine hK.out _ _ (λh=>absurd rfl h) ?_;clear hK K;refine dX ?_;have wN:=l9.congr λj hj=>Tu (xx (σ a+τ q)) (c (σ a+τ q)) PE.z j hj;rw[<-JN.out]at fG hat;have hF:=lW.out.step (l:=[]) iO (by omega) (by omega) jl wN fG hat (aA w9) (CR.zero _ _ _);have Si:=lW.out.1.qiE (k0:=σ a+τ q) (n:=c (σ a+τ q)+1) (cap2:=cap2) (.slice (some ⟨gg,0,none⟩) (c (σ a+τ q)+1) cap2) (lW.out.1.qbQ iO fG hat (hy.ext ((aA w8).alloc _)));have hown:=hF.1.own _ iO;rw[kK,kK]at hown;obtain⟨⟨_,g0⟩,⟨_,g1⟩,⟨_,g2⟩,⟨_,g3⟩,bA,fA,rY,qlS⟩:=qpd hown;have fV:=bA (c (σ a+τ q)*4);have fP:=bA (c (σ a+τ q)*4+1);have iU:=bA (c (σ a+τ q)*4+2);have p9:=bA (c (σ a+τ q)*4+3);obtain⟨xx2,S2,tF⟩:=hF.replace iO (by omega) rfl Si;have HF:=ae tF
        have Pg:Hid (((bP a λa=>bP ry λb=>mD (D2+1) P Q (σ a) (τ b))++bP q λb=>mD (D2+1) P Q (σ a) (τ b))++shift (xp (D2+1) ((σ a+τ q:Nat):Int)) []++shift (xp (D2+1) ((σ a+τ q:Nat):Int)) (aF (P (σ a)) (Q (τ q)))=((bP a λa=>bP ry λb=>mD (D2+1) P Q (σ a) (τ b))++bP (q+1) λb=>mD (D2+1) P Q (σ a) (τ b))):=by
         show _=_;rw[lF,show shift (xp (D2+1) ((σ a+τ q:Nat):Int)) []=[]from rfl,List.append_nil,List.append_assoc];rfl
        rw[Pg.out]at HF;clear l9 fG hat wN rW Bb hHeld jl hy dG nM Fe NC hK3 fo hF tF hown Si bA;go_wp2
        go_roundw
        case rel=>exact⟨q+1,_,_,_,_,by omega,by go_num,HF⟩
        case measure=>simp[intOf];omega
       ·go_simp;have QY:Ext wc.drew (wc.drew.alloc (.cells #[.int .i64 0,.bool false,.slice none 0 0,.slice none 0 0] 33)):=(aA _).alloc _;refine hK.out _ _ (λ_=>hHeld.ext QY) ?_;clear hK K;(try simp only[Act.put,aB,aC,aD]);(refine aO 20 ?_;intro K hK);go_simp;refine(Ad.out _ _ _ _ _ _ _ _ _ _ _ _ _ _ (lW.out.1.mb.ext QY) (HU.out.ext QY) (HT.out.ext QY) wy.out (Gf.out _ Sq) (Zy.out _ Su) qg.out).mono ?_;rintro e w8 ⟨d0,d1,d2,d3,rfl,dG,nM⟩;obtain⟨y,rfl,rfl,rfl,rfl,hy,_⟩:=dG.pe;go_wp2_with (fail);have jl:Ext wc.drew w8:=QY.trans nM;have Bb:=hHeld.ext jl;refine hK.out _ _ (λ_=>Bb) ?_;clear hK K;(try simp only[Act.put,aB,aC,aD]);(refine aO 23 ?_;intro K hK);have Xg:=nM.size;refine Yw _ (by rfl) (.tmp 108) (.tmp 121) _ (by rfl) w7.heap.size 33 i0 _ 4 64 Tryz.underlying31 hi hz0 hz1 hz2 rfl (by omega) (.slice va (c (σ a+τ q)) vc) (c (σ a+τ q)) (px (xx (σ a+τ q))) (by rfl) (HOW.out.ext jl) wc.drew.heap.size 33 1 (arr #[.int .i64 0,.bool false,.slice none 0 0,.slice none 0 0]) (by rfl) ((aG.bq wc.drew #[.int .i64 0,.bool false,.slice none 0 0,.slice none 0 0] 33 4 rfl).ext nM) (Tq PE.z) (by unfold maxLen;omega) (by omega) (by have:=jl.size;omega) ?_;intro gg cap2 w9 l9 fG hat KO;have Iq:∀g,(Value.slice va (c (σ a+τ q)) vc).ownBlock=some g->w7.heap.size<=g:=λg hg=>(HOW.out.lt g hg).1;have rW:=Bb.heap λq hq=>fG.block q (by have:=N8 q hq;have:=jl.size;omega) (λe=>by have:=Iq q e.symm;have:=N8 q hq;omega)
        have qmb:w9.frozen? ⟨w2.heap.size,σ a+τ q,none⟩=false:=((lW.out.1.blk.ext jl).grown fG (λe=>by have:=Iq _ e.symm;omega)).frozen _;refine hK.out _ _ (λ_=>rW) ?_;clear hK K;(try simp only[Act.put,aB,aC,aD]);(refine aO 24 ?_;intro K hK);go_simp;refine hK.out _ _ (λ_=>rW) ?_;clear hK K;(try simp only[Act.put,aB,aC,aD]);have hc9:=rW.1;(refine aO 25 ?_;intro K hK);go_simp;refine hK.out _ _ (λh=>absurd rfl h) ?_;clear hK K;refine dX ?_;have wN:=l9.congr λj hj=>Tu (xx (σ a+τ q)) (c (σ a+τ q)) PE.z j hj;rw[<-JN.out]at fG hat;have hF:=lW.out.step (l:=[]) iO (by omega) (by omega) jl wN fG hat (aA w9) (CR.zero _ _ _);have Si:=lW.out.1.qiE (k0:=σ a+τ q) (n:=c (σ a+τ q)+1) (cap2:=cap2) (.slice (some ⟨gg,0,none⟩) (c (σ a+τ q)+1) cap2) (lW.out.1.qbQ iO fG hat hy);have hown:=hF.1.own _ iO;rw[kK,kK]at hown;obtain⟨⟨_,g0⟩,⟨_,g1⟩,⟨_,g2⟩,⟨_,g3⟩,bA,fA,rY,qlS⟩:=qpd hown;have fV:=bA (c (σ a+τ q)*4);have fP:=bA (c (σ a+τ q)*4+1);have iU:=bA (c (σ a+τ q)*4+2);have p9:=bA (c (σ a+τ q)*4+3);obtain⟨xx2,S2,tF⟩:=hF.replace iO (by omega) rfl Si;have HF:=ae tF
        have Pg:Hid (((bP a λa=>bP ry λb=>mD (D2+1) P Q (σ a) (τ b))++bP q λb=>mD (D2+1) P Q (σ a) (τ b))++shift (xp (D2+1) ((σ a+τ q:Nat):Int)) []++shift (xp (D2+1) ((σ a+τ q:Nat):Int)) (aF (P (σ a)) (Q (τ q)))=((bP a λa=>bP ry λb=>mD (D2+1) P Q (σ a) (τ b))++bP (q+1) λb=>mD (D2+1) P Q (σ a) (τ b))):=by
         show _=_;rw[lF,show shift (xp (D2+1) ((σ a+τ q:Nat):Int)) []=[]from rfl,List.append_nil,List.append_assoc];rfl
        rw[Pg.out]at HF;clear l9 fG hat wN rW Bb hHeld jl hy dG nM Fe NC hK3 fo hF tF hown Si bA;go_wp2
        go_roundw
        case rel=>exact⟨q+1,_,_,_,_,by omega,by go_num,HF⟩
        case measure=>simp[intOf];omega
      ·go_wp2;refine gB (CY w2.heap.size (σ a+τ q) w.heap.size b (off+σ a*4) b' (off'+τ q*4) (.slice va (c (σ a+τ q)) vc) (.slice (some ⟨b,off,none⟩) n cap) (.slice (some ⟨b',off',none⟩) n' cap') u t) 24 (by kernel_rfl) HS.out (λhHeld=>?_);(refine cB [0,1,2,3,4,5,6,7,8,9,10,11,12,13,14,15,16,17,18,19] ?_;(iterate 20 (refine bZ (v:=?_) ?_ ?_;rotate_left 1;(intro wS hSw;obtain⟨S1,S2,S3,⟨S4,S5,S6,S7⟩,S8,S9,rM,uW⟩:=hSw;go_simp;try with_reducible rfl);(try simp only[Act.put,aB,aC,aD])));refine cK ?_);(refine aO 20 ?_;intro K hK);go_simp;refine(Ad.out _ _ _ _ _ _ _ _ _ _ _ _ _ _ lW.out.1.mb HU.out HT.out wy.out (Gf.out _ Sq) (Zy.out _ Su) qg.out).mono ?_;rintro e w8 ⟨d0,d1,d2,d3,rfl,dG,nM⟩;obtain⟨y,rfl,rfl,rfl,rfl,hy,_⟩:=dG.pe;go_wp2_with (fail);refine hK.out _ _ (λ_=>hHeld.ext nM) ?_;clear hK K;(try simp only[Act.put,aB,aC,aD]);(refine aO 21 ?_;intro K hK);go_simp;have jl:Ext wc.drew (w8.alloc (.cells (ak y) 33)):=nM.alloc _;have Bb:=hHeld.ext jl;refine hK.out _ _ (λ_=>Bb) ?_;clear hK K;(try simp only[Act.put,aB,aC,aD]);(refine aO 22 ?_;intro K hK);have Xg:=nM.size;refine Yw _ (by rfl) (.tmp 134) (.tmp 146) _ (by rfl) w7.heap.size 33 i0 _ 4 64 Tryz.underlying31 hi hz0 hz1 hz2 rfl (by omega) (.slice va (c (σ a+τ q)) vc) (c (σ a+τ q)) (px (xx (σ a+τ q))) (by rfl) (HOW.out.ext jl) w8.heap.size 33 1 (arr (ak y)) (by rfl) (aG.bq w8 (ak y) 33 4 rfl) (Tq y) (by unfold maxLen;omega) (by omega) (by simp;omega) ?_
       intro gg cap2 w9 l9 fG hat KO;have Iq:∀g,(Value.slice va (c (σ a+τ q)) vc).ownBlock=some g->w7.heap.size<=g:=λg hg=>(HOW.out.lt g hg).1;have rW:=Bb.heap λq hq=>fG.block q (by have:=N8 q hq;simp;omega) (λe=>by have:=Iq q e.symm;have:=N8 q hq;omega);have qmb:w9.frozen? ⟨w2.heap.size,σ a+τ q,none⟩=false:=((lW.out.1.blk.ext jl).grown fG (λe=>by have:=Iq _ e.symm;omega)).frozen _;refine hK.out _ _ (λ_=>rW) ?_;clear hK K;(try simp only[Act.put,aB,aC,aD]);(refine aO 23 ?_;intro K hK);go_simp;refine hK.out _ _ (λ_=>rW) ?_;clear hK K;(try simp only[Act.put,aB,aC,aD]);have hc9:=rW.1;(refine aO 24 ?_;intro K hK);go_simp;refine hK.out _ _ (λh=>absurd rfl h) ?_;clear hK K;refine dX ?_;have wN:=l9.congr λj hj=>Tu (xx (σ a+τ q)) (c (σ a+τ q)) y j hj;rw[<-JN.out]at fG hat;have HF:=ae (lW.out.step iO (by omega) (by omega) jl wN fG hat (aA w9) (lW.out.1.qbQ iO fG hat (hy.ext ((aA w8).alloc _))))
       have Pg:Hid (((bP a λa=>bP ry λb=>mD (D2+1) P Q (σ a) (τ b))++bP q λb=>mD (D2+1) P Q (σ a) (τ b))++shift (xp (D2+1) ((σ a+τ q:Nat):Int)) (aF (P (σ a)) (Q (τ q)))=((bP a λa=>bP ry λb=>mD (D2+1) P Q (σ a) (τ b))++bP (q+1) λb=>mD (D2+1) P Q (σ a) (τ b))):=by
        show _=_;rw[lF,List.append_assoc];rfl
       rw[Pg.out]at HF;clear l9 fG hat wN rW Bb hHeld jl hy dG nM Fe NC hK3 fo;go_wp2
       go_roundw
       case rel=>exact⟨q+1,_,_,_,_,by omega,by go_num,HF⟩
       case measure=>simp[intOf];omega
    ·have qxJ:q=ry:=by omega
     subst qxJ
     have HF:Hid (xD (Mx M w.heap.size (w2.heap.size+1)) w w7 wr w2.heap.size D2 (n+n'-1) (bP (a+1) λa=>bP q λb=>mD (D2+1) P Q (σ a) (τ b)) ((a+1)*q) v c xx S):=by
      have:=qZ.out;rw[lF,Nat.add_mul,Nat.one_mul];exact this
     clear qZ;go_wp2
     go_roundw
     case rel=>exact⟨a+1,v,c,xx,S,by omega,by go_num,HF⟩
     case measure=>simp[intOf];omega
  ·have hac:a=VL:=by omega
   subst hac;obtain⟨wo,rfl⟩:∃wo:World,wo=wr:=⟨_,rfl⟩
   go_wp2_with (at_make;go_must (refine wpList_make_full _ rfl _ _ _ rfl wo.heap.size 33 i0 (.agg #[.int .i64 0,.bool false,.slice none 0 0,.slice none 0 0]) 4 Tryz.underlying31 hi hz0 hz1 .i64 .i64 _ _ (n+n'-1) rfl rfl ?k4 ?k5 ?k2 ?k3 ?k6 ?_))
   case k2=>rw[hz2];omega
   case k3=>unfold maxLen;omega
   case k4=>simp
   case k5=>simp
   case k6=>omega
   intro w8 hown hgrow;have cO:=(aG.made hown rfl (by omega)).congr (f':=gN) (λi _=>Ej i);have nM:=nL hgrow;have PO:=ae (qZ.out.ext nM)
   have Xg:wo.heap.size+1<=w8.heap.size:=by have:=cO.lt;omega
   have qm:Hid (Kids (Mx (Mx M w.heap.size (w2.heap.size+1)) wo.heap.size (wo.heap.size+1)) w8 D2 wo.heap.size (n+n'-1) (λ_=>[])):=Kids.fresh cO
   have UD:Hid (∀k,k<n+n'-1->eY (Mx (Mx M w.heap.size (w2.heap.size+1)) wo.heap.size (wo.heap.size+1)) w8 D2 (v k) (c k) (S k)):=λk hk=>by
    have h1:=qZ.out.1;refine((h1.own k hk).toK (M:=Mx M w.heap.size (w2.heap.size+1)) (D:=D2) (S:=S k) (λi hi=>(h1.cr k hk i hi).more λg hg=>.inl (.inl hg)) (λg hg hh=>by have:=h1.BM g hh;omega) ?_ |>.more (Mx.more (aI _))).ext nM;have h2:=qZ.out.2.2.2.1 k;have h3:a*ry<=n*n':=Nat.mul_le_mul Wz Fx;have h4:=UL.out;omega
   have HNL:Hid (∀k,k<n+n'-1->aH (aK (bP (c k) (S k)))<=1099511627776):=λk hk=>by
    have h1:=Lg (D2+1) (n+n'-1) (λk=>bP (c k) (S k)) k hk;have h2:=qZ.out.2.2.2.2.2
    have h3:aK (bP a λa=>bP ry λb=>mD (D2+1) P Q (σ a) (τ b))<=aK lx*aK ly:=by
     refine aR (qoV qal.out λi=>bP ry λb=>mD (D2+1) P Q i (τ b)) ?_;refine aR (qpz λi _=>qoV UX.out λj=>mD (D2+1) P Q i j) ?_;rw[qzJ];exact Nat.mul_le_mul qsa.out qsb.out
    have h4:=pQ (aK lx) (aK ly);have h5:=jB (aR h1 (h2 ▸ h3));have h6:=Ev.out;omega
   have qsz:Hid (af (aQ (D2+1) (n+n'-1) λk=>bP (c k) (S k)) (aF lx ly)):=by
    refine af.trans qZ.out.2.2.2.2.1 (af.trans ?_ ((qAg (D2+1) n n' P Q).symm.trans (af.aF HSP.out PV.out)))
    have qnH:∀i j,af (P i) []\/af (Q j) []->af (mD (D2+1) P Q i j) []:=by
     intro i j hh;unfold mD
     have:af (aF (P i) (Q j)) []:=by
      rcases hh with h|h
      ·exact h.oC (Q j)
      ·exact(h.sI (P i)).trans (by rw[Ll];exact af.refl _)
     exact this.shift _
    have hnil:∀m(F:Nat->List Tm),(∀j,j<m->af (F j) [])->af (bP m F) []:=by
     intro m F h
     induction m with
     |zero=>exact af.refl _
     |succ m ih=>
      rw[lF];have:=(ih λj hj=>h j (by omega)).append (h m (by omega));simpa using this
    refine af.trans (qpA qal.out (λi=>bP ry λb=>mD (D2+1) P Q i (τ b)) λi hi hz=>?_) (Lr λi hi=>qpA UX.out (λj=>mD (D2+1) P Q i j) λj hj hz=>?_)
    ·refine hnil _ _ λj _=>qnH i (τ j) (.inl ?_)
     exact eF λhc=>by have:=(qse.out i hi).2 hc;rw[hz]at this;cases this
    ·refine qnH i j (.inr ?_)
     exact eF λhc=>by have:=(qsf.out j hj).2 hc;rw[hz]at this;cases this
   have Zg:=ae PO.out.1.blk;have Cg:=ae PO.out.2.2.1;have qE6:=qZ.out.2.1.1;have qFc:=qZ.out.1.blk.lt;have UT:Hid (aG w8 w.heap.size 33 4 (arr #[.int .i64 ((D2:Int)+1),.bool bX,.slice aX nX pX,.slice (some ⟨b,off,none⟩) n cap])):=sO.out.of_heap (PO.out.2.1.2 _ sO.out.lt (by omega));have qy:Hid (aG w8 (w.heap.size+2) 33 4 (arr #[.int .i64 0,.bool false,.slice none 0 0,.slice none 0 0])):=HG2.out.of_heap (PO.out.2.1.2 _ HG2.out.lt (by omega));clear hown hgrow cO nM qZ PO;go_wp2
   go_loopw [156] (λi wr=>∃k:Nat,k<=n+n'-1/\i=.int .i64 k/\wo.heap.size+1<=wr.heap.size/\Hid (Kids (Mx (Mx M w.heap.size (w2.heap.size+1)) wo.heap.size (wo.heap.size+1)) wr D2 wo.heap.size (n+n'-1) (λi=>if i<k then bP (c i) (S i)else[]))/\Hid (Ext w wr)/\Hid (Kp (λb=>b=wo.heap.size) w8 wr)) (λi _=>(n+n'-1)-(intOf i).toNat)
   case atStart=>exact⟨0,bK _,rfl,Xg,qm.out.congr λi _=>by rw[ah (by omega)];exact af.refl _,Cg,Kp.refl _ _⟩
   case round=>
    clear qm Cg;obtain⟨k,hk,rfl,hsz,HK,cZ,Ai⟩:=hrel
    by_cases qM:k<n+n'-1
    ·obtain⟨va,vc,hv0⟩:=(UD.out k qM).form;have s0:=Zg.out.cell qM;rw[<-Ai.out.cell Zg.out.lt (by omega),hv0]at s0
     have qEg:w2.heap.size<wr.heap.size:=by have:=Ai.out.1;have:=Zg.out.lt;omega
     have qb6:=UD.out k qM;rw[hv0]at qb6;have qK:eY (Mx (Mx M w.heap.size (w2.heap.size+1)) wo.heap.size (wo.heap.size+1)) wr D2 (.slice va (c k) vc) (c k) (S k):=qb6.kp (Ai.out.mono λb hb=>by subst hb;exact Mx.at (by omega));have Wp:Mb (Mx (Mx M w.heap.size (w2.heap.size+1)) wo.heap.size (wo.heap.size+1)) wr:=Mx.mb (Mx.mb hM cZ.out.size (by omega)) (aI _) (by omega);have aW:=ae (qpY D2 _ _ _ _ wr Wp qK (HNL.out k qM))
     have hkk:(k:Int)<((n+n'-1:Nat):Int):=by omega
     have qEz:(0:Int)<=(k:Int):=iw _;clear qb6 qK Wp hv0;go_wp2_with (fail);refine(aW.out).mono ?_;rintro e w9 ⟨d0,d1,d2,d3,rfl,dG,qF⟩;obtain⟨mr,b2,a2,n2,p2,jH,lD,jI,rfl,rfl,rfl,rfl,_⟩:=dG.form;have fo:=HK.out.ext qF;obtain⟨⟨_,k0⟩,⟨_,k1⟩,⟨_,k2⟩,⟨_,k3⟩,bA,nO⟩:=fo.at k qM;have fV:=bA (k*4);have fP:=bA (k*4+1);have iU:=bA (k*4+2);have p9:=bA (k*4+3)
     have lV:Hid (Kids (Mx (Mx M w.heap.size (w2.heap.size+1)) wo.heap.size (wo.heap.size+1)) (aM w9 wo.heap.size (k*4) (.int .i64 mr) (.bool b2) (.slice a2 n2 p2) (.slice jH lD jI)) D2 wo.heap.size (n+n'-1) (λi=>if i<k+1 then bP (c i) (S i)else[])):=by
      refine(fo.set (Mx.at (by omega)) k qM dG).congr λi _=>?_
      by_cases iq:i=k
      ·subst iq;rw[ai rfl,ai (by omega)];exact af.refl _
      ·rw[ah iq]
       by_cases h3:i<k
       ·rw[ai h3,ai (by omega)];exact af.refl _
       ·rw[ah h3,ah (by omega)];exact af.refl _
     have dV:Hid (Ext w (aM w9 wo.heap.size (k*4) (.int .i64 mr) (.bool b2) (.slice a2 n2 p2) (.slice jH lD jI))):=(cZ.out.trans qF).aM (by omega) _ _ _ _ _;have qrP:Hid (Kp (λb=>b=wo.heap.size) w8 (aM w9 wo.heap.size (k*4) (.int .i64 mr) (.bool b2) (.slice a2 n2 p2) (.slice jH lD jI))):=(Ai.out.trans (Kp.kV qF)).trans (Kp.aM (M:=λb=>b=wo.heap.size) (g:=wo.heap.size) rfl _ _ _ _ _)
     have rf:Hid (wo.heap.size+1<=(aM w9 wo.heap.size (k*4) (.int .i64 mr) (.bool b2) (.slice a2 n2 p2) (.slice jH lD jI)).heap.size):=by show _<=_;rw[nW];have:=qF.size;omega
     clear fo bA dG qF s0;go_wp2
     go_roundw
     case rel=>exact⟨k+1,by omega,by go_num,rf.out,lV,dV,qrP⟩
     case measure=>simp[intOf];omega
    ·have hkn:k=n+n'-1:=by omega
     have hQ0:=UT.out.of_heap (Ai.out.2 _ UT.out.lt (by omega));have Fg:=qy.out.of_heap (Ai.out.2 _ qy.out.lt (by omega));have x0:=hQ0.cell (i:=0) (by omega);simp only[arr]at x0;have qFj:=hQ0.lt
     have wE:Hid (eY (Mx M w.heap.size (w.heap.size+3)) wr D2 (.slice (some ⟨wo.heap.size,0,none⟩) (n+n'-1) (n+n'-1)) (n+n'-1) (λi=>bP (c i) (S i))):=by
      refine eY.congr (eY.qem (HK.out.more λg hg=>.inl (.inl (hg.imp id λh=>by omega))) (λhh=>hh.elim (hM.new (by omega)) (by omega)) (by omega)) λi hi=>?_;rw[ai (by omega)];exact af.refl _
     have aW:=ae (qeJ (Mx M w.heap.size (w.heap.size+3)) D2 _ _ _ wr (Mx.mb hM cZ.out.size (by omega)) l7 wE.out);have qsk:=ae Fg;have hk':decide (k<n+n'-1)=false:=decide_eq_false qM;clear hQ0 Fg hkn;go_wp2_with (fail);refine(aW.out).mono ?_;rintro e w9 ⟨d0,d1,d2,d3,rfl,dG,qF⟩;obtain⟨mr,b2,a2,n2,p2,jH,lD,jI,rfl,rfl,rfl,rfl,_⟩:=dG.form;obtain⟨⟨q0,q1,q2,q3⟩,⟨f0,f1,f2,f3⟩,⟨r0,r1,r2,r3⟩,HF⟩:=vR (M:=M) (w:=w) (L:=L) (qsk.out.ext qF) (Mx.at (by omega)) (by omega) (cZ.out.trans qF) ((dG.up vG).dh qsz.out) Mx.sub;simp only[arr]at q0 q1 q2 q3;clear dG qF;go_wp2;exact bu (v:=.agg #[.int .i64 mr,.bool b2,.slice a2 n2 p2,.slice jH lD jI]) (by simp[results,Tryz.results118,go_sem,r0,r1,r2,r3]) rfl HF.out
theorem qAZ(L:Nat):Vh L:=by
 induction L using Nat.strongRecOn with
 |_ L ih=>exact qzb L (λD hD=>ih D hD) (mul_eq L λD hD=>ih D hD)
end Go.Proofs.YtmcfpnmoklnhoaaGreat
