/- Zb -/
import Derived.Test.YtaafefeafonhdaaGreatNc
import Derived.Test.YtaafefeafonhdaaGreatSb
import Derived.Sort.CutIn
set_option linter.unusedVariables false
set_option maxRecDepth 100000
set_option maxHeartbeats 400000000
set_option linter.unusedSimpArgs false
namespace Go.Proofs.YtaafefeafonhdaaGreat
open Go.RowKit
theorem qCh{M:Nat->Prop}(N:Nat)(r:RE)(w:World)(hM:Mb M w)(h:kF M w N r 0)(hN:1<=N):
 Calls Tryz.prog 18 #[.agg (bL r)] w (λe w'=>e=.returned (.int .i64 0)/\Ext w w'):=by
 have aW:=au.aO w (bL r) 32 3 rfl;have aL:Ext w (w.alloc (.cells (bL r) 32)):=(ai w).alloc _;have bD:Mb M (w.alloc (.cells (bL r) 32)):=hM.ext aL;have h0:=h.ext aL;generalize fK:w.alloc (.cells (bL r) 32)=W0 at*;have iY:=ae fK;have dC:=ae aL;have iE:=ae bD;have g0:=aW.lt;obtain⟨c0,c1,c2⟩:=aW.r3;have aJ:=ae (OV N r 0 W0 bD h0 hN);clear h hM fK aW aL bD h0
 go_enter Tryz.func18,Tryz.ntmps18
 go_upto_region 1 with(fail)
 rw[iY.out];clear iY;go_wp2_with (fail);refine aJ.out.mono ?_;rintro e w1 ⟨nb,na,nn,np,db,da,dn,dp,z,d,rfl,hz,hd,hd0,Ic,GV,hq,ah⟩;have hz0:z=0:=(Rat.mkRat_eq_zero hd0).1 hq.symm;subst hz0;clear aJ c0 c1 c2 hd hd0 Ic GV hq
 go_upto_region 2 with(fail)
 obtain⟨G,W1,hG,hW1,Kb,jM,dF,hGl⟩:=TM (iE.out.ext ah) ⟨nb,na,nn,np⟩ ⟨db,da,dn,dp⟩;rw[<-hW1, <-hG];have aP:=ae (dC.out.trans (ah.trans dF));have CS:=ae (Lb _ _ 0 W1 (hz.ext dF));obtain⟨s0,s1⟩:=Kb;clear hz ah hW1 jM dF dC iE hG;go_wp2_with (fail);refine CS.out.mono ?_;rintro e w2 ⟨rfl,az⟩;have aZ:=ae (aP.out.trans az);clear az CS aP;go_wp2;go_ret;exact⟨rfl,aZ.out⟩
def qiX(M:Nat->Prop)(w:World)(c:Int)(e:Ending)(w':World):Prop:=∃(b:Bool)(a:Option Addr)(n p:Nat),e=.returned (.tuple #[.agg #[.bool b,.slice a n p],.bool true])/\dh M w' (.bool b) (.slice a n p) c/\Ext w w'
theorem qCg{M:Nat->Prop}(N:Nat)(r:RE)(c:Int)(w:World)(hM:Mb M w)(h:kF M w N r (c:Rat))(hN:1<=N)(hL:N+1<=1099511627776):
 Calls Tryz.prog 7 #[.agg (bL r)] w (qiX M w c):=by
 have aW:=(au.aO w (bL r) 32 3 rfl).alloc (.cells zI 30);have bA:=au.aO (w.alloc (.cells (bL r) 32)) zI 30 2 rfl;have aL:Ext w ((w.alloc (.cells (bL r) 32)).alloc (.cells zI 30)):=((ai w).alloc _).alloc _;simp only[World.size_alloc]at bA;have bD:Mb (Mx M w.heap.size (w.heap.size+2)) ((w.alloc (.cells (bL r) 32)).alloc (.cells zI 30)):=Mx.mb hM (by simp;omega) (by simp);have h0:=(h.more (M':=Mx M w.heap.size (w.heap.size+2)) (Mx.more (aA _))).ext aL;generalize fK:(w.alloc (.cells (bL r) 32)).alloc (.cells zI 30)=W0 at*;have iY:=ae fK;have dC:=ae aL;have iE:=ae bD;have bS:=ae bA;have g0:=aW.lt;obtain⟨c0,c1,c2⟩:=aW.r3;have aJ:=ae (OV N r (c:Rat) W0 bD h0 hN);clear h hM fK aW bA aL bD h0
 go_enter Tryz.func7,Tryz.ntmps7
 go_upto_region 1 with(fail)
 rw[iY.out];clear iY;go_wp2_with (fail);refine aJ.out.mono ?_;rintro e w1 ⟨nb,na,nn,np,db,da,dn,dp,z,d,rfl,hz,hd,hd0,Ic,GV,hq,ah⟩
 have Ie:z=c*d:=by
  have h1:mkRat c 1=mkRat z d:=by rw[<-hq];exact(Rat.mkRat_one c)
  rw[Rat.mkRat_eq_iff (by decide) hd0]at h1;omega
 have hdz:(d:Int)≠0:=by omega
 have CX:=ae (qbN nb na nn np z db da dn dp (d:Int) w1 (iE.out.ext ah) hz hd hdz (by omega));have aP:=ae (dC.out.trans ah)
 have hr:z.tmod d=0:=by rw[Ie];exact Int.mul_tmod_left c d
 have Oi:z.tdiv d=c:=by rw[Ie];exact Int.mul_tdiv_cancel c hdz
 have HR:=ae hr;have HQ:=ae Oi;have bJ:=bS.out.ext ah;have cK:=ae bJ;have hlt:=bJ.lt;clear aJ c0 c1 c2 hz hd Ic GV hq ah hr Oi Ie hdz hd0 dC bS bJ;go_wp2_with (fail);refine CX.out.mono ?_;rintro e w2 ⟨qb,qa,qn,qp,er,rfl,jk,_,az⟩;obtain⟨rfl,hI⟩:=jk HR.out;rw[HQ.out]at hI;have aQ:=(ai w2).alloc (.cells #[.bool qb,.slice qa qn qp] 30);have je:=au.aO w2 #[.bool qb,.slice qa qn qp] 30 2 rfl;obtain⟨W3,oN⟩:∃W3,w2.alloc (.cells #[.bool qb,.slice qa qn qp] 30)=W3:=⟨_,rfl⟩;obtain⟨g4,jh⟩:∃g4,g4=w2.heap.size:=⟨_,rfl⟩;rw[oN]at aQ je;rw[<-jh]at je;have Jt:=ae oN;have BJ:=ae jh;have s0:W3.cell? ⟨g4,0,none⟩=some (.bool qb):=je.cell (i:=0) (by omega);have s1:W3.cell? ⟨g4,1,none⟩=some (.slice qa qn qp):=je.cell (i:=1) (by omega);have qGp:=je.lt;have aN:=az.trans aQ;obtain⟨⟨q0,q1,f0,f1⟩,⟨t0,t1⟩,aT,bN⟩:=mD (M':=Mx M w.heap.size (w.heap.size+2)) (w:=w) (.bool qb) (.slice qa qn qp) (cK.out.ext aN) (Mx.at (by omega)) (by omega) (aP.out.trans aN);have HF:Hid (qiX M w c (.returned (.tuple #[.agg #[.bool qb,.slice qa qn qp],.bool true])) _):=⟨qb,qa,qn,qp,rfl,((hI.dB.ext aQ).kp aT).more Mx.less,bN⟩;have qyr:=(cK.out.ext aN).lt;simp only[arr,zI]at q0 q1;clear CX oN jh aQ je az aN hI jk aT bN HR HQ aP cK hlt iE
 go_upto_region 2 with(fail)
 rw[Jt.out, <-BJ.out];clear Jt BJ;go_wp2;exact aV (v:=.tuple #[.agg #[.bool qb,.slice qa qn qp],.bool true]) (by simp[results,Tryz.results7,go_sem,t0,t1]) rfl HF.out
theorem Tryz.qeO:(Tryz.prog.info? 42).map (λi=>(i.zero,i.size,i.bytes))=some (some (.agg #[.int .i64 0,.bool false,.slice none 0 0,.slice none 0 0]),4,64):=by kernel_rfl
theorem qvF(J:Nat)(h1:1<=J)(h4:J<=4)(g3:Nat)(x:PE)(l:List Tm)(z:Int)(w:World)(hg:w.cell? ⟨g3,0,none⟩=some (.int .i64 (J:Int)))(hz:IP J l z)(nl:NN l)(hx:aG M0 w 4 x l):
 Calls Tryz.prog 47 #[.agg (ag x),.pointer (some ⟨g3,0,none⟩)] w λe w'=>e=.returned (.bool (decide (0<z)))/\Ext w w':=by
 have aQ:=(ai w).alloc (.cells (ag x) 42);have Da:=(au.aO w (ag x) 42 4 rfl).p4;obtain⟨W,hW⟩:∃W,w.alloc (.cells (ag x) 42)=W:=⟨_,rfl⟩;rw[hW]at aQ Da;have HW:=ae hW;have HE:=ae aQ
 have NW:W.cell? ⟨g3,0,none⟩=some (.int .i64 (J:Int)):=by rw[aQ.cell (dM _ _ hg)];exact hg
 have CD:=ae (Ik M0 x l J z W h1 h4 nl hz (pV _) (hx.ext aQ).pi);obtain⟨b,hb⟩:∃b,decide (0<z)=b:=⟨_,rfl⟩;have HB:=ae hb;obtain⟨x0,x1,x2,x3⟩:=Da;clear hW aQ hx hz hg hb
 go_enter Tryz.func47,Tryz.ntmps47
 go_upto_region 1 with(fail)
 rw[HW.out];clear HW;go_wp2_with (fail);refine CD.out.mono ?_;rintro e w2 ⟨rfl,az⟩;have aZ:=ae (HE.out.trans az);clear az CD HE;have pM:=HB.out;go_wp2;go_ret;exact⟨by rw[HB.out];rfl,aZ.out⟩
def qiW(w:World)(N:Nat)(X:Nat->PE)(f:Nat->Bool)(e:Ending)(w':World):Prop:=
 ∃(vy vn:Value)(cy cn:Nat)(σ τ:Nat->Nat),e=.returned (.tuple #[vy,vn])/\Own w' w.heap.size 42 4 vy cy (px λi=>X (σ i))/\Own w' w.heap.size 42 4 vn cn (px λi=>X (τ i))/\(∀g,vy.ownBlock=some g->vn.ownBlock≠some g)/\jL f N cy σ/\jL (λi=> !f i) N cn τ/\Ext w w'
structure xy(w wr:World)(k:Nat)(X:Nat->PE)(f:Nat->Bool)(vy vn:Value)(cy cn:Nat)(σ τ:Nat->Nat):Prop where
 y:Own wr w.heap.size 42 4 vy cy (px λi=>X (σ i))
 n:Own wr w.heap.size 42 4 vn cn (px λi=>X (τ i))
 d:∀g,vy.ownBlock=some g->vn.ownBlock≠some g
 sy:jL f k cy σ
 sn:jL (λi=> !f i) k cn τ
 e:Ext w wr
theorem xy.ext{w wr w':World}{k:Nat}{X:Nat->PE}{f:Nat->Bool}{vy vn:Value}{cy cn:Nat}{σ τ:Nat->Nat}(h:xy w wr k X f vy vn cy cn σ τ)(he:Ext wr w'):xy w w' k X f vy vn cy cn σ τ:=⟨h.y.ext he,h.n.ext he,h.d,h.sy,h.sn,h.e.trans he⟩
theorem qqt(X:Nat->PE)(σ:Nat->Nat)(c k:Nat)(j:Nat)(hj:j<(c+1)*4):app (px λi=>X (σ i)) (c*4) (arr (ag (X k))) j=px (λi=>X (snoc σ c k i)) j:=by
 rw[DT (λi=>X (σ i)) c (X k) j hj]
 have:snoc (λi=>X (σ i)) c (X k)=λi=>X (snoc σ c k i):=funext λi=>by
  unfold snoc;split<;>rfl
 rw[this]
theorem xy.qDZ{w wr w':World}{k:Nat}{X:Nat->PE}{f:Nat->Bool}{va:Option Addr}{vc:Nat}{vn:Value}{cy cn:Nat}{σ τ:Nat->Nat}{g cap:Nat}(h:xy w wr k X f (.slice va cy vc) vn cy cn σ τ)(hf:f k=true)
 (hO:Own w' w.heap.size 42 4 (.slice (some ⟨g,0,none⟩) (cy+1) cap) (cy+1) (app (px λi=>X (σ i)) (cy*4) (arr (ag (X k))))) (hg:wr.grownBy w' (Value.slice va cy vc).ownBlock) (hat:(Value.slice va cy vc).ownBlock=some g\/wr.heap.size<=g):
 xy w w' (k+1) X f (.slice (some ⟨g,0,none⟩) (cy+1) cap) vn (cy+1) cn (snoc σ cy k) τ:=by
 refine⟨hO.congr λj hj=>qqt X σ cy k j hj,h.n.of_heap λq hq=>hg.block q (h.n.lt q hq).2 λe=>h.d q e.symm hq,λq hq hq2=>?_,h.sy.take hf,h.sn.skip (by simp[hf]),h.e.grown hg λq hq=>(h.y.lt q hq).1⟩;simp only[Value.ownBlock,Option.some.injEq]at hq;subst hq;rcases hat with h1|h1
 ·exact h.d _ h1 hq2
 ·have:=(h.n.lt _ hq2).2;omega
theorem xy.takeN{w wr w':World}{k:Nat}{X:Nat->PE}{f:Nat->Bool}{va:Option Addr}{vc:Nat}{vy:Value}{cy cn:Nat}{σ τ:Nat->Nat}{g cap:Nat}(h:xy w wr k X f vy (.slice va cn vc) cy cn σ τ)(hf:f k=false)
 (hO:Own w' w.heap.size 42 4 (.slice (some ⟨g,0,none⟩) (cn+1) cap) (cn+1) (app (px λi=>X (τ i)) (cn*4) (arr (ag (X k))))) (hg:wr.grownBy w' (Value.slice va cn vc).ownBlock) (hat:(Value.slice va cn vc).ownBlock=some g\/wr.heap.size<=g):
 xy w w' (k+1) X f vy (.slice (some ⟨g,0,none⟩) (cn+1) cap) cy (cn+1) σ (snoc τ cn k):=by
 refine⟨h.y.of_heap λq hq=>hg.block q (h.y.lt q hq).2 λe=>h.d q hq e.symm,hO.congr λj hj=>qqt X τ cn k j hj,λq hq hq2=>?_,h.sy.skip hf,h.sn.take (by simp[hf]),h.e.grown hg λq hq=>(h.n.lt q hq).1⟩;simp only[Value.ownBlock,Option.some.injEq]at hq2;subst hq2;rcases hat with h1|h1
 ·exact h.d _ hq h1
 ·have:=(h.y.lt _ hq).2;omega
theorem qCN(J:Nat)(h1:1<=J)(h4:J<=4)(g3:Nat)(a:Option Addr)(N cap:Nat)(P:Nat->List Tm)(X:Nat->PE)(Z:Nat->Int)(w:World)(hg:w.cell? ⟨g3,0,none⟩=some (.int .i64 (J:Int)))(hN:N<=1000000)
 (hX:∀i,i<N->(∃b off,a=some ⟨b,off,none⟩/\N<=cap/\cap<=maxLen/\b<w.heap.size/\eF w b (off+i*4) (X i))/\aG M0 w 4 (X i) (P i)/\NN (P i)/\IP J (P i) (Z i)):
 Calls Tryz.prog 46 #[.slice a N cap,.func (.func 47) #[] #[.pointer (some ⟨g3,0,none⟩)]] w (qiW w N X λi=>decide (0<Z i)):=by
 obtain⟨j0,ji,Bj,Bl,Bn⟩:=info_parts Tryz.qeO;have HX:=ae hX
 have CH:Hid (∀i,i<N->∀W,Ext w W->Calls Tryz.prog 47 #[.agg (ag (X i)),.pointer (some ⟨g3,0,none⟩)] W λe w'=>e=.returned (.bool (decide (0<Z i)))/\Ext W w'):=λi hi W he=>by
  obtain⟨_,hc,hn,hd⟩:=hX i hi;refine qvF J h1 h4 g3 (X i) (P i) (Z i) W ?_ hd hn (hc.ext he);rw[he.cell (dM _ _ hg)];exact hg
 clear hX hg h1 h4
 go_enter Tryz.func46,Tryz.ntmps46
 go_wp2
 go_loopw [10,4,5] (λi vy vn wr=>∃(k cy cn:Nat)(σ τ:Nat->Nat),k<=N/\i=.int .i64 k/\Hid (xy w wr k X (λi=>decide (0<Z i)) vy vn cy cn σ τ)) (λi _ _ _=>N-(intOf i).toNat)
 case atStart=>
  have hS:xy w w 0 X (λi=>decide (0<Z i)) (.slice none 0 0) (.slice none 0 0) 0 0 (λi=>i) (λi=>i):=⟨Own.nil _ _ _ _ _,Own.nil _ _ _ _ _,λg hg=>(by cases hg),rfl,rfl,ai _⟩;exact⟨0,0,0,λi=>i,λi=>i,bu _,rfl,hS⟩
 case round=>
  obtain⟨k,cy,cn,σ,τ,hk,rfl,HT⟩:=hrel;obtain⟨va,vc,rfl⟩:=HT.out.y.form;obtain⟨na,nc,rfl⟩:=HT.out.n.form
  have qF:cy<=1000000:=by have:=HT.out.sy.len;omega
  have NR:cn<=1000000:=by have:=HT.out.sn.len;omega
  by_cases hlt:k<N
  ·obtain⟨⟨b,off,rfl,_,_,hb,c0,c1,c2,c3⟩,_⟩:=HX.out k hlt
   have wE:(k:Int)<(N:Int):=by omega
   have gK:=ae hlt;rw[<-HT.out.e.cell hb]at c0 c1 c2 c3;have gD:b<wr.heap.size:=bB hb HT.out.e.size;have aQ:=(ai wr).alloc (.cells (ag (X k)) 42);have Da:=(au.aO wr (ag (X k)) 42 4 rfl).p4;have Jp:=ae (HT.out.ext aQ);obtain⟨bb,Dc⟩:∃bb,decide (0<Z k)=bb:=⟨_,rfl⟩;have CC:=ae (CH.out k hlt _ (HT.out.e.trans aQ));rw[Dc]at CC;have HBB:=ae Dc;obtain⟨x,hx⟩:∃x,X k=x:=⟨_,rfl⟩;rw[hx]at c0 c1 c2 c3 aQ Da Jp CC;have pI:=ae hx;clear aQ Dc HT hx
   go_upto_region 4 with(fail)
   generalize fE:wr.heap.size=g2 at*;generalize wr.alloc (.cells (ag x) 42)=W2 at*;clear fE c0 c1 c2 c3;obtain⟨x0,x1,x2,x3⟩:=Da;go_wp2_with (fail);refine CC.out.mono ?_;rintro e w3 ⟨rfl,aN⟩;have Ml:=ae (Jp.out.ext aN);rw[<-aN.cell (dM _ _ x0)]at x0;rw[<-aN.cell (dM _ _ x1)]at x1;rw[<-aN.cell (dM _ _ x2)]at x2;rw[<-aN.cell (dM _ _ x3)]at x3;have iM:=dM _ _ x0;clear aN CC Jp
   have sH:w.heap.size<=(w3.alloc (.cells (ag x) 42)).heap.size:=by have:=Ml.out.e.size;simp;omega
   have dW:=au.aO w3 (ag x) 42 4 rfl;have yx:=ae (Ml.out.ext ((ai w3).alloc (.cells (ag x) 42)));have mi:Hid (∀j,j<4->(arr (ag x) j).oneCell'=true):=Bu x;have hOY:=yx.out.y;have hON:=yx.out.n;clear Ml
   cases bb with
   |true=>
    clear hON
    go_wp2_with (at_builtin;refine yj _ rfl (.tmp 17) (.tmp 19) _ rfl w.heap.size 42 j0 _ 4 64 Tryz.underlying34 ji Bj Bl Bn rfl (by omega) (.slice va cy vc) cy (px λi=>X (σ i)) rfl hOY w3.heap.size 42 1 (arr (ag x)) rfl dW mi.out ?s1 ?s2 ?s3 ?_)
    case s1=>unfold maxLen;omega
    case s2=>omega
    case s3=>simpa using sH
    intro gg cap2 w6 ed bK hat uf
    replace hat:(Value.slice va cy vc).ownBlock=some gg\/(w3.alloc (.cells (ag x) 42)).heap.size<=gg:=by rw[World.size_alloc];exact hat
    rw[<-pI.out]at ed bK hat yx;have HF:=ae (xy.qDZ yx.out HBB.out ed bK hat);clear ed bK hat hOY dW yx;go_wp2
    go_roundw
    case rel=>exact⟨k+1,cy+1,cn,snoc σ cy k,τ,gK.out,by go_num,HF⟩
    case measure=>have:=gK.out;simp[intOf];omega
   |false=>
    clear hOY
    go_wp2_with (at_builtin;refine yj _ rfl (.tmp 21) (.tmp 23) _ rfl w.heap.size 42 j0 _ 4 64 Tryz.underlying34 ji Bj Bl Bn rfl (by omega) (.slice na cn nc) cn (px λi=>X (τ i)) rfl hON w3.heap.size 42 1 (arr (ag x)) rfl dW mi.out ?s1 ?s2 ?s3 ?_)
    case s1=>unfold maxLen;omega
    case s2=>omega
    case s3=>simpa using sH
    intro gg cap2 w6 ed bK hat uf
    replace hat:(Value.slice na cn nc).ownBlock=some gg\/(w3.alloc (.cells (ag x) 42)).heap.size<=gg:=by rw[World.size_alloc];exact hat
    rw[<-pI.out]at ed bK hat yx;have HF:=ae (xy.takeN yx.out HBB.out ed bK hat);clear ed bK hat hON dW yx;go_wp2
    go_roundw
    case rel=>exact⟨k+1,cy,cn+1,σ,snoc τ cn k,gK.out,by go_num,HF⟩
    case measure=>have:=gK.out;simp[intOf];omega
  ·obtain rfl:k=N:=by omega
   have HF:Hid (qiW w k X (λi=>decide (0<Z i)) (.returned (.tuple #[.slice va cy vc,.slice na cn nc])) wr):=⟨_,_,cy,cn,σ,τ,rfl,HT.out.y,HT.out.n,HT.out.d,HT.out.sy,HT.out.sn,HT.out.e⟩;clear HT;go_wp2;exact aV (v:=.tuple #[.slice va cy vc,.slice na cn nc]) (by simp[results,Tryz.results46,go_sem]) rfl HF.out
def qz(g7:Nat)(A:World)(b:Nat):Prop:=b=g7\/∃v,A.cell? ⟨g7,0,none⟩=some v/\v.ownBlock=some b
def KZ(lw g7:Nat)(A B:World):Prop:=A.heap.size<=B.heap.size/\(∀b,b<A.heap.size->¬qz g7 A b->b≠lw->B.heap[b]?=A.heap[b]?)/\∀b,qz g7 B b->qz g7 A b\/A.heap.size<=b
theorem KZ.trans{lw g7:Nat}{A B C:World}(h:KZ lw g7 A B)(k:KZ lw g7 B C):KZ lw g7 A C:=by
 refine⟨aK h.1 k.1,λb hb hz hl=>?_,λb hb=>?_⟩
 ·rw[k.2.1 b (bB hb h.1) (λhz2=>(h.2.2 b hz2).elim hz λh3=>by omega) hl];exact h.2.1 b hb hz hl
 ·rcases k.2.2 b hb with h2|h2
  ·exact h.2.2 b h2
  ·exact .inr (aK h.1 h2)
theorem KZ.put{lw g7:Nat}(h7:g7≠lw)(W:World)(o:Obj):KZ lw g7 W (W.putObj lw o):=by
 refine⟨by simp[World.putObj],λb _ _ hl=>World.putObj_heap_other hl,λb hb=>.inl ?_⟩;rcases hb with h|⟨v,hv,hb⟩
 ·exact .inl h
 ·refine .inr ⟨v,?_,hb⟩;rw[<-hv];exact(World.cell?_of_block (w:=W) (w':=W.putObj lw o) (a:=⟨g7,0,none⟩) (World.putObj_heap_other h7)).symm
structure sU(u:Option Addr)(gc gy c cp:Nat)(X:Nat->PE)(W:World):Prop where
 hu:0<c->u=some ⟨gy,0,none⟩
 l:W.cell? ⟨gc,0,none⟩=some (.slice u c cp)
 x:∀i,i<c->eF W gy (i*4) (X i)
 gc:gc<W.heap.size
 gy:gy<W.heap.size
theorem sU.ext{u:Option Addr}{gc gy c cp:Nat}{X:Nat->PE}{W W':World}(h:sU u gc gy c cp X W)(he:Ext W W'):sU u gc gy c cp X W':=
 ⟨h.hu,by rw[he.cell h.gc];exact h.l,λi hi=>(h.x i hi).ext h.gy he,bB h.gc he.size,bB h.gy he.size⟩
theorem sU.of{u:Option Addr}{gc gy c cp:Nat}{X:Nat->PE}{W W':World}(h:sU u gc gy c cp X W)(hs:W.heap.size<=W'.heap.size)(h1:W'.heap[gc]?=W.heap[gc]?)(h2:W'.heap[gy]?=W.heap[gy]?):sU u gc gy c cp X W':=by
 have k:=λo=>World.cell?_of_block (w:=W) (w':=W') (a:=⟨gy,o,none⟩) h2;refine⟨h.hu,(World.cell?_of_block (w:=W) (w':=W') (a:=⟨gc,0,none⟩) h1).trans h.l,λi hi=>?_,bB h.gc hs,bB h.gy hs⟩;obtain⟨e0,e1,e2,e3⟩:=h.x i hi;exact⟨(k _).trans e0,(k _).trans e1,(k _).trans e2,(k _).trans e3⟩
def qba(lw g7 gc gy c:Nat)(n:Nat)(P:Program)(g:Nat)(lb:Array Value)(X:Nat->PE)(w:World):Prop:=
 ∀(J:Nat->Nat->World->Prop)(W:World),Ext w W->lw<W.heap.size->(∀i j A B,J i j A->Ext A B->J i j B)->
  (∀i j A,J i j A->g7<A.heap.size/\∀b,qz g7 A b->b<A.heap.size/\b≠gc/\b≠gy)->(∀i A,i<c->J i c A->J (i+1) (i+2) A)->
  (∀i j W1,i<j->j<c->J i j W1->YieldAt Fence.wide (n-1) P lw #[.agg (ag (X i)),.agg (ag (X j))] W1 λe W'=>e=.returned (.bool true)/\J i (j+1) W'/\KZ lw g7 W1 W')->
  J 0 1 W->CallsIn Fence.wide n P g (#[.func (.yield lw) #[] #[]]++lb) W λe W'=>(∃v,e=.returned v)/\J c (c+1) W'
theorem P4.of{W W':World}{g:Nat}{x:PE}(h:P4 W g x)(he:W'.heap[g]?=W.heap[g]?):P4 W' g x:=by
 have k:=λo=>World.cell?_of_block (w:=W) (w':=W') (a:=⟨g,o,none⟩) he;obtain⟨e0,e1,e2,e3⟩:=h;exact⟨(k _).trans e0,(k _).trans e1,(k _).trans e2,(k _).trans e3⟩
theorem qvH(lw g7 gc gy c cp:Nat)(X:Nat->PE)(w:World)(hC:sU (some ⟨gy,0,none⟩) gc gy c cp X w)(uU:c<=cp)(eu:cp<=maxLen)(hc:c<=1000000)(hlw:w.heap.size<=lw):
 qba lw g7 gc gy c 2 Tryz.prog 88 #[.pointer (some ⟨gc,0,none⟩)] X w:=by
 intro J W hW hl hJE hJZ hJN hY h0;have Ns:=hC.ext hW
 have uW:gc≠lw:=by have:=hC.gc;omega
 have NY:gy≠lw:=by have:=hC.gy;omega
 have HY:=ae hY;have HJE:=ae hJE;have Uv:=ae hJZ;have HJN:=ae hJN;have HC:=ae Ns;have HJ:=ae h0;have hlW:lw<W.heap.size:=hl;unfold maxLen at eu;clear hY hJE hJZ hJN hC Ns hW h0 hl hlw;refine callsIn_wide.2 ?_;show Calls Tryz.prog 88 #[.func (.yield lw) #[] #[],.pointer (some ⟨gc,0,none⟩)] W _;have HF:Hid (sU (some ⟨gy,0,none⟩) gc gy c cp X W/\lw<W.heap.size):=⟨HC.out,hlW⟩;obtain⟨_,l0,_,gl,_⟩:=HC.out
 go_enter Tryz.func88,Tryz.ntmps88
 go_wp2;clear l0 gl HC hlW
 go_loopw [9] (λiv wr=>∃i:Nat,i<=c/\iv=.int .i64 i/\Hid (J i (i+1) wr)/\Hid (sU (some ⟨gy,0,none⟩) gc gy c cp X wr/\lw<wr.heap.size)) (λiv _=>c-(intOf iv).toNat)
 case atStart=>exact⟨0,bu _,rfl,HJ,HF⟩
 case round=>
  clear HJ HF;obtain⟨i,hi,rfl,HJ,HF⟩:=hrel
  by_cases hlt:i<c
  ·have wE:(i:Int)<(c:Int):=by omega
   have gK:=ae hlt;obtain⟨c0,c1,c2,c3⟩:=HF.out.1.x i hlt;have l0:=HF.out.1.l;have qdV:=HF.out.1.gy;have qxT:=HF.out.1.gc;obtain⟨x,hx⟩:∃x,X i=x:=⟨_,rfl⟩;rw[hx]at c0 c1 c2 c3;have HX:=ae hx;have aQ:=(ai wr).alloc (.cells (ag x) 42);have Da:=(au.aO wr (ag x) 42 4 rfl).p4;obtain⟨g4,jh⟩:∃g4,g4=wr.heap.size:=⟨_,rfl⟩;obtain⟨W2,gT⟩:∃W2,wr.alloc (.cells (ag x) 42)=W2:=⟨_,rfl⟩;rw[gT]at aQ Da;rw[<-jh]at Da;have F8:=ae gT;have BJ:=ae jh;have Uu:=ae (HJE.out _ _ _ _ HJ.out aQ);have bQ:Hid (sU (some ⟨gy,0,none⟩) gc gy c cp X W2/\lw<W2.heap.size):=⟨HF.out.1.ext aQ,bB HF.out.2 aQ.size⟩;have dG:=ae Da
   have FY:Hid (¬qz g7 W2 g4/\g4≠lw):=by
    refine⟨λhz=>?_,by have:=HF.out.2;omega⟩;have h7:=(Uv.out _ _ _ HJ.out).1
    have Dz:qz g7 wr g4:=by
     rcases hz with h|⟨v,hv,hb⟩
     ·exact .inl h
     ·exact .inr ⟨v,by rw[<-aQ.cell h7];exact hv,hb⟩
    have:=((Uv.out _ _ _ HJ.out).2 g4 Dz).1;omega
   clear gT aQ Da HJ HF hx jh
   go_upto_region 3 with(fail)
   rw[F8.out, <-BJ.out];clear c0 c1 c2 c3 F8 BJ l0;have l0:=bQ.out.1.l;have qmH:=bQ.out.1.gc;obtain⟨d,hd⟩:∃d,c=i+1+d:=⟨c-(i+1),by omega⟩;obtain⟨o,ho⟩:∃o:Nat,o=if cp=i+1 then 0 else(i+1)*4:=⟨_,rfl⟩
   have HO:Hid (0<d->o=(i+1)*4):=λh=>by rw[ho];exact aj (by omega)
   have tC:=ae hd
   have qnT:(0:Int)<=(i:Int)+1:=by omega
   have qnU:(i:Int)+1<=(c:Int):=by omega
   have qnV:((i:Int)+1).toNat=i+1:=by omega
   have Rz:c-(i+1)=d:=by omega
   have hiw:IntKind.i64.wrap ((i:Int)+1)=(i:Int)+1:=IntWalk.i64_in _ (by omega)
   have hnd:(i:Int)+1+((d:Nat):Int)=(c:Int):=by omega
   clear hd qdV qxT ho HO
   by_cases qFR:cp=i+1
   ·obtain rfl:d=0:=by omega
    go_wp2;clear l0 qmH qnT qnU qnV Rz hiw
    go_loopw [19] (λjv wr=>jv=.int .i64 0/\Hid (J i (i+1) wr)/\Hid (sU (some ⟨gy,0,none⟩) gc gy c cp X wr/\lw<wr.heap.size)) (λjv _=>0)
    case atStart=>exact⟨rfl,Uu,bQ⟩
    case round=>
     clear Uu bQ dG FY;obtain⟨rfl,HJ,HF⟩:=hrel;have ZB:Hid (J (i+1) (i+2) wr):=HJN.out i wr gK.out (by have:=HJ.out;rw[tC.out];exact this);have Zr:=HF;clear HJ HF
     go_upto_region 8 with(fail)
     go_wp2
     go_roundw
     case rel=>exact⟨i+1,gK.out,by go_num,ZB,Zr⟩
     case measure=>have:=gK.out;simp[intOf];omega
   go_wp2;clear l0 qmH qnT qnU qnV Rz hiw
   go_loopw [19] (λjv wr=>∃j:Nat,j<=d/\jv=.int .i64 j/\Hid (J i (i+1+j) wr)/\Hid (sU (some ⟨gy,0,none⟩) gc gy c cp X wr/\lw<wr.heap.size)/\Hid (P4 wr g4 x)/\Hid (¬qz g7 wr g4/\g4≠lw)) (λjv _=>d-(intOf jv).toNat)
   case atStart=>exact⟨0,bu _,rfl,Uu,bQ,dG,FY⟩
   case round=>
    clear Uu bQ dG FY;obtain⟨j,hj,rfl,HJ,HF,HP,FY⟩:=hrel
    by_cases rC:j<d
    ·have qnh:(j:Int)<(d:Int):=by omega
     have uC:=ae rC;obtain⟨c0,c1,c2,c3⟩:=HF.out.1.x (i+1+j) (by have:=tC.out;omega);rw[show(i+1+j)*4=(i+1)*4+j*4 by omega]at c0 c1 c2 c3;have qdV:=HF.out.1.gy;obtain⟨y,hy⟩:∃y,X (i+1+j)=y:=⟨_,rfl⟩;rw[hy]at c0 c1 c2 c3;have Ac:=ae hy;have aQ:=(ai wr).alloc (.cells (ag y) 42);have hPy:=(au.aO wr (ag y) 42 4 rfl).p4;obtain⟨g6,bK⟩:∃g6,g6=wr.heap.size:=⟨_,rfl⟩;obtain⟨W4,gN⟩:∃W4,wr.alloc (.cells (ag y) 42)=W4:=⟨_,rfl⟩;rw[gN]at aQ hPy;rw[<-bK]at hPy;have xm:=ae gN;have PL:=ae bK;have ZC:=ae (HJE.out _ _ _ _ HJ.out aQ);have tJ:Hid (sU (some ⟨gy,0,none⟩) gc gy c cp X W4/\lw<W4.heap.size):=⟨HF.out.1.ext aQ,bB HF.out.2 aQ.size⟩;have F4:=ae (HP.out.ext aQ);have h7:=(Uv.out _ _ _ HJ.out).1
     have PX:Hid (¬qz g7 W4 g4/\g4≠lw):=⟨λhz=>FY.out.1 (by
      rcases hz with h|⟨v,hv,hb⟩
      ·exact .inl h
      ·exact .inr ⟨v,by rw[<-aQ.cell h7];exact hv,hb⟩),FY.out.2⟩
     clear gN aQ HJ HF HP FY hy bK h7 qdV
     go_upto_region 6 with(fail)
     rw[xm.out, <-PL.out];clear c0 c1 c2 c3 xm PL;obtain⟨x0,x1,x2,x3⟩:=F4.out;obtain⟨y0,y1,y2,y3⟩:=hPy;have oZ:=dM _ _ x0;have qL:=dM _ _ y0;obtain⟨fn,tmps,assign,body,jX,Ap⟩:=HY.out i (i+1+j) W4 (by omega) (by have:=tC.out;omega) ZC.out;rw[HX.out,Ac.out]at jX;refine(wpIn_wide (n:=2)).1 (wpIn_region_lit ?_)
     gi_wp2_with (fail)
     clear jX;refine Ap.mono ?_;rintro e w3 ⟨rfl,hJ3,qJ⟩;have DC:=(Uv.out _ _ _ ZC.out).2;have VO:=tJ.out.1;have HF5:Hid (sU (some ⟨gy,0,none⟩) gc gy c cp X w3/\lw<w3.heap.size):=⟨VO.of qJ.1 (qJ.2.1 gc VO.gc (λh=>(DC gc h).2.1 rfl) uW) (qJ.2.1 gy VO.gy (λh=>(DC gy h).2.2 rfl) NY),bB tJ.out.2 qJ.1⟩;have BR:Hid (P4 w3 g4 x):=F4.out.of (qJ.2.1 g4 oZ PX.out.1 PX.out.2);have HN6:Hid (¬qz g7 w3 g4/\g4≠lw):=⟨λh=>(qJ.2.2 g4 h).elim PX.out.1 λh2=>by omega,PX.out.2⟩;have HJ5:=ae hJ3;clear hJ3 qJ DC VO ZC tJ F4 PX x0 x1 x2 x3 y0 y1 y2 y3 oZ qL Ap
     gi_wp2_with (fail)
     go_upto_region 7 with(fail)
     go_wp2
     go_roundw
     case rel=>exact⟨j+1,uC.out,by go_num,HJ5,HF5,BR,HN6⟩
     case measure=>have:=uC.out;simp[intOf];omega
    ·obtain rfl:j=d:=by omega
     have ZB:Hid (J (i+1) (i+2) wr):=HJN.out i wr gK.out (by have:=HJ.out;rw[<-tC.out]at this;exact this);have Zr:=HF;clear HJ HF HP FY
     go_upto_region 8 with(fail)
     go_wp2
     go_roundw
     case rel=>exact⟨i+1,gK.out,by go_num,ZB,Zr⟩
     case measure=>have:=gK.out;simp[intOf];omega
  ·obtain rfl:i=c:=by omega
   have vL:=ae HJ.out;clear HJ HF;go_wp2
   go_end0
   exact⟨⟨_,rfl⟩,vL.out⟩
theorem qvG(u:Option Addr)(lw g7 gc gy c cp:Nat)(X:Nat->PE)(w:World)(hC:sU u gc gy c cp X w)(uU:c<=cp)(eu:cp<=maxLen)(hc:c<=1000000)(hlw:w.heap.size<=lw):
 qba lw g7 gc gy c 2 Tryz.prog 88 #[.pointer (some ⟨gc,0,none⟩)] X w:=by
 rcases Nat.eq_zero_or_pos c with rfl|h0
 ·intro J W hW _ _ _ _ _ hj;have Ns:=hC.ext hW;have HJ:=ae hj;have l0:=Ns.l;have gl:=Ns.gc;clear hC Ns hW hj;refine callsIn_wide.2 ?_;show Calls Tryz.prog 88 #[.func (.yield lw) #[] #[],.pointer (some ⟨gc,0,none⟩)] W _
  go_enter Tryz.func88,Tryz.ntmps88
  go_wp2;clear l0 gl
  go_loopw [9] (λiv wr=>iv=.int .i64 0/\Hid (J 0 1 wr)) (λ_ _=>0)
  case atStart=>exact⟨rfl,HJ⟩
  case round=>
   clear HJ;obtain⟨rfl,HJ⟩:=hrel;go_wp2
   go_end0
   exact⟨⟨_,rfl⟩,HJ.out⟩
 ·obtain rfl:=hC.hu h0;exact qvH lw g7 gc gy c cp X w hC uU eu hc hlw
def KB(g7:Nat)(A B:World):Prop:=A.heap.size<=B.heap.size/\(∀b,b<A.heap.size->¬qz g7 A b->B.heap[b]?=A.heap[b]?)/\∀b,qz g7 B b->qz g7 A b\/A.heap.size<=b
theorem KB.kz{lw g7:Nat}{A B:World}(h:KB g7 A B):KZ lw g7 A B:=⟨h.1,λb hb hz _=>h.2.1 b hb hz,h.2.2⟩
theorem KB.gZ{g7:Nat}{A B:World}(h:Ext A B)(h7:g7<A.heap.size):KB g7 A B:=⟨h.size,λb hb _=>h.heap hb,λb hb=>.inl (by
 rcases hb with h1|⟨v,hv,hb⟩
 ·exact .inl h1
 ·exact .inr ⟨v,by rw[<-h.cell h7];exact hv,hb⟩)⟩
def qvJ(g7:Nat)(I:Nat->Nat->World->Prop)(i j:Nat)(W:World):Exit->Act->World->Prop
 | .normal,_,W'=>KB g7 W W'/\I i (j+1) W'
 |_,_,_=>False
abbrev OnL(l:Nat)(b:Nat):Prop:=b=l
def KL(n:Nat)(A B:World):Prop:=Kp (OnL (n+1)) A B/\Below n A B
theorem KL.gZ{n:Nat}{A B:World}(h:Ext A B)(hn:n<=A.heap.size):KL n A B:=⟨Kp.gZ h,Below.mono h hn⟩
theorem Ta(l:Nat)(W:World)(o:Obj):Kp (OnL l) W (W.putObj l o):=⟨by simp[World.putObj],λb _ hb=>World.putObj_heap_other hb⟩
theorem Xv(n:Nat)(W:World)(o:Obj):KL n W (W.putObj (n+1) o):=⟨Ta _ W o,rfl,rfl,rfl,by simp[World.putObj],λb hb=>World.putObj_heap_other (by omega)⟩
section
variable{n:Nat}{P:Program}
theorem qEJ{g:Operand}{ps:Array Tmp}{assign body:Code}{Q:Exit->Act->World->Prop}{a:Act}{w:World}{g7 gc gy c:Nat}{X:Nat->PE}
 (h1:1<=n) {gf:Nat} {lb:Array Value} (hg:a.eval g=.func (.func gf) #[] lb) (eg:∀args w,(callFunc gf args).run P w=.ok (.enter gf args) w)
 (qes:qba (w.heap.size+1) g7 gc gy c (n-1) P gf lb X w) (Sa:ps.size=2) (h7:g7<w.heap.size) (uW:gc<w.heap.size) (NY:gy<w.heap.size)
 (I:Nat->Nat->World->Prop) (hI:∀i j A B,I i j A->KL w.heap.size A B->I i j B) (hIZ:∀i j A,I i j A->∀b,qz g7 A b->b<A.heap.size/\b≠gc/\b≠gy/\b≠w.heap.size/\b≠w.heap.size+1) (hIN:∀i A,i<c->I i c A->I (i+1) (i+2) A)
 (Ax:Nat->Nat->Act->World->Prop) (hAx:∀i j a' A B,Ax i j a' A->KL w.heap.size A B->Ax i j a' B)
 (qdq:∀(l i j:Nat)(W:World)(K:Act->World->Prop),w.heap.size+2<=W.heap.size->I i j W->(∀a' W',Ext W W'->Ax i j a' W'->K a' W')->
  assign.wpIn (Fence.wide.inRound l) (n-1-1) P (Exit.then K (λ_ _ _=>False)) {tmps:=(ps.zip #[Value.agg (ag (X i)),Value.agg (ag (X j))]).foldl (λt(p,v)=>t.setIfInBounds p v) a.tmps,defers:=[]} W)
 (qdx:∀(l i j:Nat)(a':Act)(W:World),i<j->j<c->w.heap.size+2<=W.heap.size->I i j W->Ax i j a' W->body.wpIn (Fence.wide.inRound l) (n-1-1) P (qvJ g7 I i j W) a' W)
 (h0:I 0 1 w)
 (qdK:∀(W:World),w.heap.size+2<=W.heap.size->I c (c+1) W->W.heap[w.heap.size]?=some (.deferred (some []))->Q .normal {a with defers:={target:=.collected w.heap.size,args:= #[]}::a.defers} W):
 (Code.rangeFunc g ps assign body).wpIn Fence.wide n P Q a w:=by
 refine wpIn_rangeFunc λfn KC=>?_
 let R:LoopState->Loop:=λst=>{state:=st,pending:=none,fn,tmps:=a.tmps,params:=ps,assign,body,defers:=w.heap.size}
 let W1:=(w.alloc (.deferred (some []))).alloc (.loop (R .ready))
 have dI:W1.heap.size=w.heap.size+2:=by show((w.alloc _).alloc _).heap.size=_;simp
 have hL:qy w.heap.size (R .ready) W1:=by
  have h2:=World.alloc_heap_new (w.alloc (.deferred (some []))) (.loop (R .ready));rw[World.size_alloc]at h2;exact⟨h2,(Below.heap_alloc _ _ _ (by simp)).trans (World.alloc_heap_new w _)⟩
 have dF:Ext w W1:=((ai w).alloc _).alloc _
 have qoU:∀{r:Loop}{A B:World},qy w.heap.size r A->Ext A B->qy w.heap.size r B:=λh k=>by
  have:=h.lt;exact⟨(k.heap (by omega)).trans h.1,(k.heap (by omega)).trans h.2⟩
 have qeS:∀{r:Loop}{A B:World}{i j:Nat},I i j A->qy w.heap.size r A->KB g7 A B->qy w.heap.size r B:=λhi h k=>by
  have:=h.lt;exact⟨(k.2.1 _ (by omega) λhz=>(hIZ _ _ _ hi _ hz).2.2.2.2 rfl).trans h.1,(k.2.1 _ (by omega) λhz=>(hIZ _ _ _ hi _ hz).2.2.2.1 rfl).trans h.2⟩
 rw[Fence.wide_round];refine⟨w.heap.size+1,_,W1,{target:=.fn (.func gf) lb,args:= #[.func (.yield (w.heap.size+1)) #[] #[]]},W1,gf,#[.func (.yield (w.heap.size+1)) #[] #[]]++lb,W1,run_enterLoop_outer _ _ _ _ _,?_,?_,?_,λ_=>h1,?_⟩
 ·simp only[resolve,hg];simp[go_sem]
 ·intro f' hf';trivial
 ·simp[invoke,go_sem,eg]
 refine(qes (λi j W=>I i j W/\qy w.heap.size (R .ready) W/\w.heap.size+2<=W.heap.size) W1 dF (by omega) (λi j A B h k=>⟨hI _ _ _ _ h.1 (KL.gZ k (by have:=h.2.2;omega)),qoU h.2.1 k,aK h.2.2 k.size⟩) (λi j A h=>⟨by have:=h.2.2;omega,λb hb=>by have:=hIZ _ _ _ h.1 b hb;exact⟨this.1,this.2.1,this.2.2.1⟩⟩) (λi A hi h=>⟨hIN i A hi h.1,h.2⟩) ?_ ⟨hI _ _ _ _ h0 (KL.gZ dF (aA _)),hL,by omega⟩).mono ?_
 ·rintro i j W eD Wy ⟨hi,hl,hsz⟩;refine⟨fn,_,assign,body,run_yield (args:= #[Value.agg (ag (X i)),Value.agg (ag (X j))]) hl.1 (by show(2:Nat)=ps.size;omega),roundIn_of_wpIn KC (qdq _ i j W _ hsz hi λa' V VU hax=>?_)⟩;have KN:=qoU hl VU;have RP:=hI _ _ _ _ hi (KL.gZ VU (by omega));refine⟨_,run_beginRound KN.1 rfl,?_⟩;have RX:=KN.put (R .busy);have hiB:=hI _ _ _ _ RP (Xv w.heap.size V (.loop (R .busy)));have KY:w.heap.size+2<=V.heap.size:=aK hsz VU.size;refine wpIn_mono (qdx _ i j a' _ eD Wy (aK KY (Ta (w.heap.size+1) V (.loop (R .busy))).1) hiB (hAx _ _ _ _ _ hax (Xv _ _ _))) ?_;intro e a3 W3 hp
  cases e with
  |normal=>
   obtain⟨qJ,KF⟩:=hp;have Hd:=qeS hiB RX qJ;refine⟨_,_,run_endRound none Hd.1,rfl,⟨hI _ _ _ _ KF (Xv _ _ _),Hd.put (R .ready),?_⟩,?_⟩
   ·exact aK (aK (aK KY (Ta (w.heap.size+1) V (.loop (R .busy))).1) qJ.1) (Ta (w.heap.size+1) W3 (.loop (R .ready))).1
   ·have hne:g7≠w.heap.size+1:=by omega
    exact(KB.gZ VU (by omega)).kz.trans ((KZ.put hne V _).trans (qJ.kz.trans (KZ.put hne W3 _)))
  |ret=>exact hp.elim
  |exit id=>exact hp.elim
  |goto t=>exact hp.elim
  |panic ch=>exact hp.elim
  |outgrown=>exact hp.elim
 ·rintro e W2 ⟨⟨v,rfl⟩,hi,hl,hsz⟩;exact⟨none,_,run_endLoop hl.1 (by intro h;cases h),qdK _ (aK hsz (Ta (w.heap.size+1) W2 _).1) (hI _ _ _ _ hi (Xv _ _ _)) ((World.putObj_heap_other (by omega)).trans hl.2)⟩
end
theorem qDN{c:Bool}{A B:Prop}(hc:c=true)(h:A):if c=true then A else B:=by rw[av hc];exact h
section
variable{P:Program}{ops:Array Oper}{Q:Exit->Act->World->Prop}{md:Region.Mode}{S:World->Prop}{last l n:Nat}
theorem qrH(hd:XN ops=true)(KO:¬LetsOut Q):∀(fuel:Nat)(listed:Array Bool)(a:Act)(w:World),wpAny P md ops Q fuel listed a w->wpAnyIn (Fence.wide.inRound l) n P md ops Q fuel listed a w
 |0,_,_,_,h=>h
 |fuel+1,listed,a,w,h=>⟨h.1,λi hi=>by
  have h3:=wpOp_mono (λa' w' h'=>qrH hd KO fuel _ a' w' h') (h.2 i hi);unfold wpOp at h3;unfold wpOpIn
  cases ho:ops[i]? with
  |none=>rw[ho]at h3;exact h3
  |some o=>
   rw[ho]at h3;simp only at h3⊢
   split
   ·rename_i hw;rw[av hw]at h3;exact qEH (qAS hd ho) (h3.resolve_right λh=>KO h.2)
   ·rename_i hw;rw[aj hw]at h3
    exact⟨λ_ _=>trivial,h3⟩⟩
theorem qEO(S:World->Prop)(last:Nat){id:Nat}{a:Act}{w:World}(hm:P.follows .mixedOrders=true)(hd:XN ops=true)(KO:¬LetsOut Q)(hS:S w.drew)
 (h:S w.drew->uq P .any ops Q S last ops.size (Array.replicate ops.size false) a w.drew):(Code.region id ops true).wpIn (Fence.wide.inRound l) n P Q a w:=
 wpIn_region_any hm (qrH hd KO _ _ _ _ (qf8 _ _ _ _ (h hS)))
theorem qEF(i j:Nat){oi oj:Oper}{fuel:Nat}{listed:Array Bool}{a:Act}{w:World}
 (h:∀K':Act->World->Prop,Shut (∀a w,(i≠last->listed.getD last true=false->S w)->uq P md ops Q S last fuel (listed.setIfInBounds i true) a w->K' a w)->if Region.wanted oi (yielded ops a.tmps)=true then Oper.wp P oi a w K' Q else K' (a.put oi.dst undef) w)
 (h':∀K':Act->World->Prop,Shut (∀a w,(j≠last->listed.getD last true=false->S w)->uq P md ops Q S last fuel (listed.setIfInBounds j true) a w->K' a w)->if Region.wanted oj (yielded ops a.tmps)=true then Oper.wp P oj a w K' Q else K' (a.put oj.dst undef) w)
 (hr:Region.ready md ops listed=[i,j]:=by kernel_rfl) (hi:ops[i]?=some oi:=by simp only[sO,sP,sQ];rfl) (hj:ops[j]?=some oj:=by simp only[sO,sP,sQ];rfl):uq P md ops Q S last (fuel+1) listed a w:=by
 refine⟨λh0=>(by rw[h0]at hr;cases hr),λq hq=>?_⟩;rw[hr]at hq;simp only[List.mem_cons,List.not_mem_nil,or_false]at hq;rcases hq with rfl|rfl
 ·exact wpOp_step hi λK' hK=>h K' λa w h1 h2=>hK a w ⟨h1,h2⟩
 ·exact wpOp_step hj λK' hK=>h' K' λa w h1 h2=>hK a w ⟨h1,h2⟩
end
attribute [local go_sem] Oper.semAt_some
def o8(R:Nat->Nat->List Tm)(i:Nat):Nat->List (List Tm)
 |0=>[]
 |j+1=>if i<j then o8 R i j++[R i j]else[]
def sM(R:Nat->Nat->List Tm)(c:Nat):Nat->List (List Tm)
 |0=>[]
 |i+1=>sM R c i++o8 R i c
theorem qqc(R:Nat->Nat->List Tm)(i:Nat):∀j,j<=i+1->o8 R i j=[]
 |0,_=>rfl
 |j+1,h=>aj (by omega)
theorem qqe(R:Nat->Nat->List Tm)(i j:Nat)(h:i<j):o8 R i (j+1)=o8 R i j++[R i j]:=av h
theorem qbg(v:Value)(i:Nat)(hi:i<1):arr #[v] i=v:=by
 obtain rfl:i=0:=by omega
 rfl
def j6(M:Nat->Prop)(base:Nat)(w:World)(v:Value)(GL:List (List Tm)):Prop:=∃xx,Own w base 42 4 v GL.length (px xx)/\∀j,j<GL.length->aG (MR M v) w 4 (xx j) (GL.getD j [])
theorem j6.form{M:Nat->Prop}{base:Nat}{w:World}{v:Value}{GL:List (List Tm)}(h:j6 M base w v GL):∃a n p,v=.slice a n p/\n=GL.length:=by
 obtain⟨xx,h1,h2⟩:=h;obtain⟨a,p,e⟩:=h1.form;exact⟨a,_,p,e,rfl⟩
theorem j6.lt{M:Nat->Prop}{base:Nat}{w:World}{v:Value}{GL:List (List Tm)}(h:j6 M base w v GL):∀g,v.ownBlock=some g->base<=g/\g<w.heap.size:=by
 obtain⟨xx,h1,h2⟩:=h;exact h1.lt
theorem j6.kp{M M':Nat->Prop}{base:Nat}{w w':World}{v:Value}{GL:List (List Tm)}(h:j6 M base w v GL)(hk:Kp M' w w')(hm:∀b,M' b->M b)(ho:∀b,v.ownBlock=some b->¬M' b):j6 M base w' v GL:=by
 obtain⟨xx,h1,h2⟩:=h;refine⟨xx,h1.of_heap λg hg=>hk.2 g (h1.lt g hg).2 (ho g hg),λj hj=>(h2 j hj).kp ⟨hk.1,λb hb hn=>hk.2 b hb λh=>hn (.inl (hm b h))⟩⟩
theorem j6.push{M:Nat->Prop}{base:Nat}{w w':World}{va:Option Addr}{vc n:Nat}{GL:List (List Tm)}{xx:Nat->PE}{y:PE}{l:List Tm}{g cap:Nat}(hn:n=GL.length)(hx:∀j,j<GL.length->aG (MR M (.slice va n vc)) w 4 (xx j) (GL.getD j []))(hy:aG (MR M (.slice va n vc)) w 4 y l)
 (hO:Own w' base 42 4 (.slice (some ⟨g,0,none⟩) (n+1) cap) (n+1) (app (px xx) (n*4) (arr (ag y)))) (hg:w.grownBy w' (Value.slice va n vc).ownBlock) (hat:(Value.slice va n vc).ownBlock=some g\/w.heap.size<=g):
 j6 M base w' (.slice (some ⟨g,0,none⟩) (n+1) cap) (GL++[l]):=by
 subst hn;refine⟨snoc xx GL.length y,?_,λj hj=>?_⟩
 ·rw[List.length_append];exact hO.congr λj hj=>DT xx GL.length y j hj
 ·rw[List.length_append]at hj
  by_cases AU:j=GL.length
  ·subst AU;rw[jC,show(GL++[l]).getD GL.length []=l by simp];exact Oy hy hg hat
  ·have hj:j<GL.length:=by have:j<GL.length+1:=hj;omega
   rw[j4 _ _ _ _ hj,show(GL++[l]).getD j []=GL.getD j [] by simp[List.getD_eq_getElem?_getD,List.getElem?_append_left hj]];exact Oy (hx j hj) hg hat
structure ElC(Ok:List Tm->Prop)(J N:Nat)(a:Option Addr)(cap:Nat)(P:Nat->List Tm)(X:Nat->PE)(Z:Nat->Int)(R:Nat->Nat->List Tm)(w:World):Prop where
 h1:1<=J
 h4:J<=4
 hN:N<=3
 x:∀i,i<N->(∃b off,a=some ⟨b,off,none⟩/\N<=cap/\cap<=maxLen/\b<w.heap.size/\eF w b (off+i*4) (X i))/\aG M0 w 4 (X i) (P i)/\NN (P i)/\IP J (P i) (Z i)
 op:∀i,i<N->Ok (P i)
 or:∀i j,i<N->j<N->0<Z i->0<Z j->Ok (R i j)
 fam:∀(M:Nat->Prop)(GL:List (List Tm))(W:World)(a:Option Addr)(p:Nat),Mb M W->(∀l∈GL,Ok l)->GL.length<=20->dP M W 4 (.slice a GL.length p) GL.length (λj=>GL.getD j [])->Calls Tryz.prog 16 #[.slice a GL.length p] W (Qy M W GL.length λj=>GL.getD j [])
 r:∀i j,i<N->j<N->0<Z i->0<Z j->∀(M:Nat->Prop)(W:World)(x y:PE),Mb M W->aG M W 4 x (P i)->aG M W 4 y (P j)->Calls Tryz.prog 49 #[.agg (ag x),.agg (ag y),.int .i64 (J:Int)] W (xw M W 4 (R i j) 0)
def yK(P:Nat->List Tm)(R:Nat->Nat->List Tm)(cy cn:Nat)(σ τ:Nat->Nat):List (List Tm):=((List.range cn).map λi=>P (τ i))++sM (λi j=>R (σ i) (σ j)) cy cy
def qtK(N:Nat)(P:Nat->List Tm)(Z:Nat->Int)(R:Nat->Nat->List Tm)(w:World)(e:Ending)(w':World):Prop:=
 ∃(a:Option Addr)(c p:Nat)(F:Nat->List Tm)(cy cn:Nat)(σ τ:Nat->Nat),e=.returned (.tuple #[.slice a c p,.int .i64 0])/\dP M0 w' 4 (.slice a c p) c F/\jL (λi=>decide (0<Z i)) N cy σ/\jL (λi=> !decide (0<Z i)) N cn τ/\IU (yK P R cy cn σ τ).length (λj=>(yK P R cy cn σ τ).getD j []) c F/\Ext w w'
theorem qeY(R:Nat->Nat->List Tm)(i:Nat):∀j,(o8 R i j).length<=j
 |0=>aA _
 |j+1=>by
  unfold o8;have:=qeY R i j
  split
  ·rw[List.length_append];simp;omega
  ·simp
theorem qeX(R:Nat->Nat->List Tm)(c:Nat):∀i,(sM R c i).length<=i*c
 |0=>bu _
 |i+1=>by
  unfold sM;have:=qeX R c i;have:=qeY R i c;rw[List.length_append,Nat.succ_mul];omega
theorem qpa{R:Nat->Nat->List Tm}{i:Nat}{l:List Tm}:∀j,l∈o8 R i j->∃k,i<k/\k<j/\l=R i k
 |0,h=>by cases h
 |j+1,h=>by
  unfold o8 at h
  split at h
  ·rename_i eD;rcases List.mem_append.1 h with h1|h1
   ·obtain⟨k,a,b,c⟩:=qpa j h1;exact⟨k,a,by omega,c⟩
   ·exact⟨j,eD,by omega,List.mem_singleton.1 h1⟩
  ·cases h
theorem qe2{R:Nat->Nat->List Tm}{c:Nat}{l:List Tm}:∀i,l∈sM R c i->∃k q,k<i/\k<q/\q<c/\l=R k q
 |0,h=>by cases h
 |i+1,h=>by
  rcases List.mem_append.1 h with h1|h1
  ·obtain⟨k,q,a,b,d,e⟩:=qe2 i h1;exact⟨k,q,by omega,b,d,e⟩
  ·obtain⟨q,a,b,e⟩:=qpa c h1;exact⟨i,q,by omega,a,b,e⟩
abbrev yA(l g7 g3:Nat)(b:Nat):Prop:=(b=l\/b+1=l\/b=g3+1\/b=g3+2)\/b=g7
structure qP(w0 w:World)(base g3 g4 g5 g7 gc gy c:Nat)(J:Nat)(NL:List (List Tm))(R:Nat->Nat->List Tm)(i j:Nat)(W:World):Prop where
 row:∃v,au W g7 34 1 (λ_=>v)/\j6 (yA (w.heap.size+1) g7 g3) base W v (NL++(sM R c i++o8 R i j))/\∀b,v.ownBlock=some b->b≠g7/\b≠gc/\b≠gy/\b≠w.heap.size/\b≠w.heap.size+1
 e:Ext w0 W
 b3:W.cell? ⟨g3,0,none⟩=some (.int .i64 (J:Int))
 b4:au W g4 34 1 (λ_=>.slice none 0 0)
 b5:au W g5 46 1 (λ_=>.int .i64 0)
 s:w.heap.size<=W.heap.size
structure TU(w0 w:World)(base g3 g4 g5 g7 gc gy:Nat):Prop where
 n3:w0.heap.size<=g3
 a3:g3<base
 a4:g4<base
 a5:g5<base
 b7:base<=g7
 c7:g7<gc
 gc:gc<w.heap.size
 y7:gy<g7
section
variable{w0 w:World}{base g3 g4 g5 g7 gc gy c J:Nat}{NL:List (List Tm)}{R:Nat->Nat->List Tm}{i j:Nat}{A B:World}
theorem qP.kl(K:TU w0 w base g3 g4 g5 g7 gc gy)(h:qP w0 w base g3 g4 g5 g7 gc gy c J NL R i j A)(k:KL w.heap.size A B):qP w0 w base g3 g4 g5 g7 gc gy c J NL R i j B:=by
 obtain⟨k3,ka,kb,kc,k7,k8,k9,ky⟩:=K;have hs:=h.s;have kk:∀b,b<w.heap.size->B.heap[b]?=A.heap[b]?:=λb hb=>k.1.2 b (by omega) (by show¬b=w.heap.size+1;omega);obtain⟨v,hB,hP,hn⟩:=h.row;refine⟨⟨v,hB.of_heap (kk g7 (by omega)),hP.kp k.1 (λb hb=>.inl (.inl hb)) λb hb he=>(hn b hb).2.2.2.2 he,hn⟩,Below.trans h.e (Below.mono k.2 (by omega)),?_,h.b4.of_heap (kk g4 (by omega)),h.b5.of_heap (kk g5 (by omega)),aK hs k.1.1⟩;exact(World.cell?_of_block (w:=A) (w':=B) (a:=⟨g3,0,none⟩) (kk g3 (by omega))).trans h.b3
theorem qP.zs(K:TU w0 w base g3 g4 g5 g7 gc gy)(h:qP w0 w base g3 g4 g5 g7 gc gy c J NL R i j A)(b:Nat)(hz:qz g7 A b):b<A.heap.size/\b≠gc/\b≠gy/\b≠w.heap.size/\b≠w.heap.size+1:=by
 obtain⟨k3,ka,kb,kc,k7,k8,k9,ky⟩:=K;have hs:=h.s;obtain⟨v,hB,hP,hn⟩:=h.row;rcases hz with rfl|⟨v',hv,hb⟩
 ·refine⟨by omega,by omega,by omega,by omega,by omega⟩
 ·rw[hB.cell (i:=0) (by omega)]at hv;cases hv;exact⟨(hP.lt b hb).2,(hn b hb).2⟩
theorem qP.next(h:qP w0 w base g3 g4 g5 g7 gc gy c J NL R i c A):qP w0 w base g3 g4 g5 g7 gc gy c J NL R (i+1) (i+2) A:=by
 obtain⟨h1,h2,h3,h4,h5,h6⟩:=h;refine⟨?_,h2,h3,h4,h5,h6⟩
 have e:sM R c (i+1)++o8 R (i+1) (i+2)=sM R c i++o8 R i c:=by
  rw[qqc R (i+1) (i+2) (aA _),List.append_nil];rfl
 rw[e];exact h1
theorem qP.fin{Wz Wb:World}{va:Option Addr}{n vc g cap:Nat}{xx:Nat->PE}{y:PE}(K:TU w0 w base g3 g4 g5 g7 gc gy)(eD:i<j)(h:qP w0 w base g3 g4 g5 g7 gc gy c J NL R i j A)(pJ:au A g7 34 1 (λ_=>.slice va n vc))(hw:w.heap.size+2<=A.heap.size)
 (hn:n=(NL++(sM R c i++o8 R i j)).length) (hx:∀k,k<n->aG (MR (yA (w.heap.size+1) g7 g3) (.slice va n vc)) Wz 4 (xx k) ((NL++(sM R c i++o8 R i j)).getD k [])) (hy:aG (MR (yA (w.heap.size+1) g7 g3) (.slice va n vc)) Wz 4 y (R i j))
 (he:Ext A Wz) (hg:Wz.grownBy Wb (Value.slice va n vc).ownBlock) (hat:(Value.slice va n vc).ownBlock=some g\/Wz.heap.size<=g)
 (hs:B.heap.size=Wb.heap.size) (hh:∀b,b≠g->b≠g7->B.heap[b]?=Wb.heap[b]?) (hB:au B g7 34 1 (λ_=>.slice (some ⟨g,0,none⟩) (n+1) cap)) (hO:Own B base 42 4 (.slice (some ⟨g,0,none⟩) (n+1) cap) (n+1) (app (px xx) (n*4) (arr (ag y)))) (hE:Ext w0 B):
 KB g7 A B/\qP w0 w base g3 g4 g5 g7 gc gy c J NL R i (j+1) B:=by
 have hz:=λb hb=>qP.zs K h b hb;obtain⟨k3,ka,kb,kc,k7,k8,k9,ky⟩:=K;have hsA:=he.size;have hsz:=hg.size;have hown:∀b,(Value.slice va n vc).ownBlock=some b->qz g7 A b:=λb hb=>.inr ⟨_,pJ.cell (i:=0) (by omega),hb⟩;have qG:qz g7 A g\/Wz.heap.size<=g:=hat.imp (hown g) id;have hbase:base<=g:=(hO.lt g rfl).1
 have hgn:g≠g7/\g≠gc/\g≠gy/\g≠w.heap.size/\g≠w.heap.size+1:=by
  rcases hat with h1|h1
  ·obtain⟨v,hB',_,oW⟩:=h.row
   have hv:v=.slice va n vc:=by
    have e1:=hB'.cell (i:=0) (by omega);rw[pJ.cell (i:=0) (by omega)]at e1;exact(Option.some.inj e1).symm
   rw[hv]at oW;exact oW g h1
  ·refine⟨by omega,by omega,by omega,by omega,by omega⟩
 have keep:∀b,b<A.heap.size->¬qz g7 A b->B.heap[b]?=A.heap[b]?:=λb hb fO=>by
  have h1:b≠g:=λe=>by
   subst e
   exact qG.elim fO λh=>by omega
  have h2:b≠g7:=λe=>fO (.inl e);rw[hh b h1 h2,hg.block b (by omega) (λe=>fO (hown b e.symm)),he.heap hb]
 have kpz:Kp (λb=>MR (yA (w.heap.size+1) g7 g3) (.slice va n vc) b\/b=g) Wz B:=⟨by omega,λb hb Hl=>by
  rw[hh b (λe=>Hl (.inr e)) (λe=>Hl (.inl (.inl (.inr e)))),hg.block b hb (λe=>Hl (.inl (.inr e.symm)))]⟩
 have mv:∀{z:PE}{l:List Tm},aG (MR (yA (w.heap.size+1) g7 g3) (.slice va n vc)) Wz 4 z l->aG (MR (yA (w.heap.size+1) g7 g3) (.slice (some ⟨g,0,none⟩) (n+1) cap)) B 4 z l:=λhz=>by
  refine((hz.more (M':=λb=>MR (yA (w.heap.size+1) g7 g3) (.slice va n vc) b\/b=g) λb hb=>hb.elim .inl λe=>?_).kp kpz).more λb hb=>.inl (hb.elim (λh=>.inl (.inl h)) λh=>.inr ?_)
  ·subst e;exact hat.imp .inr id
  ·simp only[Value.ownBlock,Option.some.injEq]at h;exact h.symm
 have n3:¬qz g7 A g3:=λh=>by
  rcases h with h1|⟨v',hv,hb⟩
  ·omega
  ·obtain⟨v,hB',EL,_⟩:= ‹qP w0 w base g3 g4 g5 g7 gc gy c J NL R i j A›.row;rw[hB'.cell (i:=0) (by omega)]at hv;cases hv;have:=(EL.lt _ hb).1;omega
 have qpt:∀b,b<base->¬qz g7 A b:=λb hb h=>by
  rcases h with h1|⟨v',hv,hb'⟩
  ·omega
  ·obtain⟨v,hB',EL,_⟩:= ‹qP w0 w base g3 g4 g5 g7 gc gy c J NL R i j A›.row;rw[hB'.cell (i:=0) (by omega)]at hv;cases hv;have:=(EL.lt _ hb').1;omega
 refine⟨⟨by omega,keep,λb hb=>?_⟩,?_⟩
 ·rcases hb with h1|⟨v',hv,hb⟩
  ·exact .inl (.inl h1)
  ·rw[hB.cell (i:=0) (by omega)]at hv;cases hv;simp only[Value.ownBlock,Option.some.injEq]at hb;subst hb
   exact qG.imp id λh=>by omega
 ·refine⟨⟨_,hB,⟨snoc xx n y,?_,λk hk=>?_⟩,λb hb=>?_⟩,hE,?_,h.b4.of_heap (keep g4 h.b4.lt (qpt g4 kb)),h.b5.of_heap (keep g5 h.b5.lt (qpt g5 kc)),by omega⟩
  ·rw[qqe R i j eD,show(NL++(sM R c i++(o8 R i j++[R i j]))).length=n+1 by rw[hn];simp;omega];exact hO.congr λk hk=>DT xx n y k hk
  ·rw[qqe R i j eD,show NL++(sM R c i++(o8 R i j++[R i j]))=(NL++(sM R c i++o8 R i j))++[R i j] by simp]at hk⊢;generalize NL++(sM R c i++o8 R i j)=GL at*;rw[List.length_append]at hk
   by_cases hkn:k=n
   ·subst hkn;rw[jC,hn,show(GL++[R i j]).getD GL.length []=R i j by simp];rw[<-hn];exact mv hy
   ·have hk:k<n:=by have:k<GL.length+1:=hk;omega
    rw[j4 _ _ _ _ hk,show(GL++[R i j]).getD k []=GL.getD k [] by simp[List.getD_eq_getElem?_getD,List.getElem?_append_left (show k<GL.length by omega)]];exact mv (hx k hk)
  ·simp only[Value.ownBlock,Option.some.injEq]at hb;subst hb;exact hgn
  ·exact(World.cell?_of_block (w:=A) (w':=B) (a:=⟨g3,0,none⟩) (keep g3 (dM _ _ h.b3) n3)).trans h.b3
end
theorem qCM(a:Option Addr)(n p:Nat)(w:World):Calls Tryz.prog 48 #[.slice a n p] w λe w'=>e=.returned (.func (.func 88) #[] #[.pointer (some ⟨w.heap.size,0,none⟩)])/\w'=w.alloc (.cells #[.slice a n p] 34):=by
 go_enter Tryz.func48,Tryz.ntmps48
 go_wp2;go_ret;exact⟨rfl,rfl⟩
def oI(g7:Nat)(v:Value)(g10:Nat)(z:PE)(w:World):Prop:=w.cell? ⟨g7,0,none⟩=some v/\P4 w g10 z
theorem oI.ext{g7:Nat}{v:Value}{g10:Nat}{z:PE}{w w':World}(h:oI g7 v g10 z w)(he:Ext w w'):oI g7 v g10 z w':=⟨by rw[he.cell (dM _ _ h.1)];exact h.1,h.2.ext he⟩
theorem Own.qrs{M:Nat->Prop}{base:Nat}{w:World}{D:Nat}{v:Value}{c:Nat}{x:Nat->PE}{S:Nat->List Tm}(h:Own w base 42 4 v c (px x))(hS:∀i,i<c->aG M w D (x i) (S i))(hM:∀q:Nat,v.ownBlock=Option.some q->¬M q)(hc:c<=1099511627776):dP M w D v c S:=by
 refine⟨hc,?_⟩;rcases h with⟨rfl,rfl⟩|⟨g,cap,F,rfl,hg,hB,ig,eu,hF⟩
 ·exact .inl ⟨rfl,rfl⟩
 ·refine .inr ⟨g,0,cap,rfl,ig,eu,⟨hB.lt,hM g rfl⟩,λi hi=>?_⟩;rw[Nat.zero_add];refine⟨_,_,_,_,?_,?_,?_,?_,hS i hi⟩
  ·rw[hB.cell (by omega),hF _ (by omega),Fx]
  ·rw[hB.cell (by omega),hF _ (by omega),Fy]
  ·rw[hB.cell (by omega),hF _ (by omega),Fz]
  ·rw[hB.cell (by omega),hF _ (by omega),FB]
theorem qwl{M:Nat->Prop}{w W:World}{g h D:Nat}{t t':TypeId}{f f':Nat->Value}(A B:Value)(hB:au W g t 1 f)(hC:au W h t' 1 f')(hne:g≠h)(hD:D≠g/\D≠h)(hg:M g)(hh:M h)(hd:M D)(hw:w.heap.size<=g/\w.heap.size<=h/\w.heap.size<=D)(he:Ext w W)(hK:W.heap[D]?=some (.deferred (some []))):
 (W.cell? ⟨g,0,none⟩=some (f 0)/\W.frozen? ⟨g,0,none⟩=false/\W.cell? ⟨h,0,none⟩=some (f' 0)/\W.frozen? ⟨h,0,none⟩=false/\(W.setCell ⟨g,0,none⟩ A).cell? ⟨h,0,none⟩=some (f' 0)/\(W.setCell ⟨g,0,none⟩ A).frozen? ⟨h,0,none⟩=false)/\
 ∀WF,WF=(W.setCell ⟨g,0,none⟩ A).setCell ⟨h,0,none⟩ B->WF.heap[D]?=some (.deferred (some []))/\(WF.putObj D (.deferred none)).cell? ⟨g,0,none⟩=some A/\(WF.putObj D (.deferred none)).cell? ⟨h,0,none⟩=some B/\Kp M W (WF.putObj D (.deferred none))/\Ext w (WF.putObj D (.deferred none)):=by
 have jM:=hC.kM (p:=⟨g,0,none⟩) (λe=>hne e.symm) A;have eG:=(hB.set 0 A).kM (p:=⟨h,0,none⟩) hne B;have CQ:=jM.set 0 B;refine⟨⟨hB.cell (by omega),hB.frozen 0,hC.cell (by omega),hC.frozen 0,jM.cell (by omega),jM.frozen 0⟩,?_⟩;rintro WF rfl;generalize V8:(W.setCell ⟨g,0,none⟩ A).setCell ⟨h,0,none⟩ B=WF at*
 have hDF:WF.heap[D]?=some (.deferred (some [])):=by
  rw[<-V8,Below.heap_setCell _ ⟨h,0,none⟩ _ D hD.2,Below.heap_setCell _ ⟨g,0,none⟩ _ D hD.1];exact hK
 have lu:=grownBy_putObj' WF D (.deferred none)
 have hk:Kp M W WF:=by rw[<-V8];exact(Kp.set _ _ hg _).trans (Kp.set _ _ hh _)
 have hx:Ext w WF:=by rw[<-V8];exact(he.set (p:=⟨g,0,none⟩) hw.1 _).set (p:=⟨h,0,none⟩) hw.2.1 _
 refine⟨hDF,?_,?_,hk.trans (Kp.grown lu λk e=>by cases e;exact hd),hx.grown lu λk e=>by cases e;exact hw.2.2⟩
 ·rw[World.cell?_of_block (w:=WF) (World.putObj_heap_other (λe=>hD.1 e.symm)),eG.cell (i:=0) (by omega)];simp[fG]
 ·rw[World.cell?_of_block (w:=WF) (World.putObj_heap_other (λe=>hD.2 e.symm)),CQ.cell (i:=0) (by omega)];simp[fG]
theorem qBy{B:World}{base g cap n:Nat}{xx:Nat->PE}{f0:Nat->Value}{F:Nat->Value}(z:PE)(hb:base<=g)(hn:n+1<=cap)(hm:cap<=maxLen)(hF:∀j,j<(n+1)*4->F j=app (px xx) (n*4) f0 j)(hB:au B g 42 (cap*4) (uo F (n*4) (.int .i64 z.lv) (.bool z.b) (.slice z.a z.n z.p) (.slice z.ka z.kn z.kp))):
 Own B base 42 4 (.slice (some ⟨g,0,none⟩) (n+1) cap) (n+1) (app (px xx) (n*4) (arr (ag z))):=by
 refine .inr ⟨g,cap,_,rfl,hb,hB,hn,hm,λj hj=>?_⟩;unfold uo fG
 by_cases h:j<n*4
 ·rw[aj (by omega),aj (by omega),aj (by omega),aj (by omega),hF j hj];unfold app;rw[av h,av h]
 ·rcases(show j=n*4\/j=n*4+1\/j=n*4+2\/j=n*4+3 by omega)with rfl|rfl|rfl|rfl<;>(unfold app arr;rw[aj h];simp)
theorem quh{W:World}{base:Nat}{ya:Option Addr}{cy yc gc g3:Nat}{X:Nat->PE}(h:Own W base 42 4 (.slice ya cy yc) cy (px X))(hl:W.cell? ⟨gc,0,none⟩=some (.slice ya cy yc))(h3:g3<W.heap.size):
 ∃gy,sU ya gc gy cy yc X W/\cy<=yc/\yc<=maxLen/\(gy=g3\/(Value.slice ya cy yc).ownBlock=some gy):=by
 rcases h with⟨e,rfl⟩|⟨g,cap,F,e,hb,hB,hn,hm,hF⟩
 ·cases e;exact⟨g3,⟨λh=>absurd h (Nat.lt_irrefl _),hl,λi hi=>absurd hi (Nat.not_lt_zero _),dM _ _ hl,h3⟩,aA _,bu _,.inl rfl⟩
 ·cases e
  have k:∀j,j<cy*4->W.cell? ⟨g,j,none⟩=some (px X j):=λj hj=>by
   rw[hB.cell (i:=j) (by have:=fq 4 hn;omega),hF j hj]
  exact⟨g,⟨λ_=>rfl,hl,λi hi=>⟨(k (i*4) (by omega)).trans (by rw[Fx]),(k (i*4+1) (by omega)).trans (by rw[Fy]),(k (i*4+2) (by omega)).trans (by rw[Fz]),(k (i*4+3) (by omega)).trans (by rw[FB])⟩,dM _ _ hl,hB.lt⟩,hn,hm,.inr rfl⟩
theorem qCL(Ok:List Tm->Prop)(J N:Nat)(a:Option Addr)(cap:Nat)(P:Nat->List Tm)(X:Nat->PE)(Z:Nat->Int)(R:Nat->Nat->List Tm)(w:World)(H:ElC Ok J N a cap P X Z R w):
 Calls Tryz.prog 12 #[.slice a N cap,.int .i64 (J:Int)] w (qtK N P Z R w):=by
 have hJ:eH (J:Int)=true:=qo3 H.h1 H.h4;have HH:=ae H;have hN:=H.hN;have eG:=(au.aO w #[.int .i64 (J:Int)] 3 1 rfl);have gY:=(au.aO (w.alloc (.cells #[.int .i64 (J:Int)] 3)) #[.slice none 0 0] 34 1 rfl);have dW:=(au.aO ((w.alloc (.cells #[.int .i64 (J:Int)] 3)).alloc (.cells #[.slice none 0 0] 34)) #[.int .i64 0] 46 1 rfl);have aL:Ext w (((w.alloc (.cells #[.int .i64 (J:Int)] 3)).alloc (.cells #[.slice none 0 0] 34)).alloc (.cells #[.int .i64 0] 46)):=(((ai w).alloc _).alloc _).alloc _;have yM:=(eG.alloc (.cells #[.slice none 0 0] 34)).alloc (.cells #[.int .i64 0] 46);have xG:=gY.alloc (.cells #[.int .i64 0] 46);simp only[World.size_alloc]at yM xG dW;obtain⟨W0,fK⟩:∃W0,((w.alloc (.cells #[.int .i64 (J:Int)] 3)).alloc (.cells #[.slice none 0 0] 34)).alloc (.cells #[.int .i64 0] 46)=W0:=⟨_,rfl⟩;rw[fK]at aL yM xG dW;obtain⟨g3,iM⟩:∃g3,g3=w.heap.size:=⟨_,rfl⟩;rw[<-iM]at yM xG dW;have wP:=ae (xG.congr (f':=λ_=>.slice none 0 0) (qbg _));have mM:=ae (dW.congr (f':=λ_=>.int .i64 0) (qbg _));have iY:=ae fK;have pz:=ae iM;have dC:=ae aL;have c3:W0.cell? ⟨g3,0,none⟩=some (.int .i64 (J:Int)):=yM.cell (i:=0) (by omega);have zO:=ae c3;have qdT:=yM.lt;have qxQ:=dW.lt
 have CS:=ae (qCN J H.h1 H.h4 g3 a N cap P X Z W0 c3 (by omega) λi hi=>by
  obtain⟨⟨b,off,ha,jG,eu,hb,hk⟩,hc,hn,hd⟩:=H.x i hi
  exact⟨⟨b,off,ha,jG,eu,bB hb aL.size,hk.ext hb aL⟩,hc.ext aL,hn,hd⟩)
 clear H eG gY dW aL yM xG fK iM;refine callsIn_wide.1 (callsIn_of_wp_marks (F:=Fence.wide) (n:=3) Tryz.func12 rfl trivial ?_);refine wpIn_wide.2 ?_;simp only[Tryz.ntmps12,List.size_toArray,List.length_cons,List.length_nil,Nat.reduceAdd,Nat.reduceSub,Array.replicate_succ,Array.replicate_zero,List.push_toArray,List.append_toArray,List.nil_append,List.cons_append]
 go_upto_region 1 with(fail)
 rw[iY.out, <-pz.out];clear iY;go_wp2_with (fail);refine(Yd (J:Int) W0).mono ?_;rintro e w1 ⟨rfl,rfl⟩;rw[hJ];go_wp2_with (fail);refine CS.out.mono ?_;rintro e w1 ⟨vy,vn,cy,cn,σ,τ,rfl,hy,hn,hd,Sd,Fj,ah⟩;have aQ:=ah.alloc (.cells #[vn] 34);have pJ:=(au.aO w1 #[vn] 34 1 rfl).congr (f':=λ_=>vn) (qbg _);have mF:=(ai w1).alloc (.cells #[vn] 34);obtain⟨W1,hW1⟩:∃W1,w1.alloc (.cells #[vn] 34)=W1:=⟨_,rfl⟩;rw[hW1]at aQ pJ mF;obtain⟨g7,Wo⟩:∃g7,g7=w1.heap.size:=⟨_,rfl⟩;rw[<-Wo]at pJ;have UX:=ae hW1;have Zu:=ae Wo;have HY:=ae (hy.ext mF);have xg:=ae (hn.ext mF);have aP:=ae aQ;have vK:=ae pJ;have Eu:=ae Sd;have qo:=ae Fj;have HD:=ae hd
 have hWg:W0.heap.size<=g7:=by rw[Wo];exact ah.size
 have WL:∀b,vn.ownBlock=some b->W0.heap.size<=b/\b<g7:=λb hb=>by have:=hn.lt b hb;omega
 have P5:=ae WL
 have Fp:∀b,vy.ownBlock=some b->W0.heap.size<=b/\b<g7:=λb hb=>by have:=hy.lt b hb;omega
 have Ac:=ae Fp;obtain⟨ya,yc,rfl⟩:=hy.form;obtain⟨na,nc,rfl⟩:=hn.form;clear hy hn hd Sd Fj ah aQ pJ mF hW1 Wo WL Fp CS
 go_upto_region 4 with(fail)
 rw[UX.out, <-Zu.out];go_wp2_with (fail);refine(qCM ya cy yc W1).mono ?_;rintro e w2 ⟨rfl,iy⟩
 have az:Ext W1 w2:=by rw[iy];exact(ai W1).alloc _
 obtain⟨gc,uW⟩:∃gc,gc=W1.heap.size:=⟨_,rfl⟩
 have Ha:w2.cell? ⟨gc,0,none⟩=some (.slice ya cy yc):=by rw[iy,uW];exact(au.aO W1 #[.slice ya cy yc] 34 1 rfl).cell (i:=0) (by omega)
 have hs2:w2.heap.size=W1.heap.size+1:=by rw[iy];simp
 have qxR:g7<W1.heap.size:=vK.out.lt;have hw1:w.heap.size<=W0.heap.size:=dC.out.size
 have qF:cy<=3:=by have:=Eu.out.len;omega
 have NR:cn<=3:=by have:=qo.out.len;omega
 obtain⟨gy,hC,ig,eu,NY⟩:=quh (HY.out.ext az) Ha (g3:=g3) (by omega);have qmQ:gy<g7:=NY.elim (λe=>by omega) λe=>(Ac.out gy e).2;have K:TU w w2 W0.heap.size g3 (g3+1) (g3+2) g7 gc gy:=⟨by rw[pz.out];exact aA _,qdT,by omega,by omega,by omega,by omega,by omega,qmQ⟩
 have yT:((List.range cn).map λi=>P (τ i)).length=cn:=by simp
 have hX:∀k,k<N->aG M0 w 4 (X k) (P k):=λk hk=>(HH.out.x k hk).2.1
 have I0:qP w w2 W0.heap.size g3 (g3+1) (g3+2) g7 gc gy cy J ((List.range cn).map λi=>P (τ i)) (λi j=>R (σ i) (σ j)) 0 1 w2:=by
  refine⟨⟨_,vK.out.ext az,⟨λi=>X (τ i),?_,λk hk=>?_⟩,λb hb=>?_⟩,dC.out.trans (aP.out.trans az),?_,wP.out.ext (aP.out.trans az),mM.out.ext (aP.out.trans az),aA _⟩
  ·rw[List.length_append,yT];exact xg.out.ext az
  ·have hk:k<cn:=by rw[List.length_append,yT]at hk;exact hk
   rw[show((List.range cn).map (λi=>P (τ i))++(sM (λi j=>R (σ i) (σ j)) cy 0++o8 (λi j=>R (σ i) (σ j)) 0 1)).getD k []=P (τ k) by
    show((List.range cn).map (λi=>P (τ i))++([]++[])).getD k []=_
    simp[List.getD_eq_getElem?_getD,hk]]
   refine((hX _ (qo.out.mem k hk).1).more λb hb=>.inr ?_).ext (dC.out.trans (aP.out.trans az));have h3:=pz.out;rcases hb with(h|h)|h
   ·omega
   ·omega
   ·have:=(P5.out b h).1;omega
  ·have h1:=P5.out b hb;refine⟨by omega,by omega,λe=>?_,by omega,by omega⟩;subst e;exact NY.elim (λe=>by omega) λe=>HD.out _ e hb
  ·rw[(aP.out.trans az).cell qdT];exact zO.out
 have qtm:=ae (qvG ya (w2.heap.size+1) g7 gc gy cy yc (λi=>X (σ i)) w2 hC ig eu (by omega) (by omega));have HK:=ae K;have FV:=ae I0;have qR:Hid (g7<w2.heap.size/\gc<w2.heap.size/\gy<w2.heap.size):=⟨by omega,by omega,by omega⟩;rw[<-uW];clear hC ig eu NY qmQ K yT hX I0 iy az Ha hs2 qxR hw1 hWg HY xg aP vK P5 Ac wP mM zO UX uW qdT qxQ;go_wp2
 refine wpIn_wide.1 (qEJ (n:=3) (g7:=g7) (gc:=gc) (gy:=gy) (c:=cy) (X:=λi=>X (σ i)) (by omega) (gf:=88) (lb:= #[.pointer (some ⟨gc,0,none⟩)]) rfl (enters_of Tryz.func88 (by kernel_rfl) rfl) qtm.out rfl qR.out.1 qR.out.2.1 qR.out.2.2
  (qP w w2 W0.heap.size g3 (g3+1) (g3+2) g7 gc gy cy J ((List.range cn).map λi=>P (τ i)) (λi j=>R (σ i) (σ j))) (λi j A B h k=>h.kl HK.out k) (λi j A h b hb=>h.zs HK.out b hb) (λi A _ h=>h.next)
  (λi j a' W=>∃g8 g9:Nat,P4 W g8 (X (σ i))/\P4 W g9 (X (σ j))/\w2.heap.size+2<=g8/\w2.heap.size+2<=g9/\a'={tmps:= #[.slice a N cap,.int .i64 (J:Int),undef,.pointer (some ⟨g3,0,none⟩),.pointer (some ⟨g3+1,0,none⟩),.pointer (some ⟨g3+1+1,0,none⟩),.slice ya cy yc,.pointer (some ⟨g7,0,none⟩),.pointer (some ⟨g8,0,none⟩),.pointer (some ⟨g9,0,none⟩),undef,undef,.int .i64 (J:Int),.bool true,.bool false,.tuple #[.slice ya cy yc,.slice na cn nc],.slice a N cap,.func (.func 47) #[] #[.pointer (some ⟨g3,0,none⟩)],.tuple #[.slice ya cy yc,.slice na cn nc],.slice ya cy yc,.slice na cn nc,.slice ya cy yc,.func (.func 88) #[] #[.pointer (some ⟨gc,0,none⟩)],.agg (ag (X (σ i))),.agg (ag (X (σ j))),undef,undef,undef,undef,undef,undef,undef,undef,undef,undef,undef,undef,undef,undef,undef,undef,undef,undef],defers:=[]})
  ?hax ?assign ?body FV.out ?done)
 case hax=>
  rintro i j a' A B ⟨g8,g9,h8,h9,s8,s9,e⟩ k;have l8:=dM _ _ h8.1;have l9:=dM _ _ h9.1;exact⟨g8,g9,h8.of (k.1.2 g8 l8 (by show¬g8=_;omega)),h9.of (k.1.2 g9 l9 (by show¬g9=_;omega)),s8,s9,e⟩
 case assign=>
  intro lq i j W K hW hI hK
  gi_wp2
  have hb1:=(au.aO W (ag (X (σ i))) 42 4 rfl).alloc (.cells (ag (X (σ j))) 42);have gU:=au.aO (W.alloc (.cells (ag (X (σ i))) 42)) (ag (X (σ j))) 42 4 rfl;simp only[World.size_alloc]at gU;exact hK _ _ (((ai W).alloc _).alloc _) ⟨_,_,hb1.p4,gU.p4,hW,by omega,rfl⟩
 case body=>
  rintro lq i j a' W eD Wy hW hI ⟨g8,g9,h8,h9,s8,s9,rfl⟩;obtain⟨v,pJ,hP,lL⟩:=hI.row;obtain⟨va,n,vc,rfl,hn⟩:=hP.form;have PZ:Hid (∀b,(Value.slice va n vc).ownBlock=some b->b≠g7/\b<W.heap.size):=λb hb=>⟨(lL b hb).1,(hP.lt b hb).2⟩;obtain⟨xx,hO,Dy⟩:=hP;rw[<-hn]at hO Dy;have EL:∀b,(Value.slice va n vc).ownBlock=some b->W0.heap.size<=b/\b<W.heap.size:=hO.lt;have ZP:=ae hO;have pI:=ae Dy;have sD:w.heap.size<=W0.heap.size:=dC.out.size;have k7:=HK.out.b7
  have Ww:σ i<N/\0<Z (σ i):=by have:=Eu.out.mem i (by omega);exact⟨this.1,of_decide_eq_true this.2⟩
  have WC:σ j<N/\0<Z (σ j):=by have:=Eu.out.mem j (by omega);exact⟨this.1,of_decide_eq_true this.2⟩
  have Rp:Mb (MR (yA (w2.heap.size+1) g7 g3) (.slice va n vc)) W:=λb hb=>by
   have h5:=HK.out.a5;have h6:=HK.out.b7;have h8:=pJ.lt;rcases hb with(h|h)|h
   ·omega
   ·rw[h];exact pJ.lt
   ·exact(EL b h).2
  have hMm:∀b,MR (yA (w2.heap.size+1) g7 g3) (.slice va n vc) b->M0 b\/w.heap.size<=b:=λb hb=>by
   have:=hI.e.size;rcases hb with(h|h)|h
   ·have:=HK.out.n3;have:=HK.out.a3;have:=HK.out.c7;have:=HK.out.gc;exact .inr (by omega)
   ·exact .inr (by omega)
   ·have:=(EL b h).1;exact .inr (by omega)
  have TS:=ae (HH.out.r (σ i) (σ j) Ww.1 WC.1 Ww.2 WC.2 _ W (X (σ i)) (X (σ j)) Rp (((HH.out.x _ Ww.1).2.1.more hMm).ext hI.e) (((HH.out.x _ WC.1).2.1.more hMm).ext hI.e));have b3:=hI.b3;have vY:=dM _ _ b3;have HI:=ae hI;have vK:=ae pJ;have xg:=ae hn;have fQ:=ae Rp;have iH:=aK (Nat.le_add_right _ 2) hW
  have WK:n<=1000:=by
   have h1:=qeX (λi j=>R (σ i) (σ j)) cy i;have h2:=qeY (λi j=>R (σ i) (σ j)) i j;have h3:i*cy<=3*3:=Nat.mul_le_mul (by omega) qF;rw[hn,List.length_append,List.length_append,List.length_map,List.length_range];omega
  obtain⟨x0,x1,x2,x3⟩:=h8;obtain⟨y0,y1,y2,y3⟩:=h9;clear hI pJ hO Dy EL lL hn Rp hMm Ww WC sD;generalize X (σ i)=x at x0 x1 x2 x3 TS;generalize X (σ j)=y at y0 y1 y2 y3 TS
  gi_wp2_with (fail)
  refine⟨trivial,?_⟩;show CallsIn Fence.wide 0 Tryz.prog 49 _ _ _;refine callsIn_wide.2 (TS.out.mono ?_);rintro e w3 ⟨z,rfl,hz,aN⟩;have aQ:=aN.alloc (.cells (ag z) 42);have V3:=(au.aO w3 (ag z) 42 4 rfl).p4;have DC:=hz.ext ((ai w3).alloc (.cells (ag z) 42));obtain⟨W4,gN⟩:∃W4,w3.alloc (.cells (ag z) 42)=W4:=⟨_,rfl⟩;obtain⟨g10,G6⟩:∃g10,g10=w3.heap.size:=⟨_,rfl⟩;rw[gN]at aQ V3 DC;rw[<-G6]at V3;have xm:=ae gN;have qhl:=ae G6
  have qFX:W.heap.size<=g10:=by rw[G6];exact aN.size
  have Gd:=ae DC;have jl:=ae aQ;have HPZ:=ae V3
  have c7:W4.cell? ⟨g7,0,none⟩=some (.slice va n vc):=by rw[aQ.cell vK.out.lt];exact vK.out.cell (i:=0) (by omega)
  clear hz aN aQ V3 DC gN G6 TS x0 x1 x2 x3 y0 y1 y2 y3 b3 vY
  gi_upto_region 10 with(fail)
  rw[xm.out, <-qhl.out];clear xm qhl;have hS:oI g7 (.slice va n vc) g10 z W4.drew:=oI.ext ⟨c7,HPZ.out⟩ (ai W4).drew;refine qEO (oI g7 (.slice va n vc) g10 z) 7 (by kernel_rfl) (by kernel_rfl) (by rintro⟨a,w,h⟩;exact h) hS (λhHeld=>?_);have cZ:=ae (jl.out.trans (ai W4).drew);have qV:=ae (Gd.out.ext (ai W4).drew);clear hS c7 jl Gd HPZ;generalize W4.drew=wd at*
  ((refine Ea 0 (v:=?_) ?_ ?_;rotate_left 1;(intro wS hSw;obtain⟨S1,S2,S3,S4,S5⟩:=hSw;go_simp;try with_reducible rfl);(try simp only[Act.put,eO,eQ,eT]));(refine Ea 1 (v:=?_) ?_ ?_;rotate_left 1;(intro wS hSw;obtain⟨S1,S2,S3,S4,S5⟩:=hSw;go_simp;try with_reducible rfl);(try simp only[Act.put,eO,eQ,eT])))
  ((refine LC 2 (v:=?_) ?_ ?_;rotate_left 1;(intro wS;go_simp;try with_reducible rfl);(try simp only[Act.put,eO,eQ,eT])))
  (refine O4 3 λK hK=>?_)
  go_simp;have Rf:Ext wd (wd.alloc (.cells #[.int .i64 0,.bool false,.slice none 0 0,.slice none 0 0] 42)):=(ai wd).alloc _;have uP:=au.aO wd #[.int .i64 0,.bool false,.slice none 0 0,.slice none 0 0] 42 4 rfl;obtain⟨W6,Av⟩:∃W6,wd.alloc (.cells #[.int .i64 0,.bool false,.slice none 0 0,.slice none 0 0] 42)=W6:=⟨_,rfl⟩;obtain⟨g38,qmD⟩:∃g38,g38=wd.heap.size:=⟨_,rfl⟩;rw[Av]at Rf uP;rw[Av, <-qmD];rw[<-qmD]at uP;have V4:=hHeld.ext Rf;refine hK.out _ _ (λ_ _=>V4) ?_;clear hK K;(try simp only[Act.put,eO,eQ,eT]);have EK:=cZ.out.trans Rf;have ed:=ZP.out.ext EK
  have WR:W0.heap.size<=W6.heap.size:=by have:=EK.size;have:=HK.out.b7;have:=vK.out.lt;omega
  obtain⟨j0,ji,Bj,Bl,Bn⟩:=info_parts Tryz.qeO
  (refine O4 4 λK hK=>?_)
  refine qDN (by rfl) (wp_append_lies W6 (.tmp 35) (.tmp 38) _ rfl W0.heap.size 42 j0 _ 4 64 Tryz.underlying34 ji Bj Bl Bn rfl (by omega) (.slice va n vc) n (rJ (px xx) (n*4)) rfl ed.qfY ⟨g38,0,none⟩ 1 1 (rJ (arr #[.int .i64 0,.bool false,.slice none 0 0,.slice none 0 0]) (1*4)) rfl (xY _ _) ?lies ?ones (by omega) (by unfold maxLen;omega) (by omega) WR W6.heap.size rfl ?_)
  case lies=>
   intro k u hu
   have hk:k<1*4:=by
    have:=(List.getElem?_eq_some_iff.1 hu).1;simpa[xY]using this
   rw[FC _ _ _ hk]at hu;cases hu;rw[Cn];have:=uP.cell (i:=k) (by omega);rw[Nat.zero_add];exact this
  case ones=>
   intro u hu;simp only[rJ,List.mem_map,List.mem_range]at hu;obtain⟨k,hk,rfl⟩:=hu;rcases(show k=0\/k=1\/k=2\/k=3 by omega)with rfl|rfl|rfl|rfl<;>rfl
  intro g cap' Wb hOb Ws hat hlt;rw[qfD,show n*4+1*4=(n+1)*4 by omega]at hOb;rcases Own.ofRow hOb with⟨h,_⟩|⟨g',cap2,F,hv,hbase,bR,xL,hmx,hF⟩
  ·cases h
  simp only[Value.slice.injEq,Option.some.injEq,Addr.mk.injEq,and_true,true_and]at hv;obtain⟨rfl,rfl⟩:=hv
  replace hat:(Value.slice va n vc).ownBlock=some g\/W6.heap.size<=g:=hat.imp id λe=>by omega
  have hw6:W.heap.size<=W6.heap.size:=EK.size;have kb:∀b,b<W6.heap.size->(Value.slice va n vc).ownBlock≠some b->Wb.heap[b]?=W6.heap[b]?:=λb hb hne=>Ws.block b hb λe=>hne e.symm;have qF1:=vK.out.lt;have e7:=kb g7 (by omega) λe=>(PZ.out g7 e).1 rfl;have l10:g10<W6.heap.size:=dM _ _ V4.2.1
  have e10:=kb g10 l10 λe=>by have:=(PZ.out g10 e).2;omega
  have Nq:au Wb g7 34 1 (λ_=>.slice va n vc):=(vK.out.ext EK).of_heap e7;have ak:oI g7 (.slice va n vc) g10 z Wb:=⟨Nq.cell (i:=0) (by omega),V4.2.of e10⟩
  have RN:g≠g7/\g≠g10:=by
   rcases hat with h|h
   ·have:=PZ.out g h;exact⟨this.1,by omega⟩
   ·exact⟨by omega,by omega⟩
  refine hK.out _ _ (λ_ _=>ak) ?_;clear hK K;(try simp only[Act.put,eO,eQ,eT]);clear V4
  have Nw:(n:Int)<(n:Int)+1:=by omega
  ((refine LC 5 (v:=?_) ?_ ?_;rotate_left 1;(intro wS;go_simp;try with_reducible rfl);(try simp only[Act.put,eO,eQ,eT])))
  have kZ:=ae EK
  have gV:Hid (∀B:World,B.heap.size=Wb.heap.size->(∀b,b≠g->b≠g7->B.heap[b]?=Wb.heap[b]?)->au B g7 34 1 (λ_=>.slice (some ⟨g,0,none⟩) (n+1) cap')->au B g 42 (cap'*4) (uo F (n*4) (.int .i64 z.lv) (.bool z.b) (.slice z.a z.n z.p) (.slice z.ka z.kn z.kp))->Ext w B->
   KB g7 W B/\qP w w2 W0.heap.size g3 (g3+1) (g3+2) g7 gc gy cy J ((List.range cn).map λi=>P (τ i)) (λi j=>R (σ i) (σ j)) i (j+1) B):=λB h1 h2 h3 h4 h5=>
   qP.fin HK.out eD HI.out vK.out hW xg.out (λk hk=>(pI.out k hk).ext EK) (qV.out.ext Rf) EK Ws hat h1 h2 h3 (qBy z hbase xL hmx hF h4) h5
  have nU:Ext w Wb:=(HI.out.e.trans EK).grown Ws λq hq=>by have:=(PZ.out q hq).2;have:=(ZP.out.lt q hq).1;have:=dC.out.size;omega
  have rz:w.heap.size<=g:=by have:=dC.out.size;omega
  have qmF:w.heap.size<=g7:=by have:=dC.out.size;have:=HK.out.b7;omega
  have BH:=ae nU;have zN:=ae bR;have TZ:=ae Nq;have k0:=bR.cell (i:=n*4) (by omega);have k1:=bR.cell (i:=n*4+1) (by omega);have k2:=bR.cell (i:=n*4+2) (by omega);have k3:=bR.cell (i:=n*4+3) (by omega);have f0:=bR.frozen (n*4);have f1:=bR.frozen (n*4+1);have f2:=bR.frozen (n*4+2);have f3:=bR.frozen (n*4+3);have c7:=Nq.cell (i:=0) (by omega);have f7:=Nq.frozen 0;have l7:=Nq.lt;clear nU bR Nq Ws hat hF hbase hOb e7 e10 kb Rf EK ed pI qV ZP PZ;refine qEF 6 7 ?_ ?_
  ·intro K hK;go_simp;have ru:=zN.out.aD (n*4) (.int .i64 z.lv) (.bool z.b) (.slice z.a z.n z.p) (.slice z.ka z.kn z.kp);have G8:=λb hb=>fD Wb g (n*4) (.int .i64 z.lv) (.bool z.b) (.slice z.a z.n z.p) (.slice z.ka z.kn z.kp) b hb;have Ba:=kN Wb g (n*4) (.int .i64 z.lv) (.bool z.b) (.slice z.a z.n z.p) (.slice z.ka z.kn z.kp);have kJ:=BH.out.aD rz (n*4) (.int .i64 z.lv) (.bool z.b) (.slice z.a z.n z.p) (.slice z.ka z.kn z.kp);obtain⟨W8,Aw⟩:∃W8,aD Wb g (n*4) (.int .i64 z.lv) (.bool z.b) (.slice z.a z.n z.p) (.slice z.ka z.kn z.kp)=W8:=⟨_,rfl⟩;rw[Aw]at ru G8 Ba kJ;unfold aD at Aw;rw[Aw];have EJ:=TZ.out.of_heap (G8 g7 (Ne.symm RN.1));have qxl:oI g7 (.slice va n vc) g10 z W8:=⟨EJ.cell (i:=0) (by omega),ak.2.of (G8 g10 (Ne.symm RN.2))⟩;refine hK.out _ _ (λ_ _=>qxl) ?_;have c78:=EJ.cell (i:=0) (by omega);have f78:=EJ.frozen 0;have l78:=EJ.lt
   have Zt:Hid (KB g7 W (W8.setCell ⟨g7,0,none⟩ (.slice (some ⟨g,0,none⟩) (n+1) cap'))/\_):=gV.out _ (by rw[<-Ba];simp[World.setCell]) (λb h1 h2=>(Below.heap_setCell _ _ _ _ h2).trans (G8 b h1)) ((EJ.set 0 _).congr λi hi=>by
    obtain rfl:i=0:=by omega
    rfl) (ru.kM (p:=⟨g7,0,none⟩) (λe=>RN.1 e) _) (kJ.set (p:=⟨g7,0,none⟩) qmF _)
   clear hK K ru G8 Ba kJ Aw EJ k0 k1 k2 k3 f0 f1 f2 f3 c7 f7 l7 BH zN TZ gV;(try simp only[Act.put,eO,eQ,eT]);clear ak
   (refine O4 7 λK hK=>?_)
   go_simp;refine hK.out _ _ (λh=>absurd rfl h) ?_;clear hK K;(try simp only[Act.put,eO,eQ,eT]);refine qf6 ?_;exact Zt.out
  ·intro K hK;go_simp;have ru:=zN.out.kM (p:=⟨g7,0,none⟩) (λe=>RN.1 e) (.slice (some ⟨g,0,none⟩) (n+1) cap');have G8:∀b,b≠g7->(Wb.setCell ⟨g7,0,none⟩ (.slice (some ⟨g,0,none⟩) (n+1) cap')).heap[b]?=Wb.heap[b]?:=λb hb=>Below.heap_setCell _ _ _ _ hb
   have Ba:(Wb.setCell ⟨g7,0,none⟩ (.slice (some ⟨g,0,none⟩) (n+1) cap')).heap.size=Wb.heap.size:=by simp[World.setCell]
   have kJ:=BH.out.set (p:=⟨g7,0,none⟩) qmF (.slice (some ⟨g,0,none⟩) (n+1) cap')
   have EJ:=(TZ.out.set 0 (.slice (some ⟨g,0,none⟩) (n+1) cap')).congr (f':=λ_=>.slice (some ⟨g,0,none⟩) (n+1) cap') λi hi=>by
    obtain rfl:i=0:=by omega
    rfl
   generalize Wb.setCell ⟨g7,0,none⟩ (.slice (some ⟨g,0,none⟩) (n+1) cap')=W8 at*;refine hK.out _ _ (λh=>absurd rfl h) ?_;have k80:=ru.cell (i:=n*4) (by omega);have k81:=ru.cell (i:=n*4+1) (by omega);have k82:=ru.cell (i:=n*4+2) (by omega);have k83:=ru.cell (i:=n*4+3) (by omega);have f80:=ru.frozen (n*4);have f81:=ru.frozen (n*4+1);have f82:=ru.frozen (n*4+2);have f83:=ru.frozen (n*4+3);have l8:=ru.lt;have Zt:Hid (KB g7 W (aD W8 g (n*4) (.int .i64 z.lv) (.bool z.b) (.slice z.a z.n z.p) (.slice z.ka z.kn z.kp))/\_):=gV.out _ ((kN _ _ _ _ _ _ _).trans Ba) (λb h1 h2=>(fD _ _ _ _ _ _ _ _ h1).trans (G8 b h2)) (EJ.of_heap (fD _ _ _ _ _ _ _ _ (Ne.symm RN.1))) (ru.aD _ _ _ _ _) (kJ.aD rz _ _ _ _ _);clear hK K ru G8 Ba kJ EJ k0 k1 k2 k3 f0 f1 f2 f3 c7 f7 l7 BH zN TZ gV ak;(try simp only[Act.put,eO,eQ,eT])
   (refine O4 6 λK hK=>?_)
   go_simp;refine hK.out _ _ (λ_ h=>by cases h) ?_;clear hK K;(try simp only[Act.put,eO,eQ,eT]);refine qf6 ?_;exact Zt.out
 case done=>
  intro W hW hI uQ;obtain⟨v,pJ,hP,lL⟩:=hI.row;rw[qqc _ _ _ (aA _),List.append_nil]at hP;have hGL:((List.range cn).map λi=>P (τ i))++sM (λi j=>R (σ i) (σ j)) cy cy=yK P R cy cn σ τ:=rfl;rw[hGL]at hP
  have jk:∀l∈yK P R cy cn σ τ,Ok l:=λl hl=>by
   rcases List.mem_append.1 hl with h|h
   ·obtain⟨k,hk,rfl⟩:=List.mem_map.1 h;exact HH.out.op _ (qo.out.mem k (List.mem_range.1 hk)).1
   ·obtain⟨k,q,h1,h2,h3,rfl⟩:=qe2 _ h;have a1:=Eu.out.mem k (by omega);have a2:=Eu.out.mem q h3;exact HH.out.or _ _ a1.1 a2.1 (of_decide_eq_true a1.2) (of_decide_eq_true a2.2)
  have hlen:(yK P R cy cn σ τ).length<=20:=by
   have h1:=qeX (λi j=>R (σ i) (σ j)) cy cy;have h3:cy*cy<=3*3:=Nat.mul_le_mul qF qF;rw[<-hGL,List.length_append,List.length_map,List.length_range];omega
  obtain⟨va,n,vc,rfl,hn⟩:=hP.form
  have jA:dP (yA (w2.heap.size+1) g7 g3) W 4 (.slice va n vc) n λj=>(yK P R cy cn σ τ).getD j []:=by
   obtain⟨xx,h1,h2⟩:=hP;rw[<-hn]at h1 h2;refine Own.qrs h1 (λi hi=>(h2 i hi).more λb hb=>.inl (.inl hb)) (λg hg hm=>?_) (by omega);have b1:=lL g hg;have b2:=(h1.lt g hg).1;have b3:=HK.out.a5;omega
  have Rp:Mb (yA (w2.heap.size+1) g7 g3) W:=λb hb=>by have:=HK.out.a5;have:=HK.out.b7;have:=pJ.lt;have:=qR.out;have:=(Array.getElem?_eq_some_iff.1 uQ).1;omega
  have CF:=HH.out.fam _ _ W va vc Rp jk hlen (by rw[<-hn];exact jA);rw[<-hn]at CF;have CFF:=ae CF;have c7:=pJ.cell (i:=0) (by omega);have l7:=pJ.lt;have HI:=ae hI;have iV:=ae uQ;have hDl:w2.heap.size<W.heap.size:=(Array.getElem?_eq_some_iff.1 uQ).1;have xg:=ae hn;clear pJ hP lL hGL jk hlen hn jA CF hI uQ;go_wp2_with (fail);refine CFF.out.mono ?_;rintro e w5 ⟨fa,fc,fp,F,rfl,hk,hfm,aU⟩;have hw:=HK.out.n3;have h3b:=HK.out.a3;have h5b:=HK.out.a5;have oP:=HK.out.b7;obtain⟨⟨c4,f4,c5,f5,d5,e5⟩,HFI⟩:=qwl (M:=yA (w2.heap.size+1) g7 g3) (w:=w) (.slice fa fc fp) (.int .i64 0) (HI.out.b4.ext aU) (HI.out.b5.ext aU) (by omega) (D:=w2.heap.size) (by have:=qR.out;omega) (by omega) (by omega) (by omega) (by have:=qR.out;omega) (HI.out.e.trans aU) ((aU.heap hDl).trans iV.out);have nD:=ae hk;have Uq:=ae hfm;have Eh:=ae HFI;clear hk hfm HFI aU hw h3b h5b oP hDl c7 l7 CFF;go_wp2;obtain⟨hK',q4,q5,aT,hex⟩:=Eh.out _ rfl;refine⟨by simp,.inl ⟨_,_,rfl,run_takeDeferred hK',?_⟩⟩;refine⟨.tuple #[.slice fa fc fp,.int .i64 0],by simp[results,Tryz.results12,go_sem,q4,q5],?_⟩;exact⟨fa,fc,fp,F,cy,cn,σ,τ,rfl,(nD.out.kp aT).more λb hb=>hb.elim,Eu.out,qo.out,by rw[<-xg.out];exact Uq.out,hex⟩
end Go.Proofs.YtaafefeafonhdaaGreat
namespace Go.Proofs.YtaafefeafonhdaaGreat
open Go.RowKit
theorem qCK(a:Option Addr)(n p:Nat)(L:Int)(w:World)(hL:¬(1<=L/\L<=4)):Calls Tryz.prog 12 #[.slice a n p,.int .i64 L] w λe w'=>e=.returned (.tuple #[.slice none 0 0,.int .i64 4])/\Ext w w':=by
 have eG:=(au.aO w #[.int .i64 L] 3 1 rfl);have gY:=(au.aO (w.alloc (.cells #[.int .i64 L] 3)) #[.slice none 0 0] 34 1 rfl);have dW:=(au.aO ((w.alloc (.cells #[.int .i64 L] 3)).alloc (.cells #[.slice none 0 0] 34)) #[.int .i64 0] 46 1 rfl);have aL:Ext w (((w.alloc (.cells #[.int .i64 L] 3)).alloc (.cells #[.slice none 0 0] 34)).alloc (.cells #[.int .i64 0] 46)):=(((ai w).alloc _).alloc _).alloc _;have yM:=(eG.alloc (.cells #[.slice none 0 0] 34)).alloc (.cells #[.int .i64 0] 46);have xG:=gY.alloc (.cells #[.int .i64 0] 46);simp only[World.size_alloc]at yM xG dW;obtain⟨W0,fK⟩:∃W0,((w.alloc (.cells #[.int .i64 L] 3)).alloc (.cells #[.slice none 0 0] 34)).alloc (.cells #[.int .i64 0] 46)=W0:=⟨_,rfl⟩;rw[fK]at aL yM xG dW;obtain⟨g3,iM⟩:∃g3,g3=w.heap.size:=⟨_,rfl⟩;rw[<-iM]at yM xG dW;have CU:=xG.set 0 (.slice none 0 0);have hC5:=(dW.kM (p:=⟨g3+1,0,none⟩) (by show g3+1+1≠g3+1;omega) (.slice none 0 0)).set 0 (.int .i64 4);have qkH:=CU.kM (p:=⟨g3+1+1,0,none⟩) (by show g3+1≠g3+1+1;omega) (.int .i64 4);have q4:=qkH.cell (i:=0) (by omega);have q5:=hC5.cell (i:=0) (by omega);have HF:Hid (Ext w ((W0.setCell ⟨g3+1,0,none⟩ (.slice none 0 0)).setCell ⟨g3+1+1,0,none⟩ (.int .i64 4))):=(aL.set (p:=⟨g3+1,0,none⟩) (by show w.heap.size<=g3+1;omega) _).set (p:=⟨g3+1+1,0,none⟩) (by show w.heap.size<=g3+1+1;omega) _
 have iY:=ae fK;have pz:=ae iM;have c3:W0.cell? ⟨g3,0,none⟩=some (.int .i64 L):=yM.cell (i:=0) (by omega);have c4:=xG.cell (i:=0) (by omega);have c5:=dW.cell (i:=0) (by omega);have f4:=xG.frozen 0;have f5:=dW.frozen 0;have HL:Hid (eH L=false):=qz4 hL;clear eG gY dW aL yM xG fK iM CU hC5 qkH hL
 go_enter Tryz.func12,Tryz.ntmps12
 go_upto_region 1 with(fail)
 rw[iY.out, <-pz.out];clear iY;go_wp2_with (fail);refine(Yd L W0).mono ?_;rintro e w1 ⟨rfl,rfl⟩;rw[HL.out];go_wp2;exact aV (v:=.tuple #[.slice none 0 0,.int .i64 4]) (by simp[results,Tryz.results12,go_sem,q4,q5,fG]) rfl ⟨rfl,HF.out⟩
end Go.Proofs.YtaafefeafonhdaaGreat
