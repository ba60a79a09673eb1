/- Bh -/
import Derived.Test.YtaafefeafonhdaaGreatAb
set_option linter.unusedVariables false
set_option maxRecDepth 100000
set_option maxHeartbeats 400000000
set_option linter.unusedSimpArgs false
namespace Go.Proofs.YtaafefeafonhdaaGreat
open Go.RowKit
theorem Kids.low{M:Nat->Prop}{w:World}{D g N:Nat}{P:Nat->List Tm}(h:Kids M w D g N P):∃T:Nat->List Tm,∀i,i<N->af (T i) (P i)/\dV D (T i):=
 pick [] (n:=N) (Q:=λi T=>af T (P i)/\dV D T) λi hi=>by
  obtain⟨y,_,h2⟩:=h.cells i hi;exact h2.XF
theorem zM.ext{M:Nat->Prop}{w w':World}{L A:Nat}{l r:List Tm}{v:PE}{ok:Bool}(h:zM M L l r A v ok w)(he:Ext w w'):zM M L l r A v ok w':=⟨λho=>by
 obtain⟨q,h1,h2⟩:=h.1 ho
 exact⟨q,h1.ext he,h2⟩,h.2⟩
theorem zM.kp{M:Nat->Prop}{w w':World}{L A:Nat}{l r:List Tm}{v:PE}{ok:Bool}(h:zM M L l r A v ok w)(he:Kp M w w'):zM M L l r A v ok w':=⟨λho=>by
 obtain⟨q,h1,h2⟩:=h.1 ho
 exact⟨q,h1.kp he,h2⟩,h.2⟩
theorem zM.more{M M':Nat->Prop}{w:World}{L A:Nat}{l r:List Tm}{v:PE}{ok:Bool}(h:zM M L l r A v ok w)(hm:∀g,M' g->M g\/w.heap.size<=g):zM M' L l r A v ok w:=⟨λho=>by
 obtain⟨q,h1,h2⟩:=h.1 ho
 exact⟨q,h1.more hm,h2⟩,h.2⟩
def EB(s:Nat)(v3:Value)(g o:Nat)(d:PE)(b o2:Nat)(c:PE)(gc:Nat)(v:PE)(w:World):Prop:=w.cell? ⟨s,3,none⟩=some v3/\eF w g o d/\eF w b o2 c/\P4 w gc v
theorem EB.ext{s:Nat}{v3:Value}{g o:Nat}{d:PE}{b o2:Nat}{c:PE}{gc:Nat}{v:PE}{w w':World}(h:EB s v3 g o d b o2 c gc v w)(hs:s<w.heap.size)(hg:g<w.heap.size)(hb:b<w.heap.size)(uW:gc<w.heap.size)(he:Ext w w'):EB s v3 g o d b o2 c gc v w':=⟨by rw[he.cell hs];exact h.1,h.2.1.ext hg he,h.2.2.1.ext hb he,by
 have h4:=h.2.2.2;unfold P4 at h4⊢
 rw[he.cell uW,he.cell uW,he.cell uW,he.cell uW];exact h4⟩
theorem Kids.pre{M M':Nat->Prop}{w:World}{D g N c:Nat}{P:Nat->List Tm}(h:Kids M w D g c P)(hm:∀g,M' g->M g\/w.heap.size<=g)(hg:¬M' g)(hN:N<=1099511627776)(hc:N<=c)(eu:c<=maxLen):dP M' w D (.slice (some ⟨g,0,none⟩) N c) N P:=by
 have hlt:g<w.heap.size:=by
  obtain⟨f,hB,_⟩:=h;exact hB.lt
 exact⟨hN,.inr ⟨g,0,c,rfl,hc,eu,⟨hlt,hg⟩,λi hi=>h.bC hm i (by omega)⟩⟩
def Ch(s:Nat)(v3:Value)(g o:Nat)(d:PE)(b o2:Nat)(c:PE)(w:World):Prop:=w.cell? ⟨s,3,none⟩=some v3/\eF w g o d/\eF w b o2 c
theorem Ch.ext{s:Nat}{v3:Value}{g o:Nat}{d:PE}{b o2:Nat}{c:PE}{w w':World}(h:Ch s v3 g o d b o2 c w)(hs:s<w.heap.size)(hg:g<w.heap.size)(hb:b<w.heap.size)(he:Ext w w'):Ch s v3 g o d b o2 c w':=⟨by rw[he.cell hs];exact h.1,h.2.1.ext hg he,h.2.2.ext hb he⟩
def qgF(M1:Nat->Prop)(W:World)(L:Nat)(l r:List Tm)(A:Nat)(s12 TD:Value)(wx:World):Prop:=∃(g:Nat)(v:PE)(ok:Bool),s12=.pointer (some ⟨g,0,none⟩)/\TD=.bool ok/\P4 wx g v/\g<wx.heap.size/\W.heap.size<=g/\zM M1 L l r A v ok wx/\Ext W wx
theorem qBX(C G E:Nat)(gB:E+1<=4)(ih:Pe C G E)(M:Nat->Prop)(l r:List Tm)(x y:PE)(B A:Nat)(w:World)(hM:Mb M w)(h:aG M w (E+1) x l)(hl:x.lv=(E:Int)+1)(hy:aG M w 4 y r)(wK:y.lv=x.lv)(hz:¬af r [])(hB:bE B l)(hC:bE C r)(hA:aF (aB l)<=A)(hG:aF (aB r)<=G)(hO:qW C (E+1) B)(hS:A+qX C (E+1) B*(G+2)<=549755813888):
 Calls Tryz.prog 102 #[.agg (ag x),.agg (ag y)] w (yF M w (E+1) l r (A+qX C (E+1) B*(G+2))):=by
 obtain⟨i0,hi,hz0,hz1,hz2⟩:=info_parts Tryz.xU;obtain⟨aL,kr,uT,aW,bD⟩:=yI hM x y;have CZ:=ae (Iy _ x l _ bD (((h.more (M':=Mx M w.heap.size (w.heap.size+3)) (Mx.more (aA _))).ext aL).pi));obtain⟨E1,b,off,P,iH,qwY,Gy,iZ,iN,jN,mI,dY,jG,eu,hb,nV,bZ,fO,eB,jB,dw⟩:=h.node (by omega)
 obtain rfl:E1=E:=by omega
 have R5:¬af l []:=λhs=>fO (qfo gB bZ (λi _ t ht=>by cases ht) ((eB.trans hs).trans (Tz (L:=E1+1) (n:=x.kn) (P:=λ_=>[]) λi _=>af.refl _).symm) (x.kn-1) (by omega));have PU:=ae R5;obtain⟨D,b2,rH,Gk,qnj,_,_,qxt,qyz,qm4,qnq,qyB,qyE,qdE,gU,qxf,Hf,Dn,Du,qef,qd4⟩:=hy.node (by omega)
 obtain rfl:D=E1:=by omega
 have oQ:=Ag gB (by omega) bZ fO (hB.bP eB.symm);have qdJ:=Ag gB (by omega) Hf Dn (hC.bP Du.symm);have NF:NN r:=hy.nn;obtain⟨n,hn⟩:∃n,y.kn=n+1:=⟨y.kn-1,by omega⟩;rw[hn]at Hf Du qef qd4 qdJ Dn qyE qyB qnq;rw[Nat.add_sub_cancel]at Dn
 have qnl:y.lv=(D:Int)+1:=by omega
 obtain⟨xx,Dy⟩:=pick PE.z (n:=x.kn) (Q:=λi c=>eF w b (off+i*4) c/\aG M w D c (P i)) (λi hi=>by obtain⟨c,h1,h2,_⟩:=dw i hi;exact⟨c,h1,h2⟩);obtain⟨yy,Fp⟩:=pick PE.z (n:=n+1) (Q:=λi c=>eF w b2 (rH+i*4) c/\aG M w D c (Gk i)) (λi hi=>by obtain⟨c,h1,h2,_⟩:=qd4 i hi;exact⟨c,h1,h2⟩);have pI:=ae Dy;have Ac:=ae Fp
 have uD:Hid (x.kn<=n->¬Dv r l):=λhle hd=>by
  obtain⟨q,hq,hs⟩:=hd;have:=qjV gB Hf Dn (NF.bP Du.symm) hq hle bZ ((Du.vg q).trans (hs.trans eB.symm));exact R5 (eB.symm.trans this)
 have qR:=ae Hf;have Ej:=ae Dn;have Ei:=ae Du;have FZ:=ae NF;have wV:Hid (∀i,i<n+1->bE C (Gk i)/\aF (aB (Gk i))<=G):=λi hi=>⟨qdJ.2 i hi,aK (fu (aK (DR (D+1) (n+1) Gk i hi) qef)) hG⟩;have yt:Hid (∀i,i<x.kn->bE B (P i)/\aF (aB (P i))<=A):=λi hi=>⟨oQ.2 i hi,aK (fu (aK (DR (D+1) x.kn P i hi) jB)) hA⟩;have qm:=ae eB;have WE:=oQ.1;have fQ:=ae hM;have HO:=ae hO;have j5:=ae hS;have pE:=ae ih;obtain⟨x0,x1,x2,x3⟩:=kr;obtain⟨y0,y1,y2,y3⟩:=uT
 have jV:w.heap.size+3=((((w.alloc (.cells (ag x) 42)).alloc (.cells (ag y) 42)).alloc (.cells zA 42))).heap.size:=by simp
 generalize hW:((w.alloc (.cells (ag x) 42)).alloc (.cells (ag y) 42)).alloc (.cells zA 42)=W at*;have HW:=ae hW;have HE:=ae aL;have HS:Hid (jo w.heap.size x y W):=⟨⟨x0,x1,x2,x3⟩,⟨y0,y1,y2,y3⟩⟩;have dO:=ae aW;clear aL aW bD h hl hy wK hz hB hC hA hG hO hS ih bZ fO eB jB dw oQ NF hW hM R5 Dy Fp Hf Dn Du qef qd4 qdJ;clear x0 x1 x2 x3 y0 y1 y2 y3;obtain⟨⟨x0,x1,x2,x3⟩,⟨y0,y1,y2,y3⟩⟩:=HS.out;have PT:=ae iH;have ZF:=ae qnl;have PQ:=ae jN;have PR:=ae qm4;have HN:=ae hn;clear iH qnl jN qm4 hn qnj iZ iN qxt qyz
 go_enter Tryz.func102,Tryz.ntmps102
 go_upto_region 1 with(fail)
 rw[HW.out];go_wp2_with (fail);refine CZ.out.mono ?_;rintro e w1 ⟨bz,rfl,pM,ah⟩
 obtain rfl:bz=false:=by
  cases bz with
  |false=>rfl
  |true=>exact absurd (pM.1 rfl) PU.out
 have aP:=ae (HE.out.trans ah);have dU:=ae (HS.out.ext ah);have bS:=ae (dO.out.ext ah)
 have dI:w.heap.size+3<=w1.heap.size:=by have:=ah.size;omega
 clear x0 x1 x2 x3 y0 y1 y2 y3 HE HS dO HW ah pM CZ;obtain⟨⟨x0,x1,x2,x3⟩,⟨y0,y1,y2,y3⟩⟩:=dU.out;rw[PT.out]at x0;rw[ZF.out]at y0;rw[PQ.out]at x3;rw[PR.out,HN.out]at y3
 have uQ:((D:Int)+1==0)=false:=by simp;omega
 have hks:W.heap.size=w.heap.size+3:=jV.symm;clear jV
 go_upto_region 11 with(fail)
 by_cases hle:x.kn<=n
 ·have hND:=uD.out hle
  have qnb:(x.kn:Int)<=n:=by omega
  obtain⟨⟨q0,q1,q2,q3⟩,⟨f0,f1,f2,f3⟩,⟨r0,r1,r2,r3⟩,HF⟩:=gI (M:=M) (M':=Mx M w.heap.size (w.heap.size+3)) (w:=w) (L:=0) (l:=[]) (y:=PE.z) bS.out (Mx.at (by omega)) (by omega) aP.out (CR.zero _ _ 0) Mx.sub;have bQ:=ae (HF.Nk (L:=D+1) (A:=A+qX C (D+1) B*(G+2)) hND);simp only[PE.z]at r0 r1 r2 r3
  have iy:w.heap.size+2<w1.heap.size:=by omega
  clear HF pI Ac uD qR Ej Ei FZ wV yt qm HO j5 pE;go_wp2;exact aV (v:=.tuple #[.agg (ag PE.z),.bool false]) (by simp[results,Tryz.results102,go_sem,r0,r1,r2,r3,PE.z]) rfl bQ.out
 obtain⟨V,hK⟩:∃V,x.kn=n+V:=⟨x.kn-n,by omega⟩
 have Am:1<=V:=by omega
 have nE:=ae hK
 have qnb:¬((n+V:Nat):Int)<=n:=by omega
 rw[hK]at x3 jG dY WE;have Ey:Hid (∀i,i<n+V->eF w b (off+i*4) (xx i)/\aG M w D (xx i) (P i)):=λi hi=>pI.out i (by omega)
 have Er:Hid (af (aM (D+1) (n+V) P) l):=by show af _ _;rw[<-hK];exact qm.out
 have qhX:Hid (∀i,i<n+V->bE B (P i)/\aF (aB (P i))<=A):=λi hi=>yt.out i (by omega);clear pI qm yt uD hle mI hK
 go_wp2_with (first|(refine wpList_make_full _ rfl _ _ _ rfl w1.heap.size 42 i0 (.agg #[.int .i64 0,.bool false,.slice none 0 0,.slice none 0 0]) 4 Tryz.underlying34 hi hz0 hz1 .i64 .i64 _ _ (n+V) rfl rfl ?c4 ?c5 ?c2 ?c3 ?c6 ?_))
 case c2=>first|(rw[hz2];omega)|omega
 try(case c3=>first|omega|(unfold maxLen;omega))
 try(case c4=>simp)
 try(case c5=>simp)
 try(case c6=>omega)
 intro w2 hown hgrow;have bR:=(au.made hown rfl (by omega)).congr (f':=fH) (λi _=>Ed i);have az:=mE hgrow;have LV:=ae (aP.out.trans az);have cK:=ae (bS.out.ext az);have UO:=ae (dU.out.ext az);have hs2:w1.heap.size<w2.heap.size:=bR.lt;have qG:∃g1,g1=w1.heap.size:=⟨_,rfl⟩;obtain⟨g1,wB⟩:=qG;rw[<-wB]at bR hs2⊢
 have mJ:w.heap.size+3<=g1:=by omega
 clear wB hown hgrow az bS dU aP x0 x1 x2 x3 y0 y1 y2 y3;obtain⟨⟨x0,x1,x2,x3⟩,⟨y0,y1,y2,y3⟩⟩:=UO.out;rw[PT.out]at x0;rw[ZF.out]at y0;rw[PQ.out,nE.out]at x3;rw[PR.out,HN.out]at y3;have hKC:∀j,j<(n+V)*4->w2.cell? ⟨b,off+j,none⟩=some (px xx j):=qB9 λi hi=>(Ey.out i hi).1.ext hb LV.out
 have K4:(Tryz.prog.info? 42).map (·.size)=some 4:=by rw[hi];simp[hz1]
 go_wp2_with (first|(refine qEL rfl (.tmp 67) (.tmp 69) _ _ rfl 42 Tryz.underlying34 4 K4 (n+V) (n+V) x.kp g1 b off rfl rfl 42 fH bR (px xx) hKC (λj _=>qCb xx j) ?_))
 intro w3 eG iM;have Nt:Ext w w3:=LV.out.grown iM (λk hk=>by cases hk;omega);have qkz:=cK.out.grown iM (by intro e;cases e;omega);have qlK:jo w.heap.size x y w3:=⟨p9 UO.out.1 (iM.block _ (by omega) (by intro e;cases e;omega)),p9 UO.out.2 (iM.block _ (by omega) (by intro e;cases e;omega))⟩;have KW:=iM.size;have rT:Hid (∀m,Kids (Mx M w.heap.size m) w3 D g1 (n+V) P):=λm=>Kids.qBh eG (λj hj=>by unfold over;rw[av (by omega),Nat.sub_zero]) (λi hi=>((Ey.out i hi).2.more (Mx.more (aA _))).ext Nt);have dK:=ae Nt;have sW:=ae qkz;have qal:=ae qlK
 have Dt:g1<w3.heap.size:=by omega
 clear Nt qkz qlK eG iM hKC bR LV cK UO x0 x1 x2 x3 y0 y1 y2 y3 hs2 KW Ey;obtain⟨⟨x0,x1,x2,x3⟩,⟨y0,y1,y2,y3⟩⟩:=qal.out;rw[PT.out]at x0;rw[ZF.out]at y0;rw[PQ.out,nE.out]at x3;rw[PR.out,HN.out]at y3
 have hKe:(n:Int)+V-n=V:=by omega
 go_upto_region 15 with(fail)
 go_wp2_with (first|(refine wpList_make_full _ rfl _ _ _ rfl w3.heap.size 42 i0 (.agg #[.int .i64 0,.bool false,.slice none 0 0,.slice none 0 0]) 4 Tryz.underlying34 hi hz0 hz1 .i64 .i64 _ _ V rfl rfl ?d4 ?d5 ?d2 ?d3 ?d6 ?_))
 try(case d2=>first|(rw[hz2];omega)|omega)
 try(case d3=>first|omega|(unfold maxLen;omega))
 try(case d4=>first|omega|simp)
 try(case d5=>first|omega|simp)
 try(case d6=>omega)
 intro w4 hown hgrow;have VM:=(au.made hown rfl (by omega)).congr (f':=fH) (λi _=>Ed i);have bg:=mE hgrow;have KX:w3.heap.size<w4.heap.size:=VM.lt;obtain⟨g2,fE⟩:∃g2,g2=w3.heap.size:=⟨_,rfl⟩;rw[<-fE]at VM KX⊢
 have hs7:g1<g2:=by omega
 have qhE:Hid (Kids (Mx M w.heap.size (g2+1)) w4 D g1 (n+V) P):=(rT.out _).ext bg
 have qhG:Hid (Kids (Mx M w.heap.size (g2+1)) w4 D g2 V (λi=>if V<=i then[]else[])):=(Kids.fresh VM).congr λi _=>by rw[aj (by omega)];exact af.refl _
 have jl:=ae (dK.out.trans bg);have wP:=ae (sW.out.ext bg);have qih:=ae (qal.out.ext bg);have qg7:Hid (vI D n V B C A (qX C D (fT B C)) G l r V P (λ_=>[])):=vI.start Er.out qhX.out;clear fE bg VM hown hgrow rT dK sW qal Dt Er qhX x0 x1 x2 x3 y0 y1 y2 y3 hKe qnb hi hz0 hz1 hz2 K4
 have PY:Hid (∀s,s<=B->B+s*C+C<=fT B C/\A+s*((qX C D (fT B C)+1)*(G+2))+qX C D (fT B C)*(G+2)+G+4<=549755813888):=λs hs=>by
  have h1:=j5.out;have h2:=fq C (show s+1<=B+1 by omega);simp only[qX]at h1;generalize qX C D (fT B C)=X at*
  have h3:((B+2)*(X+1)+3)*(G+2)=(B+2)*((X+1)*(G+2))+3*(G+2):=by rw[Nat.add_mul,Nat.mul_assoc]
  have h4:(X+1)*(G+2)=X*(G+2)+(G+2):=by rw[Nat.add_mul,Nat.one_mul]
  have h5:=fq ((X+1)*(G+2)) (show s+2<=B+2 by omega);rw[Nat.add_mul s 2]at h5;rw[Nat.add_mul s 1,Nat.one_mul]at h2;unfold fT;omega
 have hVB:V<=B+1:=by omega
 go_wp2
 go_loopw [11] (λi wr=>∃(k:Nat)(R Q:Nat->List Tm),k<=V/\i=.int .i64 ((k:Int)-1)/\g2<wr.heap.size/\Hid (Kids (Mx M w.heap.size (g2+1)) wr D g1 (n+V) R)/\Hid (Kids (Mx M w.heap.size (g2+1)) wr D g2 V (λi=>if k<=i then Q i else[]))/\Hid (vI D n V B C A (qX C D (fT B C)) G l r k R Q)/\Hid (Ext w wr)/\Hid (jo w.heap.size x y wr)/\Hid (au wr (w.heap.size+2) 42 4 (arr zA))) (λi _=>(intOf i+1).toNat)
 case atStart=>exact⟨V,P,λ_=>[],aA _,by go_num,by omega,qhE,qhG,qg7,jl,qih,wP⟩
 case round=>
  clear qhE qhG qg7 jl qih wP;obtain⟨k,R,Q,hk,rfl,Wu,rT,Ja,jQ,bM,vN,iO⟩:=hrel
  by_cases iq:k=0
  ·subst iq;have hd0:V*C<=(B+1)*C:=fq C hVB
   have hd1:B+(V-0)*C<=fT B C:=by rw[Nat.sub_zero];unfold fT;omega
   have og:A+(V-0)*((qX C D (fT B C)+1)*(G+2))+2<=A+qX C (D+1) B*(G+2):=by
    have h5:=fq ((qX C D (fT B C)+1)*(G+2)) hVB;simp only[qX,Nat.sub_zero];generalize qX C D (fT B C)=X at*
    have h3:((B+2)*(X+1)+3)*(G+2)=(B+2)*((X+1)*(G+2))+3*(G+2):=by rw[Nat.add_mul,Nat.mul_assoc]
    have h6:(B+2)*((X+1)*(G+2))=(B+1)*((X+1)*(G+2))+(X+1)*(G+2):=by rw[show B+2=(B+1)+1 by omega,Nat.add_mul,Nat.one_mul]
    omega
   have dI:=j5.out;have jk:=HO.out.1;have jr:Mb (Mx M w.heap.size (w.heap.size+3)) wr:=Mx.mb fQ.out bM.out.size (by omega);have jA:dP (Mx M w.heap.size (w.heap.size+3)) wr D (.slice (some ⟨g1,0,none⟩) n (n+V)) n R:=rT.out.pre (λg hg=>.inl (hg.imp id λh=>by omega)) (λhh=>hh.elim (fQ.out.new (by omega)) (by omega)) (by omega) (by omega) (by unfold maxLen;omega);have YC:=ae (qe6 (S:=fT B C) (A:=A+(V-0)*((qX C D (fT B C)+1)*(G+2))) wr.drew (jr.ext (ai wr).drew) (jA.ext (ai wr).drew) gB (λi hi=>(jQ.out.2.1 i (by omega)).1.mono hd1) (by unfold fT;omega) jk.2.1 jk.1 (λi hi=>(jQ.out.2.1 i (by omega)).2) (by omega));have YB:Hid (∀(z:PE)(W:World),aG (Mx M w.heap.size (w.heap.size+3)) W (D+1) z (aM (D+1) n R)->Ext wr.drew W->Calls Tryz.prog 51 #[.agg (ag z)] W (λe w'=>∃b:Bool,e=.returned (.bool b)/\(b=true↔af (aM (D+1) n R) [])/\Ext W w')):=λz W hz he=>Iy _ z _ W ((jr.ext (ai wr).drew).ext he) hz.pi
   have qm7:dP (Mx M w.heap.size (w.heap.size+3)) wr D (.slice (some ⟨g2,0,none⟩) V V) V Q:=(Ja.out.pre (λg hg=>.inl (hg.imp id λh=>by omega)) (λhh=>hh.elim (fQ.out.new (by omega)) (by omega)) (by omega) (aA _) (by unfold maxLen;omega)).congr λi _=>by rw[av (bu _)];exact af.refl _
   have YD:Hid (∀W,Ext wr W->Calls Tryz.prog 100 #[.slice (some ⟨g2,0,none⟩) V V,.int .i64 ((D:Int)+1)] W (di (Mx M w.heap.size (w.heap.size+3)) W (D+1) (aM (D+1) V Q))):=λW he=>qe6 (S:=fT B C) (A:=A+(V-0)*((qX C D (fT B C)+1)*(G+2))) W (jr.ext he) (qm7.ext he) gB (λi hi=>(jQ.out.2.2 i (bu _) hi).2.1.mono hd1) (by unfold fT;omega) jk.2.1 jk.1 (λi hi=>(jQ.out.2.2 i (bu _) hi).2.2) (by omega);have tF:Hid (aF (aB (aM (D+1) V Q))<=A+qX C (D+1) B*(G+2)):=aK (XV (A:=A+(V-0)*((qX C D (fT B C)+1)*(G+2))) (by omega) λi hi=>(jQ.out.2.2 i (bu _) hi).2.2) og;obtain⟨T,hT⟩:=rT.out.low;have qaz:Hid (af (aM (D+1) n R) []->af (aC (aM (D+1) V Q) r) l):=jQ.out.qvM;have ZN:Hid (¬af (aM (D+1) n R) []->¬Dv r l):=jQ.out.qvL gB qR.out Ej.out Ei.out FZ.out (λi hi=>hT i (by omega))
   have oZ:wr.drew.cell? ⟨w.heap.size,0,none⟩=some (.int .i64 ((D:Int)+1)):=by
    have:=vN.out.1.1;rw[PT.out]at this;exact this
   have Aa:=ae oZ
   have wH:w.heap.size<wr.drew.heap.size:=by have:=(ai wr).drew.size;omega
   have hwr:w.heap.size+2<wr.heap.size:=by omega
   have lL:(n:Int)<=(n:Int)+(V:Int):=by omega
   clear hd0 hd1 og dI jk jr jA qm7 hT oZ jQ rT Ja Ac qR Ej Ei FZ wV HO j5 pE PY
   go_upto_region 28 with(fail)
   refine fB (λw'=>w'.cell? ⟨w.heap.size,0,none⟩=some (.int .i64 ((D:Int)+1))) 7 Aa.out λhHeld=>?_;((refine IL 0 (v:=?_) ?_ ?_;rotate_left 1;(intro wS hSw;obtain S1:=hSw;go_simp;try with_reducible rfl);(try simp only[Act.put,eO,eQ,eT]));(refine IL 1 (v:=?_) ?_ ?_;rotate_left 1;(intro wS hSw;obtain S1:=hSw;go_simp;try with_reducible rfl);(try simp only[Act.put,eO,eQ,eT]));(refine IL 2 (v:=?_) ?_ ?_;rotate_left 1;(intro wS hSw;obtain S1:=hSw;go_simp;try with_reducible rfl);(try simp only[Act.put,eO,eQ,eT]));(refine IL 3 (v:=?_) ?_ ?_;rotate_left 1;(intro wS hSw;obtain S1:=hSw;go_simp;try with_reducible rfl);(try simp only[Act.put,eO,eQ,eT]));(refine IL 4 (v:=?_) ?_ ?_;rotate_left 1;(intro wS hSw;obtain S1:=hSw;go_simp;try with_reducible rfl);(try simp only[Act.put,eO,eQ,eT])));refine aI 5 λK hK=>?_;go_simp;refine YC.out.mono ?_;rintro e wz ⟨z,rfl,hz,ah⟩;go_wp2_with (fail)
   have ak:wz.cell? ⟨w.heap.size,0,none⟩=some (.int .i64 ((D:Int)+1)):=by rw[ah.cell wH];exact hHeld
   refine nx hK ak ?_;clear hK K;refine aI 6 λK hK=>?_;go_simp;refine(YB.out z wz hz ah).mono ?_;rintro e uw ⟨bz,rfl,pM,az⟩;go_wp2_with (fail)
   have Aq:uw.cell? ⟨w.heap.size,0,none⟩=some (.int .i64 ((D:Int)+1)):=by rw[az.cell (bB wH ah.size)];exact ak
   clear ak;refine nx hK Aq ?_;clear hK K
   (refine aI 7 λK hK=>?_);go_simp;(refine fz hK ?_);clear hK K
   have aN:=(ai wr).drew.trans (ah.trans az);have uP:=iO.out.ext aN;have xI:=bM.out.trans aN
   have jW:w.heap.size+2<uw.heap.size:=by have:=aN.size;omega
   cases bz with
   |false=>
    have uD:=ae (ZN.out λhh=>by have:=pM.2 hh;cases this);obtain⟨⟨q0,q1,q2,q3⟩,⟨f0,f1,f2,f3⟩,⟨r0,r1,r2,r3⟩,HF⟩:=gI (M:=M) (M':=Mx M w.heap.size (w.heap.size+3)) (w:=w) (L:=0) (l:=[]) (y:=PE.z) uP (Mx.at (by omega)) (by omega) xI (CR.zero _ _ 0) Mx.sub;have bQ:=ae (HF.Nk (L:=D+1) (A:=A+qX C (D+1) B*(G+2)) uD.out);simp only[PE.z]at r0 r1 r2 r3;clear hHeld Aq HF uD qaz ZN tF YC YD YB hz ah az aN uP xI pM Aa bM vN iO;go_wp2;exact aV (v:=.tuple #[.agg (ag PE.z),.bool false]) (by simp[results,Tryz.results102,go_sem,r0,r1,r2,r3,PE.z]) rfl bQ.out
   |true=>
    have Jl:=ae (qaz.out (pM.1 rfl));have CT:=ae (YD.out uw aN);have jP:=ae uP;have I6:=ae xI;clear hHeld qaz ZN YC YD YB hz ah az aN uP xI pM Aa bM vN iO;go_wp2_with (fail);refine CT.out.mono ?_;rintro e w5 ⟨v,rfl,hv,aU⟩;obtain⟨⟨q0,q1,q2,q3⟩,⟨f0,f1,f2,f3⟩,⟨r0,r1,r2,r3⟩,HF⟩:=gI (M:=M) (w:=w) (jP.out.ext aU) (Mx.at (by omega)) (by omega) (I6.out.trans aU) hv Mx.sub;have bQ:=ae (HF.QY Jl.out tF.out);clear HF aU hv CT Aq Jl tF jP I6;go_wp2;exact aV (v:=.tuple #[.agg (ag v),.bool true]) (by simp[results,Tryz.results102,go_sem,r0,r1,r2,r3]) rfl bQ.out
  ·obtain⟨k,rfl⟩:∃k',k=k'+1:=⟨k-1,by omega⟩
   have Dm:n+k<n+V:=by omega
   have jU:k<V:=by omega
   obtain⟨d,hd1,og⟩:=rT.out.cells (n+k) Dm;obtain⟨fw,eX⟩:=Ac.out n (Nat.lt_succ_self n);have gD:b2<wr.heap.size:=bB gU bM.out.size;have qic:Hid (Ch (w.heap.size+1) (.slice (some ⟨b2,rH,none⟩) (n+1) y.kp) g1 ((n+k)*4) d b2 (rH+n*4) (yy n) wr.drew):=Ch.ext ⟨by have:=vN.out.2.2.2.2;rw[PR.out,HN.out]at this;exact this,hd1,fw.ext gU bM.out⟩ (by omega) (by omega) gD (ai wr).drew;have hw1:IntKind.i64.wrap ((n:Int)+(k:Int))=(n:Int)+(k:Int):=IntWalk.i64_in _ (by omega)
   have iy:(0:Int)<=(n:Int)+(k:Int):=by omega
   have jW:((n:Int)+(k:Int)).toNat=n+k:=by omega
   have Ia:(n:Int)+(k:Int)<((n+V:Nat):Int):=by omega
   have hw5:(n:Int)<(n:Int)+1:=by omega
   have GJ:Mb (Mx M w.heap.size (g2+1)) wr:=Mx.mb fQ.out bM.out.size (by omega)
   have yn:Hid (∀(M':Nat->Prop) W,Mb M' W->(∀g,M' g->Mx M w.heap.size (g2+1) g\/wr.heap.size<=g)->Ext wr W->Calls Tryz.prog 102 #[.agg (ag d),.agg (ag (yy n))] W (yF M' W D (R (n+k)) (Gk n) (A+(V-(k+1))*((qX C D (fT B C)+1)*(G+2))+qX C D (fT B C)*(G+2)))):=λM' W Kg xO he=>by
    have hnu:=PY.out (V-(k+1)) (by omega);have xM:=jQ.out.2.1 (n+k) (by omega);exact pE.out M' (R (n+k)) (Gk n) d (yy n) (fT B C) _ W Kg ((og.more xO).ext he) (((eX.up (show D<=4 by omega)).more (M':=M') λg hg=>(xO g hg).elim (λh=>h.elim .inl λh=>.inr h.1) λh=>.inr (aK bM.out.size h)).ext (bM.out.trans he)) Ej.out (xM.1.mono (by omega)) (wV.out n (Nat.lt_succ_self n)).1 xM.2 (wV.out n (Nat.lt_succ_self n)).2 HO.out.2 (by omega)
   go_upto_region 19 with(fail)
   rw[show(((k+1:Nat):Int)-1)=(k:Int) by omega]
   go_cut [12,13]from 84 to 98 (qgF (Mx M w.heap.size (g2+1)) wr.drew D (R (n+k)) (Gk n) (A+(V-(k+1))*((qX C D (fT B C)+1)*(G+2))+qX C D (fT B C)*(G+2)))
   case first=>
    refine fB (Ch (w.heap.size+1) (.slice (some ⟨b2,rH,none⟩) (n+1) y.kp) g1 ((n+k)*4) d b2 (rH+n*4) (yy n)) 17 qic.out λhHeld=>?_;have dN:Ext wr wr.drew:=(ai wr).drew;have nW:Mb (Mx M w.heap.size (g2+1)) wr.drew:=GJ.ext dN
    have hz1:w.heap.size+1<wr.drew.heap.size:=by have:=dN.size;omega
    have hz2:g1<wr.drew.heap.size:=by have:=dN.size;omega
    have Fq:b2<wr.drew.heap.size:=by have:=dN.size;omega
    have hsd:wr.heap.size<=wr.drew.heap.size:=dN.size;generalize wr.drew=wd at*;refine bH [0,1,2,3,4,5,6,7,8,9,10] ?_;(iterate 11 refine bG ?_);refine bI ?_;refine oC 11 15 ?_ ?_<;>intro K hK
    ·go_simp;refine(yn.out (Mx M w.heap.size (g2+1)) wd nW (λg hg=>.inl hg) dN).mono ?_;rintro e wz ⟨v,ok,rfl,hR,ah⟩;go_wp2_with (fail);refine ny hK (hHeld.ext hz1 hz2 Fq ah) λak=>?_;clear hK K;refine bH [12,13,14] ?_;(iterate 3 refine bG ?_);refine bI ?_;refine aI 15 λK hK=>?_;go_simp;have Aq:=ak.ext (bB hz1 ah.size) (bB hz2 ah.size) (bB Fq ah.size) ((ai wz).alloc (.cells zA 42));have Ar:=ak.ext (bB hz1 ah.size) (bB hz2 ah.size) (bB Fq ah.size) ((ai wz).alloc (.cells (ag v) 42));clear ak;refine nx hK Aq ?_;clear hK K;refine aI 16 λK hK=>?_;go_simp;refine nx hK Ar ?_;clear hK K
     (refine aI 17 λK hK=>?_);go_simp;(refine fz hK ?_);clear hK K
     go_wp2_with (fail)
     go_meet
     exact⟨wz.heap.size,v,ok,rfl,rfl,(au.aO wz (ag v) 42 4 rfl).p4,by simp,ah.size,hR.ext ((ai wz).alloc _),ah.alloc _⟩
    ·go_simp;have rZ:Ext wd (wd.alloc (.cells zA 42)):=(ai _).alloc _;have Nr:=au.aO wd zA 42 4 rfl;refine ny hK (hHeld.ext hz1 hz2 Fq rZ) λak=>?_;clear hK K;refine aI 11 λK hK=>?_;go_simp;refine(yn.out (λg=>Mx M w.heap.size (g2+1) g\/g=wd.heap.size) _ (λg hg=>hg.elim (λh=>bB (nW g h) rZ.size) (λh=>by rw[h];exact Nr.lt)) (λg hg=>hg.imp id (λh=>by rw[h];exact hsd)) (dN.trans rZ)).mono ?_;rintro e wz ⟨v,ok,rfl,hR,ah⟩;go_wp2_with (fail);clear ak;refine ny hK (hHeld.ext hz1 hz2 Fq (rZ.trans ah)) λak=>?_;clear hK K;refine bH [12,13,14] ?_;(iterate 3 refine bG ?_);refine bI ?_;obtain⟨⟨q0,q1,q2,q3⟩,⟨f0,f1,f2,f3⟩,ze,aT,bN⟩:=Ah (M':=λg=>Mx M w.heap.size (g2+1) g\/g=wd.heap.size) (w:=wd) (.int .i64 v.lv) (.bool v.b) (.slice v.a v.n v.p) (.slice v.ka v.kn v.kp) (Nr.ext ah) (.inr rfl) (aA _) (rZ.trans ah);simp only[arr]at q0 q1 q2 q3;refine aI 16 λK hK=>?_;go_simp;have Ar:=hHeld.ext hz1 hz2 Fq bN;clear ak;refine nx hK Ar ?_;clear hK K
     (refine aI 17 λK hK=>?_);go_simp;(refine fz hK ?_);clear hK K
     go_wp2_with (fail)
     go_meet
     exact⟨wd.heap.size,v,ok,rfl,rfl,ze,Nat.lt_of_lt_of_eq (bB Nr.lt ah.size) (kN _ _ _ _ _ _ _).symm,aA _,(hR.kp aT).more (λg hg=>.inl (.inl hg)),bN⟩
   case rest=>
    obtain⟨gc,v,ok,rfl,rfl,hv,hgv,rz,hR,RJ⟩:=hcut;have aU:Ext wr wc:=(ai wr).drew.trans RJ;have qx7:wr.heap.size<=gc:=rz;have hsc:=aU.size;have FQ:=ae aU;have lg:=ae hR;have HV:=ae hv;have oF:=ae (iO.out.ext aU);have UM:=ae (vN.out.ext aU);have Ex:=ae (bM.out.trans aU);clear hR hv RJ aU rz hw1 iy jW Ia hw5 qic yn hd1 og fw eX GJ Dm
    cases ok with
    |false=>
     obtain⟨T,hT⟩:=rT.out.low;have uD:=ae (jQ.out.no gB qR.out Ej.out Ei.out FZ.out (λi hi=>hT i (by omega)) (lg.out.2 rfl));obtain⟨⟨q0,q1,q2,q3⟩,⟨f0,f1,f2,f3⟩,⟨r0,r1,r2,r3⟩,HF⟩:=gI (M:=M) (M':=Mx M w.heap.size (w.heap.size+3)) (w:=w) (L:=0) (l:=[]) (y:=PE.z) oF.out (Mx.at (by omega)) (by omega) Ex.out (CR.zero _ _ 0) Mx.sub;have bQ:=ae (HF.Nk (L:=D+1) (A:=A+qX C (D+1) B*(G+2)) uD.out);simp only[PE.z]at r0 r1 r2 r3
     have iy:w.heap.size+2<wc.heap.size:=by omega
     clear hT HF uD Ac qR Ej Ei FZ wV HO j5 pE rT Ja jQ bM vN iO FQ lg HV UM Ex;go_wp2;exact aV (v:=.tuple #[.agg (ag PE.z),.bool false]) (by simp[results,Tryz.results102,go_sem,r0,r1,r2,r3,PE.z]) rfl bQ.out
    |true=>
     obtain⟨q,hq1,hq2,wF⟩:=lg.out.1 rfl;obtain⟨v0,v1,v2,v3⟩:=HV.out;have fJ:=Ja.out.ext FQ.out;obtain⟨⟨_,k0⟩,⟨_,k1⟩,⟨_,k2⟩,⟨_,k3⟩,bn,jh⟩:=fJ.at k jU;have jw:=bn (k*4);have ku:=bn (k*4+1);have kv:=bn (k*4+2);have oU:=bn (k*4+3);have aT:Kp (Mx M w.heap.size (g2+1)) wc (aD wc g2 (k*4) (.int .i64 v.lv) (.bool v.b) (.slice v.a v.n v.p) (.slice v.ka v.kn v.kp)):=Kp.aD (Mx.at (by omega)) _ _ _ _ _;have sF:∀g,g≠g2->(aD wc g2 (k*4) (.int .i64 v.lv) (.bool v.b) (.slice v.a v.n v.p) (.slice v.ka v.kn v.kp)).heap[g]?=wc.heap[g]?:=λg hg=>fD _ _ _ _ _ _ _ _ hg
     have qhH:Hid (Kids (Mx M w.heap.size (g2+1)) (aD wc g2 (k*4) (.int .i64 v.lv) (.bool v.b) (.slice v.a v.n v.p) (.slice v.ka v.kn v.kp)) D g2 V (λi=>if k<=i then(if i=k then q else Q i)else[])):=(fJ.set (Mx.at (by omega)) k jU hq1).congr λi _=>by
      by_cases fe:i=k
      ·rw[av fe,av (by omega),av fe];exact af.refl _
      ·rw[aj fe]
       by_cases h3:k+1<=i
       ·rw[av h3,av (by omega),aj fe];exact af.refl _
       ·rw[aj h3,aj (by omega)];exact af.refl _
     have qhI:Hid (Kids (Mx M w.heap.size (g2+1)) (aD wc g2 (k*4) (.int .i64 v.lv) (.bool v.b) (.slice v.a v.n v.p) (.slice v.ka v.kn v.kp)) D g1 (n+V) (rj k q Gk R 0)):=((rT.out.ext FQ.out).kp (sF g1 (by omega)) aT).congr λi _=>by rw[qCw];exact af.refl _
     have qg3:=ae (hq1.kp aT);have Qk:Hid (P4 (aD wc g2 (k*4) (.int .i64 v.lv) (.bool v.b) (.slice v.a v.n v.p) (.slice v.ka v.kn v.kp)) gc v):=p9 HV.out (sF gc (by omega));have kZ:Hid (Ext w (aD wc g2 (k*4) (.int .i64 v.lv) (.bool v.b) (.slice v.a v.n v.p) (.slice v.ka v.kn v.kp))):=Ex.out.aD (by omega) _ _ _ _ _;have UL:Hid (jo w.heap.size x y (aD wc g2 (k*4) (.int .i64 v.lv) (.bool v.b) (.slice v.a v.n v.p) (.slice v.ka v.kn v.kp))):=⟨p9 UM.out.1 (sF _ (by omega)),p9 UM.out.2 (sF _ (by omega))⟩;have vJ:Hid (au (aD wc g2 (k*4) (.int .i64 v.lv) (.bool v.b) (.slice v.a v.n v.p) (.slice v.ka v.kn v.kp)) (w.heap.size+2) 42 4 (arr zA)):=oF.out.of_heap (sF _ (by omega));have qil:Hid ((aD wc g2 (k*4) (.int .i64 v.lv) (.bool v.b) (.slice v.a v.n v.p) (.slice v.ka v.kn v.kp)).heap.size=wc.heap.size):=kN _ _ _ _ _ _ _;have Z0:=ae (And.intro hq1.nn (And.intro hq2 wF))
     have jW:g2<wc.heap.size:=by omega
     have hbc:b2<wc.heap.size:=by omega
     have Me:Hid (bE (B+(V-(k+1))*C) q):=qjG hq1.nn (Ac.out n (Nat.lt_succ_self n)).2.nn Ej.out hq2 (jQ.out.2.1 (n+k) (by omega)).1;clear fJ bn hq1 hq2 wF aT sF Ja rT lg HV UM Ex oF FQ bM vN iO;go_wp2
     go_loopw [107] (λi uu=>∃j:Nat,j<=n/\i=.int .i64 j/\wc.heap.size<=uu.heap.size/\Hid (Kids (Mx M w.heap.size (g2+1)) uu D g1 (n+V) (rj k q Gk R j))/\Hid (Kids (Mx M w.heap.size (g2+1)) uu D g2 V (λi=>if k<=i then(if i=k then q else Q i)else[]))/\Hid (aG (Mx M w.heap.size (g2+1)) uu D v q)/\Hid (P4 uu gc v)/\Hid (Ext w uu)/\Hid (jo w.heap.size x y uu)/\Hid (au uu (w.heap.size+2) 42 4 (arr zA))) (λi _=>n-(intOf i).toNat)
     case atStart=>exact⟨0,bu _,rfl,Nat.le_of_eq qil.out.symm,qhI,qhH,qg3,Qk,kZ,UL,vJ⟩
     case round=>
      clear qhI qhH qg3 Qk kZ UL vJ qil k0 k1 k2 k3 jw ku kv oU v0 v1 v2 v3 jh;obtain⟨j,hj,rfl,hsi,PS,ZE,Pq,UW,LW,Qg,Y7⟩:=hrel
      by_cases AU:j<n
      ·have qyg:(j:Int)<n:=by omega
       obtain⟨d2,hd1,og⟩:=PS.out.cells (k+j) (by omega);rw[qCu]at og;obtain⟨fw,eX⟩:=Ac.out j (by omega);have qth:Hid (EB (w.heap.size+1) (.slice (some ⟨b2,rH,none⟩) (n+1) y.kp) g1 ((k+j)*4) d2 b2 (rH+j*4) (yy j) gc v wr.drew):=EB.ext ⟨by have:=Qg.out.2.2.2.2;rw[PR.out,HN.out]at this;exact this,hd1,fw.ext gU LW.out,UW.out⟩ (by omega) (by omega) (by omega) (by omega) (ai wr).drew;have hw1:IntKind.i64.wrap ((j:Int)+(k:Int))=(j:Int)+(k:Int):=IntWalk.i64_in _ (by omega)
       have iy:(0:Int)<=(j:Int)+(k:Int):=by omega
       have jW:((j:Int)+(k:Int)).toNat=k+j:=by omega
       have Ia:(j:Int)+(k:Int)<(n:Int)+(V:Int):=by omega
       have hw5:(j:Int)<(n:Int)+1:=by omega
       have hMi:Mb (Mx M w.heap.size (g2+1)) wr.drew:=Mx.mb fQ.out (LW.out.trans (ai wr).drew).size (by have:=(ai wr).drew.size;omega);have hnu:=PY.out (V-(k+1)) (by omega);have xM:=jQ.out.2.1 (k+j) (by omega);have jc:=wV.out j (by omega);have Hy:=Z0.out;have Ol:=Hy.2.2;have gP:=jc.2;have jF:=xM.2;have jk:=HO.out.1
       have hpn:aF (aB (aC q (Gk j)))<=aF (aB q)+aF (aB (Gk j)):=by rw[DN];exact nN _ _
       have Fj:aF (aB (R (k+j)++cB (aC q (Gk j))))<=max (aF (aB (R (k+j)))) (aF (aB (aC q (Gk j))))+1:=by rw[kK,OG];exact Gt _ _
       have CM:=ae (TC (Mx M w.heap.size (g2+1)) v (yy j) q (Gk j) (fT B C) C wr.drew hMi ((Pq.out.ext (ai wr).drew).pi) (((eX.more (Mx.more (aA _))).ext (LW.out.trans (ai wr).drew)).pi) (by omega) (Me.out.mono (by omega)) jc.1 jk.2.2);have CS:Hid (∀(z:PE)(W:World),aG (Mx M w.heap.size (g2+1)) W 4 z (aC q (Gk j))->Ext wr.drew W->Calls Tryz.prog 9 #[.agg (ag d2),.agg (ag z)] W (di (Mx M w.heap.size (g2+1)) W 4 (R (k+j)++cB (aC q (Gk j))))):=λz W hz he=>X9 (Mx M w.heap.size (g2+1)) d2 z (R (k+j)) (aC q (Gk j)) (fT B C) W (hMi.ext he) ((og.ext ((ai wr).drew.trans he)).pi) hz.pi (show aF (aB (R (k+j)++cB (aC q (Gk j))))<=1099511627776 by omega) (by omega) ((bE.aC Me.out jc.1 Hy.1).mono (by omega)) (by omega);obtain⟨TR,qlU,qlV⟩:=og.XF;obtain⟨TQ,qlS,qlT⟩:=Pq.out.XF;obtain⟨TG,qlQ,qlR⟩:=eX.XF;have CD:Hid (∀(z:PE)(W:World),aG (Mx M w.heap.size (g2+1)) W 4 z (R (k+j)++cB (aC q (Gk j)))->aG (Mx M w.heap.size (g2+1)) W D z (R (k+j)++cB (aC q (Gk j)))):=λz W hz=>hz.down (qlU.append ((qlS.aC qlQ).qN _)) (qlV.append ((qlT.aC qlR).aC (qAb D (-1))))
       have Ih:w.heap.size+1<wr.drew.heap.size/\g1<wr.drew.heap.size/\b2<wr.drew.heap.size/\gc<wr.drew.heap.size:=by have:=(ai wr).drew.size;omega
       clear hpn Fj Ol gP jF Hy jk jc xM hnu hMi qlU qlV qlS qlT qlQ qlR fw eX hd1 og
       go_upto_region 26 with(fail)
       refine fB (EB (w.heap.size+1) (.slice (some ⟨b2,rH,none⟩) (n+1) y.kp) g1 ((k+j)*4) d2 b2 (rH+j*4) (yy j) gc v) 19 qth.out λhHeld=>?_;obtain⟨hz1,hz2,Fq,DC⟩:=Ih;refine bH [0,1,2,3,4,5,6,7,8,9,10,11,12,13,14,15] ?_;(iterate 16 refine bG ?_);refine bI ?_;refine aI 16 λK hK=>?_;go_simp;refine CM.out.mono ?_;rintro e wz ⟨z,rfl,hz,ah⟩;go_wp2_with (fail);refine ny hK (hHeld.ext hz1 hz2 Fq DC ah) λak=>?_;clear hK K;refine aI 17 λK hK=>?_;go_simp;refine(CS.out z wz hz ah).mono ?_;rintro e uw ⟨z2,rfl,hy,az⟩;go_wp2_with (fail);clear ak;refine ny hK (hHeld.ext hz1 hz2 Fq DC (ah.trans az)) λak=>?_;clear hK K;refine bH [18] ?_;(iterate 1 refine bG ?_);refine bI ?_;have aN:=ah.trans az;have hKi:=PS.out.ext ((ai wr).drew.trans aN);obtain⟨⟨_,k0⟩,⟨_,k1⟩,⟨_,k2⟩,⟨_,k3⟩,bn,jh⟩:=hKi.at (k+j) (by omega);have jw:=bn ((k+j)*4);have ku:=bn ((k+j)*4+1);have kv:=bn ((k+j)*4+2);have oU:=bn ((k+j)*4+3)
       (refine aI 19 λK hK=>?_);go_simp;(refine fz hK ?_);clear hK K
       have aT:Kp (Mx M w.heap.size (g2+1)) uw (aD uw g1 ((k+j)*4) (.int .i64 z2.lv) (.bool z2.b) (.slice z2.a z2.n z2.p) (.slice z2.ka z2.kn z2.kp)):=Kp.aD (Mx.at (by omega)) _ _ _ _ _;have sF:∀g,g≠g1->(aD uw g1 ((k+j)*4) (.int .i64 z2.lv) (.bool z2.b) (.slice z2.a z2.n z2.p) (.slice z2.ka z2.kn z2.kp)).heap[g]?=uw.heap[g]?:=λg hg=>fD _ _ _ _ _ _ _ _ hg;have Bg:=(ai wr).drew.trans aN
       have qsF:Hid (Kids (Mx M w.heap.size (g2+1)) (aD uw g1 ((k+j)*4) (.int .i64 z2.lv) (.bool z2.b) (.slice z2.a z2.n z2.p) (.slice z2.ka z2.kn z2.kp)) D g1 (n+V) (rj k q Gk R (j+1))):=(hKi.set (Mx.at (by omega)) (k+j) (by omega) (CD.out z2 uw hy)).congr λi _=>by rw[qCv];exact af.refl _
       have qsE:Hid (Kids (Mx M w.heap.size (g2+1)) (aD uw g1 ((k+j)*4) (.int .i64 z2.lv) (.bool z2.b) (.slice z2.a z2.n z2.p) (.slice z2.ka z2.kn z2.kp)) D g2 V (λi=>if k<=i then(if i=k then q else Q i)else[])):=(ZE.out.ext Bg).kp (sF g2 (by omega)) aT;have qsa:=ae ((Pq.out.ext Bg).kp aT);have Ql:Hid (P4 (aD uw g1 ((k+j)*4) (.int .i64 z2.lv) (.bool z2.b) (.slice z2.a z2.n z2.p) (.slice z2.ka z2.kn z2.kp)) gc v):=p9 (UW.out.ext Bg) (sF gc (by omega));have rP:Hid (Ext w (aD uw g1 ((k+j)*4) (.int .i64 z2.lv) (.bool z2.b) (.slice z2.a z2.n z2.p) (.slice z2.ka z2.kn z2.kp))):=(LW.out.trans Bg).aD (by omega) _ _ _ _ _;have HS7:Hid (jo w.heap.size x y (aD uw g1 ((k+j)*4) (.int .i64 z2.lv) (.bool z2.b) (.slice z2.a z2.n z2.p) (.slice z2.ka z2.kn z2.kp))):=⟨p9 (Qg.out.1.ext Bg) (sF _ (by omega)),p9 (Qg.out.2.ext Bg) (sF _ (by omega))⟩;have vK:Hid (au (aD uw g1 ((k+j)*4) (.int .i64 z2.lv) (.bool z2.b) (.slice z2.a z2.n z2.p) (.slice z2.ka z2.kn z2.kp)) (w.heap.size+2) 42 4 (arr zA)):=(Y7.out.ext Bg).of_heap (sF _ (by omega))
       have qtp:Hid (wc.heap.size<=(aD uw g1 ((k+j)*4) (.int .i64 z2.lv) (.bool z2.b) (.slice z2.a z2.n z2.p) (.slice z2.ka z2.kn z2.kp)).heap.size):=by show _<=_;rw[kN];have:=Bg.size;omega
       clear hKi bn ak ah az aN Bg hy hz aT sF PS ZE Pq UW LW Qg Y7 hHeld;go_wp2
       go_roundw
       case rel=>exact⟨j+1,by omega,by go_num,qtp.out,qsF,qsE,qsa,Ql,rP,HS7,vK⟩
       case measure=>simp[intOf];omega
      ·have hje:j=n:=by omega
       have qyg:¬((j:Int)<n):=by omega
       have Hy:=Z0.out
       have Uy:Hid (Kids (Mx M w.heap.size (g2+1)) wr D g1 (n+V) (rj k q Gk R n)):=PS.out.congr λi _=>by rw[hje];exact af.refl _
       have qsg:=ae (jQ.out.step jU Ei.out (λi hi=>wV.out i (by omega)) Hy.1 Me.out Hy.2.1 Hy.2.2)
       have qx2:g2<wr.heap.size:=by omega
       clear hje Hy PS jQ Me Z0 Pq UW;go_wp2
       go_roundw
       case rel=>exact⟨k,rj k q Gk R n,λi=>if i=k then q else Q i,by omega,by go_num,qx2,Uy,ZE,qsg,LW,Qg,Y7⟩
       case measure=>(simp[intOf];try omega)
theorem yF.mono{M:Nat->Prop}{w w':World}{L L' A A':Nat}{l r:List Tm}{e:Ending}(h:yF M w L l r A e w')(hL:L<=L')(hA:A<=A'):yF M w L' l r A' e w':=by
 obtain⟨v,ok,h1,⟨h2,h3⟩,h4⟩:=h;refine⟨v,ok,h1,⟨λho=>?_,h3⟩,h4⟩;obtain⟨q,q1,q2,q3⟩:=h2 ho;exact⟨q,q1.up hL,q2,aK q3 hA⟩
theorem qBY(C G L:Nat)(vT:L<=4)(ih:∀E,E<L->Pe C G E):Pe C G L:=by
 intro M l r x y B A w hM h hy hz hB hC hA hG hO hS;have Hg:=h.jY;have Ob:=hy.jY
 by_cases qer:0<x.lv/\y.lv=x.lv
 ·obtain⟨E,hE⟩:∃E:Nat,x.lv=(E:Int)+1:=⟨x.lv.toNat-1,by omega⟩;have hq:=fq (G+2) (qqv (C:=C) (B:=B) (show E+1<=L by omega));exact(qBX C G E (by omega) (ih E (by omega)) M l r x y B A w hM (CR.OW h (by omega)) hE hy qer.2 hz hB hC hA hG (hO.to (by omega)) (by omega)).mono λe w' hp=>hp.mono (by omega) (by omega)
 obtain⟨aL,kr,uT,aW,bD⟩:=yI hM x y;have CZ:=ae (Iy _ x l _ bD (((h.more (M':=Mx M w.heap.size (w.heap.size+3)) (Mx.more (aA _))).ext aL).pi));obtain⟨x0,x1,x2,x3⟩:=kr;obtain⟨y0,y1,y2,y3⟩:=uT
 have jV:w.heap.size+3=((((w.alloc (.cells (ag x) 42)).alloc (.cells (ag y) 42)).alloc (.cells zA 42))).heap.size:=by simp
 generalize hW:((w.alloc (.cells (ag x) 42)).alloc (.cells (ag y) 42)).alloc (.cells zA 42)=W at*;have HW:=ae hW;have HE:=ae aL;have HS:Hid (jo w.heap.size x y W):=⟨⟨x0,x1,x2,x3⟩,⟨y0,y1,y2,y3⟩⟩;have dO:=ae aW;have fQ:=ae hM;have F7:=ae qer;have HH:=ae h;have HY:=ae hy;have HZ:=ae hz;have sZ:=ae hB;have qh:=ae hC;have HAD:=ae hA;have wV:=ae hG;have HO:=ae hO;have pE:=ae ih;generalize J7:A+qX C L B*(G+2)=A2 at*
 have hAA:A<=A2:=by omega
 have nu:=ae J7;clear aL aW bD h hy hz hB hC hA hG hO hW hM qer ih J7
 go_enter Tryz.func102,Tryz.ntmps102
 go_upto_region 1 with(fail)
 rw[HW.out];go_wp2_with (fail);refine CZ.out.mono ?_;rintro e w1 ⟨bz,rfl,pM,ah⟩;have aP:=ae (HE.out.trans ah);have dU:=ae (HS.out.ext ah);have bS:=ae (dO.out.ext ah)
 have dI:w.heap.size+3<=w1.heap.size:=by have:=ah.size;omega
 have jP:=ae pM;clear x0 x1 x2 x3 y0 y1 y2 y3 HE HS dO HW ah pM CZ;obtain⟨⟨x0,x1,x2,x3⟩,⟨y0,y1,y2,y3⟩⟩:=dU.out
 have iy:w.heap.size+2<w1.heap.size:=by omega
 have hks:W.heap.size=w.heap.size+3:=jV.symm;clear jV
 cases bz with
 |true=>
  obtain⟨⟨q0,q1,q2,q3⟩,⟨f0,f1,f2,f3⟩,⟨r0,r1,r2,r3⟩,HF⟩:=gI (M:=M) (M':=Mx M w.heap.size (w.heap.size+3)) (w:=w) (L:=L) (l:=[]) (y:=PE.z) bS.out (Mx.at (by omega)) (by omega) aP.out (CR.zero _ _ L) Mx.sub;have bQ:=ae (HF.QY (r:=r) (l:=l) (A:=A2) (jP.out.1 rfl).symm (show aF 0<=A2 from bu _));simp only[PE.z]at r0 r1 r2 r3;clear HF jP HH HY HZ sZ qh HAD wV HO pE F7 dU bS aP;go_wp2;exact aV (v:=.tuple #[.agg (ag PE.z),.bool true]) (by simp[results,Tryz.results102,go_sem,r0,r1,r2,r3,PE.z]) rfl bQ.out
 |false=>
  have PU:Hid (¬af l []):=λhh=>by have:=jP.out.2 hh;cases this
  by_cases hlt:x.lv<y.lv
  ·have uD:Hid (¬Dv r l):=by
    obtain⟨D,b2,rH,Gk,qnj,nT,_,_,_,_,qnq,_,_,_,_,_,Hf,Dn,Du,_,_⟩:=HY.out.node (by omega);obtain⟨T,NM,vW⟩:=HH.out.qe0;obtain⟨n,hn⟩:∃n,y.kn=n+1:=⟨y.kn-1,by omega⟩;rw[hn]at Hf Du Dn;rw[Nat.add_sub_cancel]at Dn;exactλhd=>qvs nT (by omega) Hf Dn (NN.bP HY.out.nn Du.symm) (λt ht=>vW t ht (D+1) (by omega) nT) (λhh=>PU.out (NM.symm.trans hh)) (hd.bP Du.symm NM.symm)
   obtain⟨⟨q0,q1,q2,q3⟩,⟨f0,f1,f2,f3⟩,⟨r0,r1,r2,r3⟩,HF⟩:=gI (M:=M) (M':=Mx M w.heap.size (w.heap.size+3)) (w:=w) (L:=0) (l:=[]) (y:=PE.z) bS.out (Mx.at (by omega)) (by omega) aP.out (CR.zero _ _ 0) Mx.sub;have bQ:=ae (HF.Nk (L:=L) (A:=A2) uD.out);simp only[PE.z]at r0 r1 r2 r3;clear HF uD jP HH HY HZ sZ qh HAD wV HO pE F7 dU bS aP;go_wp2;exact aV (v:=.tuple #[.agg (ag PE.z),.bool false]) (by simp[results,Tryz.results102,go_sem,r0,r1,r2,r3,PE.z]) rfl bQ.out
  ·by_cases h0:x.lv=0
   ·have qL:y.lv=0:=by omega
    obtain⟨zl,qow,_,qox⟩:=HH.out.val;obtain⟨zr,qoy,_,qoz⟩:=HY.out.val;obtain⟨SB,_⟩:=qox h0;obtain⟨SC,_⟩:=qoz qL;have Xi:zr≠0:=λhh=>HZ.out (SC.symm.trans (λm=>by rw[hh];simp[aH]))
    have nZ:zl=aH l Mo.zero:=by have:=SB Mo.zero;simpa[aH]using this
    have Ie:aF zl.natAbs<=A:=aK (fu (by rw[nZ];exact quC l Mo.zero)) HAD.out;have kG:Mb (Mx M w.heap.size (w.heap.size+3)) w1:=Mx.mb fQ.out aP.out.size (by omega);have CE:=ae (qbN (M:=Mx M w.heap.size (w.heap.size+3)) x.b x.a x.n x.p zl y.b y.a y.n y.p zr w1 kG ((qow.more (Mx.more (aA _))).ext aP.out) ((qoy.more (Mx.more (aA _))).ext aP.out) Xi (by omega));have jQ:Hid (Dv r l↔zl.tmod zr=0):=⟨λhd=>(qjT Xi).1 (hd.bP SC.symm SB.symm),λhh=>((qjT Xi).2 hh).bP SC SB⟩
    have HTD:Hid (zl.tmod zr=0->af (aC [(zl.tdiv zr,Mo.zero)] r) l):=λhh=>by
     have:=Int.tdiv_mul_cancel (Int.dvd_of_tmod_eq_zero hh);refine(SC.symm.vg _).trans (af.trans (λm=>?_) SB);simp[aC,shift,smul,aH,Mo.add_zero',this]
    have Z5:Hid (aF (aB [(zl.tdiv zr,Mo.zero)])<=A2):=by
     show _<=_;rw[qfe];refine aK (aK (fu ?_) Ie) hAA;rw[Int.natAbs_tdiv];exact Nat.div_le_self _ _
    have qxd:=ae kG;rw[h0]at x0;rw[qL]at y0;clear qow qox qoy qoz SB SC nZ Ie kG HH HY HZ sZ qh HAD wV HO pE F7 jP PU hlt h0 qL Hg Ob Xi nu hAA;go_wp2_with (fail);refine CE.out.mono ?_;rintro e w2 ⟨cb,ca,cn,cp,er,rfl,jk,hno,az⟩
    have hcz:∃cz,dH (Mx M w.heap.size (w.heap.size+3)) w2 (.bool cb) (.slice ca cn cp) cz/\((er=0/\zl.tmod zr=0/\cz=zl.tdiv zr)\/(er=3/\zl.tmod zr≠0)):=by
     by_cases hd:zl.tmod zr=0
     ·exact⟨_,(jk hd).2,.inl ⟨(jk hd).1,hd,rfl⟩⟩
     ·exact⟨_,(hno hd).2,.inr ⟨(hno hd).1,hd⟩⟩
    obtain⟨cz,fw,eX⟩:=hcz;have aQ:=(ai w2).alloc (.cells #[.bool cb,.slice ca cn cp] 30);have ek:=ae (az.trans aQ);have CK:=ae (TA (Mx M w.heap.size (w.heap.size+3)) cb ca cn cp cz _ (qxd.out.ext (az.trans aQ)) (fw.ext aQ).dB);have hs2:=az.size
    have jW:w.heap.size+2<w2.heap.size:=by omega
    clear jk hno az fw aQ CE x0 x1 x2 x3 y0 y1 y2 y3 iy dU
    go_upto_region 7 with(fail)
    go_wp2_with (fail);refine CK.out.mono ?_;rintro e w5 ⟨v,rfl,hv,aU⟩;have hq:=gI (M:=M) (w:=w) ((bS.out.ext ek.out).ext aU) (Mx.at (by omega)) (by omega) ((aP.out.trans ek.out).trans aU) (hv.up (bu L)) Mx.sub
    have Ia:w.heap.size+2<w5.heap.size:=by have:=ek.out.size;have:=aU.size;omega
    rcases eX with⟨rfl,hd,rfl⟩|⟨rfl,hd⟩
    ·obtain⟨⟨q0,q1,q2,q3⟩,⟨f0,f1,f2,f3⟩,⟨r0,r1,r2,r3⟩,HF⟩:=hq;have bQ:=ae (HF.QY (HTD.out hd) Z5.out);clear HF hv aU CK ek HTD Z5 jQ hd bS aP jW hs2;go_wp2;exact aV (v:=.tuple #[.agg (ag v),.bool true]) (by simp[results,Tryz.results102,go_sem,r0,r1,r2,r3]) rfl bQ.out
    ·obtain⟨⟨q0,q1,q2,q3⟩,⟨f0,f1,f2,f3⟩,⟨r0,r1,r2,r3⟩,HF⟩:=hq;have bQ:=ae (HF.Nk (L:=L) (A:=A2) λhh=>hd (jQ.out.1 hh));clear HF hv aU CK ek HTD Z5 jQ hd bS aP jW hs2;go_wp2;exact aV (v:=.tuple #[.agg (ag v),.bool false]) (by simp[results,Tryz.results102,go_sem,r0,r1,r2,r3]) rfl bQ.out
   ·have oK:(x.lv==0)=false:=by simpa using h0
    have jT:y.lv<x.lv:=by have:=F7.out;omega
    obtain⟨E,hE⟩:∃E:Nat,x.lv=(E:Int)+1:=⟨x.lv.toNat-1,by omega⟩;have hq:=fq (G+2) (qqv (C:=C) (B:=B) (show E+1<=L by omega));have EY:=nu.out;have CE:=ae (qBW C G E (by omega) (pE.out E (by omega)) (Mx M w.heap.size (w.heap.size+3)) l r x y B A w1 (Mx.mb fQ.out aP.out.size (by omega)) (CR.OW ((HH.out.more (Mx.more (aA _))).ext aP.out) (by omega)) hE ((HY.out.more (Mx.more (aA _))).ext aP.out) jT HZ.out sZ.out qh.out HAD.out wV.out (HO.out.to (by omega)) (by omega))
    have Gy:E+1<=L:=by omega
    have hqa:A+qX C (E+1) B*(G+2)<=A2:=by omega
    clear hE hq EY HH HY HZ sZ qh HAD wV HO pE F7 jP PU nu;go_wp2_with (fail);refine CE.out.mono ?_;rintro e w2 ⟨v,ok,rfl,hR,az⟩
    cases ok with
    |true=>
     obtain⟨q,hq1,hq2,wF⟩:=hR.1 rfl;obtain⟨⟨q0,q1,q2,q3⟩,⟨f0,f1,f2,f3⟩,⟨r0,r1,r2,r3⟩,HF⟩:=gI (M:=M) (w:=w) (bS.out.ext az) (Mx.at (by omega)) (by omega) (aP.out.trans az) (hq1.up Gy) Mx.sub;have bQ:=ae (HF.QY hq2 (aK wF hqa));have jW:w.heap.size+2<w2.heap.size:=bB iy az.size;clear HF hR az CE hq1 hq2 wF dU bS aP x0 x1 x2 x3 y0 y1 y2 y3 iy;go_wp2;exact aV (v:=.tuple #[.agg (ag v),.bool true]) (by simp[results,Tryz.results102,go_sem,r0,r1,r2,r3]) rfl bQ.out
    |false=>
     obtain⟨⟨q0,q1,q2,q3⟩,⟨f0,f1,f2,f3⟩,⟨r0,r1,r2,r3⟩,aT,bN⟩:=Ah (M':=Mx M w.heap.size (w.heap.size+3)) (w:=w) (.int .i64 v.lv) (.bool v.b) (.slice v.a v.n v.p) (.slice v.ka v.kn v.kp) (bS.out.ext az) (Mx.at (by omega)) (by omega) (aP.out.trans az);have bQ:Hid (yF M w L l r A2 (.returned (.tuple #[.agg (ag v),.bool false])) (aD w2 (w.heap.size+2) 0 (.int .i64 v.lv) (.bool v.b) (.slice v.a v.n v.p) (.slice v.ka v.kn v.kp))):=⟨v,false,rfl,⟨λhh=>(by cases hh),λ_=>hR.2 rfl⟩,bN⟩;simp only[arr]at q0 q1 q2 q3;simp only[aD,Nat.zero_add]at r0 r1 r2 r3;have jW:w.heap.size+2<w2.heap.size:=bB iy az.size;clear aT bN hR az CE dU bS aP x0 x1 x2 x3 y0 y1 y2 y3 iy;go_wp2;exact aV (v:=.tuple #[.agg (ag v),.bool false]) (by simp[results,Tryz.results102,go_sem,r0,r1,r2,r3]) rfl bQ.out
theorem qBV(C G L:Nat):L<=4->Pe C G L:=by
 induction L using Nat.strongRecOn with
 |_ L ih=>exactλhL=>qBY C G L hL λE hE=>ih E hE (by omega)
def qaJ(w:World)(l:List Tm)(e:Ending)(w':World):Prop:=∃er:Int,e=.returned (.int .i64 er)/\((er=2/\af l [])\/(er=0/\¬af l []))/\Ext w w'
theorem qqk(M:Nat->Prop)(x:PE)(l:List Tm)(b off cap:Nat)(w:World)(hM:Mb M w)(hc:eF w b off x)(hb:b<w.heap.size)(h:PI M w x l):Calls Tryz.prog 101 #[.slice (some ⟨b,off,none⟩) 1 cap] w (qaJ w l):=by
 have HC:=ae hc;have fQ:=ae hM;have HP:=ae h;clear hc hM h
 go_enter Tryz.func101,Tryz.ntmps101
 go_wp2
 go_loopw [7] (λi wr=>∃k:Nat,k<=1/\i=.int .i64 k/\Hid (k=1->¬af l [])/\Hid (Ext w wr)) (λi _=>1-(intOf i).toNat)
 case atStart=>exact⟨0,bu _,rfl,λh=>absurd h (by decide),ai w⟩
 case round=>
  obtain⟨k,hk,rfl,HN,HE⟩:=hrel
  by_cases iq:k=0
  ·subst iq;obtain⟨c0,c1,c2,c3⟩:=HC.out.ext hb HE.out;have aQ:=(ai wr).alloc (.cells (ag x) 42);have CZ:=ae (Iy M x l _ (fQ.out.ext (HE.out.trans aQ)) (HP.out.ext (HE.out.trans aQ)));have ek:=ae (HE.out.trans aQ);have gD:b<wr.heap.size:=bB hb HE.out.size;clear aQ HE HN HC HP;go_wp2_with (fail);refine CZ.out.mono ?_;rintro e w1 ⟨bz,rfl,pM,ah⟩;have jP:=ae pM;have aP:=ae (ek.out.trans ah);clear pM ah CZ ek c0 c1 c2 c3
   cases bz with
   |true=>
    have HF:Hid (qaJ w l (.returned (.int .i64 2)) w1):=⟨2,rfl,.inl ⟨rfl,jP.out.1 rfl⟩,aP.out⟩;go_wp2;exact aV (v:=.int .i64 2) (by simp[results,Tryz.results101,go_sem]) rfl HF.out
   |false=>
    have UC:Hid (1=1->¬af l []):=λ_ hh=>by have:=jP.out.2 hh;cases this
    go_wp2
    go_roundw
    case rel=>exact⟨1,aA _,by go_num,λ_=>UC.out trivial,aP⟩
    case measure=>(simp[intOf];try omega)
  ·obtain rfl:k=1:=by omega
   have HF:Hid (qaJ w l (.returned (.int .i64 0)) wr):=⟨0,rfl,.inr ⟨rfl,HN.out rfl⟩,HE.out⟩;go_wp2;exact aV (v:=.int .i64 0) (by simp[results,Tryz.results101,go_sem]) rfl HF.out
theorem OA{M:Nat->Prop}{w:World}(h:Mb M w)(o:Obj):Mb (λg=>M g\/g=w.heap.size) (w.alloc o):=λg hg=>hg.elim (λh1=>by have:=h g h1;simp;omega) (λh1=>by simp;omega)
def MJ(M:Nat->Prop)(w:World)(l r:List Tm)(A:Nat)(e:Ending)(w':World):Prop:=∃(v:PE)(er:Int),e=.returned (.tuple #[.agg (ag v),.int .i64 er])/\((er=2/\af r []/\v=PE.z)\/(er=0/\¬af r []/\∃q,aG M w' 4 v q/\af (aC q r) l/\aF (aB q)<=A)\/(er=3/\v=PE.z/\¬af r []/\¬Dv r l))/\Ext w w'
theorem qBT(M:Nat->Prop)(l r:List Tm)(x y:PE)(A2:Nat)(w:World)(hM:Mb M w)(h:PI M w x l)(hy:PI M w y r)(hCE:∀(M':Nat->Prop)(a b:PE)(W':World),Mb M' W'->aG M' W' 4 a l->aG M' W' 4 b r->¬af r []->Calls Tryz.prog 102 #[.agg (ag a),.agg (ag b)] W' (yF M' W' 4 l r A2)):
 Calls Tryz.prog 65 #[.agg (ag x),.agg (ag y)] w (MJ M w l r A2):=by
 obtain⟨aL,kr,uT,aW,bD⟩:=yI hM x y;have h3:=(h.more (M':=Mx M w.heap.size (w.heap.size+3)) (Mx.more (aA _))).ext aL;have K9:=(hy.more (M':=Mx M w.heap.size (w.heap.size+3)) (Mx.more (aA _))).ext aL;obtain⟨x0,x1,x2,x3⟩:=kr;obtain⟨y0,y1,y2,y3⟩:=uT
 have jV:w.heap.size+3=((((w.alloc (.cells (ag x) 42)).alloc (.cells (ag y) 42)).alloc (.cells zA 42))).heap.size:=by simp
 generalize hW:((w.alloc (.cells (ag x) 42)).alloc (.cells (ag y) 42)).alloc (.cells zA 42)=W at*;have HW:=ae hW;have HE:=ae aL;have HS:Hid (jo w.heap.size x y W):=⟨⟨x0,x1,x2,x3⟩,⟨y0,y1,y2,y3⟩⟩;have dO:=ae aW;have mf:=ae bD;have HX:=ae h3;have HY:=ae K9;have zP:=ae hCE;clear aL aW bD h hy hCE hW hM h3 K9
 go_enter Tryz.func65,Tryz.ntmps65
 go_upto_region 1 with(fail)
 rw[HW.out];go_wp2_with (fail);have nU:=(ai W).alloc (.cells (ag y) 42);have J8:=au.aO W (ag y) 42 4 rfl;refine(qqk (Mx M w.heap.size (w.heap.size+3)) y r W.heap.size 0 1 _ (mf.out.ext nU) J8.p4 J8.lt (HY.out.ext nU)).mono ?_;rintro e w1 ⟨er,rfl,bT,ah⟩;have aP:=ae (HE.out.trans (nU.trans ah));have dU:=ae (HS.out.ext (nU.trans ah));have bS:=ae (dO.out.ext (nU.trans ah));have qU:=ae (mf.out.ext (nU.trans ah));have nJ:=ae (HX.out.ext (nU.trans ah));have uH:=ae (HY.out.ext (nU.trans ah))
 have dI:w.heap.size+3<=w1.heap.size:=by have:=(nU.trans ah).size;omega
 have iy:w.heap.size+2<w1.heap.size:=by omega
 have hks:W.heap.size=w.heap.size+3:=jV.symm;clear jV x0 x1 x2 x3 y0 y1 y2 y3 HE HS dO HW ah nU J8 HX HY mf;rcases bT with⟨rfl,hz⟩|⟨rfl,hz⟩
 ·obtain⟨⟨q0,q1,q2,q3⟩,⟨f0,f1,f2,f3⟩,⟨r0,r1,r2,r3⟩,HF⟩:=gI (M:=M) (M':=Mx M w.heap.size (w.heap.size+3)) (w:=w) (L:=0) (l:=[]) (y:=PE.z) bS.out (Mx.at (by omega)) (by omega) aP.out (CR.zero _ _ 0) Mx.sub;obtain⟨_,_,_,bN⟩:=HF;have bQ:Hid (MJ M w l r A2 (.returned (.tuple #[.agg (ag PE.z),.int .i64 2])) _):=⟨PE.z,2,rfl,.inl ⟨rfl,hz,rfl⟩,bN⟩;simp only[PE.z]at r0 r1 r2 r3;clear bN dU bS aP qU nJ uH zP;go_wp2;exact aV (v:=.tuple #[.agg (ag PE.z),.int .i64 2]) (by simp[results,Tryz.results65,go_sem,r0,r1,r2,r3,PE.z]) rfl bQ.out
 ·have BS:=ae hz;clear hz
  go_upto_region 4 with(fail)
  go_cut [7,8] (qgF (Mx M w.heap.size (w.heap.size+3)) w1.drew 4 l r A2)
  case first=>
   have dN:Ext w1 w1.drew:=(ai w1).drew;have pG:Hid (jo w.heap.size x y w1.drew):=dU.out.ext dN;have CN1:Hid (∀(M':Nat->Prop)(W':World),Mb M' W'->(∀g,M' g->Mx M w.heap.size (w.heap.size+3) g\/w1.drew.heap.size<=g)->Ext w1.drew W'->Calls Tryz.prog 50 #[.agg (ag x)] W' (di M' W' 4 l)):=λM' W' h1 h2 h3=>Iz M' x l W' h1 (((nJ.out.ext dN).more h2).ext h3);have YE:Hid (∀(M':Nat->Prop)(W':World),Mb M' W'->(∀g,M' g->Mx M w.heap.size (w.heap.size+3) g\/w1.drew.heap.size<=g)->Ext w1.drew W'->Calls Tryz.prog 50 #[.agg (ag y)] W' (di M' W' 4 r)):=λM' W' h1 h2 h3=>Iz M' y r W' h1 (((uH.out.ext dN).more h2).ext h3);have nW:Mb (Mx M w.heap.size (w.heap.size+3)) w1.drew:=qU.out.ext dN;refine fB (jo w.heap.size x y) 10 pG.out λhHeld=>?_;clear dU bS aP qU nJ uH pG dN;generalize w1.drew=wd at*;refine bH [0,2] ?_;(iterate 2 refine bG ?_);refine bI ?_;refine oC 1 8 ?_ ?_<;>intro K hK
   ·go_simp;refine(CN1.out (Mx M w.heap.size (w.heap.size+3)) wd (nW.ext (ai wd)) (λg hg=>.inl hg) (ai wd)).mono ?_;rintro e v1 ⟨a,rfl,ha,d1⟩;go_wp2_with (fail);have e1:Ext wd v1:=((ai wd)).trans d1
    try clear ak
    refine ny hK (hHeld.ext e1) λak=>?_;clear hK K;refine oC 3 8 ?_ ?_<;>intro K hK
    ·go_simp;refine(YE.out (Mx M w.heap.size (w.heap.size+3)) v1 (nW.ext e1) (λg hg=>.inl hg) e1).mono ?_;rintro e v2 ⟨b,rfl,hb,d2⟩;go_wp2_with (fail);have e2:Ext wd v2:=(e1).trans d2
     try clear ak
     refine ny hK (hHeld.ext e2) λak=>?_;clear hK K;refine oC 4 8 ?_ ?_<;>intro K hK
     ·go_simp;refine(zP.out (Mx M w.heap.size (w.heap.size+3)) a b v2 (nW.ext e2) ((ha).ext d2) (hb) BS.out).mono ?_;rintro e v3 ⟨v,ok,rfl,hR,d3⟩;go_wp2_with (fail);have e3:Ext wd v3:=(e2).trans d3
      try clear ak
      refine ny hK (hHeld.ext e3) λak=>?_;clear hK K;refine bH [5,6,7] ?_;(iterate 3 refine bG ?_);refine bI ?_;refine aI 8 λK hK=>?_;go_simp;have Aq:=ak.ext ((ai v3).alloc (.cells zA 42));have Ar:=ak.ext ((ai v3).alloc (.cells (ag v) 42));clear ak;refine nx hK Aq ?_;clear hK K;refine aI 9 λK hK=>?_;go_simp;refine nx hK Ar ?_;clear hK K
      (refine aI 10 λK hK=>?_);go_simp;(refine fz hK ?_);clear hK K
      go_wp2_with (fail)
      go_meet
      exact⟨v3.heap.size,v,ok,rfl,rfl,(au.aO v3 (ag v) 42 4 rfl).p4,by simp,(e3).size,hR.ext ((ai v3).alloc _),(e3).alloc _⟩
     ·go_simp;have ea3:Ext v2 (v2.alloc (.cells zA 42)):=(ai _).alloc _;have vY:=au.aO v2 zA 42 4 rfl;have e3:Ext wd (v2.alloc (.cells zA 42)):=(e2).trans ea3
      try clear ak
      refine ny hK (hHeld.ext e3) λak=>?_;clear hK K;refine aI 4 λK hK=>?_;go_simp;refine(zP.out (λg=>(Mx M w.heap.size (w.heap.size+3)) g\/g=v2.heap.size) a b (v2.alloc (.cells zA 42)) ((OA (nW.ext e2) (.cells zA 42)).ext (ai (v2.alloc (.cells zA 42)))) ((((ha).ext d2).more (M':=λg=>(Mx M w.heap.size (w.heap.size+3)) g\/g=v2.heap.size) (λg hg=>hg.imp id λ(h:g=v2.heap.size)=>Nat.le_of_eq h.symm)).ext ea3) (((hb).more (M':=λg=>(Mx M w.heap.size (w.heap.size+3)) g\/g=v2.heap.size) (λg hg=>hg.imp id λ(h:g=v2.heap.size)=>Nat.le_of_eq h.symm)).ext ea3) BS.out).mono ?_;rintro e v4 ⟨v,ok,rfl,hR,d4⟩;go_wp2_with (fail);have e4:Ext wd v4:=(e3).trans d4;have oO:=(vY).ext d4
      try clear ak
      refine ny hK (hHeld.ext e4) λak=>?_;clear hK K;refine bH [5,6,7] ?_;(iterate 3 refine bG ?_);refine bI ?_;obtain⟨⟨q0,q1,q2,q3⟩,⟨f0,f1,f2,f3⟩,ze,aT,bN⟩:=Ah (M':=λg=>(Mx M w.heap.size (w.heap.size+3)) g\/g=v2.heap.size) (w:=wd) (.int .i64 v.lv) (.bool v.b) (.slice v.a v.n v.p) (.slice v.ka v.kn v.kp) (oO) (.inr rfl) (e2).size (e4);simp only[arr]at q0 q1 q2 q3;refine aI 9 λK hK=>?_;go_simp;have Ar:=hHeld.ext bN;clear ak;refine nx hK Ar ?_;clear hK K
      (refine aI 10 λK hK=>?_);go_simp;(refine fz hK ?_);clear hK K
      go_wp2_with (fail)
      go_meet
      exact⟨v2.heap.size,v,ok,rfl,rfl,ze,Nat.lt_of_lt_of_eq (oO).lt (kN _ _ _ _ _ _ _).symm,(e2).size,(hR.kp aT).more (λg hg=>.inl (.inl hg)),bN⟩
    ·go_simp;have ea2:Ext v1 (v1.alloc (.cells zA 42)):=(ai _).alloc _;have gU:=au.aO v1 zA 42 4 rfl;have e2:Ext wd (v1.alloc (.cells zA 42)):=(e1).trans ea2
     try clear ak
     refine ny hK (hHeld.ext e2) λak=>?_;clear hK K;refine aI 3 λK hK=>?_;go_simp;refine(YE.out (λg=>(Mx M w.heap.size (w.heap.size+3)) g\/g=v1.heap.size) (v1.alloc (.cells zA 42)) ((OA (nW.ext e1) (.cells zA 42)).ext (ai (v1.alloc (.cells zA 42)))) (λg hg=>hg.imp id λh=>by rw[h];exact e1.size) e2).mono ?_;rintro e v3 ⟨b,rfl,hb,d3⟩;go_wp2_with (fail);have e3:Ext wd v3:=(e2).trans d3;have vY:=(gU).ext d3
     try clear ak
     refine ny hK (hHeld.ext e3) λak=>?_;clear hK K;refine aI 4 λK hK=>?_;go_simp;refine(zP.out (λg=>(Mx M w.heap.size (w.heap.size+3)) g\/g=v1.heap.size) a b v3 ((OA (nW.ext e1) (.cells zA 42)).ext (((ai (v1.alloc (.cells zA 42)))).trans d3)) ((((ha).more (M':=λg=>(Mx M w.heap.size (w.heap.size+3)) g\/g=v1.heap.size) (λg hg=>hg.imp id λ(h:g=v1.heap.size)=>Nat.le_of_eq h.symm)).ext ea2).ext d3) (hb) BS.out).mono ?_;rintro e v4 ⟨v,ok,rfl,hR,d4⟩;go_wp2_with (fail);have e4:Ext wd v4:=(e3).trans d4;have oO:=(vY).ext d4
     try clear ak
     refine ny hK (hHeld.ext e4) λak=>?_;clear hK K;refine bH [5,6,7] ?_;(iterate 3 refine bG ?_);refine bI ?_;obtain⟨⟨q0,q1,q2,q3⟩,⟨f0,f1,f2,f3⟩,ze,aT,bN⟩:=Ah (M':=λg=>(Mx M w.heap.size (w.heap.size+3)) g\/g=v1.heap.size) (w:=wd) (.int .i64 v.lv) (.bool v.b) (.slice v.a v.n v.p) (.slice v.ka v.kn v.kp) (oO) (.inr rfl) (e1).size (e4);simp only[arr]at q0 q1 q2 q3;refine aI 9 λK hK=>?_;go_simp;have Ar:=hHeld.ext bN;clear ak;refine nx hK Ar ?_;clear hK K
     (refine aI 10 λK hK=>?_);go_simp;(refine fz hK ?_);clear hK K
     go_wp2_with (fail)
     go_meet
     exact⟨v1.heap.size,v,ok,rfl,rfl,ze,Nat.lt_of_lt_of_eq (oO).lt (kN _ _ _ _ _ _ _).symm,(e1).size,(hR.kp aT).more (λg hg=>.inl (.inl hg)),bN⟩
   ·go_simp;have ea1:Ext wd (wd.alloc (.cells zA 42)):=(ai _).alloc _;have hb1:=au.aO wd zA 42 4 rfl;have e1:Ext wd (wd.alloc (.cells zA 42)):=((ai wd)).trans ea1
    try clear ak
    refine ny hK (hHeld.ext e1) λak=>?_;clear hK K;refine aI 1 λK hK=>?_;go_simp;refine(CN1.out (λg=>(Mx M w.heap.size (w.heap.size+3)) g\/g=wd.heap.size) (wd.alloc (.cells zA 42)) ((OA (nW.ext (ai wd)) (.cells zA 42)).ext (ai (wd.alloc (.cells zA 42)))) (λg hg=>hg.imp id λh=>by rw[h];exact(ai wd).size) e1).mono ?_;rintro e v2 ⟨a,rfl,ha,d2⟩;go_wp2_with (fail);have e2:Ext wd v2:=(e1).trans d2;have gU:=(hb1).ext d2
    try clear ak
    refine ny hK (hHeld.ext e2) λak=>?_;clear hK K;refine aI 3 λK hK=>?_;go_simp;refine(YE.out (λg=>(Mx M w.heap.size (w.heap.size+3)) g\/g=wd.heap.size) v2 ((OA (nW.ext (ai wd)) (.cells zA 42)).ext (((ai (wd.alloc (.cells zA 42)))).trans d2)) (λg hg=>hg.imp id λh=>by rw[h];exact(ai wd).size) e2).mono ?_;rintro e v3 ⟨b,rfl,hb,d3⟩;go_wp2_with (fail);have e3:Ext wd v3:=(e2).trans d3;have vY:=(gU).ext d3
    try clear ak
    refine ny hK (hHeld.ext e3) λak=>?_;clear hK K;refine aI 4 λK hK=>?_;go_simp;refine(zP.out (λg=>(Mx M w.heap.size (w.heap.size+3)) g\/g=wd.heap.size) a b v3 ((OA (nW.ext (ai wd)) (.cells zA 42)).ext (((((ai (wd.alloc (.cells zA 42)))).trans d2)).trans d3)) ((ha).ext d3) (hb) BS.out).mono ?_;rintro e v4 ⟨v,ok,rfl,hR,d4⟩;go_wp2_with (fail);have e4:Ext wd v4:=(e3).trans d4;have oO:=(vY).ext d4
    try clear ak
    refine ny hK (hHeld.ext e4) λak=>?_;clear hK K;refine bH [5,6,7] ?_;(iterate 3 refine bG ?_);refine bI ?_;obtain⟨⟨q0,q1,q2,q3⟩,⟨f0,f1,f2,f3⟩,ze,aT,bN⟩:=Ah (M':=λg=>(Mx M w.heap.size (w.heap.size+3)) g\/g=wd.heap.size) (w:=wd) (.int .i64 v.lv) (.bool v.b) (.slice v.a v.n v.p) (.slice v.ka v.kn v.kp) (oO) (.inr rfl) ((ai wd)).size (e4);simp only[arr]at q0 q1 q2 q3;refine aI 9 λK hK=>?_;go_simp;have Ar:=hHeld.ext bN;clear ak;refine nx hK Ar ?_;clear hK K
    (refine aI 10 λK hK=>?_);go_simp;(refine fz hK ?_);clear hK K
    go_wp2_with (fail)
    go_meet
    exact⟨wd.heap.size,v,ok,rfl,rfl,ze,Nat.lt_of_lt_of_eq (oO).lt (kN _ _ _ _ _ _ _).symm,((ai wd)).size,(hR.kp aT).more (λg hg=>.inl (.inl hg)),bN⟩
  case rest=>
   obtain⟨gc,v,ok,rfl,rfl,hv,hgv,rz,hR,RJ⟩:=hcut;have aU:Ext w1 wc:=(ai w1).drew.trans RJ;have lg:=ae hR;have oF:=ae (bS.out.ext aU);have Ex:=ae (aP.out.trans aU);have jW:w.heap.size+2<wc.heap.size:=bB iy aU.size;obtain⟨v0,v1,v2,v3⟩:=hv;clear hR RJ aU rz dU bS aP qU nJ uH zP iy
   cases ok with
   |false=>
    obtain⟨⟨q0,q1,q2,q3⟩,⟨f0,f1,f2,f3⟩,⟨r0,r1,r2,r3⟩,HF⟩:=gI (M:=M) (M':=Mx M w.heap.size (w.heap.size+3)) (w:=w) (L:=0) (l:=[]) (y:=PE.z) oF.out (Mx.at (by omega)) (by omega) Ex.out (CR.zero _ _ 0) Mx.sub;obtain⟨_,_,_,bN⟩:=HF;have bQ:Hid (MJ M w l r A2 (.returned (.tuple #[.agg (ag PE.z),.int .i64 3])) _):=⟨PE.z,3,rfl,.inr (.inr ⟨rfl,rfl,BS.out,lg.out.2 rfl⟩),bN⟩;simp only[PE.z]at r0 r1 r2 r3;clear bN lg oF Ex v0 v1 v2 v3;go_wp2;exact aV (v:=.tuple #[.agg (ag PE.z),.int .i64 3]) (by simp[results,Tryz.results65,go_sem,r0,r1,r2,r3,PE.z]) rfl bQ.out
   |true=>
    obtain⟨q,hq1,hq2,wF⟩:=lg.out.1 rfl;obtain⟨⟨q0,q1,q2,q3⟩,⟨f0,f1,f2,f3⟩,⟨r0,r1,r2,r3⟩,HF⟩:=gI (M:=M) (w:=w) oF.out (Mx.at (by omega)) (by omega) Ex.out hq1 Mx.sub;obtain⟨v',e',Ku,bN⟩:=HF;simp only[Ending.returned.injEq,Value.agg.injEq]at e';have bQ:Hid (MJ M w l r A2 (.returned (.tuple #[.agg (ag v),.int .i64 0])) _):=⟨v',0,by rw[e'],.inr (.inl ⟨rfl,BS.out,q,Ku,hq2,wF⟩),bN⟩;clear bN Ku e' hq1 hq2 wF lg oF Ex;go_wp2;exact aV (v:=.tuple #[.agg (ag v),.int .i64 0]) (by simp[results,Tryz.results65,go_sem,r0,r1,r2,r3]) rfl bQ.out
theorem qqi(C G:Nat)(M:Nat->Prop)(l r:List Tm)(x y:PE)(B A:Nat)(w:World)(hM:Mb M w)(h:PI M w x l)(hy:PI M w y r)(hB:bE B l)(hC:bE C r)(hA:aF (aB l)<=A)(hG:aF (aB r)<=G)(hO:qW C 4 B)(hS:A+qX C 4 B*(G+2)<=549755813888):
 Calls Tryz.prog 65 #[.agg (ag x),.agg (ag y)] w (MJ M w l r (A+qX C 4 B*(G+2))):=qBT M l r x y _ w hM h hy λM' a b W' h1 h2 h4 h5=>qBV C G 4 (aA 4) M' l r a b B A W' h1 h2 h4 h5 hB hC hA hG hO hS
end Go.Proofs.YtaafefeafonhdaaGreat
