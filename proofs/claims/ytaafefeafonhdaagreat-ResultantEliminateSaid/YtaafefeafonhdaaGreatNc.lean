/- Nc -/
import Derived.Test.YtaafefeafonhdaaGreatNb
import Derived.Test.YtaafefeafonhdaaGreatMp
set_option linter.unusedVariables false
set_option maxRecDepth 100000
set_option maxHeartbeats 400000000
set_option linter.unusedSimpArgs false
namespace Go.Proofs.YtaafefeafonhdaaGreat
open Go.RowKit
structure RE where
 b:Bool
 a:Option Addr
 n:Nat
 p:Nat
 da:Option Addr
 dn:Nat
 dp:Nat
instance:Inhabited RE:=⟨⟨false,none,0,0,none,0,0⟩⟩
abbrev bL(r:RE):Array Value:= #[.bool r.b,.slice r.a r.n r.p,.slice r.da r.dn r.dp]
def kF(M:Nat->Prop)(w:World)(N:Nat)(r:RE)(q:Rat):Prop:=∃(z:Int)(d:Nat),dh M w (.bool r.b) (.slice r.a r.n r.p) z/\fC M w (.slice r.da r.dn r.dp) d/\aF z.natAbs<=N/\aF d<=N/\q=mkRat z d
def iK(M:Nat->Prop)(w:World)(r:RE)(q:Rat):Prop:=dH M w (.bool r.b) (.slice r.a r.n r.p) q.num/\ic M w (.slice r.da r.dn r.dp) q.den
section
variable{M M':Nat->Prop}{w w':World}{N:Nat}{r:RE}{q:Rat}
theorem kF.kp(h:kF M w N r q)(he:Kp M w w'):kF M w' N r q:=by
 obtain⟨z,d,h1,h2,h3⟩:=h;exact⟨z,d,h1.kp he,h2.kp he,h3⟩
theorem kF.ext(h:kF M w N r q)(he:Ext w w'):kF M w' N r q:=h.kp (Kp.gZ he)
theorem kF.more(h:kF M w N r q)(hm:∀g,M' g->M g\/w.heap.size<=g):kF M' w N r q:=by
 obtain⟨z,d,h1,h2,h3⟩:=h;exact⟨z,d,h1.more hm,h2.more hm,h3⟩
theorem kF.mono{K:Nat}(h:kF M w N r q)(hk:N<=K):kF M w K r q:=by
 obtain⟨z,d,h1,h2,h3,h4,h5⟩:=h;exact⟨z,d,h1,h2,aK h3 hk,aK h4 hk,h5⟩
theorem kF.rb(h:kF M w N r q)(hN:1<=N):rb N q:=by
 obtain⟨z,d,h1,h2,h3,h4,rfl⟩:=h;exact qfx h3 h4 hN
theorem iK.kp(h:iK M w r q)(he:Kp M w w'):iK M w' r q:=⟨h.1.kp he,h.2.kp he⟩
theorem iK.ext(h:iK M w r q)(he:Ext w w'):iK M w' r q:=h.kp (Kp.gZ he)
theorem iK.more(h:iK M w r q)(hm:∀g,M' g->M g\/w.heap.size<=g):iK M' w r q:=⟨h.1.more hm,h.2.more hm⟩
theorem iK.DZ(h:iK M w r q)(hb:Go.Proofs.YtaafefeafonhdaaGreat.rb N q):kF M w N r q:=⟨q.num,q.den,h.1.dB,h.2.dB,hb.1,hb.2,(Rat.mkRat_self q).symm⟩
end
def qY(M:Nat->Prop)(w:World)(q:Rat)(e:Ending)(w':World):Prop:=∃r:RE,e=.returned (.agg (bL r))/\iK M w' r q/\Ext w w'
def qaH(M:Nat->Prop)(w:World)(N:Nat)(q:Rat)(e:Ending)(w':World):Prop:=∃(b:Bool)(a:Option Addr)(n p:Nat)(b2:Bool)(a2:Option Addr)(n2 p2:Nat)(z:Int)(d:Nat),e=.returned (.tuple #[.agg #[.bool b,.slice a n p],.agg #[.bool b2,.slice a2 n2 p2]])/\
 dh M w' (.bool b) (.slice a n p) z/\dh M w' (.bool b2) (.slice a2 n2 p2) (d:Int)/\d≠0/\aF z.natAbs<=N/\aF d<=N/\q=mkRat z d/\Ext w w'
def R3(g:Nat)(r:RE)(w:World):Prop:=w.cell? ⟨g,0,none⟩=some (.bool r.b)/\w.cell? ⟨g,1,none⟩=some (.slice r.a r.n r.p)/\w.cell? ⟨g,2,none⟩=some (.slice r.da r.dn r.dp)
theorem R3.ext{g:Nat}{r:RE}{w w':World}(k:R3 g r w)(he:Ext w w'):R3 g r w':=by
 have h1:=dM _ _ k.1;exact⟨by rw[he.cell h1];exact k.1,by rw[he.cell h1];exact k.2.1,by rw[he.cell h1];exact k.2.2⟩
theorem au.r3{w:World}{g:Nat}{t:TypeId}{r:RE}(h:au w g t 3 (arr (bL r))):R3 g r w:=⟨h.cell (i:=0) (by omega),h.cell (i:=1) (by omega),h.cell (i:=2) (by omega)⟩
theorem OV{M:Nat->Prop}(N:Nat)(r:RE)(q:Rat)(w:World)(hM:Mb M w)(h:kF M w N r q)(hN:1<=N):
 Calls Tryz.prog 34 #[.agg (bL r)] w (qaH M w N q):=by
 have aW:=((au.aO w (bL r) 32 3 rfl).alloc (.cells zI 30)).alloc (.cells zI 30);have bA:=(au.aO (w.alloc (.cells (bL r) 32)) zI 30 2 rfl).alloc (.cells zI 30);have bJ:=au.aO ((w.alloc (.cells (bL r) 32)).alloc (.cells zI 30)) zI 30 2 rfl;have aL:Ext w (((w.alloc (.cells (bL r) 32)).alloc (.cells zI 30)).alloc (.cells zI 30)):=(((ai w).alloc _).alloc _).alloc _;simp only[World.size_alloc]at bA bJ;have bD:Mb (Mx M w.heap.size (w.heap.size+3)) (((w.alloc (.cells (bL r) 32)).alloc (.cells zI 30)).alloc (.cells zI 30)):=Mx.mb hM (by simp;omega) (by simp);have h0:=(h.more (M':=Mx M w.heap.size (w.heap.size+3)) (Mx.more (aA _))).ext aL;generalize fK:((w.alloc (.cells (bL r) 32)).alloc (.cells zI 30)).alloc (.cells zI 30)=W0 at*;have iY:=ae fK;have bS:=ae bA;have cK:=ae bJ;have dC:=ae aL;have iE:=ae bD;obtain⟨z,d,hz,hd,Ic,GV,hq⟩:=h0;have HZ:=ae hz;have HD:=ae hd;have HQ:=ae hq;obtain⟨c0,c1,c2⟩:=aW.r3;have nI:Hid (R3 w.heap.size r W0):=⟨c0,c1,c2⟩;have g0:=aW.lt;have aJ:=ae (Il (.slice r.da r.dn r.dp) d W0 hd);clear h hM fK aW bA bJ aL bD hz hd hq
 by_cases hd0:d=0
 ·have GX:decide (d=0)=true:=by simp[hd0]
  rw[GX]at aJ
  have Md:Hid (q=mkRat 0 1):=by show q=mkRat 0 1;rw[HQ.out,hd0];simp
  clear GX hd0 HD HZ HQ Ic GV
  go_enter Tryz.func34,Tryz.ntmps34
  go_upto_region 1 with(fail)
  rw[iY.out];go_wp2_with (fail);refine aJ.out.mono ?_;rintro e w1 ⟨rfl,rfl⟩;clear aJ;have fP:=ae (DD 1 W0 iE.out (by omega) (by omega));go_wp2_with (fail);refine fP.out.mono ?_;rintro e w2 ⟨k0,k1,rfl,hk,az⟩;obtain⟨kb,ka,kn,kp,rfl,rfl⟩:=hk.form;obtain⟨WA,WB,tV,EW,⟨q0,q1,q2,q3⟩,⟨p0,p1,p2,p3⟩,⟨r0,r1,r2,r3⟩,aT,bN,De,Kv,_⟩:=qbZ (M':=Mx M w.heap.size (w.heap.size+3)) (w:=w) (.bool false) (.slice none 0 0) (.bool kb) (.slice ka kn kp) (bS.out.ext az) (cK.out.ext az) (by omega) (Mx.at (by omega)) (Mx.at (by omega)) (by omega) (by omega) (dC.out.trans az)
  have HF:Hid (qaH M w N q (.returned (.tuple #[.agg #[.bool false,.slice none 0 0],.agg #[.bool kb,.slice ka kn kp]])) WB):=
   ⟨_,_,_,_,_,_,_,_,0,1,rfl,(dH.zero M WB).dB,((hk.kp aT).more Mx.less).dB,by omega,by show 0<=N;omega,by rw[VD];exact hN,Md.out,bN⟩
  have s0:=(cK.out.ext az).cell (i:=0) (by omega);have s1:=(cK.out.ext az).cell (i:=1) (by omega);have s2:=(cK.out.ext az).frozen 0;have s3:=(cK.out.ext az).frozen 1;rw[tV]at EW;have Ju:=ae EW;simp only[arr]at q0 q1 s0 s1;clear fP hk az aT bN De Kv p0 p1 p2 p3 tV EW c0 c1 c2 g0 nI;go_wp2;rw[<-Ju.out];exact aV (v:=.tuple #[.agg #[.bool false,.slice none 0 0],.agg #[.bool kb,.slice ka kn kp]]) (by simp[results,Tryz.results34,go_sem,r0,r1,r2,r3]) rfl HF.out
 ·have GX:decide (d=0)=false:=by simp[hd0]
  rw[GX]at aJ;clear GX
  go_enter Tryz.func34,Tryz.ntmps34
  go_upto_region 1 with(fail)
  rw[iY.out];go_wp2_with (fail);refine aJ.out.mono ?_;rintro e w1 ⟨rfl,rfl⟩;clear aJ;obtain⟨WA,WB,tV,EW,⟨q0,q1,q2,q3⟩,⟨p0,p1,p2,p3⟩,⟨r0,r1,r2,r3⟩,aT,bN,De,Kv,_⟩:=qbZ (M':=Mx M w.heap.size (w.heap.size+3)) (w:=w) (.bool r.b) (.slice r.a r.n r.p) (.bool false) (.slice r.da r.dn r.dp) (bS.out.ext (ai _).drew) (cK.out.ext (ai _).drew) (by omega) (Mx.at (by omega)) (Mx.at (by omega)) (by omega) (by omega) (dC.out.drew);have dU:Hid (R3 w.heap.size r W0.drew):=nI.out.ext (ai _).drew;have HSA:Hid (R3 w.heap.size r WA):=⟨by rw[De _ _ (by omega)];exact dU.out.1,by rw[De _ _ (by omega)];exact dU.out.2.1,by rw[De _ _ (by omega)];exact dU.out.2.2⟩
  have HF:Hid (qaH M w N q (.returned (.tuple #[.agg #[.bool r.b,.slice r.a r.n r.p],.agg #[.bool false,.slice r.da r.dn r.dp]])) WB):=
   ⟨_,_,_,_,_,_,_,_,z,d,rfl,((HZ.out.ext (ai _).drew).kp aT).more Mx.less,⟨false,d,rfl,((HD.out.ext (ai _).drew).kp aT).more Mx.less,by simp[bO]⟩,hd0,Ic,GV,HQ.out,bN⟩
  have z8:=ae tV;have Ju:=ae EW;have ZR:Hid ((WA.cell? ⟨w.heap.size+1+1,0,none⟩=some (.bool false)/\WA.cell? ⟨w.heap.size+1+1,1,none⟩=some (.slice none 0 0))/\WA.frozen? ⟨w.heap.size+1+1,0,none⟩=false/\WA.frozen? ⟨w.heap.size+1+1,1,none⟩=false):=⟨⟨p0,p1⟩,p2,p3⟩;simp only[arr]at q0 q1;clear aT bN De Kv p0 p1 p2 p3 tV EW c0 c1 c2 nI;go_wp2;refine fB (R3 w.heap.size r) 6 dU.out λhHeld=>?_;generalize W0.drew=WD at*;refine bH [0,1,2,3,4] ?_;(iterate 5 refine bG ?_ (hy:=by intro wS hSw;obtain⟨S1,S2,S3⟩:=hSw;go_simp;try with_reducible rfl));refine bI ?_;refine aI 5 λK hK=>?_;go_simp;rw[<-z8.out];refine nx hK HSA.out ?_;clear hK K q0 q1 q2 q3 z8;obtain⟨⟨p0,p1⟩,p2,p3⟩:=ZR.out;refine aI 6 λK hK=>?_;go_simp;rw[<-Ju.out];refine fz hK ?_;clear hK K p0 p1 p2 p3 Ju;go_wp2;exact aV (v:=.tuple #[.agg #[.bool r.b,.slice r.a r.n r.p],.agg #[.bool false,.slice r.da r.dn r.dp]]) (by simp[results,Tryz.results34,go_sem,r0,r1,r2,r3]) rfl HF.out
theorem au.yf{w:World}{g:Nat}{t:TypeId}{f:Nat->Value}(h:au w g t 2 f)(A B:Value):au ((w.setCell ⟨g,0,none⟩ A).setCell ⟨g,1,none⟩ B) g t 2 (arr #[A,B]):=
 ((h.set 0 A).set 1 B).congr λi hi=>by
  have:i=0\/i=1:=by omega
  rcases this with rfl|rfl<;>rfl
theorem au.TF{w:World}{g h:Nat}{t:TypeId}{n:Nat}{f:Nat->Value}(k:au w h t n f)(hne:h≠g)(A B:Value):au ((w.setCell ⟨g,0,none⟩ A).setCell ⟨g,1,none⟩ B) h t n f:=
 (k.kM (p:=⟨g,0,none⟩) hne A).kM (p:=⟨g,1,none⟩) hne B
theorem J3{M':Nat->Prop}{w W:World}{g:Nat}{t:TypeId}{f:Nat->Value}(A B C:Value)(hB:au W g t 3 f)(hg:M' g)(hw:w.heap.size<=g)(he:Ext w W):
 (W.cell? ⟨g,0,none⟩=some (f 0)/\W.cell? ⟨g,1,none⟩=some (f 1)/\W.cell? ⟨g,2,none⟩=some (f 2)/\W.frozen? ⟨g,0,none⟩=false/\W.frozen? ⟨g,1,none⟩=false/\W.frozen? ⟨g,2,none⟩=false)/\
 ((((W.setCell ⟨g,0,none⟩ A).setCell ⟨g,1,none⟩ B).setCell ⟨g,2,none⟩ C).cell? ⟨g,0,none⟩=some A/\(((W.setCell ⟨g,0,none⟩ A).setCell ⟨g,1,none⟩ B).setCell ⟨g,2,none⟩ C).cell? ⟨g,1,none⟩=some B/\(((W.setCell ⟨g,0,none⟩ A).setCell ⟨g,1,none⟩ B).setCell ⟨g,2,none⟩ C).cell? ⟨g,2,none⟩=some C)/\
 Kp M' W (((W.setCell ⟨g,0,none⟩ A).setCell ⟨g,1,none⟩ B).setCell ⟨g,2,none⟩ C)/\Ext w (((W.setCell ⟨g,0,none⟩ A).setCell ⟨g,1,none⟩ B).setCell ⟨g,2,none⟩ C):=by
 have eG:=((hB.set 0 A).set 1 B).set 2 C;refine⟨⟨hB.cell (by omega),hB.cell (by omega),hB.cell (by omega),hB.frozen 0,hB.frozen 1,hB.frozen 2⟩,⟨?_,?_,?_⟩,((Kp.set _ _ hg _).trans (Kp.set _ _ hg _)).trans (Kp.set _ _ hg _),((he.set hw _).set hw _).set hw _⟩
 ·rw[eG.cell (i:=0) (by omega)];simp[fG]
 ·rw[eG.cell (i:=1) (by omega)];simp[fG]
 ·rw[eG.cell (i:=2) (by omega)];simp[fG]
theorem qCl(z:Int)(d:Nat)(hd:d≠0):z.tdiv (Nat.gcd z.natAbs d:Nat)=(mkRat z d).num:=by
 rw[Rat.num_mkRat,aj hd,Nat.gcd_comm];exact Int.tdiv_eq_ediv_of_dvd (Int.ofNat_dvd_left.2 (Nat.gcd_dvd_right _ _))
theorem qCk(z:Int)(d:Nat)(hd:d≠0):((d:Int).tdiv (Nat.gcd z.natAbs d:Nat)).natAbs=(mkRat z d).den:=by
 rw[Rat.den_mkRat,aj hd,Nat.gcd_comm,Int.natAbs_tdiv];rfl
abbrev zR:Array Value:= #[.bool false,.slice none 0 0,.slice none 0 0]
theorem qqD{M:Nat->Prop}(b:Bool)(a:Option Addr)(n p:Nat)(z:Int)(b':Bool)(a':Option Addr)(n' p':Nat)(d:Nat)(w:World)(hM:Mb M w)(h:dh M w (.bool b) (.slice a n p) z)(h':dh M w (.bool b') (.slice a' n' p') (d:Int))(hd:d≠0)(hL:aF z.natAbs+1<=1099511627776)(si:aF d+1<=1099511627776):
 Calls Tryz.prog 77 #[.agg #[.bool b,.slice a n p],.agg #[.bool b',.slice a' n' p']] w (qY M w (mkRat z d)):=by
 have aW:=((au.aO w #[.bool b,.slice a n p] 30 2 rfl).alloc (.cells #[.bool b',.slice a' n' p'] 30)).alloc (.cells zR 32);have bA:=(au.aO (w.alloc (.cells #[.bool b,.slice a n p] 30)) #[.bool b',.slice a' n' p'] 30 2 rfl).alloc (.cells zR 32);have bJ:=au.aO ((w.alloc (.cells #[.bool b,.slice a n p] 30)).alloc (.cells #[.bool b',.slice a' n' p'] 30)) zR 32 3 rfl;have aL:Ext w (((w.alloc (.cells #[.bool b,.slice a n p] 30)).alloc (.cells #[.bool b',.slice a' n' p'] 30)).alloc (.cells zR 32)):=(((ai w).alloc _).alloc _).alloc _;simp only[World.size_alloc]at bA bJ;have bD:Mb (Mx M w.heap.size (w.heap.size+3)) (((w.alloc (.cells #[.bool b,.slice a n p] 30)).alloc (.cells #[.bool b',.slice a' n' p'] 30)).alloc (.cells zR 32)):=Mx.mb hM (by simp;omega) (by simp);have h0:=(h.more (M':=Mx M w.heap.size (w.heap.size+3)) (Mx.more (aA _))).ext aL;have oK:=(h'.more (M':=Mx M w.heap.size (w.heap.size+3)) (Mx.more (aA _))).ext aL;generalize fK:((w.alloc (.cells #[.bool b,.slice a n p] 30)).alloc (.cells #[.bool b',.slice a' n' p'] 30)).alloc (.cells zR 32)=W0 at*;have iY:=ae fK;have dO:=ae aW;have bS:=ae bA;have cK:=ae bJ;have dC:=ae aL;have iE:=ae bD;have FV:=ae h0;have rR:=ae oK;have c0:=aW.cell (i:=0) (by omega);have c1:=aW.cell (i:=1) (by omega);have c2:=bA.cell (i:=0) (by omega);have c3:=bA.cell (i:=1) (by omega)
 simp only[arr]at c0 c1 c2 c3;have g0:=aW.lt;have g1:=bA.lt;have aR:=qjW b a n p z b' a' n' p' (d:Int) W0 bD h0 oK hL (by rw[Int.natAbs_natCast];exact si);have aJ:=ae aR;clear h h' hM fK aW bA bJ aL bD h0 oK aR
 go_enter Tryz.func77,Tryz.ntmps77
 go_upto_region 1 with(fail)
 rw[iY.out];go_wp2_with (fail);refine aJ.out.mono ?_;rintro e w1 ⟨gb,ga,gn,gp,rfl,hg,ah⟩;clear aJ c0 c1 c2 c3 g0 g1;rw[Int.natAbs_natCast]at hg
 go_upto_region 2 with(fail)
 have eZ:Ext w1 (w1.alloc (.cells #[.bool gb,.slice ga gn gp] 30)):=(ai _).alloc _;have J9:=au.aO w1 #[.bool gb,.slice ga gn gp] 30 2 rfl;have iZ:=(dO.out.ext ah).ext eZ;have hb1:=(bS.out.ext ah).ext eZ;have gU:=(cK.out.ext ah).ext eZ;have dF:=ah.trans eZ;have wB:=hg.ext eZ
 have xP:w.heap.size+3<=w1.heap.size:=by have:=(cK.out.ext ah).lt;omega
 generalize hG:w1.heap.size=G at*;generalize hW1:w1.alloc (.cells #[.bool gb,.slice ga gn gp] 30)=W1 at*;clear hW1 hG eZ ah hg;have HG:=ae J9;have dO:=ae iZ;have bS:=ae hb1;have cK:=ae gU;have aP:=ae dF;have HGI:=ae wB;have c0:=iZ.cell (i:=0) (by omega);have c1:=iZ.cell (i:=1) (by omega);have c2:=J9.cell (i:=0) (by omega);have c3:=J9.cell (i:=1) (by omega);simp only[arr]at c0 c1 c2 c3;have g0:=iZ.lt;have g1:=J9.lt
 have qG:(((Nat.gcd z.natAbs d:Nat)):Int)≠0:=by
  have:=Nat.gcd_pos_of_pos_right z.natAbs (Nat.pos_of_ne_zero hd);omega
 have aJ:=ae (qbO b a n p z gb ga gn gp _ W1 (iE.out.ext dF) (FV.out.ext dF) wB.dB qG hL);clear J9 iZ hb1 gU dF wB;go_wp2_with (fail);refine aJ.out.mono ?_;rintro e w2 ⟨qb,qa,qn,qp,sb,sa,sn,sp,rfl,hq,_,az⟩;rw[qCl z d hd]at hq;have iZ:=dO.out.ext az;obtain⟨⟨q0,q1,f0,f1⟩,⟨r0,r1⟩,aT,bN⟩:=mD (M':=Mx M w.heap.size (w.heap.size+3)) (w:=w) (.bool qb) (.slice qa qn qp) iZ (Mx.at (by omega)) (by omega) ((dC.out.trans aP.out).trans az);have qgL:=ae (iZ.yf (.bool qb) (.slice qa qn qp));have Pj:=ae ((bS.out.ext az).TF (g:=w.heap.size) (by omega) (.bool qb) (.slice qa qn qp));have qgN:=ae ((cK.out.ext az).TF (g:=w.heap.size) (by omega) (.bool qb) (.slice qa qn qp));have Ur:=ae ((HG.out.ext az).TF (g:=w.heap.size) (by omega) (.bool qb) (.slice qa qn qp));have HQ:=ae (hq.kp aT);have qhu:=ae ((HGI.out.ext az).kp aT);have qhw:=ae (((rR.out.ext aP.out).ext az).kp aT);have nK:=ae bN;have iQ:Hid (Mb (Mx M w.heap.size (w.heap.size+3)) ((w2.setCell ⟨w.heap.size,0,none⟩ (.bool qb)).setCell ⟨w.heap.size,1,none⟩ (.slice qa qn qp))):=((iE.out.ext aP.out).ext az).size aT.1;simp only[arr]at q0 q1;have g2:=iZ.lt;clear c0 c1 c2 c3 g0 g1 r0 r1 hq az iZ aT bN aJ dO bS cK HG HGI FV rR dC
 go_upto_region 3 with(fail)
 generalize (w2.setCell ⟨w.heap.size,0,none⟩ (.bool qb)).setCell ⟨w.heap.size,1,none⟩ (.slice qa qn qp)=W2 at*;clear q0 q1 f0 f1 g2;have c0:=Pj.out.cell (i:=0) (by omega);have c1:=Pj.out.cell (i:=1) (by omega);have c2:=Ur.out.cell (i:=0) (by omega);have c3:=Ur.out.cell (i:=1) (by omega);simp only[arr]at c0 c1 c2 c3;have g0:=Pj.out.lt;have g1:=Ur.out.lt;have aJ:=ae (qbO b' a' n' p' (d:Int) gb ga gn gp _ W2 iQ.out qhw.out qhu.out.dB qG (by rw[Int.natAbs_natCast];exact si));go_wp2_with (fail);refine aJ.out.mono ?_;rintro e w3 ⟨db,da,dn,dp,OX,sa2,sn2,sp2,rfl,RF,_,aN⟩;have RF:=RF.1;rw[qCk z d hd]at RF;have hb1:=Pj.out.ext aN;obtain⟨⟨q0,q1,f0,f1⟩,⟨r0,r1⟩,aT,bN⟩:=mD (M':=Mx M w.heap.size (w.heap.size+3)) (w:=w) (.bool db) (.slice da dn dp) hb1 (Mx.at (by omega)) (by omega) (nK.out.trans aN);have YU:=ae ((qgL.out.ext aN).TF (g:=w.heap.size+1) (by omega) (.bool db) (.slice da dn dp));have qgM:=ae (hb1.yf (.bool db) (.slice da dn dp));have qr5:=ae ((qgN.out.ext aN).TF (g:=w.heap.size+1) (by omega) (.bool db) (.slice da dn dp));have qs8:=ae ((HQ.out.ext aN).kp aT);have wT:=ae (RF.kp aT);have Ca:=ae bN;simp only[arr]at q0 q1;have g2:=hb1.lt;clear c0 c1 c2 c3 g0 g1 r0 r1 RF aN hb1 aT bN aJ qgL Pj qgN Ur qhu qhw HQ
 go_upto_region 4 with(fail)
 generalize (w3.setCell ⟨w.heap.size+1,0,none⟩ (.bool db)).setCell ⟨w.heap.size+1,1,none⟩ (.slice da dn dp)=W3 at*;clear q0 q1 f0 f1 g2;have c0:=YU.out.cell (i:=0) (by omega);have c1:=YU.out.cell (i:=1) (by omega);have c3:=qgM.out.cell (i:=1) (by omega);have g0:=YU.out.lt;have g1:=qgM.out.lt;obtain⟨⟨q0,q1,q2,f0,f1,f2⟩,⟨r0,r1,r2⟩,aT,bN⟩:=J3 (M':=Mx M w.heap.size (w.heap.size+3)) (w:=w) (.bool qb) (.slice qa qn qp) (.slice da dn dp) qr5.out (Mx.at (by omega)) (by omega) Ca.out
 have HF:Hid (qY M w (mkRat z d) (.returned (.agg #[.bool qb,.slice qa qn qp,.slice da dn dp])) (((W3.setCell ⟨w.heap.size+1+1,0,none⟩ (.bool qb)).setCell ⟨w.heap.size+1+1,1,none⟩ (.slice qa qn qp)).setCell ⟨w.heap.size+1+1,2,none⟩ (.slice da dn dp))):=
  ⟨⟨qb,qa,qn,qp,da,dn,dp⟩,rfl,⟨(qs8.out.kp aT).more Mx.less,(wT.out.kp aT).more Mx.less⟩,bN⟩
 simp only[arr]at c0 c1 c3 q0 q1 q2;clear aT bN;go_wp2;exact aV (v:=.agg #[.bool qb,.slice qa qn qp,.slice da dn dp]) (by simp[results,Tryz.results77,go_sem,r0,r1,r2]) rfl HF.out
theorem qfu{M:Nat->Prop}(b:Bool)(a:Option Addr)(n p:Nat)(z:Int)(w:World)(hM:Mb M w)(h:dh M w (.bool b) (.slice a n p) z):
 Calls Tryz.prog 31 #[.agg #[.bool b,.slice a n p]] w (qY M w (z:Rat)):=by
 have aL:Ext w ((w.alloc (.cells #[.bool b,.slice a n p] 30)).alloc (.cells zR 32)):=((ai w).alloc _).alloc _;have bA:=au.aO (w.alloc (.cells #[.bool b,.slice a n p] 30)) zR 32 3 rfl;simp only[World.size_alloc]at bA;have bD:Mb (Mx M w.heap.size (w.heap.size+2)) ((w.alloc (.cells #[.bool b,.slice a n p] 30)).alloc (.cells zR 32)):=Mx.mb hM (by simp;omega) (by simp);have h0:=(h.more (M':=Mx M w.heap.size (w.heap.size+2)) (Mx.more (aA _))).ext aL;have aJ:=ae (La _ _ z _ bD h0);have HB:=ae bA;have HM:=ae bD;have HE:=ae aL;clear aL bA bD h0 h hM
 go_enter Tryz.func31,Tryz.ntmps31
 go_wp2_with (fail);refine aJ.out.mono ?_;rintro e w1 ⟨d0,d1,rfl,hc,ah⟩;obtain⟨kb,ka,kn,kp,rfl,rfl⟩:=hc.form;have fP:=ae (Tk (M:=Mx M w.heap.size (w.heap.size+2)) 1 w1 (HM.out.ext ah) (by omega));rw[show(((1:Nat):Int))=1 from rfl]at fP;clear aJ;go_wp2_with (fail);refine fP.out.mono ?_;rintro e w2 ⟨u,rfl,hu,az⟩;obtain⟨ua,un,up,rfl⟩:=hu.dB.form;obtain⟨⟨q0,q1,q2,f0,f1,f2⟩,⟨r0,r1,r2⟩,aT,bN⟩:=J3 (M':=Mx M w.heap.size (w.heap.size+2)) (w:=w) (.bool kb) (.slice ka kn kp) (.slice ua un up) ((HB.out.ext ah).ext az) (Mx.at (by omega)) (by omega) ((HE.out.trans ah).trans az)
 have HF:Hid (qY M w (z:Rat) (.returned (.agg #[.bool kb,.slice ka kn kp,.slice ua un up])) (((w2.setCell ⟨w.heap.size+1,0,none⟩ (.bool kb)).setCell ⟨w.heap.size+1,1,none⟩ (.slice ka kn kp)).setCell ⟨w.heap.size+1,2,none⟩ (.slice ua un up))):=
  ⟨⟨kb,ka,kn,kp,ua,un,up⟩,rfl,⟨((hc.ext az).kp aT).more Mx.less,(hu.kp aT).more Mx.less⟩,bN⟩
 simp only[arr]at q0 q1 q2;clear fP hc hu ah az aT bN;go_wp2;exact aV (v:=.agg #[.bool kb,.slice ka kn kp,.slice ua un up]) (by simp[results,Tryz.results31,go_sem,r0,r1,r2]) rfl HF.out
theorem OU{M:Nat->Prop}(z:Int)(w:World)(hM:Mb M w)(h1: -9223372036854775808<=z)(h2:z<=9223372036854775807):
 Calls Tryz.prog 5 #[.int .i64 z] w (qY M w (z:Rat)):=by
 have aL:Ext w (w.alloc (.cells zR 32)):=(ai w).alloc _;have bA:=au.aO w zR 32 3 rfl;have bD:Mb (Mx M w.heap.size (w.heap.size+1)) (w.alloc (.cells zR 32)):=Mx.mb hM (by simp) (by simp);have aJ:=ae (DD z _ bD h1 h2);have HB:=ae bA;have HM:=ae bD;have HE:=ae aL;clear aL bA bD hM
 go_enter Tryz.func5,Tryz.ntmps5
 go_wp2_with (fail);refine aJ.out.mono ?_;rintro e w1 ⟨d0,d1,rfl,hc,ah⟩;obtain⟨kb,ka,kn,kp,rfl,rfl⟩:=hc.form;have fP:=ae (qfu kb ka kn kp z w1 (HM.out.ext ah) hc.dB);clear aJ hc;go_wp2_with (fail);refine fP.out.mono ?_;rintro e w2 ⟨r,rfl,hr,az⟩;obtain⟨⟨q0,q1,q2,f0,f1,f2⟩,⟨r0,r1,r2⟩,aT,bN⟩:=J3 (M':=Mx M w.heap.size (w.heap.size+1)) (w:=w) (.bool r.b) (.slice r.a r.n r.p) (.slice r.da r.dn r.dp) ((HB.out.ext ah).ext az) (Mx.at (by omega)) (by omega) ((HE.out.trans ah).trans az)
 have HF:Hid (qY M w (z:Rat) (.returned (.agg (bL r))) (((w2.setCell ⟨w.heap.size,0,none⟩ (.bool r.b)).setCell ⟨w.heap.size,1,none⟩ (.slice r.a r.n r.p)).setCell ⟨w.heap.size,2,none⟩ (.slice r.da r.dn r.dp))):=
  ⟨r,rfl,(hr.kp aT).more Mx.less,bN⟩
 simp only[arr]at q0 q1 q2;clear fP hr ah az aT bN;go_wp2;exact aV (v:=.agg (bL r)) (by simp[results,Tryz.results5,go_sem,r0,r1,r2]) rfl HF.out
structure JK(g1 g2 g3 g4:Nat)(x1 x2 x3 x4:I4)(w:World):Prop where
 a:C2 g1 x1 w
 b:C2 g2 x2 w
 c:C2 g3 x3 w
 d:C2 g4 x4 w
theorem JK.ext{g1 g2 g3 g4:Nat}{x1 x2 x3 x4:I4}{w w':World}(k:JK g1 g2 g3 g4 x1 x2 x3 x4 w)(he:Ext w w'):JK g1 g2 g3 g4 x1 x2 x3 x4 w':=⟨k.a.ext he,k.b.ext he,k.c.ext he,k.d.ext he⟩
theorem TM{w:World}{M:Nat->Prop}(hM:Mb M w)(x y:I4):∃G W,G=w.heap.size/\W=(w.alloc (.cells (iA x) 30)).alloc (.cells (iA y) 30)/\C2 G x W/\C2 (G+1) y W/\Ext w W/\G+1<W.heap.size:=by
 have h1:=(au.aO w (iA x) 30 2 rfl).alloc (.cells (iA y) 30);have h2:=au.aO (w.alloc (.cells (iA x) 30)) (iA y) 30 2 rfl;simp only[World.size_alloc]at h2;exact⟨_,_,rfl,rfl,⟨h1.cell (i:=0) (by omega),h1.cell (i:=1) (by omega)⟩,⟨h2.cell (i:=0) (by omega),h2.cell (i:=1) (by omega)⟩,((ai _).alloc _).alloc _,h2.lt⟩
theorem qqC{M:Nat->Prop}(N K:Nat)(r s:RE)(x y:Rat)(w:World)(hM:Mb M w)(h:kF M w N r x)(h':kF M w K s y)(hN:1<=N)(hK:1<=K)(hL:N+K+2<=1099511627776):
 Calls Tryz.prog 36 #[.agg (bL r),.agg (bL s)] w (qY M w (x*y)):=by
 have aW:=((au.aO w (bL r) 32 3 rfl).alloc (.cells (bL s) 32)).alloc (.cells zR 32);have bA:=(au.aO (w.alloc (.cells (bL r) 32)) (bL s) 32 3 rfl).alloc (.cells zR 32);have bJ:=au.aO ((w.alloc (.cells (bL r) 32)).alloc (.cells (bL s) 32)) zR 32 3 rfl;have aL:Ext w (((w.alloc (.cells (bL r) 32)).alloc (.cells (bL s) 32)).alloc (.cells zR 32)):=(((ai w).alloc _).alloc _).alloc _;simp only[World.size_alloc]at bA bJ;have bD:Mb (Mx M w.heap.size (w.heap.size+3)) (((w.alloc (.cells (bL r) 32)).alloc (.cells (bL s) 32)).alloc (.cells zR 32)):=Mx.mb hM (by simp;omega) (by simp);have h0:=(h.more (M':=Mx M w.heap.size (w.heap.size+3)) (Mx.more (aA _))).ext aL;have oK:=(h'.more (M':=Mx M w.heap.size (w.heap.size+3)) (Mx.more (aA _))).ext aL;generalize fK:((w.alloc (.cells (bL r) 32)).alloc (.cells (bL s) 32)).alloc (.cells zR 32)=W0 at*;have iY:=ae fK;have Qa:=ae aW.r3;have uE:=ae bA.r3;have cK:=ae bJ;have dC:=ae aL;have iE:=ae bD;have rR:=ae oK;have g0:=aW.lt;have g1:=bA.lt;obtain⟨c0,c1,c2⟩:=Qa.out;have aJ:=ae (OV N r x W0 bD h0 hN);clear h h' hM fK aW bA bJ aL bD h0 oK
 go_enter Tryz.func36,Tryz.ntmps36
 go_upto_region 1 with(fail)
 rw[iY.out];go_wp2_with (fail);refine aJ.out.mono ?_;rintro e w1 ⟨nb,na,nn,np,db,da,dn,dp,z,d,rfl,hz,hd,hd0,Ic,GV,rfl,ah⟩;clear aJ c0 c1 c2
 go_upto_region 2 with(fail)
 obtain⟨G,W1,hG,hW1,Kb,jM,dF,hGl⟩:=TM (iE.out.ext ah) ⟨nb,na,nn,np⟩ ⟨db,da,dn,dp⟩;rw[<-hW1, <-hG];have uA:=ae Kb;have o9:=ae jM;have aP:=ae (ah.trans dF);have HZ:=ae (hz.ext dF);have HD:=ae (hd.ext dF)
 have hGn:w.heap.size+3<=G:=by have:=ah.size;rw[hG];have:=cK.out.lt;omega
 obtain⟨c0,c1,c2⟩:=uE.out.ext aP.out;have g2:=bB g1 aP.out.size;have aJ:=ae (OV K s y W1 (iE.out.ext aP.out) (rR.out.ext aP.out) hK);clear hz hd ah hW1 hG Kb jM dF g0 g1;go_wp2_with (fail);refine aJ.out.mono ?_;rintro e w2 ⟨mb,ma,mn,mp,fb,fa,fn,fp,m,f,rfl,hm,hf,jw,hmK,hfK,rfl,az⟩;clear aJ c0 c1 c2
 go_upto_region 3 with(fail)
 obtain⟨J,W2,hJ,gT,CQ,CU,mX,hJl⟩:=TM ((iE.out.ext aP.out).ext az) ⟨mb,ma,mn,mp⟩ ⟨fb,fa,fn,fp⟩;rw[<-gT, <-hJ];have xH:=(az.trans mX).drew;have aZ:=ae (aP.out.trans xH);have Jz:=ae (HZ.out.ext xH);have kY:=ae (HD.out.ext xH);have iQ:=ae ((hm.ext mX).ext (ai _).drew);have bQ:=ae ((hf.ext mX).ext (ai _).drew);have dQ:=ae (iE.out.ext aZ.out);have dU:Hid (JK G (G+1) J (J+1) ⟨nb,na,nn,np⟩ ⟨db,da,dn,dp⟩ ⟨mb,ma,mn,mp⟩ ⟨fb,fa,fn,fp⟩ W2.drew):=⟨uA.out.ext xH,o9.out.ext xH,CQ.ext (ai _).drew,CU.ext (ai _).drew⟩
 have hJn:w.heap.size+3<=J:=by have:=aP.out.size;have:=az.size;omega
 clear HZ HD hm hf az gT hJ CQ CU mX xH uA o9 g2
 have ER:aF z.natAbs+aF m.natAbs<=1099511627776:=by omega
 have tT:aF d+aF f<=1099511627776:=by omega
 have ES:aF (z*m).natAbs+1<=1099511627776:=by have:=nN z.natAbs m.natAbs;rw[Int.natAbs_mul];omega
 have hS4:aF (d*f)+1<=1099511627776:=by have:=nN d f;omega
 have hdf:d*f≠0:=Nat.mul_ne_zero hd0 jw;refine fB (JK G (G+1) J (J+1) ⟨nb,na,nn,np⟩ ⟨db,da,dn,dp⟩ ⟨mb,ma,mn,mp⟩ ⟨fb,fa,fn,fp⟩) 7 dU.out λhHeld=>?_;refine bH [0,1,3,4] ?_;(iterate 4 refine bG ?_ (hy:=by intro wS hSw;obtain⟨⟨S1,S2⟩,⟨S3,S4⟩,⟨S5,S6⟩,S7,S8⟩:=hSw;go_simp;try with_reducible rfl));refine bI ?_
 (refine aI 2 λK hK=>?_);go_simp;(refine(Ow _ _ _ _ z m _ dQ.out Jz.out iQ.out ER).mono ?_);rintro e_ wz ⟨u0,u1,rfl,hc,ah⟩;go_wp2_with (fail);(try clear ak);(refine ny hK (hHeld.ext ah) λak=>?_);clear hK K
 obtain⟨b5,a5,n5,p5,rfl,rfl⟩:=hc.form
 (refine aI 5 λK hK=>?_);go_simp;(refine(Ow _ _ _ _ (d:Int) (f:Int) _ (dQ.out.ext ah) (kY.out.ext ah) (bQ.out.ext ah) (by rw[Int.natAbs_natCast,Int.natAbs_natCast];exact tT)).mono ?_);rintro e_ wz ⟨u0,u1,rfl,eX,az⟩;go_wp2_with (fail);(try clear ak);(refine ny hK (hHeld.ext (ah.trans az)) λak=>?_);clear hK K
 obtain⟨b6,a6,n6,p6,rfl,rfl⟩:=eX.form
 (refine aI 6 λK hK=>?_);go_simp;(refine(qqD _ _ _ _ (z*m) _ _ _ _ (d*f) _ (dQ.out.ext (ah.trans az)) (hc.ext az).dB (by rw[Int.natCast_mul];exact eX.dB) hdf ES hS4).mono ?_);rintro e_ wz ⟨u,rfl,hu,aN⟩;go_wp2_with (fail);(try clear ak);(refine ny hK (hHeld.ext ((ah.trans az).trans aN)) λak=>?_);clear hK K
 have zS:=ae ((ah.trans az).trans aN);rw[<-Rat.mkRat_mul_mkRat]at hu;rename_i wz;obtain⟨⟨q0,q1,q2,f0,f1,f2⟩,⟨r0,r1,r2⟩,aT,bN⟩:=J3 (M':=Mx M w.heap.size (w.heap.size+3)) (w:=w) (.bool u.b) (.slice u.a u.n u.p) (.slice u.da u.dn u.dp) (cK.out.ext (aZ.out.trans zS.out)) (Mx.at (by omega)) (by omega) (dC.out.trans (aZ.out.trans zS.out))
 have HF:Hid (qY M w (mkRat z d*mkRat m f) (.returned (.agg (bL u))) (((wz.setCell ⟨w.heap.size+1+1,0,none⟩ (.bool u.b)).setCell ⟨w.heap.size+1+1,1,none⟩ (.slice u.a u.n u.p)).setCell ⟨w.heap.size+1+1,2,none⟩ (.slice u.da u.dn u.dp))):=
  ⟨u,rfl,(hu.kp aT).more Mx.less,bN⟩
 simp only[arr]at q0 q1 q2;clear aT bN hu hHeld ak ah az aN hc eX
 (refine aI 7 λK hK=>?_);go_simp;(refine fz hK ?_);clear hK K
 go_wp2;exact aV (v:=.agg (bL u)) (by simp[results,Tryz.results36,go_sem,r0,r1,r2]) rfl HF.out
theorem qqB{M:Nat->Prop}(N K:Nat)(r s:RE)(x y:Rat)(w:World)(hM:Mb M w)(h:kF M w N r x)(h':kF M w K s y)(hN:1<=N)(hK:1<=K)(hL:N+K+2<=1099511627776):
 Calls Tryz.prog 37 #[.agg (bL r),.agg (bL s)] w (qY M w (x+y)):=by
 have aW:=((au.aO w (bL r) 32 3 rfl).alloc (.cells (bL s) 32)).alloc (.cells zR 32);have bA:=(au.aO (w.alloc (.cells (bL r) 32)) (bL s) 32 3 rfl).alloc (.cells zR 32);have bJ:=au.aO ((w.alloc (.cells (bL r) 32)).alloc (.cells (bL s) 32)) zR 32 3 rfl;have aL:Ext w (((w.alloc (.cells (bL r) 32)).alloc (.cells (bL s) 32)).alloc (.cells zR 32)):=(((ai w).alloc _).alloc _).alloc _;simp only[World.size_alloc]at bA bJ;have bD:Mb (Mx M w.heap.size (w.heap.size+3)) (((w.alloc (.cells (bL r) 32)).alloc (.cells (bL s) 32)).alloc (.cells zR 32)):=Mx.mb hM (by simp;omega) (by simp);have h0:=(h.more (M':=Mx M w.heap.size (w.heap.size+3)) (Mx.more (aA _))).ext aL;have oK:=(h'.more (M':=Mx M w.heap.size (w.heap.size+3)) (Mx.more (aA _))).ext aL;generalize fK:((w.alloc (.cells (bL r) 32)).alloc (.cells (bL s) 32)).alloc (.cells zR 32)=W0 at*;have iY:=ae fK;have Qa:=ae aW.r3;have uE:=ae bA.r3;have cK:=ae bJ;have dC:=ae aL;have iE:=ae bD;have rR:=ae oK;have g0:=aW.lt;have g1:=bA.lt;obtain⟨c0,c1,c2⟩:=Qa.out;have aJ:=ae (OV N r x W0 bD h0 hN);clear h h' hM fK aW bA bJ aL bD h0 oK
 go_enter Tryz.func37,Tryz.ntmps37
 go_upto_region 1 with(fail)
 rw[iY.out];go_wp2_with (fail);refine aJ.out.mono ?_;rintro e w1 ⟨nb,na,nn,np,db,da,dn,dp,z,d,rfl,hz,hd,hd0,Ic,GV,rfl,ah⟩;clear aJ c0 c1 c2
 go_upto_region 2 with(fail)
 obtain⟨G,W1,hG,hW1,Kb,jM,dF,hGl⟩:=TM (iE.out.ext ah) ⟨nb,na,nn,np⟩ ⟨db,da,dn,dp⟩;rw[<-hW1, <-hG];have uA:=ae Kb;have o9:=ae jM;have aP:=ae (ah.trans dF);have HZ:=ae (hz.ext dF);have HD:=ae (hd.ext dF)
 have hGn:w.heap.size+3<=G:=by have:=ah.size;rw[hG];have:=cK.out.lt;omega
 obtain⟨c0,c1,c2⟩:=uE.out.ext aP.out;have g2:=bB g1 aP.out.size;have aJ:=ae (OV K s y W1 (iE.out.ext aP.out) (rR.out.ext aP.out) hK);clear hz hd ah hW1 hG Kb jM dF g0 g1;go_wp2_with (fail);refine aJ.out.mono ?_;rintro e w2 ⟨mb,ma,mn,mp,fb,fa,fn,fp,m,f,rfl,hm,hf,jw,hmK,hfK,rfl,az⟩;clear aJ c0 c1 c2
 go_upto_region 3 with(fail)
 obtain⟨J,W2,hJ,gT,CQ,CU,mX,hJl⟩:=TM ((iE.out.ext aP.out).ext az) ⟨mb,ma,mn,mp⟩ ⟨fb,fa,fn,fp⟩;rw[<-gT, <-hJ];have xH:=(az.trans mX).drew;have aZ:=ae (aP.out.trans xH);have Jz:=ae (HZ.out.ext xH);have kY:=ae (HD.out.ext xH);have iQ:=ae ((hm.ext mX).ext (ai _).drew);have bQ:=ae ((hf.ext mX).ext (ai _).drew);have dQ:=ae (iE.out.ext aZ.out);have dU:Hid (JK G (G+1) J (J+1) ⟨nb,na,nn,np⟩ ⟨db,da,dn,dp⟩ ⟨mb,ma,mn,mp⟩ ⟨fb,fa,fn,fp⟩ W2.drew):=⟨uA.out.ext xH,o9.out.ext xH,CQ.ext (ai _).drew,CU.ext (ai _).drew⟩
 have hJn:w.heap.size+3<=J:=by have:=aP.out.size;have:=az.size;omega
 clear HZ HD hm hf az gT hJ CQ CU mX xH uA o9 g2
 have ER:aF z.natAbs+aF f<=1099511627776:=by omega
 have tT:aF m.natAbs+aF d<=1099511627776:=by omega
 have xJ:aF d+aF f<=1099511627776:=by omega
 have vV:aF ((z*f).natAbs+(m*d).natAbs)<=N+K+1:=by
  have h1:=nN z.natAbs f;have h2:=nN m.natAbs d;have h3:=Gt (z*f).natAbs (m*d).natAbs;rw[Int.natAbs_mul,Int.natAbs_mul,Int.natAbs_natCast,Int.natAbs_natCast]at h3⊢;omega
 have ES:aF (z*f+m*d).natAbs+1<=1099511627776:=by
  have:=fu (Int.natAbs_add_le (z*f) (m*d));omega
 have hS4:aF (d*f)+1<=1099511627776:=by have:=nN d f;omega
 have hdf:d*f≠0:=Nat.mul_ne_zero hd0 jw;refine fB (JK G (G+1) J (J+1) ⟨nb,na,nn,np⟩ ⟨db,da,dn,dp⟩ ⟨mb,ma,mn,mp⟩ ⟨fb,fa,fn,fp⟩) 11 dU.out λhHeld=>?_;refine bH [0,1,3,4,7,8] ?_;(iterate 6 refine bG ?_ (hy:=by intro wS hSw;obtain⟨⟨S1,S2⟩,⟨S3,S4⟩,⟨S5,S6⟩,S7,S8⟩:=hSw;go_simp;try with_reducible rfl));refine bI ?_
 (refine aI 2 λK hK=>?_);go_simp;(refine(Ow _ _ _ _ z (f:Int) _ dQ.out Jz.out bQ.out (by rw[Int.natAbs_natCast];exact ER)).mono ?_);rintro e_ wz ⟨u0,u1,rfl,hc,ah⟩;go_wp2_with (fail);(try clear ak);(refine ny hK (hHeld.ext ah) λak=>?_);clear hK K
 obtain⟨b5,a5,n5,p5,rfl,rfl⟩:=hc.form
 (refine aI 5 λK hK=>?_);go_simp;(refine(Ow _ _ _ _ m (d:Int) _ (dQ.out.ext ah) (iQ.out.ext ah) (kY.out.ext ah) (by rw[Int.natAbs_natCast];exact tT)).mono ?_);rintro e_ wz ⟨u0,u1,rfl,eX,az⟩;go_wp2_with (fail);(try clear ak);(refine ny hK (hHeld.ext (ah.trans az)) λak=>?_);clear hK K
 obtain⟨b6,a6,n6,p6,rfl,rfl⟩:=eX.form;have E8:=ah.trans az
 (refine aI 6 λK hK=>?_);go_simp;(refine(qeP _ _ _ _ (z*f) (m*d) _ (dQ.out.ext E8) (hc.ext az).dB eX.dB (by omega)).mono ?_);rintro e_ wz ⟨u0,u1,rfl,kT,aN⟩;go_wp2_with (fail);(try clear ak);(refine ny hK (hHeld.ext (E8.trans aN)) λak=>?_);clear hK K
 obtain⟨b7,a7,n7,p7,rfl,rfl⟩:=kT.form;have AL:=E8.trans aN
 (refine aI 9 λK hK=>?_);go_simp;(refine(Ow _ _ _ _ (d:Int) (f:Int) _ (dQ.out.ext AL) (kY.out.ext AL) (bQ.out.ext AL) (by rw[Int.natAbs_natCast,Int.natAbs_natCast];exact xJ)).mono ?_);rintro e_ wz ⟨u0,u1,rfl,Wj,bg⟩;go_wp2_with (fail);(try clear ak);(refine ny hK (hHeld.ext (AL.trans bg)) λak=>?_);clear hK K
 obtain⟨b8,a8,n8,p8,rfl,rfl⟩:=Wj.form;have GZ:=AL.trans bg
 (refine aI 10 λK hK=>?_);go_simp;(refine(qqD _ _ _ _ (z*f+m*d) _ _ _ _ (d*f) _ (dQ.out.ext GZ) (kT.ext bg).dB (by rw[Int.natCast_mul];exact Wj.dB) hdf ES hS4).mono ?_);rintro e_ wz ⟨u,rfl,hu,aU⟩;go_wp2_with (fail);(try clear ak);(refine ny hK (hHeld.ext (GZ.trans aU)) λak=>?_);clear hK K
 have zS:=ae (GZ.trans aU);rw[<-Rat.mkRat_add_mkRat _ _ hd0 jw]at hu;rename_i wz;obtain⟨⟨q0,q1,q2,f0,f1,f2⟩,⟨r0,r1,r2⟩,aT,bN⟩:=J3 (M':=Mx M w.heap.size (w.heap.size+3)) (w:=w) (.bool u.b) (.slice u.a u.n u.p) (.slice u.da u.dn u.dp) (cK.out.ext (aZ.out.trans zS.out)) (Mx.at (by omega)) (by omega) (dC.out.trans (aZ.out.trans zS.out))
 have HF:Hid (qY M w (mkRat z d+mkRat m f) (.returned (.agg (bL u))) (((wz.setCell ⟨w.heap.size+1+1,0,none⟩ (.bool u.b)).setCell ⟨w.heap.size+1+1,1,none⟩ (.slice u.a u.n u.p)).setCell ⟨w.heap.size+1+1,2,none⟩ (.slice u.da u.dn u.dp))):=
  ⟨u,rfl,(hu.kp aT).more Mx.less,bN⟩
 simp only[arr]at q0 q1 q2;clear aT bN hu hHeld ak ah az aN bg aU E8 AL GZ hc eX kT Wj
 (refine aI 11 λK hK=>?_);go_simp;(refine fz hK ?_);clear hK K
 go_wp2;exact aV (v:=.agg (bL u)) (by simp[results,Tryz.results37,go_sem,r0,r1,r2]) rfl HF.out
def MG(w:World)(b o:Nat)(r:RE):Prop:=w.cell? ⟨b,o,none⟩=some (.bool r.b)/\w.cell? ⟨b,o+1,none⟩=some (.slice r.a r.n r.p)/\w.cell? ⟨b,o+2,none⟩=some (.slice r.da r.dn r.dp)
theorem MG.ext{w w':World}{b o:Nat}{r:RE}(h:MG w b o r)(he:Ext w w'):MG w' b o r:=by
 have hb:=dM _ _ h.1;unfold MG;rw[he.cell hb,he.cell hb,he.cell hb];exact h
def uJ(M:Nat->Prop)(w:World)(A:Nat)(a:Option Addr)(n cap:Nat)(X:Nat->RE)(q:Nat->Rat):Prop:=
 n<=1099511627776/\∀i,i<n->(∃b off,a=some ⟨b,off,none⟩/\n<=cap/\cap<=maxLen/\b<w.heap.size/\¬M b/\MG w b (off+i*3) (X i))/\kF M w A (X i) (q i)
section
variable{M M':Nat->Prop}{w w':World}{A n cap:Nat}{a:Option Addr}{X:Nat->RE}{q:Nat->Rat}
theorem uJ.ext(h:uJ M w A a n cap X q)(he:Ext w w'):uJ M w' A a n cap X q:=by
 refine⟨h.1,λi hi=>?_⟩;obtain⟨⟨b,off,h1,h2,h3,h4,h5,h6⟩,h7⟩:=h.2 i hi;exact⟨⟨b,off,h1,h2,h3,bB h4 he.size,h5,h6.ext he⟩,h7.ext he⟩
theorem uJ.more(h:uJ M w A a n cap X q)(hm:∀g,M' g->M g\/w.heap.size<=g):uJ M' w A a n cap X q:=by
 refine⟨h.1,λi hi=>?_⟩;obtain⟨⟨b,off,h1,h2,h3,h4,h5,h6⟩,h7⟩:=h.2 i hi;exact⟨⟨b,off,h1,h2,h3,h4,λk=>(hm b k).elim h5 (by omega),h6⟩,h7.more hm⟩
end
def aq(q:Nat->Rat)(n:Nat):Nat->Rat:=λk=>if k<n then q k else 0
theorem uJ.rb{M:Nat->Prop}{w:World}{A n cap:Nat}{a:Option Addr}{X:Nat->RE}{q:Nat->Rat}(h:uJ M w A a n cap X q)(hA:1<=A)(k:Nat):Go.Proofs.YtaafefeafonhdaaGreat.rb A (aq q n k):=by
 unfold aq
 split
 ·rename_i hk;exact(h.2 k hk).2.rb hA
 ·exact Lu.mono hA
def YP(A d:Nat):Prop:=∀(M:Nat->Prop)(t:RT d)(x:PE)(a:Option Addr)(n cap:Nat)(X:Nat->RE)(q:Nat->Rat)(w:World),Mb M w->RR M w d t (.int .i64 x.lv) (.bool x.b) (.slice x.a x.n x.p) (.slice x.ka x.kn x.kp)->
 uJ M w A a n cap X q->2*jD A d t+A+4<=1099511627776->Calls Tryz.prog 19 #[.agg (ag x),.slice a n cap] w (qY M w (dR (aq q n) (terms d t)))
theorem VG{M:Nat->Prop}{w:World}(hM:Mb M w)(x:PE):∃W,W=(w.alloc (.cells (ag x) 42)).alloc (.cells zR 32)/\Ext w W/\P4 W w.heap.size x/\au W (w.heap.size+1) 32 3 (arr zR)/\Mb (Mx M w.heap.size (w.heap.size+2)) W:=by
 have h1:=au.aO (w.alloc (.cells (ag x) 42)) zR 32 3 rfl;simp only[World.size_alloc]at h1;exact⟨_,rfl,((ai w).alloc _).alloc _,((au.aO w (ag x) 42 4 rfl).alloc _).p4,h1,Mx.mb hM (by simp;omega) (by simp)⟩
theorem Nl{M M':Nat->Prop}{w W:World}{g:Nat}{t:TypeId}{r:RE}{q:Rat}(hB:au W g t 3 (arr zR))(hg:M' g)(hw:w.heap.size<=g)(he:Ext w W)(hr:iK M' W r q)(hm:∀g,M g->M' g):
 (W.cell? ⟨g,0,none⟩=some (.bool false)/\W.cell? ⟨g,1,none⟩=some (.slice none 0 0)/\W.cell? ⟨g,2,none⟩=some (.slice none 0 0)/\W.frozen? ⟨g,0,none⟩=false/\W.frozen? ⟨g,1,none⟩=false/\W.frozen? ⟨g,2,none⟩=false)/\
 ((((W.setCell ⟨g,0,none⟩ (.bool r.b)).setCell ⟨g,1,none⟩ (.slice r.a r.n r.p)).setCell ⟨g,2,none⟩ (.slice r.da r.dn r.dp)).cell? ⟨g,0,none⟩=some (.bool r.b)/\(((W.setCell ⟨g,0,none⟩ (.bool r.b)).setCell ⟨g,1,none⟩ (.slice r.a r.n r.p)).setCell ⟨g,2,none⟩ (.slice r.da r.dn r.dp)).cell? ⟨g,1,none⟩=some (.slice r.a r.n r.p)/\(((W.setCell ⟨g,0,none⟩ (.bool r.b)).setCell ⟨g,1,none⟩ (.slice r.a r.n r.p)).setCell ⟨g,2,none⟩ (.slice r.da r.dn r.dp)).cell? ⟨g,2,none⟩=some (.slice r.da r.dn r.dp))/\
 Hid (qY M w q (.returned (.agg (bL r))) (((W.setCell ⟨g,0,none⟩ (.bool r.b)).setCell ⟨g,1,none⟩ (.slice r.a r.n r.p)).setCell ⟨g,2,none⟩ (.slice r.da r.dn r.dp))):=by
 obtain⟨h1,h2,h3,h4⟩:=J3 (w:=w) (.bool r.b) (.slice r.a r.n r.p) (.slice r.da r.dn r.dp) hB hg hw he;exact⟨h1,h2,⟨r,rfl,(hr.kp h3).more (λg hg=>.inl (hm g hg)),h4⟩⟩
theorem qwd(A d:Nat)(M:Nat->Prop)(t:RT (d+1))(x:PE)(a:Option Addr)(n cap:Nat)(q:Nat->Rat)(w:World)(hM:Mb M w)(h:RR M w (d+1) t (.int .i64 x.lv) (.bool x.b) (.slice x.a x.n x.p) (.slice x.ka x.kn x.kp))(hl:t.1<=0):
 Calls Tryz.prog 19 #[.agg (ag x),.slice a n cap] w (qY M w (dR (aq q n) (terms (d+1) t))):=by
 obtain⟨W,hW,hE,⟨c0,c1,c2,c3⟩,hB,dz⟩:=VG hM x;obtain⟨h0,_,hI,_⟩:=h;simp only[Value.int.injEq,true_and]at h0
 have iH:x.lv<=0:=by omega
 have vS:=(hI.dB.more (M':=Mx M w.heap.size (w.heap.size+2)) (Mx.more (aA _))).ext hE;have aJ:=ae (qfu x.b x.a x.n x.p t.2.1.val W dz vS)
 have HT:Hid (dR (aq q n) (terms (d+1) t)=(t.2.1.val:Rat)):=by show _=_;rw[rM hl,qkc]
 have HW:=ae hW;have HE:=ae hE;have HB:=ae hB;have g0:=dM _ _ c0;have g1:=hB.lt;simp only at g0;clear hI vS hW hE hB dz hM h0 hl
 go_enter Tryz.func19,Tryz.ntmps19
 go_upto_region 1 with(fail)
 rw[<-HW.out];go_wp2_with (fail);refine aJ.out.mono ?_;rintro e w1 ⟨r,rfl,hr,ah⟩;obtain⟨⟨q0,q1,q2,f0,f1,f2⟩,⟨r0,r1,r2⟩,HF⟩:=Nl (M:=M) (w:=w) (HB.out.ext ah) (Mx.at (by omega)) (by omega) (HE.out.trans ah) hr Mx.sub;rw[<-HT.out]at HF;clear aJ hr ah c0 c1 c2 c3 g0 g1;go_wp2;exact aV (v:=.agg (bL r)) (by simp[results,Tryz.results19,go_sem,r0,r1,r2]) rfl HF.out
theorem qwc(A d:Nat)(M:Nat->Prop)(t:RT (d+1))(x:PE)(a:Option Addr)(n cap:Nat)(q:Nat->Rat)(w:World)(hM:Mb M w)(h:RR M w (d+1) t (.int .i64 x.lv) (.bool x.b) (.slice x.a x.n x.p) (.slice x.ka x.kn x.kp))(hl:4<t.1):
 Calls Tryz.prog 19 #[.agg (ag x),.slice a n cap] w (qY M w (dR (aq q n) (terms (d+1) t))):=by
 obtain⟨W,hW,hE,⟨c0,c1,c2,c3⟩,hB,dz⟩:=VG hM x;obtain⟨h0,_,hI,_⟩:=h;simp only[Value.int.injEq,true_and]at h0
 have iH:¬x.lv<=0:=by omega
 have qnk:4<x.lv:=by omega
 have aJ:=ae (OU 0 W dz (by omega) (by omega))
 have HT:Hid (dR (aq q n) (terms (d+1) t)=((0:Int):Rat)):=by
  show _=_;unfold terms;rw[aj (by omega),av hl];rfl
 have HW:=ae hW;have HE:=ae hE;have HB:=ae hB;have g0:=dM _ _ c0;have g1:=hB.lt;simp only at g0;clear hI hW hE hB dz hM h0 hl
 go_enter Tryz.func19,Tryz.ntmps19
 go_upto_region 1 with(fail)
 rw[<-HW.out];go_wp2_with (fail);refine aJ.out.mono ?_;rintro e w1 ⟨r,rfl,hr,ah⟩;obtain⟨⟨q0,q1,q2,f0,f1,f2⟩,⟨r0,r1,r2⟩,HF⟩:=Nl (M:=M) (w:=w) (HB.out.ext ah) (Mx.at (by omega)) (by omega) (HE.out.trans ah) hr Mx.sub;rw[<-HT.out]at HF;clear aJ hr ah c0 c1 c2 c3 g0 g1;go_wp2;exact aV (v:=.agg (bL r)) (by simp[results,Tryz.results19,go_sem,r0,r1,r2]) rfl HF.out
theorem qoX{M:Nat->Prop}{w:World}{d:Nat}{t:RT (d+1)}{x:PE}(h:RR M w (d+1) t (.int .i64 x.lv) (.bool x.b) (.slice x.a x.n x.p) (.slice x.ka x.kn x.kp))(i:Nat)(hi:i<t.2.2.1):
 ∃(b off:Nat)(y:PE),x.ka=some ⟨b,off,none⟩/\x.kn<=x.kp/\x.kp<=maxLen/\b<w.heap.size/\(w.cell? ⟨b,off+i*4,none⟩=some (.int .i64 y.lv)/\w.cell? ⟨b,off+i*4+1,none⟩=some (.bool y.b)/\w.cell? ⟨b,off+i*4+2,none⟩=some (.slice y.a y.n y.p)/\w.cell? ⟨b,off+i*4+3,none⟩=some (.slice y.ka y.kn y.kp))/\
  RR M w d (t.2.2.2 i) (.int .i64 y.lv) (.bool y.b) (.slice y.a y.n y.p) (.slice y.ka y.kn y.kp):=by
 have hf:=h.form;obtain⟨_,_,_,ka,kp,hk⟩:=hf;simp only[Value.slice.injEq]at hk;obtain⟨e1,e2,e3⟩:=hk;rw[e2]at h;obtain⟨b,off,h1,h2,h3,h4,e0',e1',e2',e3',x0,x1,x2,x3,x4⟩:=h.kids i hi;obtain⟨y,rfl,rfl,rfl,rfl⟩:=x4.pe;exact⟨b,off,y,h1,by rw[e2];exact h2,h3,h4,⟨x0,x1,x2,x3⟩,x4⟩
theorem qwf(A d:Nat)(ih:YP A d)(M:Nat->Prop)(t:RT (d+1))(x:PE)(a:Option Addr)(n cap:Nat)(X:Nat->RE)(q:Nat->Rat)(w:World)(hM:Mb M w)(h:RR M w (d+1) t (.int .i64 x.lv) (.bool x.b) (.slice x.a x.n x.p) (.slice x.ka x.kn x.kp))(hq:uJ M w A a n cap X q)(hsz:2*jD A (d+1) t+A+4<=1099511627776)(hl:1<=t.1/\t.1<=4)(hn:n<t.1):
 Calls Tryz.prog 19 #[.agg (ag x),.slice a n cap] w (qY M w (dR (aq q n) (terms (d+1) t))):=by
 obtain⟨W,hW,hE,⟨c0,c1,c2,c3⟩,hB,dz⟩:=VG hM x;have h0:=h.1;simp only[Value.int.injEq,true_and]at h0
 have iH:¬x.lv<=0:=by omega
 have qnk:¬4<x.lv:=by omega
 have qys:(n:Int)<x.lv:=by omega
 have hkn:x.kn=t.2.2.1:=by
  obtain⟨_,_,_,ka,kp,hk⟩:=h.form;simp only[Value.slice.injEq]at hk;exact hk.2.1
 have hT:dR (aq q n) (terms (d+1) t)=ps 0 (λi=>dR (aq q n) (terms d (t.2.2.2 i))) t.2.2.1:=by
  rw[qbV _ hl.1 hl.2]
  congr 1
  unfold aq;rw[aj (by omega)]
 have HW:=ae hW;have HE:=ae hE;have HB:=ae hB;have g0:=dM _ _ c0;have g1:=hB.lt;simp only at g0
 by_cases iq:x.kn=0
 ·have aJ:=ae (OU 0 W dz (by omega) (by omega))
  have HT:Hid (dR (aq q n) (terms (d+1) t)=((0:Int):Rat)):=by
   show _=_;rw[hT, <-hkn,iq];rfl
  have hkb:((x.kn:Int)==0)=true:=by simp[iq]
  clear hW hE hB dz hM h0 hl h hsz hq hn hT hkn iq
  go_enter Tryz.func19,Tryz.ntmps19
  go_upto_region 1 with(fail)
  rw[<-HW.out];go_wp2_with (fail);refine aJ.out.mono ?_;rintro e w1 ⟨r,rfl,hr,ah⟩;obtain⟨⟨q0,q1,q2,f0,f1,f2⟩,⟨r0,r1,r2⟩,HF⟩:=Nl (M:=M) (w:=w) (HB.out.ext ah) (Mx.at (by omega)) (by omega) (HE.out.trans ah) hr Mx.sub;rw[<-HT.out]at HF;clear aJ hr ah c0 c1 c2 c3 g0 g1;go_wp2;exact aV (v:=.agg (bL r)) (by simp[results,Tryz.results19,go_sem,r0,r1,r2]) rfl HF.out
 ·have hkb:((x.kn:Int)==0)=false:=by simp;omega
  have h2:=RR.ext (RR.more (M':=Mx M w.heap.size (w.heap.size+2)) (Mx.more (aA _)) h) hE;obtain⟨b,off,y,jN,aT,N8,hb,⟨e0,e1,e2,e3⟩,hy⟩:=qoX h2 0 (by omega);rw[jN]at c3
  have Sg:jD A (d+1) t=1+pW (λi=>jD A d (t.2.2.2 i)+A+1) t.2.2.1:=by
   conv=>lhs;unfold jD
   rw[aj (by omega),aj (by omega)]
  have K3:jD A d (t.2.2.2 0)+A+1<=pW (λi=>jD A d (t.2.2.2 i)+A+1) t.2.2.1:=qA4 (λi=>jD A d (t.2.2.2 i)+A+1) (show 0<t.2.2.1 by omega);have aJ:=ae (ih _ (t.2.2.2 0) y a n cap X q W dz hy ((hq.more (Mx.more (aA _))).ext hE) (by omega))
  have HT:Hid (dR (aq q n) (terms (d+1) t)=dR (aq q n) (terms d (t.2.2.2 0))):=by
   show _=_;obtain⟨k,hk⟩:∃k,t.2.2.1=k+1:=⟨t.2.2.1-1,by omega⟩;rw[hT,hk,qB1]
  have qGk:0<x.kn:=by omega
  unfold maxLen at N8;rw[Nat.zero_mul,Nat.add_zero]at e0 e1 e2 e3;clear hW hE hB dz hM h0 hl h h2 hy hsz Sg K3 hq hn hT hkn iq
  go_enter Tryz.func19,Tryz.ntmps19
  go_upto_region 1 with(fail)
  rw[<-HW.out];go_wp2_with (fail);refine aJ.out.mono ?_;rintro e w1 ⟨r,rfl,hr,ah⟩;obtain⟨⟨q0,q1,q2,f0,f1,f2⟩,⟨r0,r1,r2⟩,HF⟩:=Nl (M:=M) (w:=w) (HB.out.ext ah) (Mx.at (by omega)) (by omega) (HE.out.trans ah) hr Mx.sub;rw[<-HT.out]at HF;clear aJ hr ah c0 c1 c2 c3 g0 g1 e0 e1 e2 e3;go_wp2;exact aV (v:=.agg (bL r)) (by simp[results,Tryz.results19,go_sem,r0,r1,r2]) rfl HF.out
theorem au.qfM{w:World}{g:Nat}{t:TypeId}{f:Nat->Value}(h:au w g t 3 f)(A B C:Value):au (((w.setCell ⟨g,0,none⟩ A).setCell ⟨g,1,none⟩ B).setCell ⟨g,2,none⟩ C) g t 3 (arr #[A,B,C]):=
 (((h.set 0 A).set 1 B).set 2 C).congr λi hi=>by
  have:i=0\/i=1\/i=2:=by omega
  rcases this with rfl|rfl|rfl<;>rfl
structure QC(G P:Nat)(s:RE)(Lm:Nat)(kb Xy kn kp:Nat)(ab ao:Nat)(r:RE)(ko:Nat)(y:PE)(w:World):Prop where
 sum:R3 G s w
 lv:w.cell? ⟨P,0,none⟩=some (.int .i64 ((Lm:Int)+1))
 cf:w.cell? ⟨P,3,none⟩=some (.slice (some ⟨kb,Xy,none⟩) kn kp)
 at':MG w ab ao r
 k0:w.cell? ⟨kb,ko,none⟩=some (.int .i64 y.lv)
 k1:w.cell? ⟨kb,ko+1,none⟩=some (.bool y.b)
 k2:w.cell? ⟨kb,ko+2,none⟩=some (.slice y.a y.n y.p)
 k3:w.cell? ⟨kb,ko+3,none⟩=some (.slice y.ka y.kn y.kp)
theorem QC.ext{G P:Nat}{s:RE}{Lm:Nat}{kb Xy kn kp:Nat}{ab ao:Nat}{r:RE}{ko:Nat}{y:PE}{w w':World}(h:QC G P s Lm kb Xy kn kp ab ao r ko y w)(he:Ext w w'):QC G P s Lm kb Xy kn kp ab ao r ko y w':=by
 obtain⟨h1,h2,h3,h4,h5,h6,h7,h8⟩:=h;have b2:=dM _ _ h2;have b5:=dM _ _ h5;exact⟨h1.ext he,by rw[he.cell b2];exact h2,by rw[he.cell b2];exact h3,h4.ext he,by rw[he.cell b5];exact h5,by rw[he.cell b5];exact h6,by rw[he.cell b5];exact h7,by rw[he.cell b5];exact h8⟩
theorem qwe(A d:Nat)(hA:1<=A)(ih:YP A d)(M:Nat->Prop)(t:RT (d+1))(x:PE)(a:Option Addr)(n cap:Nat)(X:Nat->RE)(q:Nat->Rat)(w:World)(hM:Mb M w)(h:RR M w (d+1) t (.int .i64 x.lv) (.bool x.b) (.slice x.a x.n x.p) (.slice x.ka x.kn x.kp))(hq:uJ M w A a n cap X q)(hsz:2*jD A (d+1) t+A+4<=1099511627776)(hl:1<=t.1/\t.1<=4)(hn:t.1<=n):
 Calls Tryz.prog 19 #[.agg (ag x),.slice a n cap] w (qY M w (dR (aq q n) (terms (d+1) t))):=by
 obtain⟨W,hW,hE,⟨c0,c1,c2,c3⟩,hB,dz⟩:=VG hM x;have h0:=h.1;simp only[Value.int.injEq,true_and]at h0;obtain⟨Lm,hLm⟩:∃Lm:Nat,x.lv=(Lm:Int)+1:=⟨(x.lv-1).toNat,by omega⟩
 have iH:¬((Lm:Int)+1)<=0:=by omega
 have qnk:¬4<((Lm:Int)+1):=by omega
 have qys:¬(n:Int)<((Lm:Int)+1):=by omega
 have hLn:Lm<n:=by omega
 rw[hLm]at c0
 have hkn:x.kn=t.2.2.1:=by
  obtain⟨_,_,_,ka,kp,hk⟩:=h.form;simp only[Value.slice.injEq]at hk;exact hk.2.1
 have hT:dR (aq q n) (terms (d+1) t)=hv (q Lm) (λi=>dR (aq q n) (terms d (t.2.2.2 i))) t.2.2.1 t.2.2.1:=by
  rw[qn9,qbV _ hl.1 hl.2]
  congr 1
  rw[show t.1.toNat-1=Lm by omega];unfold aq;rw[av hLn]
 have Sg:jD A (d+1) t=1+pW (λi=>jD A d (t.2.2.2 i)+A+1) t.2.2.1:=by
  conv=>lhs;unfold jD
  rw[aj (by omega),aj (by omega)]
 have Fh:∀k,rb A (aq q n k):=hq.rb hA;obtain⟨⟨ab,qbf,rfl,_⟩,_⟩:=hq.2 Lm hLn
 have qnL:rb A (q Lm):=by have:=Fh Lm;unfold aq at this;rw[av hLn]at this;exact this
 have Qb:Hid (∀j,j<=t.2.2.1->rb (1+pW (λi=>jD A d (t.2.2.2 i)+A+1) t.2.2.1-pW (λi=>jD A d (t.2.2.2 i)+A+1) (t.2.2.1-j)) (hv (q Lm) (λi=>dR (aq q n) (terms d (t.2.2.2 i))) t.2.2.1 j)):=
  qfw qnL _ (λi=>jD A d (t.2.2.2 i)) _ λi _=>qfv (λk _=>Fh k) d _
 have Z9:Hid (∀i,rb (jD A d (t.2.2.2 i)) (dR (aq q n) (terms d (t.2.2.2 i)))):=λi=>qfv (λk _=>Fh k) d _;have HW:=ae hW;have HE:=ae hE;have HB:=ae hB;have HM:=ae dz;have HTT:=ae hT;have lg:=ae (RR.ext (RR.more (M':=Mx M w.heap.size (w.heap.size+2)) (Mx.more (aA _)) h) hE);have HQ:=ae ((hq.more (M':=Mx M w.heap.size (w.heap.size+2)) (Mx.more (aA _))).ext hE);have Jh:Hid (W.cell? ⟨w.heap.size,0,none⟩=some (.int .i64 ((Lm:Int)+1))/\W.cell? ⟨w.heap.size,3,none⟩=some (.slice x.ka x.kn x.kp)):=⟨c0,c3⟩;have BX:=ae hsz;have qap:=ae Sg
 have qGj:x.kn<=1099511627776:=by rw[hkn];exact h.2.2.2.1
 have nE:=ae hkn;have aJ:=ae (OU 0 W dz (by omega) (by omega));have g0:=dM _ _ c0;have g1:=hB.lt;simp only at g0;clear hW hE hB dz hM h0 hl h hsz Sg hq hn hT hkn hLm Fh qnL
 go_enter Tryz.func19,Tryz.ntmps19
 go_upto_region 1 with(fail)
 rw[<-HW.out];go_wp2_with (fail);refine aJ.out.mono ?_;rintro e w1 ⟨s0,rfl,hs0,ah⟩;clear aJ c0 c1 c2 c3
 go_upto_region 10 with(fail)
 have aQ:Ext w1 (w1.alloc (.cells (bL s0) 32)):=(ai _).alloc _;have je:=au.aO w1 (bL s0) 32 3 rfl;have dI:=(hs0.more (M':=λg=>Mx M w.heap.size (w.heap.size+2) g\/g=w1.heap.size) (λg hg=>hg.imp id (λe=>by omega))).ext aQ;have hGg:w.heap.size+1<w1.heap.size:=bB g1 ah.size;obtain⟨G,hG⟩:∃G,G=w1.heap.size:=⟨_,rfl⟩;rw[<-hG]at je dI hGg;rw[<-hG];obtain⟨W2,gT⟩:∃W2,W2=w1.alloc (.cells (bL s0) 32):=⟨_,rfl⟩;rw[<-gT]at je dI aQ;rw[<-gT];have jm:Hid (Mb (λg=>Mx M w.heap.size (w.heap.size+2) g\/g=G) W2):=λg hg=>hg.elim (λh1=>(HM.out.ext (ah.trans aQ)) g h1) (λh1=>by have:=je.lt;omega);have aP:=ae ah;have nA:=ae je;have j5:=ae dI;have eY:Hid (Ext w1 W2):=aQ;have PM:=ae hG
 have VV:W.heap.size<=G:=by rw[hG];exact ah.size
 replace HQ:=ae (HQ.out.more (M':=λg=>Mx M w.heap.size (w.heap.size+2) g\/g=G) (λg hg=>hg.imp id (λe=>by omega)));replace lg:=ae (RR.more (M':=λg=>Mx M w.heap.size (w.heap.size+2) g\/g=G) (λg hg=>hg.imp id (λe=>by omega)) lg.out);obtain⟨d0,d3⟩:=Jh.out;rw[<-(ah.trans aQ).cell g0]at d0 d3;have g2:=bB g0 (ah.trans aQ).size;clear hG gT aQ dI je hs0 ah;go_wp2
 go_loopw [6] (λi wr=>∃(m:Nat)(s:RE),m<=x.kn/\i=.int .i64 ((m:Int)-1)/\Hid (au wr G 32 3 (arr (bL s)))/\Hid (iK (λg=>Mx M w.heap.size (w.heap.size+2) g\/g=G) wr s (hv (q Lm) (λi=>dR (aq q n) (terms d (t.2.2.2 i))) x.kn (x.kn-m)))/\Hid (Ext w1 wr)) (λi _=>(intOf i+1).toNat)
 case atStart=>exact⟨x.kn,s0,aA _,rfl,nA,(by show iK _ _ _ _;rw[Nat.sub_self];exact j5.out),eY⟩
 case round=>
  clear nA j5 d0 d3 g2;obtain⟨m,s,hm,rfl,nA,HS,LV⟩:=hrel;have lX:=aP.out.trans LV.out
  by_cases ug:m=0
  ·subst ug;have hr:=nA.out.r3;obtain⟨s0',s1',s2'⟩:=hr;have gl:=nA.out.lt;obtain⟨⟨q0,q1,q2,f0,f1,f2⟩,⟨r0,r1,r2⟩,HF⟩:=Nl (M:=M) (M':=λg=>Mx M w.heap.size (w.heap.size+2) g\/g=G) (w:=w) (HB.out.ext lX) (.inl (Mx.at (by omega))) (by omega) (HE.out.trans lX) HS.out (λg hg=>.inl (Mx.sub g hg));rw[Nat.sub_zero,nE.out, <-HTT.out]at HF;clear lX HS nA lg HQ Qb Z9 BX qap hm;go_wp2;exact aV (v:=.agg (bL s)) (by simp[results,Tryz.results19,go_sem,r0,r1,r2]) rfl HF.out
  ·obtain⟨k,rfl⟩:∃k,m=k+1:=⟨m-1,by omega⟩;rw[show((k+1:Nat):Int)-1=(k:Int) by omega];have dN:=lX.drew;obtain⟨b,off,y,jN,aT,N8,hb,⟨e0,e1,e2,e3⟩,hy⟩:=qoX (RR.ext lg.out dN) k (by rw[<-nE.out];omega);obtain⟨⟨ab',qE7,haa,Wd,We,ry,_,WQ⟩,hax⟩:=(HQ.out.ext dN).2 Lm hLn;simp only[Option.some.injEq,Addr.mk.injEq,and_true]at haa;obtain⟨rfl,rfl⟩:=haa;obtain⟨d0,d3⟩:=Jh.out;rw[<-dN.cell g0]at d0 d3;rw[jN]at d3;have dU:Hid (QC G w.heap.size s Lm b off x.kn x.kp ab (qbf+Lm*3) (X Lm) (off+k*4) y wr.drew):=⟨(nA.out.ext (ai _).drew).r3,d0,d3,WQ,e0,e1,e2,e3⟩;have GJ:Mb (λg=>Mx M w.heap.size (w.heap.size+2) g\/g=G) wr.drew:=λg hg=>hg.elim (λh1=>(HM.out.ext dN) g h1) (λh1=>by have:=nA.out.lt;rw[h1];exact this);have Om:=Qb.out (x.kn-(k+1)) (by rw[<-nE.out];omega);rw[<-nE.out]at Om;rw[show x.kn-(x.kn-(k+1))=k+1 by omega]at Om;have HSX:=ae ((HS.out.ext (ai _).drew).DZ Om);have AY:=qff (λi=>jD A d (t.2.2.2 i)+A+1) (show k+1<=x.kn from hm);obtain⟨F,hF⟩:∃F,F=1+pW (λi=>jD A d (t.2.2.2 i)+A+1) x.kn-pW (λi=>jD A d (t.2.2.2 i)+A+1) (k+1):=⟨_,rfl⟩;obtain⟨Kz,VX⟩:∃Kz,Kz=jD A d (t.2.2.2 k):=⟨_,rfl⟩;rw[<-hF]at HSX Om
   have hz1:F+Kz+A+1<=jD A (d+1) t/\1<=F:=by
    have h1:=qap.out;rw[<-nE.out]at h1;rw[h1,hF,VX];simp only[pW]at AY⊢;omega
   have hz0:=BX.out;have qaa:=ae (Z9.out k);rw[<-VX]at qaa;have HMU:=ae (qfy Om ((HQ.out.2 Lm hLn).2.rb hA));have HAX:=ae hax;have HY:=ae hy;have dQ:=ae GJ;have HQd:=ae (HQ.out.ext dN);have Ei:=ae (nA.out.ext (ai _).drew)
   have hz2:2*jD A d (t.2.2.2 k)+A+4<=1099511627776:=by rw[<-VX];omega
   have Jz:=ae hz2
   have Jw:Hid (hv (q Lm) (λi=>dR (aq q n) (terms d (t.2.2.2 i))) x.kn (x.kn-k)=hv (q Lm) (λi=>dR (aq q n) (terms d (t.2.2.2 i))) x.kn (x.kn-(k+1))*q Lm+dR (aq q n) (terms d (t.2.2.2 k))):=by
    show _=_;rw[show x.kn-k=(x.kn-(k+1))+1 by omega,hv,show x.kn-1-(x.kn-(k+1))=k by omega]
   have Eg:Hid (Ext w1 wr.drew):=LV.out.drew
   have hkk:k<x.kn:=by omega
   have Rs:F+A+2<=1099511627776:=by omega
   have hN2:F+A+Kz+2<=1099511627776:=by omega
   have hF1:=hz1.2;have Am:1<=Kz:=qaa.out.pos;generalize hv (q Lm) (λi=>dR (aq q n) (terms d (t.2.2.2 i))) x.kn (x.kn-(k+1))=hvj at*;unfold maxLen at N8 We;clear hF VX hz1 hz0 AY Om hax hy GJ HS nA Qb Z9 BX qap lX dN d0 d3 e0 e1 e2 e3 WQ hz2 jN
   go_upto_region 13 with(fail)
   refine fB (QC G w.heap.size s Lm b off x.kn x.kp ab (qbf+Lm*3) (X Lm) (off+k*4) y) 16 dU.out λhHeld=>?_;generalize wr.drew=wd at*;have kw1:IntKind.i64.wrap (Lm:Int)=Lm:=IntWalk.i64_in _ (by omega);have kw2:IntKind.i64.wrap (k:Int)=k:=IntWalk.i64_in _ (by omega);refine bH [0,1,2,3,4,5,6,8,9,10,11,12,13] ?_;(iterate 13 refine bG ?_ (hy:=by intro wS hSw;obtain⟨⟨S1,S2,S3⟩,S4,S5,⟨S6,S7,S8⟩,S9,oI,EA,Gi⟩:=hSw;go_simp;try with_reducible rfl));refine bI ?_
   (refine aI 7 λK hK=>?_);go_simp;(refine(qqC F A s (X Lm) hvj (q Lm) _ dQ.out HSX.out HAX.out hF1 hA Rs).mono ?_);rintro e_ wz ⟨u1,rfl,hu1,ah⟩;go_wp2_with (fail);(try clear ak);(refine ny hK (hHeld.ext ah) λak=>?_);clear hK K
   (refine aI 14 λK hK=>?_);go_simp;(refine(ih _ (t.2.2.2 k) y (some ⟨ab,qbf,none⟩) n cap X q _ (dQ.out.ext ah) (RR.ext HY.out ah) (HQd.out.ext ah) Jz.out).mono ?_);rintro e_ wz ⟨u2,rfl,om,az⟩;go_wp2_with (fail);(try clear ak);(refine ny hK (hHeld.ext (ah.trans az)) λak=>?_);clear hK K
   (refine aI 15 λK hK=>?_);go_simp;(refine(qqB (F+A) Kz u1 u2 (hvj*q Lm) (dR (aq q n) (terms d (t.2.2.2 k))) _ (dQ.out.ext (ah.trans az)) ((hu1.ext az).DZ HMU.out) (om.DZ qaa.out) (by omega) Am hN2).mono ?_);rintro e_ wz ⟨u3,rfl,Si,aN⟩;go_wp2_with (fail);(try clear ak);(refine ny hK (hHeld.ext ((ah.trans az).trans aN)) λak=>?_);clear hK K
   rename_i wz;have zS:=ae ((ah.trans az).trans aN);have Za:=Ei.out.ext zS.out;have qG:=Eg.out.trans zS.out;have HU3:=ae Si;clear ah az aN hu1 om Si ak hHeld;obtain⟨⟨q0,q1,q2,f0,f1,f2⟩,_,aT,bN⟩:=J3 (M':=λg=>Mx M w.heap.size (w.heap.size+2) g\/g=G) (w:=w1) (.bool u3.b) (.slice u3.a u3.n u3.p) (.slice u3.da u3.dn u3.dp) Za (.inr rfl) (by rw[PM.out];exact aA _) qG;have IW:=ae (Za.qfM (.bool u3.b) (.slice u3.a u3.n u3.p) (.slice u3.da u3.dn u3.dp));have qo:=ae (HU3.out.kp aT);rw[<-Jw.out]at qo;have I1:=ae bN;simp only[arr]at q0 q1 q2;clear aT bN Za qG HU3 HSX Ei HAX HY HQd dU
   (refine aI 16 λK hK=>?_);go_simp;(refine fz hK ?_);clear hK K
   go_wp2
   go_roundw
   case rel=>exact⟨k,u3,by omega,rfl,IW,qo,I1⟩
   case measure=>simp[intOf]
theorem qfI(A:Nat)(hA:1<=A):∀d,YP A d
 |0=>λM t x a n cap X q w hM h _ _=>h.elim
 |d+1=>λM t x a n cap X q w hM h hq hsz=>by
  by_cases h1:t.1<=0
  ·exact qwd A d M t x a n cap q w hM h h1
  ·by_cases h2:4<t.1
   ·exact qwc A d M t x a n cap q w hM h h2
   ·by_cases h3:(n:Int)<t.1
    ·exact qwf A d (qfI A hA d) M t x a n cap X q w hM h hq hsz (by omega) h3
    ·exact qwe A d hA (qfI A hA d) M t x a n cap X q w hM h hq hsz (by omega) (by omega)
def pm(v:Nat->Rat)(m:Mo):Nat->Rat
 |0=>1
 |k+1=>pm v m k*v k^(m.get (k+1)).toNat
def es(m:Mo):Nat->Nat
 |0=>0
 |k+1=>es m k+(m.get (k+1)).toNat
theorem qp2(v:Nat->Rat)(m:Mo):pm v m 4=mU v m:=by
 simp[pm,mU,Mo.get,Rat.one_mul]
theorem qvQ(m:Mo)(k:Nat)(h:k<=4):es m k<=es m 4:=by
 have:k=0\/k=1\/k=2\/k=3\/k=4:=by omega
 rcases this with rfl|rfl|rfl|rfl|rfl<;>simp[es]<;>omega
def D5(A:Nat)(t:Tm):Nat:=aF t.1.natAbs+1+A*es t.2 4
def vz(A:Nat):List Tm->Nat
 |[]=>1
 |t::l=>D5 A t+vz A l+1
theorem Yo(A:Nat):∀l,1<=vz A l
 |[]=>aA _
 |t::l=>by have:=Yo A l;unfold vz;omega
theorem qEx{A:Nat}{l:List Tm}{t:Tm}(h:t∈l):D5 A t+1<=vz A l:=by
 induction l with
 |nil=>cases h
 |cons s l ih=>
  have:=Yo A l;rcases List.mem_cons.1 h with rfl|h
  ·unfold vz;omega
  ·have:=ih h;unfold vz;omega
theorem qrE(A:Nat):∀(l:List Tm)(k:Nat),vz A (l.take k)<=vz A l
 |[],_=>by simp
 |t::l,0=>Yo A _
 |t::l,k+1=>by have:=qrE A l k;simp only[List.take_succ_cons,vz];omega
theorem qfA{B A:Nat}{y v:Rat}(hy:rb B y)(hv:rb A v):∀e,rb (B+A*e) (y*v^e)
 |0=>by simpa using hy
 |e+1=>by
  rw[Rat.pow_succ, <-Rat.mul_assoc];exact(qfy (qfA hy hv e) hv).mono (by rw[Nat.mul_add];omega)
theorem qfz{A:Nat}{v:Nat->Rat}(hv:∀k,rb A (v k))(c:Int)(m:Mo):∀k,rb (aF c.natAbs+1+A*es m k) ((c:Rat)*pm v m k)
 |0=>by simpa[pm,es]using qqF c
 |k+1=>by
  rw[pm, <-Rat.mul_assoc];exact(qfA (qfz hv c m k) (hv k) _).mono (by rw[es,Nat.mul_add];omega)
theorem qqG{A:Nat}{v:Nat->Rat}(hv:∀k,rb A (v k)):∀l:List Tm,rb (vz A l) (dR v l)
 |[]=>Lu
 |t::l=>by
  have h1:=qfz hv t.1 t.2 4;rw[qp2]at h1;exact(qqE h1 (qqG hv l)).mono (by simp only[vz,D5];omega)
theorem qB5{M':Nat->Prop}{W:World}{g:Nat}{t:TypeId}{f:Nat->Value}(r:RE)(hB:au W g t 3 f)(hg:M' g):
 (W.cell? ⟨g,0,none⟩=some (f 0)/\W.cell? ⟨g,1,none⟩=some (f 1)/\W.cell? ⟨g,2,none⟩=some (f 2)/\W.frozen? ⟨g,0,none⟩=false/\W.frozen? ⟨g,1,none⟩=false/\W.frozen? ⟨g,2,none⟩=false)/\
 ∃W2,W2=((W.setCell ⟨g,0,none⟩ (.bool r.b)).setCell ⟨g,1,none⟩ (.slice r.a r.n r.p)).setCell ⟨g,2,none⟩ (.slice r.da r.dn r.dp)/\au W2 g t 3 (arr (bL r))/\Kp M' W W2/\(∀w:World,w.heap.size<=g->Ext w W->Ext w W2)/\(∀h t' n f',h≠g->au W h t' n f'->au W2 h t' n f'):=by
 have hk:=((Kp.set M' W (p:=⟨g,0,none⟩) hg (.bool r.b)).trans (Kp.set M' _ (p:=⟨g,1,none⟩) hg (.slice r.a r.n r.p))).trans (Kp.set M' _ (p:=⟨g,2,none⟩) hg (.slice r.da r.dn r.dp));refine⟨⟨hB.cell (by omega),hB.cell (by omega),hB.cell (by omega),hB.frozen 0,hB.frozen 1,hB.frozen 2⟩,_,rfl,hB.qfM _ _ _,hk,λw hw he=>((he.set (p:=⟨g,0,none⟩) hw _).set (p:=⟨g,1,none⟩) hw _).set (p:=⟨g,2,none⟩) hw _,λh t' n f' hne hb=>((hb.kM (p:=⟨g,0,none⟩) hne _).kM (p:=⟨g,1,none⟩) hne _).kM (p:=⟨g,2,none⟩) hne _⟩
theorem qqq{M':Nat->Prop}{W:World}{g:Nat}{t:TypeId}{f:Nat->Value}{r:RE}{q:Rat}(hB:au W g t 3 f)(hg:M' g)(hr:iK M' W r q):
 (W.cell? ⟨g,0,none⟩=some (f 0)/\W.cell? ⟨g,1,none⟩=some (f 1)/\W.cell? ⟨g,2,none⟩=some (f 2)/\W.frozen? ⟨g,0,none⟩=false/\W.frozen? ⟨g,1,none⟩=false/\W.frozen? ⟨g,2,none⟩=false)/\
 ∃W2,W2=((W.setCell ⟨g,0,none⟩ (.bool r.b)).setCell ⟨g,1,none⟩ (.slice r.a r.n r.p)).setCell ⟨g,2,none⟩ (.slice r.da r.dn r.dp)/\au W2 g t 3 (arr (bL r))/\iK M' W2 r q/\Kp M' W W2/\(∀w:World,w.heap.size<=g->Ext w W->Ext w W2)/\(∀h t' n f',h≠g->au W h t' n f'->au W2 h t' n f'):=by
 have hk:=((Kp.set M' W (p:=⟨g,0,none⟩) hg (.bool r.b)).trans (Kp.set M' _ (p:=⟨g,1,none⟩) hg (.slice r.a r.n r.p))).trans (Kp.set M' _ (p:=⟨g,2,none⟩) hg (.slice r.da r.dn r.dp));refine⟨⟨hB.cell (by omega),hB.cell (by omega),hB.cell (by omega),hB.frozen 0,hB.frozen 1,hB.frozen 2⟩,_,rfl,hB.qfM _ _ _,hr.kp hk,hk,λw hw he=>((he.set (p:=⟨g,0,none⟩) hw _).set (p:=⟨g,1,none⟩) hw _).set (p:=⟨g,2,none⟩) hw _,λh t' n f' hne hb=>((hb.kM (p:=⟨g,0,none⟩) hne _).kM (p:=⟨g,1,none⟩) hne _).kM (p:=⟨g,2,none⟩) hne _⟩
theorem qxe{M0:Nat->Prop}{J:Nat}{W W':World}(h:Mb M0 W)(hk:Kp (λg=>M0 g\/g=J) W W'):Mb M0 W':=λg hg=>bB (h g hg) hk.1
def fl(l:List Tm):List Tm:=l.filter λt=>t.2.nn
theorem qrC(A:Nat):∀l:List Tm,vz A (fl l)<=vz A l
 |[]=>aA _
 |t::l=>by
  have ih:=qrC A l;unfold fl at ih⊢;rw[List.filter_cons]
  split
  ·simp only[vz];omega
  ·simp only[vz];omega
theorem qCt(M:Nat->Prop)(A:Nat)(hA:1<=A)(la:Option Addr)(lc:Nat)(l:List Tm)(a:Option Addr)(n cap:Nat)(X:Nat->RE)(q:Nat->Rat)(w:World)(hM:Mb M w)(h:eU M w (.slice la l.length lc) l)(hq:uJ M w A a n cap X q)(hsz:2*vz A l+A+4<=1099511627776):
 Calls Tryz.prog 8 #[.slice la l.length lc,.slice a n cap] w (qY M w (dR (aq q n) (fl l))):=by
 have aL:Ext w (w.alloc (.cells zR 32)):=(ai w).alloc _;have aW:=au.aO w zR 32 3 rfl;have bD:Mb (Mx M w.heap.size (w.heap.size+1)) (w.alloc (.cells zR 32)):=Mx.mb hM (by simp) (by simp);have h0:=(h.more (M':=Mx M w.heap.size (w.heap.size+1)) (Mx.more (aA _))).ext aL;have qK:=(hq.more (M':=Mx M w.heap.size (w.heap.size+1)) (Mx.more (aA _))).ext aL;have Fh:∀k,rb A (aq q n k):=hq.rb hA;have Qb:=ae (λ(i:Nat)=>qqG Fh (fl (l.take i)));have HRP:=ae (λ(c:Int)(m:Mo)(k:Nat)=>qfz Fh c m k);have HRA:=ae Fh;have BX:=ae hsz;have hlen:=h.len;have dY:=hq.1;generalize fK:w.alloc (.cells zR 32)=W0 at*;have iY:=ae fK;have aJ:=ae (OU 0 W0 bD (by omega) (by omega));have dO:=ae aW;have dC:=ae aL;have iE:=ae bD;have HL:=ae h0;have HQ:=ae qK;clear fK aL aW bD h0 qK h hq hM Fh hsz
 go_enter Tryz.func8,Tryz.ntmps8
 go_upto_region 1 with(fail)
 rw[iY.out];go_wp2_with (fail);refine aJ.out.mono ?_;rintro e w1 ⟨s0,rfl,hs0,ah⟩;clear aJ
 go_upto_region 2 with(fail)
 have aQ:Ext w1 (w1.alloc (.cells (bL s0) 32)):=(ai _).alloc _;have je:=au.aO w1 (bL s0) 32 3 rfl;have dI:=(hs0.more (M':=λg=>Mx M w.heap.size (w.heap.size+1) g\/g=w1.heap.size) (λg hg=>hg.imp id (λe=>by omega))).ext aQ;have VV:W0.heap.size<=w1.heap.size:=ah.size;have Wq:=dO.out.lt;obtain⟨G,hG⟩:∃G,G=w1.heap.size:=⟨_,rfl⟩;rw[<-hG]at je dI VV;rw[<-hG];obtain⟨W2,gT⟩:∃W2,W2=w1.alloc (.cells (bL s0) 32):=⟨_,rfl⟩;rw[<-gT]at je dI aQ;rw[<-gT];have nA:=ae je;have j5:=ae dI;have eY:Hid (Ext w1 W2):=aQ;have aP:=ae ah;have PM:=ae hG;replace HQ:=ae (HQ.out.more (M':=λg=>Mx M w.heap.size (w.heap.size+1) g\/g=G) (λg hg=>hg.imp id (λe=>by omega)));replace HL:=ae (HL.out.more (M':=λg=>Mx M w.heap.size (w.heap.size+1) g\/g=G) (λg hg=>hg.imp id (λe=>by omega)));clear hG gT aQ dI je hs0 ah;go_wp2
 go_loopw [6] (λi wr=>∃(k:Nat)(s:RE),k<=l.length/\i=.int .i64 k/\Hid (au wr G 32 3 (arr (bL s)))/\Hid (iK (λg=>Mx M w.heap.size (w.heap.size+1) g\/g=G) wr s (dR (aq q n) (fl (l.take k))))/\Hid (Ext w1 wr)) (λi _=>l.length-(intOf i).toNat)
 case atStart=>exact⟨0,s0,bu _,rfl,nA,(by show iK _ _ _ _;exact j5.out),eY⟩
 case round=>
  clear nA j5 eY;obtain⟨k,s,hk,rfl,nA,HS,eY⟩:=hrel;have lX:=aP.out.trans eY.out
  by_cases hlt:k<l.length
  ·obtain⟨b,off,c,m,b1,a1,n1,p1,AX,hlc,hlm,hb,x0,x1,x2,x3,x4,x5,hI,K6,pQ⟩:=(HL.out.ext lX).at hlt;have hval:=λW=>qCs m W;subst AX;unfold maxLen at hlm
   by_cases pR:¬m.nn=true
   ·have Od:m.nn=false:=by simpa using pR
    rw[Od]at hval;have Ew:=ae hval
    have pG:Hid (iK (λg=>Mx M w.heap.size (w.heap.size+1) g\/g=G) wr s (dR (aq q n) (fl (l.take (k+1))))):=by
     show iK _ _ _ _
     have e:fl (l.take (k+1))=fl (l.take k):=by
      rw[K6];unfold fl;rw[List.filter_append,List.filter_cons_of_neg (by simpa using pR)];simp
     rw[e];exact HS.out
    clear hval hI K6 pQ pR Od HS;go_wp2_with (fail);refine(Ew.out _).mono ?_;rintro e w3 ⟨rfl,aN⟩;have Po:=ae (nA.out.ext aN);have Qe:=ae (pG.out.ext aN);have PD:=ae (eY.out.trans aN);clear aN Ew x0 x1 x2 x3 x4 x5 hb nA pG eY lX;go_wp2
    go_roundw
    case rel=>exact⟨k+1,s,by omega,by go_num,Po,Qe,PD⟩
    case measure=>simp[intOf];omega
   have pR:m.nn=true:=Decidable.not_not.1 pR;have Je:Hid (m.nn=true):=pR;rw[pR]at hval;have Ew:=ae hval;clear hval pR;have GJ:Mb (λg=>Mx M w.heap.size (w.heap.size+1) g\/g=G) wr:=λg hg=>hg.elim (λh1=>(iE.out.ext lX) g h1) (λh1=>by have:=nA.out.lt;rw[h1];exact this);have dQ:=ae GJ;have HI:=ae hI;have xk:=ae K6;have hms:=qEx (A:=A) pQ;have hvt:=aK (qrC A (l.take k)) (qrE A l k);have BN:=ae hms;have Qm:=ae hvt;have bM:=ae lX;clear GJ hI K6 pQ hms hvt lX;go_wp2_with (fail);refine(Ew.out _).mono ?_;rintro e w3 ⟨rfl,aN⟩;have fP:=ae (qfu b1 a1 n1 p1 c w3 (dQ.out.ext aN) (HI.out.ext aN));rw[<-aN.cell hb]at x0 x1 x2 x3 x4 x5;have vY:=bB hb aN.size;have dK:=ae aN;clear hb aN Ew;go_wp2_with (fail);refine fP.out.mono ?_;rintro e w4 ⟨sx,rfl,hsx,bg⟩;clear fP;rw[<-bg.cell vY]at x0 x1 x2 x3 x4 x5;have oO:=bB vY bg.size
   go_upto_region 7 with(fail)
   have aQ:=(ai w4).alloc (.cells (bL sx) 32);have kg:=au.aO w4 (bL sx) 32 3 rfl;have gB:=dK.out.trans bg;have qco:=bM.out.trans gB;have K8:=(hsx.more (M':=λg=>(Mx M w.heap.size (w.heap.size+1) g\/g=G)\/g=w4.heap.size) (λg hg=>hg.imp id (λe=>by omega))).ext aQ;have Dt:=((HS.out.ext gB).more (M':=λg=>(Mx M w.heap.size (w.heap.size+1) g\/g=G)\/g=w4.heap.size) (λg hg=>hg.imp id (λe=>by omega)));have Oh:=(HQ.out.more (M':=λg=>(Mx M w.heap.size (w.heap.size+1) g\/g=G)\/g=w4.heap.size) (λg hg=>hg.imp id (λe=>by have:=qco.size;omega)));have hM5:=dQ.out.ext gB;have qci:=nA.out.ext gB;have hGH:G<w4.heap.size:=qci.lt;obtain⟨H,hH⟩:∃H,H=w4.heap.size:=⟨_,rfl⟩;rw[<-hH]at kg K8 Dt Oh hGH oO;rw[<-hH];obtain⟨W5,Kn⟩:∃W5,W5=w4.alloc (.cells (bL sx) 32):=⟨_,rfl⟩;rw[<-Kn]at kg K8 aQ;rw[<-Kn];have Zx:=ae hH;have HBx:=ae kg
   have Ab:Hid (iK (λg=>(Mx M w.heap.size (w.heap.size+1) g\/g=G)\/g=H) W5 sx ((c:Rat)*pm (aq q n) m 0)):=by
    show iK _ _ _ _;rw[pm,Rat.mul_one];exact K8
   have mo:=ae Dt;have P9:=ae Oh;have qi:=ae hM5;have qgY:=ae qci;have qsh:=ae qco;have qsj:=ae (eY.out.trans gB);have qhh:Hid (Ext w4 W5):=aQ
   have HXE:Hid (∀j,j<4->∃ez:Nat,(m.get (j+1)).toNat=ez/\w4.cell? ⟨b,off+k*6+2+j,none⟩=some (.int .i64 (ez:Int))):=λj hj=>by
    obtain⟨n1,n2,n3,n4⟩:=(Mo.uZ m).1 Je.out
    have:j=0\/j=1\/j=2\/j=3:=by omega
    rcases this with rfl|rfl|rfl|rfl
    ·exact⟨_,rfl,by rw[show((m.get (0+1)).toNat:Int)=m.a by show((m.a).toNat:Int)=m.a;omega];exact x2⟩
    ·exact⟨_,rfl,by rw[show((m.get (1+1)).toNat:Int)=m.b by show((m.b).toNat:Int)=m.b;omega];exact x3⟩
    ·exact⟨_,rfl,by rw[show((m.get (2+1)).toNat:Int)=m.c by show((m.c).toNat:Int)=m.c;omega];exact x4⟩
    ·exact⟨_,rfl,by rw[show((m.get (3+1)).toNat:Int)=m.d by show((m.d).toNat:Int)=m.d;omega];exact x5⟩
   clear Kn hH aQ kg K8 Dt Oh hM5 qci qco gB bg hsx x0 x1 x2 x3 x4 x5;go_wp2
   go_loopw [8] (λi wr=>∃(j:Nat)(sy:RE),j<=4/\i=.int .i64 j/\Hid (au wr H 32 3 (arr (bL sy)))/\Hid (iK (λg=>(Mx M w.heap.size (w.heap.size+1) g\/g=G)\/g=H) wr sy ((c:Rat)*pm (aq q n) m j))/\Hid (Ext w4 wr)) (λi _=>4-(intOf i).toNat)
   case atStart=>exact⟨0,sx,bu _,rfl,HBx,Ab,qhh⟩
   case round=>
    clear HBx Ab qhh;obtain⟨j,sy,hj,rfl,wQ,HY,tH⟩:=hrel
    by_cases AR:j<4
    ·have qcM:Mb (λg=>(Mx M w.heap.size (w.heap.size+1) g\/g=G)\/g=H) wr:=λg hg=>hg.elim (λh1=>(qi.out.ext tH.out) g h1) (λh1=>by have:=wQ.out.lt;rw[h1];exact this);have qsR:=ae qcM;have oD:=ae (OU 0 wr qcM (by omega) (by omega));clear qcM;go_wp2_with (fail);refine oD.out.mono ?_;rintro e w6 ⟨sv,rfl,hsv,fM⟩;clear oD
     go_upto_region 11 with(fail)
     have aQ:=(ai w6).alloc (.cells (bL sv) 32);have yN:=au.aO w6 (bL sv) 32 3 rfl;have qcq:=tH.out.trans fM;have qcp:=qsh.out.trans qcq;have Xb:=(hsv.more (M':=λg=>((Mx M w.heap.size (w.heap.size+1) g\/g=G)\/g=H)\/g=w6.heap.size) (λg hg=>hg.imp id (λe=>by omega))).ext aQ;have Xf:=((HY.out.ext fM).more (M':=λg=>((Mx M w.heap.size (w.heap.size+1) g\/g=G)\/g=H)\/g=w6.heap.size) (λg hg=>hg.imp id (λe=>by omega))).ext aQ;have WO:=(P9.out.more (M':=λg=>((Mx M w.heap.size (w.heap.size+1) g\/g=G)\/g=H)\/g=w6.heap.size) (λg hg=>hg.imp id (λe=>by have:=qcp.size;omega))).ext (qcp.trans aQ);have qck:=(wQ.out.ext fM).ext aQ;have hM7:=qsR.out.ext (fM.trans aQ);have qcr:=qcq.trans aQ;have hHJ:H<w6.heap.size:=(wQ.out.ext fM).lt;obtain⟨J,hJ⟩:∃J,J=w6.heap.size:=⟨_,rfl⟩;rw[<-hJ]at yN Xb Xf WO hHJ;rw[<-hJ];obtain⟨W7,GN⟩:∃W7,W7=w6.alloc (.cells (bL sv) 32):=⟨_,rfl⟩;rw[<-GN]at yN Xb Xf WO qck hM7 qcr;rw[<-GN];have Ub:=ae yN;have Ql:=ae Xb;have U2:=ae Xf;have ZZ:=ae WO;have Uc:=ae qck;have zW:=ae hM7;have Un:=ae qcr;clear hJ GN aQ yN Xb Xf WO qck hM7 qcr qcq qcp fM hsv HY wQ tH
     by_cases AU:j<n
     case' pos=>
      obtain⟨⟨ab,ao,rfl,Wd,We,ry,_,y0,y1,y2⟩,hax⟩:=ZZ.out.2 j AU;unfold maxLen at We;obtain⟨⟨q0,q1,q2,f0,f1,f2⟩,W8,Aw,qkF,aT,qmt,qmb⟩:=qB5 (M':=λg=>((Mx M w.heap.size (w.heap.size+1) g\/g=G)\/g=H)\/g=J) (X j) Ub.out (.inr rfl)
      have HV8:Hid (kF (λg=>((Mx M w.heap.size (w.heap.size+1) g\/g=G)\/g=H)\/g=J) W8 A (X j) (aq (λk=>q k) n j)):=by
       show kF _ _ _ _ _;unfold aq;rw[av AU];exact hax.kp aT
      have Y8:=ae qkF;have HY8:=ae (U2.out.kp aT);have Y9:=ae (qmb H _ _ _ (by omega) Uc.out);have Zm:=ae (qmt w4 (by rw[<-Zx.out];omega) Un.out);have BL:=ae (qxe zW.out aT);have Qp:=ae Aw
      have qd1:(j:Int)<(n:Int):=by omega
      simp only[arr]at q0 q1 q2;clear hax Aw qkF aT qmt qmb Ub Ql U2 ZZ Uc zW Un
      go_upto_region 13 with(fail)
      rw[<-Qp.out];clear q0 q1 q2 f0 f1 f2 y0 y1 y2 ry Wd We Qp qd1;generalize X j=vr at*
     case' neg=>
      have qd1:¬(j:Int)<(n:Int):=by omega
      have HV8:Hid (kF (λg=>((Mx M w.heap.size (w.heap.size+1) g\/g=G)\/g=H)\/g=J) W7 A sv (aq (λk=>q k) n j)):=by
       show kF _ _ _ _ _;unfold aq;rw[aj AU];exact Ql.out.DZ (Lu.mono hA)
      have Y8:=Ub;have HY8:=U2;have Y9:=Uc;have Zm:=Un;have BL:=zW;clear Ub Ql U2 ZZ Uc zW Un
      go_upto_region 13 with(fail)
      clear qd1;generalize sv=vr at*;generalize W7=W8 at*
     all_goals
      obtain⟨ez,Wn,Ib⟩:=HXE.out j AR;have qtA:=ae Ib;have I6:=ae Wn
      have qiF:Hid (iK (λg=>((Mx M w.heap.size (w.heap.size+1) g\/g=G)\/g=H)\/g=J) W8 sy ((c:Rat)*pm (aq q n) m j*aq (λk=>q k) n j^0)):=by
       show iK _ _ _ _;rw[Rat.pow_zero,Rat.mul_one];exact HY8.out
      have qmq:es m j+ez<=es m 4:=by
       have:=qvQ m (j+1) (by omega);rw[es,Wn]at this;exact this
      have FR:=ae qmq
      have qFW:ez<=1099511627776:=by
       have h1:=BN.out;have h2:=BX.out;have h3:1*es m 4<=A*es m 4:=fq _ hA;unfold D5 at h1;have h4:aF c.natAbs+1+A*es m 4+1<=vz A l:=h1;omega
      clear Ib Wn HY8 qmq;go_wp2
      go_loopw [10] (λi wr=>∃(e:Nat)(s2:RE),e<=ez/\i=.int .i64 e/\Hid (au wr J 32 3 (arr (bL vr)))/\Hid (kF (λg=>((Mx M w.heap.size (w.heap.size+1) g\/g=G)\/g=H)\/g=J) wr A vr (aq (λk=>q k) n j))/\Hid (au wr H 32 3 (arr (bL s2)))/\Hid (iK (λg=>((Mx M w.heap.size (w.heap.size+1) g\/g=G)\/g=H)\/g=J) wr s2 ((c:Rat)*pm (aq q n) m j*aq (λk=>q k) n j^e))/\Hid (Ext w4 wr)) (λi _=>ez-(intOf i).toNat)
      case atStart=>exact⟨0,sy,bu _,rfl,Y8,HV8,Y9,qiF,Zm⟩
      case round=>
       clear Y8 HV8 Y9 qiF Zm;obtain⟨e,s2,Wn,rfl,Pp,HV,wQ,HY,tH⟩:=hrel
       have qdz:b<w4.heap.size:=by rw[<-Zx.out];exact oO
       have gD:b<wr.heap.size:=bB qdz tH.out.size;have Ib:=qtA.out;rw[<-tH.out.cell qdz]at Ib;clear qdz
       by_cases qGq:e<ez
       ·have qGr:(e:Int)<(ez:Int):=by omega
        obtain⟨y0,y1,y2⟩:=wQ.out.r3;obtain⟨v0,v1,v2⟩:=Pp.out.r3;have gH:=wQ.out.lt;have gJ:=Pp.out.lt;have Rn:Mb (λg=>((Mx M w.heap.size (w.heap.size+1) g\/g=G)\/g=H)\/g=J) wr:=λg hg=>hg.elim (λh1=>h1.elim (λh2=>(qi.out.ext tH.out) g h2) (λh2=>by rw[h2];exact gH)) (λh1=>by rw[h1];exact gJ);have bA:=qfA (HRP.out c m j) (HRA.out j) e
        have bJ:aF c.natAbs+1+A*es m j+A*e<=D5 A (c,m):=by
         have h1:=FR.out;have h2:A*(es m j+e)<=A*es m 4:=Nat.mul_le_mul_left _ (by omega);rw[Nat.mul_add]at h2;unfold D5;show _<=aF c.natAbs+1+A*es m 4;omega
        have eG:=BN.out;have gY:=BX.out;have Qs:=ae (HY.out.DZ bA);have ym:=ae (qqC (aF c.natAbs+1+A*es m j+A*e) A s2 vr _ _ wr Rn Qs.out HV.out (by omega) hA (by omega));clear Rn bA bJ eG gY Qs;go_wp2_with (fail);refine ym.out.mono ?_;rintro e_ w9 ⟨s3,rfl,mJ,mG⟩;clear ym;obtain⟨⟨q0,q1,q2,f0,f1,f2⟩,W10,Rx,Ra,Rv,aT,hex,Kt⟩:=qqq (M':=λg=>((Mx M w.heap.size (w.heap.size+1) g\/g=G)\/g=H)\/g=J) (wQ.out.ext mG) (.inl (.inr rfl)) mJ;have Po:=ae Ra
        have Qe:Hid (iK (λg=>((Mx M w.heap.size (w.heap.size+1) g\/g=G)\/g=H)\/g=J) W10 s3 ((c:Rat)*pm (aq q n) m j*aq (λk=>q k) n j^(e+1))):=by
         show iK _ _ _ _;rw[Rat.pow_succ, <-Rat.mul_assoc];exact Rv
        have qr7:=ae (Kt J _ _ _ (by omega) (Pp.out.ext mG));have HVn:=ae ((HV.out.ext mG).kp aT);have PD:=ae (hex w4 (by rw[<-Zx.out];exact aA _) (tH.out.trans mG));have qat:=ae Rx;simp only[arr]at q0 q1 q2;clear mJ mG Rx Ra Rv aT hex Kt wQ Pp HV HY tH y0 y1 y2 v0 v1 v2 gH gJ Ib gD;go_wp2;rw[<-qat.out]
        go_roundw
        case rel=>exact⟨e+1,s3,by omega,by go_num,qr7,HVn,Po,Qe,PD⟩
        case measure=>simp[intOf];omega
       ·obtain rfl:e=ez:=by omega
        have HYN:Hid (iK (λg=>(Mx M w.heap.size (w.heap.size+1) g\/g=G)\/g=H) wr s2 ((c:Rat)*pm (aq q n) m (j+1))):=by
         show iK _ _ _ _;rw[pm,I6.out, <-Rat.mul_assoc];exact HY.out.more (λg hg=>.inl (.inl hg))
        clear Pp HV HY;go_wp2
        go_roundw
        case rel=>exact⟨j+1,s2,by omega,by go_num,wQ,HYN,tH⟩
        case measure=>simp[intOf];omega
    ·obtain rfl:j=4:=by omega
     have qcj:=qgY.out.ext tH.out;obtain⟨z0,z1,z2⟩:=qcj.r3;obtain⟨y0,y1,y2⟩:=wQ.out.r3;have gG:=qcj.lt;have gH:=wQ.out.lt;have Rn:Mb (λg=>(Mx M w.heap.size (w.heap.size+1) g\/g=G)\/g=H) wr:=λg hg=>hg.elim (λh2=>(qi.out.ext tH.out) g h2) (λh1=>by rw[h1];exact gH);have bA:=Qb.out k;have bJ:=HRP.out c m 4;have eG:=BN.out;have gY:=BX.out;have dW:=Qm.out;have vR:=Yo A (fl (l.take k));have O5:=ae (qqB (vz A (fl (l.take k))) (D5 A (c,m)) s sy _ _ wr Rn ((mo.out.ext tH.out).DZ bA) (HY.out.DZ bJ) vR (by unfold D5;omega) (by omega));clear Rn bA bJ eG gY dW vR qcj;go_wp2_with (fail);refine O5.out.mono ?_;rintro e_ w9 ⟨s3,rfl,mJ,mG⟩;clear O5;obtain⟨⟨q0,q1,q2,f0,f1,f2⟩,W10,Rx,Ra,Rv,aT,hex,Kt⟩:=qqq (M':=λg=>(Mx M w.heap.size (w.heap.size+1) g\/g=G)\/g=H) ((qgY.out.ext tH.out).ext mG) (.inl (.inr rfl)) mJ;have Po:=ae Ra
     have Qe:Hid (iK (λg=>Mx M w.heap.size (w.heap.size+1) g\/g=G) W10 s3 (dR (aq q n) (fl (l.take (k+1))))):=by
      show iK _ _ _ _
      have e:fl (l.take (k+1))=fl (l.take k)++[(c,m)]:=by
       rw[xk.out];unfold fl;rw[List.filter_append,List.filter_cons_of_pos (by exact Je.out)];rfl
      rw[e,qka];simp only[dR];rw[<-qp2,Rat.add_zero];exact Rv.more (λg hg=>.inl (.inl hg))
     have PD:=ae (hex w1 (by rw[PM.out];exact aA _) ((qsj.out.trans tH.out).trans mG));have qat:=ae Rx;simp only[arr]at q0 q1 q2;clear mJ mG Rx Ra Rv aT hex Kt wQ HY tH y0 y1 y2 z0 z1 z2 gG gH nA HS eY;go_wp2;rw[<-qat.out]
     go_roundw
     case rel=>exact⟨k+1,s3,by omega,by go_num,Po,Qe,PD⟩
     case measure=>simp[intOf];omega
  ·obtain rfl:k=l.length:=by omega
   obtain⟨z0,z1,z2⟩:=nA.out.r3;have gG:=nA.out.lt;obtain⟨⟨q0,q1,q2,f0,f1,f2⟩,⟨r0,r1,r2⟩,HF⟩:=Nl (M:=M) (M':=λg=>Mx M w.heap.size (w.heap.size+1) g\/g=G) (w:=w) (dO.out.ext lX) (.inl (Mx.at (by omega))) (aA _) (dC.out.trans lX) HS.out (λg hg=>.inl (Mx.sub g hg));rw[List.take_length]at HF;clear nA HS eY lX;go_wp2;exact aV (v:=.agg (bL s)) (by simp[results,Tryz.results8,go_sem,r0,r1,r2]) rfl HF.out
end Go.Proofs.YtaafefeafonhdaaGreat
namespace Go.Proofs.YtaafefeafonhdaaGreat
open Go.ChangeShapes Go.WideShapes Go.ChangeAt Go.RowKit Go.Deep
section
end
namespace recpolyEval
end recpolyEval
end Go.Proofs.YtaafefeafonhdaaGreat
