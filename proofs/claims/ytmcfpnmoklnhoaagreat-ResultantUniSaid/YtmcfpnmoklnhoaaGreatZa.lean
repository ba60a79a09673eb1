/- Za -/
import Derived.Test.YtmcfpnmoklnhoaaGreatXb
import Derived.Test.YtmcfpnmoklnhoaaGreatYb
import Derived.Test.YtmcfpnmoklnhoaaGreatTf
import Derived.Test.YtmcfpnmoklnhoaaGreatWa
import Derived.Test.YtmcfpnmoklnhoaaGreatYd
import Derived.Test.YtmcfpnmoklnhoaaGreatVe
import Derived.Test.YtmcfpnmoklnhoaaGreatMq
set_option linter.unusedVariables false
set_option maxRecDepth 100000
set_option maxHeartbeats 400000000
set_option linter.unusedSimpArgs false
namespace Go.Proofs.YtmcfpnmoklnhoaaGreat
open Go.RowKit
theorem qeS{J:Nat}(h1:1<=J)(h4:J<=4){m n nf ng:Nat}{zf zg:Nat->Int}(hf:∀i,m<i->aP nf zf i=0)(hg:∀i,n<i->aP ng zg i=0):af (SJ J 0 m n (aU J nf zf) (aU J ng zg)) (cst (Rz m n (aP nf zf) (aP ng zg))):=by
 obtain⟨D,rfl⟩:∃D,J=D+1:=⟨J-1,by omega⟩;refine tY (iD h1 h4 (kE _ _ _) (kE _ _ _) _ _ _) (mO _) λx=>?_
 have hp:∀(k:Nat)(z:Nat->Int)(N:Nat),(∀i,N<i->aP k z i=0)->pv (D+1) x (aU (D+1) k z)=⟨aP k z,gZ (x D) (aP k z) (N+1)⟩:=λk z N h=>by
  unfold pv;rw[qvd x h1 h4,qAq (N:=N+1) λi hi=>h i (by omega),Nat.add_sub_cancel]
  congr 1
  funext i
  exact(fe x (EU h4 k z i)).trans (nK x _)
 rw[Dt h1 h4 x (kE _ _ _) (kE _ _ _),hp nf zf m hf,hp ng zg n hg,show ev x (cst (Rz m n (aP nf zf) (aP ng zg)))=Rz m n (aP nf zf) (aP ng zg)from nK x _];show dS (x D) 0 m n _ _=_
 by_cases h0:m+n=0
 ·obtain rfl:m=0:=by omega
  obtain rfl:n=0:=by omega
  rfl
 ·exact qt4 (F:=⟨aP nf zf,gZ (x D) (aP nf zf) (m+1)⟩) (P:=⟨aP ng zg,gZ (x D) (aP ng zg) (n+1)⟩) ⟨hf,rfl⟩ ⟨hg,rfl⟩ (by omega)
theorem qua{n:Nat}{a:Nat->Nat->Int}{s:Int}(h:∀c,c<n+1->s∣a 0 c):s∣dR (n+1) a:=by
 refine⟨_,qji (b:=λr c=>if r=0 then a 0 c/s else a r c) s (λc hc=>?_) λr c=>?_⟩
 ·rw[ai rfl];exact(Int.mul_ediv_cancel' (h c hc)).symm
 ·rw[ah (by omega)]
theorem qA8{n:Nat}{a:Nat->Int}(hn:1<=n)(ha:∀i,n<i->a i=0):a n∣Rz n (n-1) a (ig a):=by
 obtain⟨m,rfl⟩:∃m,n=m+1:=⟨n-1,by omega⟩;rw[Nat.add_sub_cancel];unfold Rz dS DD dt
 have l1:((bl 0 ⟨a,a 0⟩ (m-0)++bl 0 ⟨ig a,ig a 0⟩ (m+1-0)).map (Pv.vec (m+1+m-0-1) 0)).length=(m+m)+1:=by
  rw[List.length_map,List.length_append,IV,IV];omega
 rw[l1];refine qua λc hc=>?_;rw[Nat.sub_zero,Nat.sub_zero,Nat.sub_zero,qbf (by omega)]
 have hd:∀i,m+1<=i+1->a (m+1)∣ig a i:=λi hi=>by
  unfold ig
  by_cases e:i=m
  ·rw[e];exact Int.dvd_mul_left _ _
  ·rw[ha (i+1) (by omega),Int.mul_zero];exact Int.dvd_zero _
 split
 ·rename_i h;rw[TN (by omega)];show a (m+1)∣if m+1+m-1<m-1-c then 0 else a (m+1+m-1-(m-1-c));rw[ah (by omega)]
  by_cases e:c=0
  ·rw[show m+1+m-1-(m-1-c)=m+1 by omega];exact Int.dvd_refl _
  ·rw[show m+1+m-1-(m-1-c)=m+1+c by omega,ha (m+1+c) (by omega)];exact Int.dvd_zero _
 ·rename_i h
  by_cases h0:m=0
  ·subst h0
   have e:c=0:=by omega
   subst e;show a 1∣(0:Int)^0*ig a 0;rw[Int.pow_zero,Int.one_mul];exact hd 0 (by omega)
  ·rw[TN (by omega)];show a (m+1)∣if m+1+m-1<m+1-1-(c-m)then 0 else ig a (m+1+m-1-(m+1-1-(c-m)));rw[ah (by omega)];exact hd _ (by omega)
def dZ(n:Nat)(a:Nat->Int):Int:=yl n*Rz n (n-1) a (ig a)/a n
theorem qjb{n:Nat}{a:Nat->Int}(hn:1<=n)(ha:∀i,n<i->a i=0):yl n*Rz n (n-1) a (ig a)=dZ n a*a n:=
 (Int.ediv_mul_cancel (Int.dvd_trans (qA8 hn ha) (Int.dvd_mul_left _ _))).symm
theorem qqb(n:Nat):(yl n).natAbs=1:=by unfold yl;split<;>rfl
theorem qt5{n:Nat}{a:Nat->Int}(hn:1<=n)(ha:∀i,n<i->a i=0)(h0:a n≠0):dZ n a=0↔Rz n (n-1) a (ig a)=0:=by
 have h:=qjb hn ha
 have hs:yl n≠0:=λe=>by have:=qqb n;rw[e]at this;cases this
 refine⟨λe=>?_,λe=>?_⟩
 ·rw[e,Int.zero_mul]at h;exact(Int.mul_eq_zero.1 h).resolve_left hs
 ·rw[e,Int.mul_zero]at h;exact(Int.mul_eq_zero.1 h.symm).resolve_right h0
theorem quv{a c:Int}(hc:c≠0):aH a.natAbs<=aH (a*c).natAbs:=by
 rw[Int.natAbs_mul];exact jB (Nat.le_mul_of_pos_right _ (by omega))
section
variable{J m n nf ng A:Nat}{zf zg:Nat->Int}(h1:1<=J)(h4:J<=4)
include h1 h4
theorem qbP(fZ:∀m n:Nat,n<=m->m<=6->vP m n 6=true)(hf:tz zf nf=m+1)(hg:tz zg ng=n+1)(KQ:nf<=7)(wT:ng<=7)(df:∀i,i<nf->aH (zf i).natAbs<=A)(dg:∀i,i<ng->aH (zg i).natAbs<=A)(hA:A<=900):Gn J m n 6 (aU J nf zf) (aU J ng zg):=
 ⟨h1,h4,(TL h1 h4 KQ df).mono (aI _) (by omega),(TL h1 h4 wT dg).mono (aI _) (by omega),zV h1 h4 (pG hf).1,zV h1 h4 (pG hg).1,yQ h1 h4 hf,yQ h1 h4 hg,by have:=iR zf nf;omega,by have:=iR zg ng;omega,λh=>fZ _ _ h (by have:=iR zf nf;omega),λh=>fZ _ _ h (by have:=iR zg ng;omega)⟩
theorem qA7(hf:tz zf nf=m+1)(hg:tz zg ng=n+1)(KQ:nf<=7)(wT:ng<=7)(df:∀i,i<nf->aH (zf i).natAbs<=A)(dg:∀i,i<ng->aH (zg i).natAbs<=A):aH (Rz m n (aP nf zf) (aP ng zg)).natAbs<=(n+m)*(A+2)+1:=by
 have hs:=qeS h1 h4 (pG hf).2 (pG hg).2;have h5:=VS (J:=J) (j:=0) (m:=m) (n:=n) (TL h1 h4 KQ df).a (TL h1 h4 wT dg).a (by have:=iR zf nf;have:=iR zg ng;omega);have h6:=qiY (SJ J 0 m n (aU J nf zf) (aU J ng zg)) Mo.zero;rw[hs Mo.zero]at h6
 have e:aL (cst (Rz m n (aP nf zf) (aP ng zg))) Mo.zero=Rz m n (aP nf zf) (aP ng zg):=by simp[cst,aL]
 rw[e]at h6;exact aR (jB h6) h5
theorem qp7{k:Nat}(H:Gn J m n 6 (aU J nf zf) (aU J ng zg))(hf:tz zf nf=m+1)(hg:tz zg ng=n+1)(hk:GK J (aU J nf zf) (aU J ng zg) k):Rz m n (aP nf zf) (aP ng zg)=0↔1<=k:=by
 obtain⟨z,hz,dz⟩:=hk
 have WS:k<=min m n:=by
  rcases Nat.le_total n m with h|h
  ·rw[Nat.min_eq_right h];obtain⟨z',k',Ed,QD,hk',_⟩:=QJ H.h1 H.h4 H.sf.n H.sg.n h H.zf H.zg H.df H.dg;rw[hz.uniq h1 h4 (kE _ _ _) (kE _ _ _) Ed dz QD];exact hk'
  ·rw[Nat.min_eq_left h];obtain⟨z',k',Ed,QD,hk',_⟩:=QJ H.h1 H.h4 H.sg.n H.sf.n h H.zg H.zf H.dg H.df;rw[hz.uniq h1 h4 (kE _ _ _) (kE _ _ _) Ed.swap dz QD];exact hk'
 rw[<-qAK H hz dz WS];have hs:=qeS h1 h4 (pG hf).2 (pG hg).2;refine⟨λe=>?_,λh=>?_⟩
 ·rw[e]at hs;exact hs.trans GY
 ·exact Qv (l:=cst (Rz m n (aP nf zf) (aP ng zg))) (af.refl _) ((hs.symm.trans h).trans GY.symm)
end
def MO(g o:Nat)(x:IE)(w:World):Prop:=JC w g o x/\g<w.heap.size
theorem MO.ext{g o:Nat}{x:IE}{w w':World}(h:MO g o x w)(he:Ext w w'):MO g o x w':=⟨h.1.ext h.2 he,dH h.2 he.size⟩
theorem qCn(M:Nat->Prop)(a:Option Addr)(n cap:Nat)(X:Nat->IE)(z:Nat->Int)(A:Nat)(w:World)(hM:Mb M w)(h:bC M w a n cap X z)(hn:n<=1000)(hA:∀i,i<n->aH (z i).natAbs<=A)(hA9:A<=1000):
 Calls Tryz.prog 51 #[.slice a n cap] w (xE M w (tz z n-1) (ig z)):=by
 obtain⟨i0,hi,hz0,hz1,hz2⟩:=info_parts Tryz.K5;have HR:=ae h;have HM:=ae hM;have HA:=ae hA;have CT:=ae (Jm M a n cap X z w h);clear h hM hA
 go_enter Tryz.func51,Tryz.ntmps51
 go_wp2_with (fail);refine CT.out.mono ?_;rintro e w1 ⟨rfl,az⟩;have aS:=ae az;have hle:=iR z n;have Hz:=HR.out.2.1;have iB:=HR.out.2.2.1;obtain⟨m,hm⟩:∃m,m=tz z n:=⟨_,rfl⟩;have gK:Hid (tz z n=m):=hm.symm;rw[<-hm]at hle⊢;clear hm CT az
 by_cases h0:m=0
 ·subst h0
  have HF:Hid (xE M w (tz z n-1) (ig z) (.returned (.slice none 0 0)) w1):=by
   rw[gK.out];exact⟨none,λ_=>⟨false,none,0,0⟩,rfl,bC.nil _ _ _ _,aS.out⟩
  go_wp2;go_ret;exact HF.out
 obtain⟨k,rfl⟩:∃k,m=k+1:=⟨m-1,by omega⟩
 have RI:(((k+1:Nat):Int)==0)=false:=by simp;omega
 have j5:((k+1:Nat):Int)-1=(k:Int):=by omega
 have hkc:k+1<=cap:=by omega
 have H1:=ae ((HR.out.ext aS.out).cut hle);clear h0
 go_wp2_with (first|(at_make;refine LK _ rfl _ _ _ rfl 30 i0 (.agg #[.bool false,.slice none 0 0]) 2 Tryz.underlying23 hi hz0 hz1 .i64 .i64 _ _ k rfl rfl ?c4 ?c5 ?c2 ?c3 ?_))
 case c2=>rw[hz2];omega
 case c3=>unfold maxLen;omega
 case c4=>go_num
 case c5=>go_num
 have cO:=qa1 w1 k 30;have az:=(aA w1).alloc (.cells (madeCells (Value.agg #[.bool false,.slice none 0 0]).cells (k*2)) 30);intro w2 iQ;replace iQ:w1.alloc (.cells (madeCells (Value.agg #[.bool false,.slice none 0 0]).cells (k*2)) 30)=w2:=iQ.out.symm;rw[iQ]at cO az;obtain⟨go,Rq⟩:∃go,go=w1.heap.size:=⟨_,rfl⟩;rw[<-Rq]at cO⊢
 have IG:w.heap.size<=go:=by have:=aS.out.size;omega
 have aZ:=ae (aS.out.trans az);have HO:Hid (UK (λb=>M b\/b=go) w2 go k k λi=>if i<0 then ig z i else 0):=(UK.zero cO λ_ _=>rfl).congr λi _=>(ah (by omega)).symm;have HF:Hid (bC (λb=>M b\/b=go) w2 a (k+1) cap X z):=(H1.out.more λb hb=>hb.imp id λe=>by omega).ext az;have Qa:=ae IG;have fA:=cO.lt;clear iQ cO az aS H1 Rq hi hz0 hz1 hz2 IG;go_wp2
 go_loopw [16] (λiv wr=>∃j:Nat,j<=k/\iv=.int .i64 (j:Int)/\Hid (UK (λb=>M b\/b=go) wr go k k λi=>if i<j then ig z i else 0)/\Hid (bC (λb=>M b\/b=go) wr a (k+1) cap X z)/\Hid (Ext w wr)) (λiv _=>k-(intOf iv).toNat)
 case atStart=>exact⟨0,bK _,rfl,HO,HF,aZ⟩
 case round=>
  clear HO HF aZ;obtain⟨j,hj,rfl,HO,HF,HE⟩:=hrel
  by_cases hlt:j<k
  ·have DX:(j:Int)<(k:Int):=by omega
   have WO:(0:Int)<=(j:Int):=iw _;have hjw:IntKind.i64.wrap ((j:Int)+1)=(j:Int)+1:=IntWalk.i64_in _ (by omega)
   have qEr:(0:Int)<=(j:Int)+1:=by omega
   have hj1:(j:Int)+1<(k:Int)+1:=by omega
   have hj2:((j:Int)+1).toNat=j+1:=by omega
   have Ak:=ae hlt;obtain⟨b,off,rfl,FO,KG,Om⟩:=HF.out.kI (i:=j+1) (by omega);generalize X (j+1)=x at FO Om;have bI:=(aA wr).drew;have hS:MO b (off+(j+1)*2) x wr.drew:=MO.ext ⟨FO,KG⟩ bI;have ZX:=ae (HO.out.ext bI);have mE:Hid (IX (λb=>M b\/b=go) wr.drew x (z (j+1))):=Om.ext bI;have HFD:=ae (HF.out.ext bI);have jO:=ae (HE.out.trans bI);have qx1:b<wr.drew.heap.size:=hS.2;have Q6:Mb (λb=>M b\/b=go) wr.drew:=pz (HM.out.ext jO.out) ZX.out.lt;have eP:=ae Q6;clear bI HO HF HE FO Om KG hlt Q6
   go_upto_region 8 with(fail)
   refine gB (MO b (off+(j+1)*2) x) 12 (by kernel_rfl) hS (λhHeld=>?_);clear hS;generalize wr.drew=wd at*
   have C10:Hid (∀(W:World)(u:IE),Ext wd W->IX (λb=>M b\/b=go) W u ((j:Int)+1)->Calls Tryz.prog 65 #[.agg #[.bool x.b,.slice x.a x.n x.p],.agg #[.bool u.b,.slice u.a u.n u.p]] W (lg (λb=>M b\/b=go) W (z (j+1)*((j:Int)+1)))):=λW u he hu=>
    La x u _ _ W (eP.out.ext he) (mE.out.ext he) hu (by
     have e1:=qbx (z:=(j:Int)+1) (by omega);have e2:=HA.out (j+1) (by omega)
     omega)
   (refine cB [0,1,2,3,4,5,6,7,8] ?_;(iterate 9 (refine bZ (v:=?_) ?_ ?_;rotate_left 1;(intro wS hSw;obtain⟨⟨S1,S2⟩,S3⟩:=hSw;go_simp;try with_reducible rfl);(try simp only[Act.put,aB,aC,aD])));refine cK ?_);((refine aO 9 ?_;intro K hK);go_simp;(refine(ofI ((j:Int)+1) wd eP.out (by omega)).mono ?_);rintro e_ u2 ⟨u,rfl,hu,bM⟩;go_wp2_with (fail);(try clear ag);(have ag:=hHeld.ext bM);(refine hK.out _ _ (λ_=>ag) ?_);clear hK K;(try simp only[Act.put,aB,aC,aD]));((refine aO 10 ?_;intro K hK);go_simp;(refine(C10.out _ u bM hu).mono ?_);rintro e_ u3 ⟨v,rfl,hv,fM⟩;go_wp2_with (fail);(try clear ag);(have ag:=hHeld.ext (bM.trans fM));(refine hK.out _ _ (λ_=>ag) ?_);clear hK K;(try simp only[Act.put,aB,aC,aD]));(refine cB [11] ?_;(iterate 1 (refine bZ (v:=?_) ?_ ?_;rotate_left 1;(intro wS hSw;obtain⟨⟨S1,S2⟩,S3⟩:=hSw;go_simp;try with_reducible rfl);(try simp only[Act.put,aB,aC,aD])));refine cK ?_);have lh:=bM.trans fM;have oq:=ZX.out.ext lh;obtain⟨yy,⟨k0,k1⟩,_⟩:=oq.kI Ak.out (aI _);have fV:=oq.wL (j*2);have fP:=oq.wL (j*2+1);have mH:=oq.lt;have bD:=Kp.bW (M:=λb=>M b\/b=go) (w:=u3) (g:=go) (.inr rfl) (j*2) (.bool v.b) (.slice v.a v.n v.p)
   have HO6:Hid (UK (λb=>M b\/b=go) (bW u3 go (j*2) (.bool v.b) (.slice v.a v.n v.p)) go k k λi=>if i<j+1 then ig z i else 0):=(oq.put (.inr rfl) Ak.out hv).congr λi _=>by
    by_cases e:i=j
    ·rw[ai e,ai (by omega),e];exact Int.mul_comm _ _
    ·rw[ah e]
     by_cases e2:i<j
     ·rw[ai e2,ai (by omega)]
     ·rw[ah e2,ah (by omega)]
   have HF6:=ae ((HFD.out.ext lh).kp bD);have fT:=ae ((jO.out.trans lh).bW Qa.out (j*2) (.bool v.b) (.slice v.a v.n v.p));obtain⟨W6,gV⟩:∃W6,bW u3 go (j*2) (.bool v.b) (.slice v.a v.n v.p)=W6:=⟨_,rfl⟩;rw[gV]at HO6 HF6 fT;unfold bW at gV;have oZ:=ae gV;clear oq hu hv bM fM lh gV bD ZX mE HFD jO eP C10 hHeld ag;((refine aO 12 ?_;intro K hK);go_simp;(refine hK.out _ _ (λh=>absurd rfl h) ?_);clear hK K;refine dX ?_)
   go_upto_region 9 with(fail)
   rw[oZ.out];clear k0 k1 fV fP mH oZ qx1;go_wp2
   go_roundw
   case rel=>exact⟨j+1,Ak.out,by go_num,HO6,HF6,fT⟩
   case measure=>have:=Ak.out;simp[intOf];omega
  ·obtain rfl:j=k:=by omega
   obtain⟨Xo,NQ⟩:=HO.out.row (M':=M) (λg h=>.inl (.inl h)) (HM.out.new Qa.out) (by omega)
   have dI:Hid (xE M w (tz z n-1) (ig z) (.returned (.slice (some ⟨go,0,none⟩) j j)) wr):=by
    rw[gK.out,Nat.add_sub_cancel]
    exact⟨_,Xo,rfl,⟨NQ.1,NQ.2.1,NQ.2.2.1,NQ.2.2.2.1,λi hi=>by
    obtain⟨b,off,e,hb,hm,c0,c1,hv⟩:=NQ.2.2.2.2 i hi;simp only[ai hi]at hv
    exact⟨b,off,e,hb,hm,c0,c1,hv⟩⟩,HE.out⟩
   clear HO HF HE NQ;go_wp2;go_ret;exact dI.out
theorem qqN(Jd:Nat)(j1:1<=Jd)(j4:Jd<=4)(M:Nat->Prop)(x y:gD)(m n D:Nat)(w:World)(hM:Mb M w)(hx:x.ok M w)(hy:y.ok M w)(tx:tz x.z x.n=m+1)(ty:tz y.z y.n=n+1)(hm:m<=6)(hn:n<=6)(KZ:x.n<=1000)(K4:y.n<=1000)(G8:1<=D)(hD:D*15^7<=1000000000)(dx:∀i,i<x.n->aH (x.z i).natAbs<=D)(dy:∀i,i<y.n->aH (y.z i).natAbs<=D):
 Calls Tryz.prog 50 #[.slice x.a x.n x.p,.slice y.a y.n y.p] w λe w'=>∃k:Nat,e=.returned (.bool (decide (k=0)))/\GK Jd (aU Jd x.n x.z) (aU Jd y.n y.z) k/\Ext w w':=by
 have CG:=ae (qCj Jd j1 j4 M x y m n D w hM hx hy tx ty hm hn KZ K4 G8 hD dx dy);clear hM hx hy tx ty hm hn KZ K4 G8 hD dx dy
 go_enter Tryz.func50,Tryz.ntmps50
 go_wp2_with (fail);refine CG.out.mono ?_;rintro e w1 ⟨g,k,rfl,hg,tg,hk,az⟩;have CD:=ae (LJ M g.a g.n g.p g.X g.z w1 hg);rw[tg]at CD;have aS:=ae az;have HK:=ae hk
 have HD:Hid (((k:Int)==0)=decide (k=0)):=by
  show _=_
  by_cases h:k=0
  ·subst h;rfl
  ·rw[decide_eq_false h,beq_eq_false_iff_ne];omega
 clear CG hg tg hk az;go_wp2_with (fail);refine CD.out.mono ?_;rintro e w2 ⟨rfl,aJ⟩;have aZ:=ae (aS.out.trans aJ);have hD:=HD.out;obtain⟨b,hb⟩:∃b,decide (k=0)=b:=⟨_,rfl⟩;rw[hb]at hD;have HB:=ae hb;clear aJ CD aS HD hb;go_wp2;go_ret;exact⟨k,by rw[HB.out];rfl,HK.out,aZ.out⟩
theorem quY{n:Nat}{a:Nat->Int}(ha:∀i,n<i->a i=0):aP n (ig a)=ig a:=funext λi=>by
 unfold aP
 by_cases hi:i<n
 ·rw[ai hi]
 ·rw[ah hi];unfold ig;rw[ha (i+1) (by omega),Int.mul_zero]
def rU(nf:Nat)(zf:Nat->Int)(ng:Nat)(zg:Nat->Int):Int:=if tz zf nf=0\/tz zg ng=0 then 0 else Rz (tz zf nf-1) (tz zg ng-1) (aP nf zf) (aP ng zg)
def dU(nf:Nat)(zf:Nat->Int):Int:=if tz zf nf<=1 then 0 else dZ (tz zf nf-1) (aP nf zf)
def dE(nf:Nat)(zf:Nat->Int):Int:=if tz zf nf<=1 then 12 else 0
section
variable{J nf ng:Nat}{zf zg:Nat->Int}(h1:1<=J)(h4:J<=4)(fZ:∀m n:Nat,n<=m->m<=6->vP m n 6=true)(KQ:nf<=6)(df:∀i,i<nf->aH (zf i).natAbs<=10)
include h1 h4 fZ KQ df
theorem qqP(wT:ng<=6)(dg:∀i,i<ng->aH (zg i).natAbs<=11)(M:Nat->Prop)(x y:PE)(w:World)(hM:Mb M w)(hx:aN M w 4 x (aU J nf zf))(hy:aN M w 4 y (aU J ng zg)):
 Calls Tryz.prog 81 #[.agg (ak x),.agg (ak y),.int .i64 (J:Int)] w (lI M w 4 (cst (rU nf zf ng zg)) 0):=by
 unfold rU
 by_cases h0:tz zf nf=0\/tz zg ng=0
 ·rw[ai h0];refine(qA3 h1 h4 (kE _ _ _) (kE _ _ _) (h0.imp (λe=>(TM h1 h4).2 e) λe=>(TM h1 h4).2 e) (qe6 h1 h4 (by omega)) (qe6 h1 h4 (by omega)) M x y w hM hx hy).mono ?_;rintro e w' ⟨v,rfl,hv,he⟩;exact⟨v,rfl,hv.dh GY.symm,he⟩
 ·rw[ah h0];obtain⟨m,hm⟩:∃m,tz zf nf=m+1:=⟨tz zf nf-1,by omega⟩;obtain⟨n,hn⟩:∃n,tz zg ng=n+1:=⟨tz zg ng-1,by omega⟩;have H:=qbP h1 h4 fZ hm hn (by omega) (by omega) (λi hi=>aR (df i hi) (by decide)) dg (by decide);have hs:=qeS h1 h4 (pG hm).2 (pG hn).2;refine(H.qpR (by decide) M x y w hM hx hy).mono ?_;rintro e w' ⟨v,rfl,hv,he⟩;exact⟨v,rfl,hv.dh (by rw[hm,hn];exact hs),he⟩
theorem qCp{n:Nat}(hn:1<=n)(ht:tz zf nf=n+1)(M:Nat->Prop)(x:PE)(w:World)(hM:Mb M w)(hx:aN M w 4 x (aU J nf zf)):
 Calls Tryz.prog 49 #[.agg (ak x),.int .i64 (J:Int)] w (lI M w 4 (cst (dZ n (aP nf zf))) 0):=by
 obtain⟨D,rfl⟩:∃D,J=D+1:=⟨J-1,by omega⟩;obtain⟨jY,DR⟩:=pG ht
 have hn5:n<=5:=by have:=iR zf nf;omega
 have pW:=yQ (L:=D+1) h1 h4 ht;have fQ:=zV (L:=D+1) h1 h4 jY;have hsz:=TL (L:=D+1) h1 h4 (show nf<=7 by omega) df;have hdz:=quY DR
 have htz:tz (ig (aP nf zf)) n=(n-1)+1:=by
  have e:ig (aP nf zf) (n-1)=(((n-1:Nat):Int)+1)*aP nf zf n:=by unfold ig;rw[show n-1+1=n by omega]
  rw[LH hn (by rw[e];exact Int.mul_ne_zero (by omega) jY)];omega
 have jZ:∀i,i<n->aH (ig (aP nf zf) i).natAbs<=11:=λi hi=>by
  unfold ig;rw[Int.natAbs_mul];have e1:=pQ ((i:Int)+1).natAbs (aP nf zf (i+1)).natAbs;have e2:=qbx (z:=(i:Int)+1) (by omega);have e3:=xh df (i+1);omega
 have qwC:af (aQ (D+1) n (jc (D+1) (aU (D+1) nf zf))) (aU (D+1) n (ig (aP nf zf))):=tT _ _ _ _ λi _=>by
  have h:=((EU h4 nf zf (i+1)).aF (af.refl (cst ((i+1:Nat):Int)))).trans (GX _ _)
  have e:(if i+1<nf then zf (i+1)else 0)*((i+1:Nat):Int)=ig (aP nf zf) i:=by
   unfold ig aP;rw[Int.mul_comm,show((i+1:Nat):Int)=(i:Int)+1 by omega]
  rw[e]at h;exact h
 have hrd:=qA7 (A:=11) h1 h4 ht htz (show nf<=7 by omega) (by omega) (λi hi=>aR (df i hi) (by decide)) jZ
 have hR:∀(M':Nat->Prop) wk y,Mb M' wk->(∀g,M' g->M g\/w.heap.size<=g)->Ext w wk->aN M' wk 4 y (aU (D+1) n (ig (aP nf zf)))->Calls Tryz.prog 81 #[.agg (ak x),.agg (ak y),.int .i64 ((D+1:Nat):Int)] wk (lI M' wk 4 (cst (Rz n (n-1) (aP nf zf) (ig (aP nf zf)))) 0):=λM' wk y kN hm he hy=>by
  have:=qqP h1 h4 fZ KQ df (show n<=6 by omega) jZ M' x y wk kN ((hx.more hm).ext he) hy;unfold rU at this;rw[ah (by omega),ht,htz,hdz,Nat.add_sub_cancel,Nat.add_sub_cancel]at this;exact this
 rw[hdz]at hrd;have hm:=qjb hn DR;have qxM:aH (Rz n (n-1) (aP nf zf) (ig (aP nf zf))).natAbs<=150:=aR hrd (by have:=eB 13 (show n-1+n<=9 by omega);omega)
 have hq:aH (dZ n (aP nf zf)).natAbs<=200:=by
  refine aR (quv jY) ?_;rw[<-hm,Int.natAbs_mul,qqb,Nat.one_mul];omega
 have qdd:af (ck (D+1) (n:Int) (aU (D+1) nf zf)) (cst (aP nf zf n)):=EU h4 nf zf n;refine qpN M x ((D+1:Nat):Int) n (aU (D+1) n (ig (aP nf zf))) (cst (Rz n (n-1) (aP nf zf) (ig (aP nf zf)))) (ck (D+1) (n:Int) (aU (D+1) nf zf)) _ w hM ⟨SN h1 h4,⟨hn,by omega⟩,λwk he=>Oy M x _ (D+1) (n:Int) wk h1 h4 (kE _ _ _) (.inr ⟨fQ,n,pW,rfl⟩) (hM.ext he) (hx.ext he).pi,λM' wk kN hm he=>?_,hR,λ_ M' wk y kN hy=>?_,λM' wk kN hm he=>?_,λM' wk y z kN hy hz=>?_⟩
 ·refine(qol M' x _ ((D+1:Nat):Int) 6 wk kN ((hx.more hm).ext he).pi hsz.d (by decide) (by decide) (aR hsz.a (by decide))).mono ?_;rintro e w' ⟨v,s,rfl,hv,kC,wP⟩;rcases kC with⟨q|q,_⟩|⟨_,J',b,k0,_,_,hb,rfl⟩
  ·exact absurd q fQ
  ·exact absurd ⟨by omega,by omega⟩ q
  ·obtain rfl:J'=D+1:=by omega
   obtain rfl:b=n:=G5 (kE _ _ _) fQ hb pW;exact⟨v,rfl,hv.dh qwC,wP⟩
 ·exact Yn M' y _ 0 wk kN hy.pi (by rw[qef];exact aR (Nat.succ_le_succ qxM) (by decide)) (qbn _) (by decide)
 ·exact qon M' x _ (D+1) n 6 wk h1 h4 (kE _ _ _) fQ pW kN ((hx.more hm).ext he).pi hsz.d (by decide) (by decide) (aR hsz.a (by decide))
 ·refine qvh jY M' y z wk kN ((qBf n _).trans ?_) qdd hq (aR (xh df n) (by decide)) hy hz;rw[hm];exact af.refl _
theorem qCo(M:Nat->Prop)(x:PE)(w:World)(hM:Mb M w)(hx:aN M w 4 x (aU J nf zf)):
 Calls Tryz.prog 49 #[.agg (ak x),.int .i64 (J:Int)] w (lI M w 4 (cst (dU nf zf)) (dE nf zf)):=by
 unfold dU dE
 by_cases h0:tz zf nf<=1
 ·rw[ai h0,ai h0]
  have key:∃z:Int,O8 J (aU J nf zf) z/\z<1:=by
   by_cases hz:tz zf nf=0
   ·exact⟨-1,.inl ⟨(TM h1 h4).2 hz,rfl⟩,by decide⟩
   ·have ht:tz zf nf=0+1:=by omega
    exact⟨0,.inr ⟨zV h1 h4 (pG ht).1,0,yQ h1 h4 ht,rfl⟩,by decide⟩
  obtain⟨z,hz,hz1⟩:=key;refine(qAH M x J z _ w hM h1 h4 (kE _ _ _) hz hz1 hx).mono ?_;rintro e w' ⟨v,rfl,hv,he⟩;exact⟨v,rfl,hv.dh GY.symm,he⟩
 ·rw[ah h0,ah h0];exact qCp h1 h4 fZ KQ df (n:=tz zf nf-1) (by omega) (by omega) M x w hM hx
end
theorem GL.qpU{W:World}{a:Option Addr}{n cap:Nat}{X:Nat->IE}(h:GL W a n cap X)(k:Nat)(hk:k<=6)(hn:n<=10)(hX:∀i,i<n->(X i).n<=k):∃z,bC M0 W a n cap X z/\∀i,i<n->(z i).natAbs<4294967296^k:=by
 obtain⟨h1,h2,h3,h4⟩:=h
 have qE:∀i,i<n->∃z:Int,dQ M0 W (.bool (X i).b) (.slice (X i).a (X i).n (X i).p) z/\z.natAbs<4294967296^k:=λi hi=>by
  obtain⟨b,off,_,_,_,_,h5⟩:=h4 i hi;obtain⟨d,hd⟩:=h5.2 (by have:=hX i hi;omega);refine⟨dw (X i).b (nv d (X i).n),⟨(X i).b,nv d (X i).n,rfl,⟨_,d,hd,rfl⟩,rfl⟩,?_⟩;rw[uJ];exact dH (qQ d _ hd.2.1) (Nat.pow_le_pow_right (by omega) (hX i hi))
 obtain⟨z,hz⟩:=pick 0 qE;refine⟨z,⟨by omega,h1,h2,h3,λi hi=>?_⟩,λi hi=>(hz i hi).2⟩;obtain⟨b,off,e,hb,c0,c1,_⟩:=h4 i hi;exact⟨b,off,e,hb,λh=>h,c0,c1,(hz i hi).1⟩
def MQ(g7:Nat)(x:PE)(g9:Nat)(y:PE)(g11:Nat)(u:IE)(g12:Nat)(d:IE)(g14:Nat)(r:PE)(w:World):Prop:=P4 w g7 x/\P4 w g9 y/\GI g11 u w/\GI g12 d w/\P4 w g14 r
theorem MQ.ext{g7:Nat}{x:PE}{g9:Nat}{y:PE}{g11:Nat}{u:IE}{g12:Nat}{d:IE}{g14:Nat}{r:PE}{w w':World}(h:MQ g7 x g9 y g11 u g12 d g14 r w)(he:Ext w w'):MQ g7 x g9 y g11 u g12 d g14 r w':=⟨h.1.ext he,h.2.1.ext he,h.2.2.1.ext he,h.2.2.2.1.ext he,h.2.2.2.2.ext he⟩
theorem quX{n nf:Nat}{z:Nat->Int}(hn:1<=n)(ht:tz z nf=n+1):aP n (ig z)=ig (aP nf z)/\tz (ig z) n=(n-1)+1:=by
 have hle:=iR z nf;obtain⟨jY,DR⟩:=pG ht
 have e:∀i,i<n->ig z i=ig (aP nf z) i:=λi hi=>by unfold ig aP;rw[ai (by omega)]
 refine⟨funext λi=>?_,?_⟩
 ·by_cases hi:i<n
  ·rw[<-e i hi];exact ai hi
  ·refine(ah hi).trans ?_;unfold ig;rw[DR (i+1) (by omega),Int.mul_zero]
 ·have e1:ig z (n-1)=(((n-1:Nat):Int)+1)*aP nf z n:=by rw[e _ (by omega)];unfold ig;rw[show n-1+1=n by omega]
  rw[LH hn (by rw[e1];exact Int.mul_ne_zero (by omega) jY)];omega
theorem quW{n D:Nat}{z:Nat->Int}(hn:n<=100)(h:∀i,i<n->aH (z (i+1)).natAbs<=D)(i:Nat)(hi:i<n):aH (ig z i).natAbs<=D+1:=by
 unfold ig;rw[Int.natAbs_mul];have e1:=pQ ((i:Int)+1).natAbs (z (i+1)).natAbs;have e2:=qbx (z:=(i:Int)+1) (by omega);have e3:=h i hi;omega
theorem qqk{z s:Int}(hs:z.sign=s){b:Bool}(hb:b=true↔z=0):(s==0)=b:=by
 subst hs
 cases b with
 |true=>rw[hb.1 rfl];rfl
 |false=>
  have h0:z≠0:=λe=>by cases hb.2 e
  rw[beq_eq_false_iff_ne];exactλe=>h0 (Int.sign_eq_zero_iff_zero.1 e)
theorem qyO(fZ:∀m n:Nat,n<=m->m<=6->vP m n 6=true)(a1:Option Addr)(n1 c1:Nat)(X1:Nat->IE)(a2:Option Addr)(n2 c2:Nat)(X2:Nat->IE)(L:Int)(w:World)(h1:GL w a1 n1 c1 X1)(h2:GL w a2 n2 c2 X2):
 Calls Tryz.prog 7 #[.slice a1 n1 c1,.slice a2 n2 c2,.int .i64 L] w λe w'=>e=.returned (.bool true)/\Ext w w':=by
 have xk:=ae h1;have HG2:=ae h2;have Al:=ae fZ;clear h1 h2 fZ
 go_enter Tryz.func7,Tryz.ntmps7
 go_wp2_with (fail);refine(qyM _).mono ?_;rintro e w1 ⟨rfl,az⟩;have aS:=ae az;clear az;go_wp2_with (fail);refine(qob a1 n1 c1 X1 6 w w1 xk.out aS.out).mono ?_;rintro e w2 ⟨b,rfl,hf,aJ⟩;have aZ:=ae (aS.out.trans aJ);clear aJ aS
 cases b with
 |false=>
  clear hf;go_wp2;go_ret;exact⟨rfl,aZ.out⟩
 |true=>
 have Ex:=ae (hf.1 rfl);clear hf;go_wp2_with (fail);refine(qob a2 n2 c2 X2 6 w w2 HG2.out aZ.out).mono ?_;rintro e w3 ⟨b,rfl,hf,bg⟩;have dM:=ae (aZ.out.trans bg);clear bg aZ
 cases b with
 |false=>
  clear hf;go_wp2;go_ret;exact⟨rfl,dM.out⟩
 |true=>
 have dI:=ae (hf.1 rfl);clear hf
 by_cases qI:1<=L/\L<=4
 case neg=>
  have CI:Hid (∀W,Calls Tryz.prog 42 #[.int .i64 L] W λe w'=>e=.returned (.bool false)/\w'=W):=λW=>qoc L false ⟨λh=>absurd h (by decide),λh=>absurd h qI⟩ W;clear qI;go_wp2_with (fail);refine(CI.out _).mono ?_;rintro e w4 ⟨rfl,rfl⟩;go_wp2;go_ret;exact⟨rfl,dM.out⟩
 have CI:Hid (∀W,Calls Tryz.prog 42 #[.int .i64 L] W λe w'=>e=.returned (.bool true)/\w'=W):=λW=>qoc L true ⟨λ_=>qI,λ_=>rfl⟩ W;obtain⟨D,vG,l7⟩:∃D:Nat,L=(D:Int)+1/\D+1<=4:=⟨(L-1).toNat,by omega,by omega⟩
 have V8:1<=D+1:=by omega
 have hJL:L=((D+1:Nat):Int):=by omega
 have HJ:Hid (1<=D+1/\D+1<=4):=⟨V8,l7⟩
 have kT:n1<=6:=by have:=Ex.out.2;omega
 have mg:n2<=6:=by have:=dI.out.2;omega
 have HN:Hid (n1<=6/\n2<=6):=⟨kT,mg⟩;obtain⟨f,huf,hdf⟩:=xk.out.qpU 4 (by omega) (by omega) Ex.out.1;obtain⟨g,hug,pW⟩:=HG2.out.qpU 4 (by omega) (by omega) dI.out.1;have kG:Hid (∀i,i<n1->aH (f i).natAbs<=4):=λi hi=>(lZ _ _).2 (hdf i hi);have qW:Hid (∀i,i<n2->aH (g i).natAbs<=4):=λi hi=>(lZ _ _).2 (pW i hi);have JL:=ae huf;have U7:=ae hug
 have CF:Hid (∀(W:World)(a:Option Addr)(n c:Nat)(X:Nat->IE)(z:Nat->Int),bC M0 W a n c X z->Calls Tryz.prog 11 #[.slice a n c,.int .i64 L] W (lI M0 W 4 (aU (D+1) n z) 0)):=λW a n c X z h=>by
  rw[vG];exact(qj1 M0 a n c X z D W (qN _) h l7).mono λe w' h=>h.low l7
 have Cu:Hid (∀(J:Nat),1<=J->J<=4->∀(M:Nat->Prop)(W:World)(x y:PE),Mb M W->aN M W 4 x (aU J n1 f)->aN M W 4 y (aU J n2 g)->Calls Tryz.prog 81 #[.agg (ak x),.agg (ak y),.int .i64 (J:Int)] W (lI M W 4 (cst (rU n1 f n2 g)) 0)):=λJ h1 h4 M W x y hM hx hy=>
  qqP h1 h4 Al.out kT (λi hi=>aR (kG.out i hi) (by decide)) mg (λi hi=>aR (qW.out i hi) (by decide)) M x y W hM hx hy
 have Zq:Hid (∀(J:Nat),1<=J->J<=4->∀(M:Nat->Prop)(W:World)(x:PE),Mb M W->aN M W 4 x (aU J n1 f)->Calls Tryz.prog 49 #[.agg (ak x),.int .i64 (J:Int)] W (lI M W 4 (cst (dU n1 f)) (dE n1 f))):=λJ h1 h4 M W x hM hx=>
  qCo h1 h4 Al.out kT (λi hi=>aR (kG.out i hi) (by decide)) M x W hM hx
 have CR:Hid (∀W(x y:PE),aN M0 W 4 x (aU (D+1) n1 f)->aN M0 W 4 y (aU (D+1) n2 g)->Calls Tryz.prog 44 #[.agg (ak x),.agg (ak y),.int .i64 L] W (dO M0 W 4 (cst (rU n1 f n2 g)))):=λW x y hx hy=>by
  rw[hJL];exact qyN M0 x y ((D+1:Nat):Int) 0 _ W (qN _) λM' wk kN hm he=>Cu.out (D+1) V8 l7 M' wk x y kN ((hx.more hm).ext he) ((hy.more hm).ext he)
 have CD:Hid (∀W(x:PE),aN M0 W 4 x (aU (D+1) n1 f)->Calls Tryz.prog 49 #[.agg (ak x),.int .i64 L] W (lI M0 W 4 (cst (dU n1 f)) (dE n1 f))):=λW x hx=>by
  rw[hJL];exact Zq.out (D+1) V8 l7 M0 W x (qN _) hx
 have dL:dE n1 f=0\/dE n1 f=12/\dU n1 f=0:=by
  unfold dE dU
  by_cases h:tz f n1<=1
  ·exact .inr ⟨ai h,ai h⟩
  ·exact .inl (ah h)
 have CU:Hid (∀W,Ext w W->Calls Tryz.prog 26 #[.slice a1 n1 c1,.slice a2 n2 c2] W (lg M0 W (rU n1 f n2 g))):=λW he=>
  (qp4 a1 a2 n1 c1 n2 c2 X1 X2 f g (cst (rU n1 f n2 g)) _ W (JL.out.ext he) (U7.out.ext he) (af.refl _) λM' wk x y hM hx hy=>Cu.out 1 (aI 1) (by decide) M' wk x y hM hx hy).mono λe w'⟨b,a,n,p,h1,h2,h3⟩=>⟨⟨b,a,n,p⟩,h1,h2,h3⟩
 have YW:Hid (∀W,Ext w W->Calls Tryz.prog 27 #[.slice a1 n1 c1] W (Vo W (dU n1 f) (dE n1 f))):=λW he=>
  qA2 a1 n1 c1 X1 f (cst (dU n1 f)) _ _ W (JL.out.ext he) (af.refl _) dL λM' wk x hM hx=>Zq.out 1 (aI 1) (by decide) M' wk x hM hx
 obtain⟨R,hR⟩:∃R,rU n1 f n2 g=R:=⟨_,rfl⟩;obtain⟨DD,Kr⟩:∃DD,dU n1 f=DD:=⟨_,rfl⟩;obtain⟨er,Wm⟩:∃er,dE n1 f=er:=⟨_,rfl⟩;rw[hR]at CR CU;rw[Kr,Wm]at CD YW;have HR:=ae hR;have wy:=ae Kr;have jo:=ae Wm
 have Ew:Hid (er=0\/er=12):=by
  rw[Kr,Wm]at dL;exact dL.imp id λh=>h.1
 clear qI vG hJL l7 V8 kT mg huf hug hdf pW dL hR Kr Wm Cu Zq Ex dI xk HG2;go_wp2_with (fail);refine(CI.out _).mono ?_;rintro e w4 ⟨rfl,rfl⟩;clear CI;go_wp2_with (fail);refine(CF.out _ _ _ _ _ _ (JL.out.ext dM.out)).mono ?_;rintro e w5 ⟨x,rfl,hx,bn⟩;have qV:Hid (BX _ w5.heap.size x _):=qa3 hx;have dV:=ae ((dM.out.trans bn).alloc (.cells (ak x) 33));clear hx bn dM
 go_upto_region 6 with(fail)
 generalize w5.heap.size=g7 at*;generalize w5.alloc (.cells (ak x) 33)=W5 at*;go_wp2_with (fail);refine(CF.out _ _ _ _ _ _ (U7.out.ext dV.out)).mono ?_;rintro e w6 ⟨y,rfl,hy,fO⟩;have aT:=fO.alloc (.cells (ak y) 33);have qf1:=ae (qV.out.ext aT);have Pm:Hid (BX _ w6.heap.size y _):=qa3 hy;have fT:=ae (dV.out.trans aT);clear hy fO dV qV aT CF
 go_upto_region 7 with(fail)
 generalize w6.heap.size=g9 at*;generalize w6.alloc (.cells (ak y) 33)=W6 at*;go_wp2_with (fail);refine(CU.out _ fT.out).mono ?_;rintro e w7 ⟨u,rfl,hu,gX⟩;have aT:=gX.alloc (.cells #[.bool u.b,.slice u.a u.n u.p] 30);have bQ:=aG.bq w7 #[.bool u.b,.slice u.a u.n u.p] 30 2 rfl;have HSU:Hid (GI w7.heap.size u _):=⟨lJ bQ,bQ.lt⟩;have HU:Hid (IX M0 _ u R):=hu.ext ((aA w7).alloc (.cells #[.bool u.b,.slice u.a u.n u.p] 30));have qf2:=ae (qf1.out.ext aT);have qf3:=ae (Pm.out.ext aT);have ni:=ae (fT.out.trans aT);clear hu gX aT bQ qf1 Pm fT CU
 go_upto_region 8 with(fail)
 generalize w7.heap.size=g11 at*;generalize w7.alloc (.cells #[.bool u.b,.slice u.a u.n u.p] 30)=W7 at*;go_wp2_with (fail);refine(YW.out _ ni.out).mono ?_;rintro e w8 ⟨d,rfl,hd,nM⟩;have aT:=nM.alloc (.cells #[.bool d.b,.slice d.a d.n d.p] 30);have bQ:=aG.bq w8 #[.bool d.b,.slice d.a d.n d.p] 30 2 rfl;have lG:Hid (GI w8.heap.size d _):=⟨lJ bQ,bQ.lt⟩;have og:Hid (IX M0 _ d DD):=hd.ext ((aA w8).alloc (.cells #[.bool d.b,.slice d.a d.n d.p] 30));have Uc:=ae (qf2.out.ext aT);have Zj:=ae (qf3.out.ext aT);have qhD:=ae (HSU.out.ext aT);have HU8:=ae (HU.out.ext aT);have Cg:=ae (ni.out.trans aT);clear hd nM aT bQ qf2 qf3 HSU HU ni YW
 go_upto_region 9 with(fail)
 generalize w8.heap.size=g12 at*;generalize w8.alloc (.cells #[.bool d.b,.slice d.a d.n d.p] 30)=W8 at*;obtain⟨⟨x0,x1,x2,x3⟩,cx⟩:=Uc.out;have CC:=ae (CD.out W8 x cx);clear cx CD;go_wp2_with (fail);refine CC.out.mono ?_;rintro e w9 ⟨r,rfl,hr,qF⟩;have aT:=qF.alloc (.cells (ak r) 33);have hBR:BX _ w9.heap.size r _:=qa3 hr;have bI:=aT.trans (aA _).drew;have hSS:MQ g7 x g9 y g11 u g12 d w9.heap.size r (w9.alloc (.cells (ak r) 33)).drew:=MQ.ext ⟨(Uc.out.ext aT).1,(Zj.out.ext aT).1,qhD.out.ext aT,lG.out.ext aT,hBR.1⟩ (aA _).drew;have fU:=ae hSS;have HCX:=ae (Uc.out.ext bI).2;have Es:=ae (Zj.out.ext bI).2;have LV:=ae (hBR.ext (aA _).drew).2;have HU9:=ae (HU8.out.ext bI);have wu:=ae (og.out.ext bI);have Ch:=ae (Cg.out.trans bI);clear hr qF aT hBR bI hSS CC x0 x1 x2 x3 Uc Zj qhD lG HU8 og Cg
 go_upto_region 10 with(fail)
 generalize w9.heap.size=g14 at*;refine gB (MQ g7 x g9 y g11 u g12 d g14 r) 20 (by kernel_rfl) fU.out (λhHeld=>?_);clear fU;generalize (w9.alloc (.cells (ak r) 33)).drew=wd at*
 have Xw:(er==er)=true:=by simp
 (refine cB [0,2,3,4] ?_;(iterate 4 (refine bZ (v:=?_) ?_ ?_;rotate_left 1;(intro wS hSw;obtain⟨⟨S1,S2,S3,S4⟩,⟨S5,S6,S7,S8⟩,⟨⟨S9,rM⟩,uW⟩,⟨⟨uX,AO⟩,uY⟩,J4,xG,nH,MN⟩:=hSw;go_simp;try with_reducible rfl);(try simp only[Act.put,aB,aC,aD])));refine cK ?_);((refine aO 1 ?_;intro K hK);go_simp;(refine(OQ M0 u.b u.a u.n u.p R wd (qN _) HU9.out).mono ?_);rintro e_ u1 ⟨c,rfl,hc,bM⟩;go_wp2_with (fail);(try clear ag);(have ag:=hHeld.ext bM);(refine hK.out _ _ (λ_=>ag) ?_);clear hK K;(try simp only[Act.put,aB,aC,aD]));((refine aO 5 ?_;intro K hK);go_simp;(refine(CR.out u1 x y (HCX.out.ext bM) (Es.out.ext bM)).mono ?_);rintro e_ u2 ⟨v,rfl,hv,fM⟩;go_wp2_with (fail);(try clear ag);(have ag:=hHeld.ext (bM.trans fM));(refine hK.out _ _ (λ_=>ag) ?_);clear hK K;(try simp only[Act.put,aB,aC,aD]));((refine aO 6 ?_;intro K hK);go_simp;(refine(qeM c v _ _ u2 true (hc.ext fM).pi hv.pi ⟨λ_=>af.refl _,λ_=>rfl⟩).mono ?_);rintro e_ u3 ⟨rfl,lh⟩;go_wp2_with (fail);(try clear ag);(have ag:=hHeld.ext ((bM.trans fM).trans lh));(refine hK.out _ _ (λ_=>ag) ?_);clear hK K;(try simp only[Act.put,aB,aC,aD]));(refine cB [7,8,9,10,11,12,13,14,16] ?_;(iterate 9 (refine bZ (v:=?_) ?_ ?_;rotate_left 1;(intro wS hSw;obtain⟨⟨S1,S2,S3,S4⟩,⟨S5,S6,S7,S8⟩,⟨⟨S9,rM⟩,uW⟩,⟨⟨uX,AO⟩,uY⟩,J4,xG,nH,MN⟩:=hSw;go_simp;try with_reducible rfl);(try simp only[Act.put,aB,aC,aD])));refine cK ?_)
 have Nr:=(bM.trans fM).trans lh;((refine aO 15 ?_;intro K hK);go_simp;(refine(OQ M0 d.b d.a d.n d.p DD u3 (qN _) (wu.out.ext Nr)).mono ?_);rintro e_ u5 ⟨c',rfl,DJ,QE⟩;go_wp2_with (fail);(try clear ag);(have ag:=hHeld.ext (Nr.trans QE));(refine hK.out _ _ (λ_=>ag) ?_);clear hK K;(try simp only[Act.put,aB,aC,aD]));((refine aO 17 ?_;intro K hK);go_simp;(refine(qeM c' r _ _ u5 true DJ.pi (LV.out.ext (Nr.trans QE)).pi ⟨λ_=>af.refl _,λ_=>rfl⟩).mono ?_);rintro e_ u6 ⟨rfl,ed6⟩;go_wp2_with (fail);(try clear ag);(have ag:=hHeld.ext ((Nr.trans QE).trans ed6));(refine hK.out _ _ (λ_=>ag) ?_);clear hK K;(try simp only[Act.put,aB,aC,aD]));(refine cB [18,19] ?_;(iterate 2 (refine bZ (v:=?_) ?_ ?_;rotate_left 1;(intro wS hSw;obtain⟨⟨S1,S2,S3,S4⟩,⟨S5,S6,S7,S8⟩,⟨⟨S9,rM⟩,uW⟩,⟨⟨uX,AO⟩,uY⟩,J4,xG,nH,MN⟩:=hSw;go_simp;try with_reducible rfl);(try simp only[Act.put,aB,aC,aD])));refine cK ?_);have QF:=(Nr.trans QE).trans ed6;have sN:=ae (Ch.out.trans QF);have qgb:=ae (wu.out.ext QF);have qhM:=ae (HU9.out.ext QF);obtain⟨_,_,RY,qnd,_⟩:=hHeld.ext QF;have qhn:=ae RY;have ED:=ae qnd;clear RY qnd hc hv DJ bM fM lh Nr QE ed6 QF CR HCX Es LV HU9 wu Ch hHeld ag Xw;refine dX ?_
 go_upto_region 12 with(fail)
 have Jr:=ae (LJ M0 a1 n1 c1 X1 f u6 (JL.out.ext sN.out));obtain⟨m1,wR⟩:∃m1,m1=tz f n1:=⟨_,rfl⟩;have kH:Hid (tz f n1=m1):=wR.symm;rw[<-wR]at Jr;clear wR;go_wp2_with (fail);refine Jr.out.mono ?_;rintro e vW ⟨rfl,NV⟩;have Zt:=ae (sN.out.trans NV);have qgc:=ae (qgb.out.ext NV);have qhN:=ae (qhM.out.ext NV);have qho:=ae (qhn.out.ext NV);have qhr:=ae (ED.out.ext NV);clear NV Jr sN qgb qhM qhn ED
 by_cases hm:m1<=1
 ·have RI:((m1:Int)-1<1):=by omega
  have tL:er=12:=by rw[<-jo.out];unfold dE;rw[kH.out];exact ai hm
  have heI:(er==12)=true:=by rw[tL];rfl
  clear hm tL;go_wp2;go_ret;exact⟨rfl,Zt.out⟩
 have RI:¬((m1:Int)-1<1):=by omega
 obtain⟨n,hn⟩:∃n,m1=n+1:=⟨m1-1,by omega⟩
 have kT:1<=n:=by omega
 have wU:tz f n1=n+1:=kH.out.trans hn
 have hn5:n<=5:=by have:=iR f n1;have:=HN.out.1;omega
 obtain⟨hrow,Xl⟩:=quX kT wU;have hdd:∀i,i<n->aH (ig f i).natAbs<=5:=λi hi=>quW (by omega) (λi hi=>kG.out (i+1) (by have:=iR f n1;omega)) i hi;have DR:=(pG wU).2;have jY:=(pG wU).1;have CDV:=ae (qCn M0 a1 n1 c1 X1 f 4)
 have CCF:Hid (∀(W:World)(a':Option Addr)(X':Nat->IE),Ext w W->bC M0 W a' n n X' (ig f)->Calls Tryz.prog 50 #[.slice a1 n1 c1,.slice a' n n] W λe w'=>∃b:Bool,e=.returned (.bool b)/\(b=true↔DD≠0)/\Ext W w'):=λW a' X' he hu=>by
  refine(qqN (D+1) HJ.out.1 HJ.out.2 M0 ⟨a1,n1,c1,X1,f⟩ ⟨a',n,n,X',ig f⟩ n (n-1) 5 W (qN _) (bC.ext JL.out he) hu wU Xl (by omega) (by omega) (aR HN.out.1 (by decide)) (aR hn5 (by decide)) (by decide) (by decide) (λi hi=>aR (kG.out i hi) (by decide)) hdd).mono ?_;rintro e w' ⟨k,rfl,hk,hew⟩;refine⟨_,rfl,?_,hew⟩;have H:=qbP HJ.out.1 HJ.out.2 Al.out wU Xl (by have:=HN.out.1;omega) (by omega) (A:=5) (λi hi=>aR (kG.out i hi) (by decide)) hdd (by decide);have h0:=qp7 HJ.out.1 HJ.out.2 H wU Xl hk;have h1:=qt5 kT DR jY
  have h2:DD=dZ n (aP n1 f):=by rw[<-wy.out];unfold dU;rw[ah (by omega),wU,Nat.add_sub_cancel]
  rw[hrow]at h0;rw[decide_eq_true_iff,h2];constructor
  ·intro h e;have:=h0.1 (h1.1 e);omega
  ·intro h;refine eF λiO=>h (h1.2 (h0.2 (by omega)))
 obtain⟨s,hs⟩:∃s,DD.sign=s:=⟨_,rfl⟩;have YU:=ae (IU _ _ DD vW qgc.out);rw[hs]at YU;have fU:=ae hs;have Gs:Hid (n+1=tz f n1):=wU.symm;obtain⟨⟨d0,d1⟩,dl⟩:=qhr.out;clear hs hm hn kT wU hn5 hrow Xl hdd DR jY kH;go_wp2_with (fail);refine YU.out.mono ?_;rintro e w12 ⟨rfl,tL⟩;have Zu:=ae (Zt.out.trans tL);have qhO:=ae (qhN.out.ext tL);have qhp:=ae (qho.out.ext tL);have YR:=ae (CDV.out w12 (qN _) (JL.out.ext Zu.out) (by have:=HN.out.1;omega) kG.out (by decide));rw[<-Gs.out,Nat.add_sub_cancel]at YR;clear tL YU CDV Zt qhN qho qhr d0 d1 dl qgc;go_wp2_with (fail);refine YR.out.mono ?_;rintro e OZ ⟨a',X',rfl,hu',H6⟩;have Ae:=ae (Zu.out.trans H6);have qhP:=ae (qhO.out.ext H6);have qhq:=ae (qhp.out.ext H6);have qfv:=ae (CCF.out OZ a' X' Ae.out hu');clear H6 hu' YR CCF Zu qhO qhp;go_wp2_with (fail);refine qfv.out.mono ?_;rintro e w14 ⟨b,rfl,hb,WE⟩;have Zv:=ae (Ae.out.trans WE);have qhQ:=ae (qhP.out.ext WE);have qhs:=ae (qhq.out.ext WE)
 have hsb:(s==0)= !b:=qqk fU.out (by
  cases b with
  |true=>exact⟨λh=>(by cases h),λh=>absurd h (hb.1 rfl)⟩
  |false=>exact⟨λ_=>eF λh=>(by cases hb.2 h),λ_=>rfl⟩)
 clear WE hb qfv Ae qhP qhq fU;have Jr:=ae (LJ M0 a2 n2 c2 X2 g w14 (U7.out.ext Zv.out));obtain⟨m2,vL⟩:∃m2,m2=tz g n2:=⟨_,rfl⟩;have gJ:Hid (tz g n2=m2):=vL.symm;rw[<-vL]at Jr;clear vL;have key:(s==0)= !b:=hsb;clear hsb
 have iC:Hid (∀W,Ext w W->IX M0 W u R->GI g11 u W->1<m2->∃s':Int,(∀W',Ext W W'->Calls Tryz.prog 28 #[.agg #[.bool u.b,.slice u.a u.n u.p]] W' λe w'=>e=.returned (.int .i64 s')/\Ext W' w')/\(∀W',Ext W W'->Calls Tryz.prog 50 #[.slice a1 n1 c1,.slice a2 n2 c2] W' λe w'=>∃b':Bool,e=.returned (.bool b')/\(s'==0)=(!b')/\Ext W' w')):=λW he hu hS h1=>by
  obtain⟨q,hq⟩:∃q,tz g n2=q+1:=⟨m2-1,by rw[gJ.out];omega⟩;refine⟨R.sign,λW' wP=>IU _ _ R W' (hu.ext wP),λW' wP=>?_⟩;have wU:=Gs.out.symm;have WU:=iR f n1;have WV:=iR g n2;have hN:=HN.out;refine(qqN (D+1) HJ.out.1 HJ.out.2 M0 ⟨a1,n1,c1,X1,f⟩ ⟨a2,n2,c2,X2,g⟩ n q 5 W' (qN _) (bC.ext JL.out (he.trans wP)) (bC.ext U7.out (he.trans wP)) wU hq (by omega) (by omega) (aR hN.1 (by decide)) (aR hN.2 (by decide)) (by decide) (by decide) (λi hi=>aR (kG.out i hi) (by decide)) (λi hi=>aR (qW.out i hi) (by decide))).mono ?_;rintro e w' ⟨k,rfl,hk,hew⟩;refine⟨_,rfl,qqk rfl ?_,hew⟩;have H:=qbP HJ.out.1 HJ.out.2 Al.out wU hq (by omega) (by omega) (A:=5) (λi hi=>aR (kG.out i hi) (by decide)) (λi hi=>aR (qW.out i hi) (by decide)) (by decide);have h0:=qp7 HJ.out.1 HJ.out.2 H wU hq hk
  have h2:R=Rz n q (aP n1 f) (aP n2 g):=by rw[<-HR.out];unfold rU;rw[ah (by omega),wU,hq,Nat.add_sub_cancel,Nat.add_sub_cancel]
  rw[h2,h0,Bool.not_eq_true',decide_eq_false_iff_not];omega
 have HKB:=ae key;clear kG qW HN Gs Al HR wy jo key;cases b
 all_goals
  have hs0:=HKB.out;simp only[Bool.not_true,Bool.not_false]at hs0;clear HKB;go_wp2_with (fail);refine Jr.out.mono ?_;rintro e w15 ⟨rfl,WG⟩;have Uq:=ae (Zv.out.trans WG);have qhR:=ae (qhQ.out.ext WG);have qcq:=qhs.out.ext WG;clear WG Jr Zv qhQ qhs
  by_cases hm:m2<=1
  ·have RI:((m2:Int)-1<1):=by omega
   clear hm qcq;go_wp2;go_ret;exact⟨rfl,Uq.out⟩
  have RI:¬((m2:Int)-1<1):=by omega
  obtain⟨s',cs,cc⟩:=iC.out w15 Uq.out qhR.out qcq (by omega);have CS:=ae (cs w15 (aA _));have CC:=ae cc;obtain⟨⟨d0,d1⟩,dl⟩:=qcq;clear iC hm cs cc;go_wp2_with (fail);refine CS.out.mono ?_;rintro e w16 ⟨rfl,qcM⟩;have CC2:=ae (CC.out w16 qcM);have qgh:=ae (Uq.out.trans qcM);clear qcM CS CC Uq qhR d0 d1 dl;go_wp2_with (fail);refine CC2.out.mono ?_;rintro e w17 ⟨b',rfl,hb',ql1⟩;have Pq:=ae (qgh.out.trans ql1);clear ql1 CC2 qgh;cases b'
  all_goals
   simp only[Bool.not_true,Bool.not_false]at hb';go_wp2;go_ret;exact⟨rfl,Pq.out⟩
end Go.Proofs.YtmcfpnmoklnhoaaGreat
namespace Go.Proofs.YtmcfpnmoklnhoaaGreat
open Go.ChangeShapes Go.WideShapes Go.ChangeAt Go.RowKit Go.Deep
theorem qzV:∀m n:Nat,n<=m->m<=6->vP m n 6=true:=λm n h1 h2=>(show∀m,m<=6->∀n,n<=m->vP m n 6=true by decide+kernel) m h2 n h1
namespace resultantUni
theorem own:ownKnob Tryz.prog.godebug=none:=by kernel_rfl
theorem contract(H:Type)(enc:TypeId × Value->H)(W:World)(base:Nat)(args:Array Value)(ds gs:List (DataW H))(before:List MemPlace)
 (hval:∀(j:Nat) t v,Tryz.f7.params[j]?=some t->args[j]?=some v->Value.okWide Tryz.prog W .any base t v)
 (hW:DataW.Whole enc Tryz.prog Tryz.f7.params.toList Rows.resultantUniSpec.vars false W args.toList ds gs before):
 Calls Tryz.prog 7 args W λe W'=>∃v,e=.returned v/\Rows.resultantUniSpec.post enc Tryz.prog Tryz.f7 false true false false W args v W':=by
 have hW':=hW;obtain⟨p,q,hA0,hV,rfl,eT,hnd⟩:=hW;have hA:DataW.TrodAll enc Tryz.prog W 0 (λ_=>true) true Tryz.f7.params.toList args.toList ds p:=hA0;rw[Tryz.params7]at hA hval;obtain⟨v0,vs0,d0,ds0,p0,q0,hargs,rfl,rfl,h0,r0⟩:=trodAll_cons hA;obtain⟨v1,vs1,d1,ds1,p1,q1,rfl,rfl,rfl,h1,r1⟩:=trodAll_cons r0;obtain⟨v2,vs2,d2,ds2,p2,q2,rfl,rfl,rfl,h2,r2⟩:=trodAll_cons r1;obtain⟨rfl,rfl,rfl⟩:=trodAll_nil r2
 obtain rfl:args= #[v0,v1,v2]:=by cases args;simp_all
 obtain⟨rfl,rfl⟩:=trodVars_none hV;obtain⟨a0,n0,c0,X0,rfl,g0⟩:=qo9 (hval 0 23 v0 rfl rfl) h0;obtain⟨a1,n1,c1,X1,rfl,g1⟩:=qo9 (hval 1 23 v1 rfl rfl) h1;obtain⟨z2,rfl,g2⟩:=qz0 (hval 2 3 v2 rfl rfl) h2;refine(qyO qzV a0 n0 c0 X0 a1 n1 c1 X1 z2 W g0 g1).mono λe W'⟨he,hg⟩=>?_;subst he;refine⟨_,rfl,qAn (tb:=4) (by kernel_rfl) ?_ rfl rfl (by kernel_rfl) Tryz.underlying4 hW' hg⟩;rw[Tryz.params7];intro t ht;simp only[List.mem_cons,List.not_mem_nil,or_false,or_self,or_self_left]at ht;rcases ht with rfl|rfl
 ·exact⟨by kernel_rfl,of_decide_eq_true (by kernel_rfl)⟩
 ·exact⟨by kernel_rfl,of_decide_eq_true (by kernel_rfl)⟩
theorem lifted(os:Os)(started:os.Started)(H:Type)(enc:TypeId × Value->H):
 ReturnsInHanded {} Tryz.checked os 7 .any (Rows.resultantUniSpec.pre6 enc Tryz.prog Tryz.f7 Rows.resultantUniRow.domain false) (Rows.resultantUniSpec.post enc Tryz.prog Tryz.f7 false true false false):=by
 refine returnsInHanded_of_change (C:=Tryz.checked) own started (by kernel_rfl) Tryz.func7
  (ChangeSpec.witness6 (enc:=enc) (C:=Tryz.checked) false ⟨#[],#[.slice none 0 0,.slice none 0 0,.int .i64 0],[]⟩ 8 (by kernel_rfl) (by kernel_rfl) (by kernel_rfl) (by kernel_rfl)) ?_
 intro W base args ds gs before hval hW _ _;exact contract H enc W base args ds gs before hval hW
theorem kInp:(Rows.resultantUniRow.inPlace==Tryz.pinned.checked.prog.inPlace 7)=true:=by kernel_rfl
theorem kUnf:(Rows.resultantUniRow.unfollowed==Tryz.pinned.checked.prog.unfollowed 7)=true:=by kernel_rfl
theorem kRec:(Rows.resultantUniRow.recurses==Tryz.pinned.checked.prog.recurses 7)=true:=by kernel_rfl
theorem kNam:(Rows.resultantUniRow.named==Tryz.pinned.checked.prog.varsNamed 7)=true:=by kernel_rfl
theorem kLaid:laidOutB Tryz.pinned.checked.prog=true:=by kernel_rfl
theorem closed:joinedFacts Tryz.pinned.checked.prog 7 Tryz.f7 Rows.resultantUniSpec Rows.resultantUniRow=true:=by
 unfold joinedFacts;rw[kInp,kUnf,kRec,kNam,kLaid]
 kernel_rfl
theorem proved:Rows.ResultantUniSaid:=
 OpenClaim.holds_of_wide (p:=Tryz.pinned) (s:=Rows.resultantUniSpec) (c:=Rows.resultantUniRow) 7 Tryz.f7 rfl rfl rfl rfl rfl rfl rfl ⟨rfl,rfl,rfl,rfl,rfl⟩ rfl rfl rfl rfl rfl (by kernel_rfl) Tryz.func7 closed
  (of_decide_eq_true (by kernel_rfl)) (by unfold Func.isWrapper;first|(rw[ai (by decide+kernel)];kernel_rfl)|(rw[ah (by decide+kernel)];exact⟨rfl,rfl⟩))
  (λos started H enc _=>lifted os started H enc)
end resultantUni
end Go.Proofs.YtmcfpnmoklnhoaaGreat
