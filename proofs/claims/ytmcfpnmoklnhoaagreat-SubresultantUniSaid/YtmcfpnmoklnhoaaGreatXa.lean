/- Xa -/
import Derived.Test.YtmcfpnmoklnhoaaGreatWa
import Derived.Test.YtmcfpnmoklnhoaaGreatDa
set_option linter.unusedVariables false
set_option maxRecDepth 100000
set_option maxHeartbeats 400000000
set_option linter.unusedSimpArgs false
namespace Go.Proofs.YtmcfpnmoklnhoaaGreat
open Go.RowKit
structure Da(M:Nat->Prop)(w:World)(go gs b0 N:Nat)(a1:Option Addr)(n1 c1:Nat)(X1:Nat->IE)(z1:Nat->Int)(a2:Option Addr)(n2 c2:Nat)(X2:Nat->IE)(z2 O:Nat->Int)(x:IE)(S:Int)(W:World):Prop where
 o:UK (M3 M go gs) W go N N O
 s:ak W gs 30 2 (arr #[.bool x.b,.slice x.a x.n x.p])
 x:IX (M3 M go gs) W x S
 b:JC W b0 0 ⟨false,none,0,0⟩
 f:bg (M3 M go gs) W a1 n1 c1 X1 z1
 g:bg (M3 M go gs) W a2 n2 c2 X2 z2
 m:Mb (M3 M go gs) W
 e:Ext w W
 d:w.heap.size<=go/\w.heap.size<=gs/\go≠gs/\b0≠go/\b0≠gs
theorem kY{W:World}{g:Nat}{t:TypeId}{x:IE}(h:ak W g t 2 (arr #[.bool x.b,.slice x.a x.n x.p])):JC W g 0 x:=⟨h.cell (i:=0) (by omega),h.cell (i:=1) (by omega)⟩
theorem OB{W:World}{g:Nat}{t:TypeId}{f:Nat->Value}(h:ak W g t 2 f)(x:IE):ak (bK W g 0 (.bool x.b) (.slice x.a x.n x.p)) g t 2 (arr #[.bool x.b,.slice x.a x.n x.p]):=by
 refine((h.set 0 (.bool x.b)).set 1 (.slice x.a x.n x.p)).congr λi hi=>?_;unfold iK arr;rcases(show i=0\/i=1 by omega)with rfl|rfl<;>simp
section
variable{M:Nat->Prop}{w:World}{go gs b0 N:Nat}{a1:Option Addr}{n1 c1:Nat}{X1:Nat->IE}{z1:Nat->Int}{a2:Option Addr}{n2 c2:Nat}{X2:Nat->IE}{z2 O O':Nat->Int}{x:IE}{S S':Int}{W W':World}
theorem Da.ext(h:Da M w go gs b0 N a1 n1 c1 X1 z1 a2 n2 c2 X2 z2 O x S W)(he:Ext W W'):Da M w go gs b0 N a1 n1 c1 X1 z1 a2 n2 c2 X2 z2 O x S W':=
 ⟨h.o.ext he,h.s.ext he,h.x.ext he,h.b.ext h.b.lt he,h.f.ext he,h.g.ext he,h.m.ext he,h.e.trans he,h.d⟩
theorem Da.sum(h:Da M w go gs b0 N a1 n1 c1 X1 z1 a2 n2 c2 X2 z2 O x S W){y:IE}(hy:IX (M3 M go gs) W y S'):Da M w go gs b0 N a1 n1 c1 X1 z1 a2 n2 c2 X2 z2 O y S' (bK W gs 0 (.bool y.b) (.slice y.a y.n y.p)):=by
 have hk:Kp (M3 M go gs) W (bK W gs 0 (.bool y.b) (.slice y.a y.n y.p)):=Kp.bK (.inr rfl) _ _ _;have hh:=λb hb=>wK W gs 0 (.bool y.b) (.slice y.a y.n y.p) b hb;obtain⟨d1,d2,d3,d4,d5⟩:=h.d;exact⟨h.o.kp (hh _ d3) hk,OB h.s y,hy.kp hk,h.b.of_heap (hh _ d5),h.f.kp hk,h.g.kp hk,h.m.size (by rw[Aw];exact Nat.le_refl _),h.e.bK d2 _ _ _,h.d⟩
end
theorem qoT{A D:Nat}{f g:Nat->Int}(hf:∀i,az (f i).natAbs<=A)(hg:∀i,az (g i).natAbs<=D)(k:Nat):∀V,az (zC f g V k).natAbs<=A+D+V
 |0=>Nat.le_trans (by decide:az (0:Int).natAbs<=0) (Nat.zero_le _)
 |V+1=>by
  have h:=qoT hf hg k V
  have h1:az (if V<=k then f V*g (k-V)else 0).natAbs<=A+D:=by
   split
   ·rw[Int.natAbs_mul];have:=qJ (f V).natAbs (g (k-V)).natAbs;have:=hf V;have:=hg (k-V);omega
   ·exact Nat.le_trans (by decide:az (0:Int).natAbs<=0) (Nat.zero_le _)
  have h2:=qhy (zC f g V k) (if V<=k then f V*g (k-V)else 0);show az (zC f g V k+_).natAbs<=_;omega
theorem WH{f g:Nat->Int}{m k:Nat}(hg:∀i,m<=i->g i=0):∀V,V+m<=k+1->zC f g V k=0
 |0,_=>rfl
 |V+1,h=>by
  show zC f g V k+(if V<=k then f V*g (k-V)else 0)=0;rw[WH hg V (by omega),if_pos (by omega),hg _ (by omega),Int.mul_zero,Int.add_zero]
theorem qAi{f z:Nat->Int}{n k lo:Nat}(h:lo=k+1-n):zC f (aM n z) lo k=0:=by
 by_cases hk:n<=k+1
 ·exact WH (m:=n) (λi hi=>if_neg (by omega)) lo (by omega)
 ·rw[show lo=0 by omega];rfl
theorem qoW{f g:Nat->Int}{k:Nat}{V:Nat}(h:k<V):∀r,zC f g (V+r) k=zC f g V k
 |0=>rfl
 |r+1=>by
  show zC f g (V+r) k+(if V+r<=k then f (V+r)*g (k-(V+r))else 0)=_;rw[qoW h r,if_neg (by omega),Int.add_zero]
theorem qoU{f g:Nat->Int}{k V n:Nat}(h1:V<=n)(h2:V=n\/k<V):zC f g n k=zC f g V k:=by
 rcases h2 with rfl|h2
 ·rfl
 ·obtain⟨r,rfl⟩:∃r,n=V+r:=⟨n-V,by omega⟩;exact qoW h2 r
theorem qAj{f g:Nat->Int}{k:Nat}(n:Nat):zC f g (tz f n) k=zC f g n k:=by
 have hle:=jr f n;obtain⟨r,hr⟩:∃r,n=tz f n+r:=⟨n-tz f n,by omega⟩
 have:∀r,tz f n+r<=n->zC f g (tz f n+r) k=zC f g (tz f n) k:=λr=>by
  induction r with
  |zero=>intro _;rfl
  |succ r ih=>
   intro h;show zC f g (tz f n+r) k+(if tz f n+r<=k then f (tz f n+r)*g (k-(tz f n+r))else 0)=_;rw[ih (by omega),Rp f n _ (by omega) (by omega),Int.zero_mul]
   split<;>simp
 have h2:=this r (by omega);rw[<-hr]at h2;exact h2.symm
def uo(m1 m2:Nat):Nat:=if m1=0\/m2=0 then 0 else m1+m2-1
theorem qrL{m1 m2:Nat}{f z2:Nat->Int}(i:Nat):aM (uo m1 m2) (zC f (aM m2 z2) m1) i=zC f (aM m2 z2) m1 i:=by
 unfold uo
 by_cases h:m1=0\/m2=0
 ·rw[if_pos h];refine(if_neg (by omega)).trans ?_;rcases h with rfl|rfl
  ·rfl
  ·by_cases hk:m1<=i+1
   ·exact(WH (m:=0) (λj _=>if_neg (by omega)) m1 (by omega)).symm
   ·rw[qoU (V:=i+1) (by omega) (.inr (by omega))];exact(WH (m:=0) (λj _=>if_neg (by omega)) (i+1) (by omega)).symm
 ·rw[if_neg h]
  by_cases hi:i<m1+m2-1
  ·exact if_pos hi
  ·refine(if_neg hi).trans (qdJ (n:=m2-1) (λj hj=>if_neg (by omega)) m1 i (by omega)).symm
theorem qzO(M:Nat->Prop)(a1:Option Addr)(n1 c1:Nat)(X1:Nat->IE)(z1:Nat->Int)(a2:Option Addr)(n2 c2:Nat)(X2:Nat->IE)(z2:Nat->Int)(A D:Nat)(w:World)(hM:Mb M w)
 (h1:bg M w a1 n1 c1 X1 z1) (h2:bg M w a2 n2 c2 X2 z2) (mJ:n1<=1000000) (lu:n2<=1000000) (hA:∀i,i<n1->az (z1 i).natAbs<=A) (hD:∀i,i<n2->az (z2 i).natAbs<=D) (hN:A+D<=549000000000):
 Calls Tryz.prog 130 #[.slice a1 n1 c1,.slice a2 n2 c2,.agg #[.bool false,.slice none 0 0],.func (.func 124) #[] #[],.func (.func 65) #[] #[]] w (Bp M w (uo n1 n2) (zC z1 (aM n2 z2) n1)):=by
 obtain⟨i0,hi,hz0,hz1,hz2⟩:=info_parts Tryz.Jy;have H1:=Lib.hid h1;have H2:=Lib.hid h2;have HM:=Lib.hid hM;have Ea:=yF hA;have D6:=yF hD;have HZ1:Hid (∀i,aM n1 z1 i=if i<n1 then z1 i else 0):=λ_=>rfl;clear h1 h2 hM hA hD;obtain⟨b0,jZ⟩:∃b0,b0=w.heap.size:=⟨_,rfl⟩;have aN:=(Ext.refl w).alloc (.cells #[.bool false,.slice none 0 0] 30);have bH:=ak.bf w #[.bool false,.slice none 0 0] 30 2 rfl;rw[<-jZ]at bH;obtain⟨W1,hW1⟩:∃W1,w.alloc (.cells #[.bool false,.slice none 0 0] 30)=W1:=⟨_,rfl⟩;rw[hW1]at aN bH;have Fz:=Lib.hid hW1;have gQ:=Lib.hid jZ;have aL:=Lib.hid aN;have Fh:Hid (JC W1 b0 0 ⟨false,none,0,0⟩):=⟨bH.cell (i:=0) (by omega),bH.cell (i:=1) (by omega)⟩;clear hW1 aN bH jZ
 go_enter Tryz.func130,Tryz.ntmps130
 go_upto_region 1 with(fail)
 rw[Fz.out, <-gQ.out];clear Fz
 by_cases iw:n1=0\/n2=0
 ·have HF:Hid (Bp M w (uo n1 n2) (zC z1 (aM n2 z2) n1) (.returned (.slice none 0 0)) W1):=by
   have e:uo n1 n2=0:=if_pos iw;rw[e];exact⟨none,λ_=>⟨false,none,0,0⟩,rfl,bg.nil _ _ _ _,aL.out⟩
  by_cases mJ:n1=0
  ·have qkW:((n1:Int)==0)=true:=by simp;omega
   clear iw mJ;go_wp2;go_ret;exact HF.out
  ·have qkW:((n1:Int)==0)=false:=by simp;omega
   have quU:((n2:Int)==0)=true:=by simp;omega
   clear iw mJ;go_wp2;go_ret;exact HF.out
 have qCg:1<=n1:=by omega
 have qCh:1<=n2:=by omega
 have qkW:((n1:Int)==0)=false:=by simp;omega
 have quU:((n2:Int)==0)=false:=by simp;omega
 obtain⟨N,hNN⟩:∃N,N=uo n1 n2:=⟨_,rfl⟩
 have UA:N+1=n1+n2:=by rw[hNN];unfold uo;rw[if_neg iw];omega
 have hNI:(n1:Int)+(n2:Int)-1=(N:Int):=by omega
 have xz:=Lib.hid hNN;clear hNN iw
 go_wp2_with (first|(at_make;refine Nb _ rfl _ _ _ rfl 30 i0 (.agg #[.bool false,.slice none 0 0]) 2 Tryz.underlying23 hi hz0 hz1 .i64 .i64 _ _ N rfl rfl ?c4 ?c5 ?c2 ?c3 ?_))
 case c2=>rw[hz2];omega
 case c3=>unfold maxLen;omega
 case c4=>go_num
 case c5=>go_num
 have bI:=qgV W1 N 30;have af:=(Ext.refl W1).alloc (.cells (madeCells (Value.agg #[.bool false,.slice none 0 0]).cells (N*2)) 30);intro w2 kQ;replace kQ:W1.alloc (.cells (madeCells (Value.agg #[.bool false,.slice none 0 0]).cells (N*2)) 30)=w2:=kQ.out.symm;rw[kQ]at bI af;obtain⟨go,PR⟩:∃go,go=W1.heap.size:=⟨_,rfl⟩;rw[<-PR]at bI⊢
 have qBa:b0<go:=by have:=Fh.out.lt;omega
 have Qt:w.heap.size<=go:=by have:=aL.out.size;omega
 have hm:∀b,(M b\/b=go)->M b\/w.heap.size<=b:=λb hb=>hb.imp id λe=>by rw[e];exact Qt
 have aU:=Lib.hid (aL.out.trans af);have HO:Hid (UK (λb=>M b\/b=go) w2 go N N λi=>if i<0 then zC z1 (aM n2 z2) n1 i else 0):=(UK.zero bI λ_ _=>rfl).congr λi _=>(if_neg (by omega)).symm;have Dl:=Lib.hid (Fh.out.ext Fh.out.lt af);have HF:=Lib.hid ((H1.out.more hm).ext aU.out);have HG:=Lib.hid ((H2.out.more hm).ext aU.out);have jb:Hid (Mb (λb=>M b\/b=go) w2):=mO (HM.out.ext aU.out) bI.lt;have HWO:=Lib.hid Qt
 have uw:Hid (∀k V,az (zC z1 (aM n2 z2) V k).natAbs<=A+D+V\/n1<V):=λk V=>by
  by_cases h:n1<V
  ·exact .inr h
  ·refine .inl ?_;rw[show zC z1 (aM n2 z2) V k=zC (aM n1 z1) (aM n2 z2) V k from qdI V λj hj=>(if_pos (by omega)).symm];exact qoT Ea D6 k V
 have ru:=Lib.hid D6;have Kl:=Lib.hid Ea;clear kQ bI af hm aL Fh PR gQ hi hz0 hz1 hz2 D6 Ea Qt H1 H2;go_wp2
 go_loopw [32] (λiv wr=>∃k:Nat,k<=N/\iv=.int .i64 (k:Int)/\Hid (UK (λb=>M b\/b=go) wr go N N λi=>if i<k then zC z1 (aM n2 z2) n1 i else 0)/\Hid (JC wr b0 0 ⟨false,none,0,0⟩)/\Hid (bg (λb=>M b\/b=go) wr a1 n1 c1 X1 z1)/\Hid (bg (λb=>M b\/b=go) wr a2 n2 c2 X2 z2)/\Hid (Mb (λb=>M b\/b=go) wr)/\Hid (Ext w wr)) (λiv _=>N-(intOf iv).toNat)
 case atStart=>exact⟨0,Nat.zero_le _,rfl,HO,Dl,HF,HG,jb,aU⟩
 case round=>
  clear HO Dl HF HG jb aU;obtain⟨k,hk,rfl,HO,HJ,HF,HG,dL,HE⟩:=hrel
  by_cases hlt:k<N
  ·have Er:(k:Int)<(N:Int):=by omega
   have fJ:(0:Int)<=(k:Int):=Int.natCast_nonneg _;have gF:Hid (k<N):=hlt;obtain⟨j0,j1⟩:=HJ.out;obtain⟨gs,yg⟩:∃gs,gs=wr.heap.size:=⟨_,rfl⟩;have aN:=(Ext.refl wr).alloc (.cells #[.bool false,.slice none 0 0] 30);have bH:=ak.bf wr #[.bool false,.slice none 0 0] 30 2 rfl;rw[<-yg]at bH;obtain⟨W3,qo⟩:∃W3,wr.alloc (.cells #[.bool false,.slice none 0 0] 30)=W3:=⟨_,rfl⟩;rw[qo]at aN bH
   have Gu:∀b,M3 M go gs b->(M b\/b=go)\/wr.heap.size<=b:=λb hb=>hb.imp id λe=>by rw[e];omega
   have qbF:=HO.out.lt;have qtS:=HJ.out.lt;obtain⟨lo,P5⟩:∃lo,lo=k+1-n2:=⟨_,rfl⟩
   have hlk:lo<=k:=by omega
   have qB3:max 0 ((k:Int)-(n2:Int)+1)=(lo:Int):=by omega
   have HS:Hid (Da M w go gs b0 N a1 n1 c1 X1 z1 a2 n2 c2 X2 z2 (λi=>if i<k then zC z1 (aM n2 z2) n1 i else 0) ⟨false,none,0,0⟩ (zC z1 (aM n2 z2) lo k) W3):=by
    refine⟨(HO.out.more Gu).ext aN,bH,?_,HJ.out.ext HJ.out.lt aN,(HF.out.more Gu).ext aN,(HG.out.more Gu).ext aN,mO (dL.out.ext aN) bH.lt,HE.out.trans aN,HWO.out,by have:=HE.out.size;omega,by omega,by omega,by omega⟩;rw[qAi P5];exact(dJ.zero _ _).eH
   obtain⟨hh,hhh⟩:∃hh,hh=min k (n1-1):=⟨_,rfl⟩
   have hhI:min (k:Int) ((n1:Int)-1)=(hh:Int):=by omega
   have hh1:hh<=k/\hh<n1/\(hh+1=n1\/hh=k):=by omega
   have hlh:lo<=hh+1:=by omega
   have qB4:k<lo+n2:=by omega
   have Bh:=Lib.hid qo;have vS:=Lib.hid yg;clear qo aN bH Gu yg HO HJ HF HG dL HE P5 hhh hlt
   go_upto_region 8 with(fail)
   rw[Bh.out, <-vS.out];clear j0 j1 Bh vS qbF qtS;go_wp2
   go_loopw [14] (λiv wr=>∃(i:Nat)(x:IE),lo<=i/\i<=hh+1/\iv=.int .i64 (i:Int)/\Hid (Da M w go gs b0 N a1 n1 c1 X1 z1 a2 n2 c2 X2 z2 (λi=>if i<k then zC z1 (aM n2 z2) n1 i else 0) x (zC z1 (aM n2 z2) i k) wr)) (λiv _=>hh+1-(intOf iv).toNat)
   case atStart=>exact⟨lo,⟨false,none,0,0⟩,Nat.le_refl _,hlh,rfl,HS⟩
   case round=>
    clear HS;obtain⟨i,x,hli,hih,rfl,HS⟩:=hrel
    by_cases hlt:i<=hh
    ·have hiI:(i:Int)<=(hh:Int):=by omega
     have UQ:(0:Int)<=(i:Int):=Int.natCast_nonneg _
     have lQ:(i:Int)<(n1:Int):=by omega
     have hiB:(i:Int)+1<=1000001:=by omega
     have hiw:IntKind.i64.wrap (i:Int)=(i:Int):=IntWalk.i64_in _ (by omega);obtain⟨d,hd⟩:∃d,d=k-i:=⟨_,rfl⟩
     have hdI:(k:Int)-(i:Int)=(d:Int):=by omega
     have hd0:(0:Int)<=(d:Int):=Int.natCast_nonneg _
     have lZ:(d:Int)<(n2:Int):=by omega
     have hdw:IntKind.i64.wrap (d:Int)=(d:Int):=IntWalk.i64_in _ (by omega);have E8:=Lib.hid hd;have kG:Hid (lo<=i+1/\i+1<=hh+1/\i<=k/\i<n1):=⟨by omega,by omega,by omega,by omega⟩
     have BZ:d<n2:=by omega
     obtain⟨g1,o1,zG,dR,qkl,fG⟩:=HS.out.f.jH (i:=i) (by omega);obtain⟨g2,o2,zH,dO,qkm,oK⟩:=HS.out.g.jH (i:=d) BZ;subst zG;subst zH;have cO:=(Ext.refl wr).drew;have hS:xL g1 (o1+i*2) (X1 i) gs x g2 (o2+d*2) (X2 d) wr.drew:=xL.ext ⟨dR,kY HS.out.s,dO,qkl,HS.out.s.lt,qkm⟩ cO;have lK:=Lib.hid (HS.out.ext cO);have ku:=Lib.hid (fG.ext cO);have ow:=Lib.hid (oK.ext cO);have O0:g1<wr.drew.heap.size:=hS.2.2.2.1;have qvp:gs<wr.drew.heap.size:=hS.2.2.2.2.1;have O3:g2<wr.drew.heap.size:=hS.2.2.2.2.2;clear cO fG oK dR dO qkl qkm HS hd hlt
     go_upto_region 11 with(fail)
     refine fM (xL g1 (o1+i*2) (X1 i) gs x g2 (o2+d*2) (X2 d)) 15 (by kernel_rfl) hS (λhHeld=>?_);clear hS;generalize wr.drew=Hq at*
     have hz1:Hid (az (z1 i).natAbs<=A):=by
      have:=Kl.out i;rw[HZ1.out,if_pos kG.out.2.2.2]at this;exact this
     have hz2:Hid (aM n2 z2 d=z2 d):=by show _=_;unfold aM;rw[if_pos BZ]
     have Nf:Hid (∀W:World,Ext Hq W->Calls Tryz.prog 65 #[.agg #[.bool (X1 i).b,.slice (X1 i).a (X1 i).n (X1 i).p],.agg #[.bool (X2 d).b,.slice (X2 d).a (X2 d).n (X2 d).p]] W (kI (M3 M go gs) W (z1 i*z2 d))):=λW he=>
      MG (X1 i) (X2 d) _ _ W (lK.out.m.ext he) (ku.out.ext he) (ow.out.ext he) (by
       have e1:=hz1.out;have e2:=ru.out d;rw[hz2.out]at e2
       omega)
     have Ng:Hid (∀(W:World)(u:IE),Ext Hq W->IX (M3 M go gs) W u (z1 i*z2 d)->Calls Tryz.prog 124 #[.agg #[.bool x.b,.slice x.a x.n x.p],.agg #[.bool u.b,.slice u.a u.n u.p]] W (kI (M3 M go gs) W (zC z1 (aM n2 z2) i k+z1 i*z2 d))):=λW u he hu=>
      qgH x u _ _ W (lK.out.m.ext he) (lK.out.x.ext he) hu (by
       have e1:=hz1.out;have e2:=ru.out d;rw[hz2.out]at e2;have e3:=(uw.out k i).resolve_right (by have:=kG.out;omega);have e4:=qJ (z1 i).natAbs (z2 d).natAbs;have e5:=kG.out;rw[Int.natAbs_mul]
       omega)
     (refine dF [0,1,2,3,4,5,6,7,8,9,10,11,12] ?_;(iterate 13 (refine dD (v:=?_) ?_ ?_;rotate_left 1;(intro wS hSw;obtain⟨⟨S1,S2⟩,⟨S3,S4⟩,⟨S5,S6⟩,S7,S8,S9⟩:=hSw;go_simp;try with_reducible rfl);(try simp only[Act.put,aD,aF,aG])));refine dG ?_);((refine aK 13 ?_;intro K hK);go_simp;(refine(Nf.out _ (Ext.refl _)).mono ?_);rintro e_ u2 ⟨u,rfl,hu,bN⟩;go_wp2_with (fail);(try clear ag);(have ag:=hHeld.ext bN);(refine hK.out _ _ (λ_=>ag) ?_);clear hK K;(try simp only[Act.put,aD,aF,aG]));((refine aK 14 ?_;intro K hK);go_simp;(refine(Ng.out _ u bN hu).mono ?_);rintro e_ u3 ⟨v2,rfl,hv2,iG⟩;go_wp2_with (fail);(try clear ag);(have ag:=hHeld.ext (bN.trans iG));(refine hK.out _ _ (λ_=>ag) ?_);clear hK K;(try simp only[Act.put,aD,aF,aG]));have pg:=bN.trans iG;have iE:=(lK.out.ext pg)
     have oZ:Hid (Da M w go gs b0 N (some ⟨g1,o1,none⟩) n1 c1 X1 z1 (some ⟨g2,o2,none⟩) n2 c2 X2 z2 (λi=>if i<k then zC z1 (aM n2 z2) n1 i else 0) v2 (zC z1 (aM n2 z2) (i+1) k) (bK u3 gs 0 (.bool v2.b) (.slice v2.a v2.n v2.p))):=by
      have h9:=iE.sum hv2
      rw[show zC z1 (aM n2 z2) (i+1) k=zC z1 (aM n2 z2) i k+z1 i*z2 d by
       show zC z1 (aM n2 z2) i k+(if i<=k then z1 i*aM n2 z2 (k-i)else 0)=_
       rw[if_pos kG.out.2.2.1, <-E8.out,hz2.out]]
      exact h9
     obtain⟨W6,jy⟩:∃W6,bK u3 gs 0 (.bool v2.b) (.slice v2.a v2.n v2.p)=W6:=⟨_,rfl⟩;obtain⟨k0,k1⟩:=kY iE.s;have fB:=iE.s.frozen 0;have fo:=iE.s.frozen 1;have kN:=iE.s.lt;rw[jy]at oZ;unfold bK at jy;have p9:=Lib.hid jy;clear iE hu hv2 bN iG pg jy lK ku ow Nf Ng hHeld ag hz1 hz2;((refine aK 15 ?_;intro K hK);go_simp;(refine hK.out _ _ (λh=>absurd rfl h) ?_);clear hK K;refine ek ?_)
     go_upto_region 10 with(fail)
     rw[p9.out];clear k0 k1 fB fo kN p9 O0 qvp O3 E8;go_wp2
     go_roundw
     case rel=>exact⟨i+1,v2,kG.out.1,kG.out.2.1,by go_num,oZ⟩
     case measure=>have:=kG.out;simp[intOf];omega
    ·obtain rfl:i=hh+1:=by omega
     have iZ:¬((hh+1:Nat):Int)<=(hh:Int):=by omega
     have gM:Hid (zC z1 (aM n2 z2) (hh+1) k=zC z1 (aM n2 z2) n1 k):=(qoU (by omega) (by omega)).symm;have iC:=HS;obtain⟨k0,k1⟩:=kY HS.out.s;have quq:=HS.out.s.lt;obtain⟨yy,⟨l0,l1⟩,_⟩:=HS.out.o.jH (j:=k) gF.out (Nat.le_refl _);have fB:=HS.out.o.xP (k*2);have fo:=HS.out.o.xP (k*2+1);have qbF:=HS.out.o.lt;have aZ:=Kp.bK (M:=M3 M go gs) (w:=wr) (g:=go) (.inl (.inr rfl)) (k*2) (.bool x.b) (.slice x.a x.n x.p);obtain⟨d1,d2,d3,d4,d5⟩:=HS.out.d;have UZ:∀b,(M b\/b=go)->M3 M go gs b\/(bK wr go (k*2) (.bool x.b) (.slice x.a x.n x.p)).heap.size<=b:=λb hb=>.inl (.inl hb)
     have HO:Hid (UK (λb=>M b\/b=go) (bK wr go (k*2) (.bool x.b) (.slice x.a x.n x.p)) go N N λi=>if i<k+1 then zC z1 (aM n2 z2) n1 i else 0):=by
      refine((HS.out.o.put (.inl (.inr rfl)) gF.out HS.out.x).congr λi hi=>?_).more UZ
      by_cases e:i=k
      ·rw[if_pos e,if_pos (by omega),e];exact gM.out
      ·rw[if_neg e]
       by_cases h2:i<k
       ·rw[if_pos h2,if_pos (by omega)]
       ·rw[if_neg h2,if_neg (by omega)]
     have HJ:Hid (JC (bK wr go (k*2) (.bool x.b) (.slice x.a x.n x.p)) b0 0 ⟨false,none,0,0⟩):=HS.out.b.of_heap (wK _ _ _ _ _ _ d4);have HF:=Lib.hid ((HS.out.f.kp aZ).more UZ);have HG:=Lib.hid ((HS.out.g.kp aZ).more UZ)
     have dL:Hid (Mb (λb=>M b\/b=go) (bK wr go (k*2) (.bool x.b) (.slice x.a x.n x.p))):=λb hb=>by rw[Aw];exact HS.out.m b (.inl hb)
     have HE:=Lib.hid (HS.out.e.bK d1 (k*2) (.bool x.b) (.slice x.a x.n x.p));obtain⟨W5,kL⟩:∃W5,bK wr go (k*2) (.bool x.b) (.slice x.a x.n x.p)=W5:=⟨_,rfl⟩;rw[kL]at HO HJ HF HG dL HE;unfold bK at kL;have sG:=Lib.hid kL;clear kL aZ UZ HS d1 d2 d3 d4 d5 iC gM
     go_upto_region 13 with(fail)
     rw[sG.out];clear k0 k1 fB fo quq qbF l0 l1 sG;go_wp2
     go_roundw
     case rel=>exact⟨k+1,gF.out,by go_num,HO,HJ,HF,HG,dL,HE⟩
     case measure=>have:=gF.out;simp[intOf];omega
  ·obtain rfl:k=N:=by omega
   obtain⟨X,hX⟩:=(HO.out.congr (z':=zC z1 (aM n2 z2) n1) λi hi=>if_pos hi).row (M':=M) (λg h=>.inl (.inl h)) (HM.out.new HWO.out) (by omega)
   have HR:Hid (Bp M w (uo n1 n2) (zC z1 (aM n2 z2) n1) (.returned (.slice (some ⟨go,0,none⟩) k k)) wr):=by rw[<-xz.out];exact⟨_,X,rfl,hX,HE.out⟩
   clear HO HJ HF HG dL HE hX;go_wp2;go_ret;exact HR.out
theorem qzQ(M:Nat->Prop)(a1:Option Addr)(n1 c1:Nat)(X1:Nat->IE)(z1:Nat->Int)(a2:Option Addr)(n2 c2:Nat)(X2:Nat->IE)(z2:Nat->Int)(A D:Nat)(w:World)(hM:Mb M w)
 (h1:bg M w a1 n1 c1 X1 z1) (h2:bg M w a2 n2 c2 X2 z2) (mJ:n1<=1000000) (lu:n2<=1000000) (hA:∀i,i<n1->az (z1 i).natAbs<=A) (hD:∀i,i<n2->az (z2 i).natAbs<=D) (hN:A+D<=549000000000):
 Calls Tryz.prog 76 #[.slice a1 n1 c1,.slice a2 n2 c2] w (Bp M w (uo (tz z1 n1) (tz z2 n2)) (zC z1 (aM (tz z2 n2) z2) (tz z1 n1))):=by
 have qbP:=jr z1 n1;have qbQ:=jr z2 n2;have CT1:=Lib.hid (JZ M a1 n1 c1 X1 z1 w h1);have nH:=Lib.hid (λW(he:Ext w W)=>JZ M a2 n2 c2 X2 z2 W (h2.ext he));have CC:=Lib.hid (λW(he:Ext w W)=>qzO M a1 (tz z1 n1) c1 X1 z1 a2 (tz z2 n2) c2 X2 z2 A D W (hM.ext he) ((h1.ext he).cut qbP) ((h2.ext he).cut qbQ) (by omega) (by omega) (λi hi=>hA i (by omega)) (λi hi=>hD i (by omega)) hN);clear h1 h2 hM hA hD;generalize tz z1 n1=m1 at*;generalize tz z2 n2=m2 at*
 go_enter Tryz.func76,Tryz.ntmps76
 go_wp2_with (fail);refine CT1.out.mono ?_;rintro e w1 ⟨rfl,af⟩;go_wp2_with (fail);refine(nH.out _ af).mono ?_;rintro e w2 ⟨rfl,aA⟩;have aU:=Lib.hid (af.trans aA);clear af aA;go_wp2_with (fail);refine(CC.out _ aU.out).mono ?_;rintro e w3 ⟨a,X,rfl,hX,aT⟩;have HF:Hid (Bp M w (uo m1 m2) (zC z1 (aM m2 z2) m1) (.returned (.slice a (uo m1 m2) (uo m1 m2))) w3):=⟨a,X,rfl,hX,aU.out.trans aT⟩;clear hX aT;generalize uo m1 m2=N at*;go_wp2;go_ret;exact HF.out
structure Ac(M':Nat->Prop)(w:World)(gr gv:Nat)(x:IE)(S:Int)(W:World):Prop where
 v:ak W gv 30 2 (arr #[.bool x.b,.slice x.a x.n x.p])
 r:ak W gr 30 2 (arr #[.bool false,.slice none 0 0])
 x:IX M' W x S
 m:Mb M' W
 e:Ext w W
 d:w.heap.size<=gv/\w.heap.size<=gr/\gv≠gr/\M' gv/\M' gr
section
variable{M':Nat->Prop}{w:World}{gr gv:Nat}{x:IE}{S S':Int}{W W':World}
theorem Ac.ext(h:Ac M' w gr gv x S W)(he:Ext W W'):Ac M' w gr gv x S W':=⟨h.v.ext he,h.r.ext he,h.x.ext he,h.m.ext he,h.e.trans he,h.d⟩
theorem Ac.sum(h:Ac M' w gr gv x S W){y:IE}(hy:IX M' W y S'):Ac M' w gr gv y S' (bK W gv 0 (.bool y.b) (.slice y.a y.n y.p)):=by
 obtain⟨d1,d2,d3,d4,d5⟩:=h.d;have hk:Kp M' W (bK W gv 0 (.bool y.b) (.slice y.a y.n y.p)):=Kp.bK d4 _ _ _;exact⟨OB h.v y,h.r.of_heap (wK W gv 0 _ _ _ (Ne.symm d3)),hy.kp hk,h.m.size (by rw[Aw];exact Nat.le_refl _),h.e.bK d1 _ _ _,h.d⟩
theorem Ac.put(h:Ac M' w gr gv x S W):(W.cell? ⟨gv,0,none⟩=some (.bool x.b)/\W.cell? ⟨gv,1,none⟩=some (.slice x.a x.n x.p))/\W.frozen? ⟨gv,0,none⟩=false/\W.frozen? ⟨gv,1,none⟩=false/\gv<W.heap.size:=
 ⟨kY h.v,h.v.frozen 0,h.v.frozen 1,h.v.lt⟩
theorem Ac.ret{M:Nat->Prop}(h:Ac M' w gr gv x S W)(hm:∀g,M g->M' g):
 (W.cell? ⟨gr,0,none⟩=some (.bool false)/\W.cell? ⟨gr,1,none⟩=some (.slice none 0 0)/\W.frozen? ⟨gr,0,none⟩=false/\W.frozen? ⟨gr,1,none⟩=false)/\
 (((W.setCell ⟨gr,0,none⟩ (.bool x.b)).setCell ⟨gr,1,none⟩ (.slice x.a x.n x.p)).cell? ⟨gr,0,none⟩=some (.bool x.b)/\((W.setCell ⟨gr,0,none⟩ (.bool x.b)).setCell ⟨gr,1,none⟩ (.slice x.a x.n x.p)).cell? ⟨gr,1,none⟩=some (.slice x.a x.n x.p))/\
 kI M w S (.returned (.agg #[.bool x.b,.slice x.a x.n x.p])) ((W.setCell ⟨gr,0,none⟩ (.bool x.b)).setCell ⟨gr,1,none⟩ (.slice x.a x.n x.p)):=by
 obtain⟨d1,d2,d3,d4,d5⟩:=h.d;obtain⟨h1,h2,hk,hf⟩:=nL (M':=M') (w:=w) (.bool x.b) (.slice x.a x.n x.p) h.r d5 d2 h.e;exact⟨h1,h2,x,rfl,(h.x.kp hk).more λg hg=>.inl (hm g hg),hf⟩
end
end Go.Proofs.YtmcfpnmoklnhoaaGreat
