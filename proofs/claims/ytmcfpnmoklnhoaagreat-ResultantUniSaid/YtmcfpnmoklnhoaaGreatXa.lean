/- Xa -/
import Derived.Test.YtmcfpnmoklnhoaaGreatWa
import Derived.Test.YtmcfpnmoklnhoaaGreatDa
set_option linter.unusedVariables false
set_option maxRecDepth 100000
set_option maxHeartbeats 400000000
set_option linter.unusedSimpArgs false
namespace Go.Proofs.YtmcfpnmoklnhoaaGreat
open Go.RowKit
structure En(M:Nat->Prop)(w:World)(go gs b0 N:Nat)(a1:Option Addr)(n1 c1:Nat)(X1:Nat->IE)(z1:Nat->Int)(a2:Option Addr)(n2 c2:Nat)(X2:Nat->IE)(z2 O:Nat->Int)(x:IE)(S:Int)(W:World):Prop where
 o:UK (M3 M go gs) W go N N O
 s:aG W gs 30 2 (arr #[.bool x.b,.slice x.a x.n x.p])
 x:IX (M3 M go gs) W x S
 b:JC W b0 0 ⟨false,none,0,0⟩
 f:bC (M3 M go gs) W a1 n1 c1 X1 z1
 g:bC (M3 M go gs) W a2 n2 c2 X2 z2
 m:Mb (M3 M go gs) W
 e:Ext w W
 d:w.heap.size<=go/\w.heap.size<=gs/\go≠gs/\b0≠go/\b0≠gs
theorem lJ{W:World}{g:Nat}{t:TypeId}{x:IE}(h:aG W g t 2 (arr #[.bool x.b,.slice x.a x.n x.p])):JC W g 0 x:=⟨h.cell (i:=0) (by omega),h.cell (i:=1) (by omega)⟩
theorem Qm{W:World}{g:Nat}{t:TypeId}{f:Nat->Value}(h:aG W g t 2 f)(x:IE):aG (bW W g 0 (.bool x.b) (.slice x.a x.n x.p)) g t 2 (arr #[.bool x.b,.slice x.a x.n x.p]):=by
 refine((h.set 0 (.bool x.b)).set 1 (.slice x.a x.n x.p)).congr λi hi=>?_;unfold jr arr;rcases(show i=0\/i=1 by omega)with rfl|rfl<;>simp
section
variable{M:Nat->Prop}{w:World}{go gs b0 N:Nat}{a1:Option Addr}{n1 c1:Nat}{X1:Nat->IE}{z1:Nat->Int}{a2:Option Addr}{n2 c2:Nat}{X2:Nat->IE}{z2 O O':Nat->Int}{x:IE}{S S':Int}{W W':World}
theorem En.ext(h:En M w go gs b0 N a1 n1 c1 X1 z1 a2 n2 c2 X2 z2 O x S W)(he:Ext W W'):En M w go gs b0 N a1 n1 c1 X1 z1 a2 n2 c2 X2 z2 O x S W':=
 ⟨h.o.ext he,h.s.ext he,h.x.ext he,h.b.ext h.b.lt he,h.f.ext he,h.g.ext he,h.m.ext he,h.e.trans he,h.d⟩
theorem En.sum(h:En M w go gs b0 N a1 n1 c1 X1 z1 a2 n2 c2 X2 z2 O x S W){y:IE}(hy:IX (M3 M go gs) W y S'):En M w go gs b0 N a1 n1 c1 X1 z1 a2 n2 c2 X2 z2 O y S' (bW W gs 0 (.bool y.b) (.slice y.a y.n y.p)):=by
 have hk:Kp (M3 M go gs) W (bW W gs 0 (.bool y.b) (.slice y.a y.n y.p)):=Kp.bW (.inr rfl) _ _ _;have hh:=λb hb=>xU W gs 0 (.bool y.b) (.slice y.a y.n y.p) b hb;obtain⟨d1,d2,d3,d4,d5⟩:=h.d;exact⟨h.o.kp (hh _ d3) hk,Qm h.s y,hy.kp hk,h.b.of_heap (hh _ d5),h.f.kp hk,h.g.kp hk,h.m.size (by rw[BU];exact aI _),h.e.bW d2 _ _ _,h.d⟩
end
theorem qq5{A D:Nat}{f g:Nat->Int}(hf:∀i,aH (f i).natAbs<=A)(hg:∀i,aH (g i).natAbs<=D)(k:Nat):∀V,aH (zC f g V k).natAbs<=A+D+V
 |0=>aR (by decide:aH (0:Int).natAbs<=0) (bK _)
 |V+1=>by
  have h:=qq5 hf hg k V
  have h1:aH (if V<=k then f V*g (k-V)else 0).natAbs<=A+D:=by
   split
   ·rw[Int.natAbs_mul];have:=pQ (f V).natAbs (g (k-V)).natAbs;have:=hf V;have:=hg (k-V);omega
   ·exact aR (by decide:aH (0:Int).natAbs<=0) (bK _)
  have h2:=qjo (zC f g V k) (if V<=k then f V*g (k-V)else 0);show aH (zC f g V k+_).natAbs<=_;omega
theorem YM{f g:Nat->Int}{m k:Nat}(hg:∀i,m<=i->g i=0):∀V,V+m<=k+1->zC f g V k=0
 |0,_=>rfl
 |V+1,h=>by
  show zC f g V k+(if V<=k then f V*g (k-V)else 0)=0;rw[YM hg V (by omega),ai (by omega),hg _ (by omega),Int.mul_zero,Int.add_zero]
theorem qCR{f z:Nat->Int}{n k lo:Nat}(h:lo=k+1-n):zC f (aP n z) lo k=0:=by
 by_cases hk:n<=k+1
 ·exact YM (m:=n) (λi hi=>ah (by omega)) lo (by omega)
 ·rw[show lo=0 by omega];rfl
theorem qq8{f g:Nat->Int}{k:Nat}{V:Nat}(h:k<V):∀r,zC f g (V+r) k=zC f g V k
 |0=>rfl
 |r+1=>by
  show zC f g (V+r) k+(if V+r<=k then f (V+r)*g (k-(V+r))else 0)=_;rw[qq8 h r,ah (by omega),Int.add_zero]
theorem qq6{f g:Nat->Int}{k V n:Nat}(h1:V<=n)(h2:V=n\/k<V):zC f g n k=zC f g V k:=by
 rcases h2 with rfl|h2
 ·rfl
 ·obtain⟨r,rfl⟩:∃r,n=V+r:=⟨n-V,by omega⟩;exact qq8 h2 r
theorem qCS{f g:Nat->Int}{k:Nat}(n:Nat):zC f g (tz f n) k=zC f g n k:=by
 have hle:=iR f n;obtain⟨r,hr⟩:∃r,n=tz f n+r:=⟨n-tz f n,by omega⟩
 have:∀r,tz f n+r<=n->zC f g (tz f n+r) k=zC f g (tz f n) k:=λr=>by
  induction r with
  |zero=>intro _;rfl
  |succ r ih=>
   intro h;show zC f g (tz f n+r) k+(if tz f n+r<=k then f (tz f n+r)*g (k-(tz f n+r))else 0)=_;rw[ih (by omega),TJ f n _ (by omega) (by omega),Int.zero_mul]
   split<;>simp
 have h2:=this r (by omega);rw[<-hr]at h2;exact h2.symm
def vB(m1 m2:Nat):Nat:=if m1=0\/m2=0 then 0 else m1+m2-1
theorem qtX{m1 m2:Nat}{f z2:Nat->Int}(i:Nat):aP (vB m1 m2) (zC f (aP m2 z2) m1) i=zC f (aP m2 z2) m1 i:=by
 unfold vB
 by_cases h:m1=0\/m2=0
 ·rw[ai h];refine(ah (by omega)).trans ?_;rcases h with rfl|rfl
  ·rfl
  ·by_cases hk:m1<=i+1
   ·exact(YM (m:=0) (λj _=>ah (by omega)) m1 (by omega)).symm
   ·rw[qq6 (V:=i+1) (by omega) (.inr (by omega))];exact(YM (m:=0) (λj _=>ah (by omega)) (i+1) (by omega)).symm
 ·rw[ah h]
  by_cases hi:i<m1+m2-1
  ·exact ai hi
  ·refine(ah hi).trans (qfg (n:=m2-1) (λj hj=>ah (by omega)) m1 i (by omega)).symm
theorem qCm(M:Nat->Prop)(a1:Option Addr)(n1 c1:Nat)(X1:Nat->IE)(z1:Nat->Int)(a2:Option Addr)(n2 c2:Nat)(X2:Nat->IE)(z2:Nat->Int)(A D:Nat)(w:World)(hM:Mb M w)
 (h1:bC M w a1 n1 c1 X1 z1) (h2:bC M w a2 n2 c2 X2 z2) (kT:n1<=1000000) (mg:n2<=1000000) (hA:∀i,i<n1->aH (z1 i).natAbs<=A) (hD:∀i,i<n2->aH (z2 i).natAbs<=D) (hN:A+D<=549000000000):
 Calls Tryz.prog 130 #[.slice a1 n1 c1,.slice a2 n2 c2,.agg #[.bool false,.slice none 0 0],.func (.func 124) #[] #[],.func (.func 65) #[] #[]] w (xE M w (vB n1 n2) (zC z1 (aP n2 z2) n1)):=by
 obtain⟨i0,hi,hz0,hz1,hz2⟩:=info_parts Tryz.K5;have H1:=ae h1;have H2:=ae h2;have HM:=ae hM;have Fh:=xh hA;have Fb:=xh hD;have HZ1:Hid (∀i,aP n1 z1 i=if i<n1 then z1 i else 0):=λ_=>rfl;clear h1 h2 hM hA hD;obtain⟨b0,ll⟩:∃b0,b0=w.heap.size:=⟨_,rfl⟩;have aT:=(aA w).alloc (.cells #[.bool false,.slice none 0 0] 30);have bQ:=aG.bq w #[.bool false,.slice none 0 0] 30 2 rfl;rw[<-ll]at bQ;obtain⟨W1,hW1⟩:∃W1,w.alloc (.cells #[.bool false,.slice none 0 0] 30)=W1:=⟨_,rfl⟩;rw[hW1]at aT bQ;have GA:=ae hW1;have dY:=ae ll;have aS:=ae aT;have Gl:Hid (JC W1 b0 0 ⟨false,none,0,0⟩):=⟨bQ.cell (i:=0) (by omega),bQ.cell (i:=1) (by omega)⟩;clear hW1 aT bQ ll
 go_enter Tryz.func130,Tryz.ntmps130
 go_upto_region 1 with(fail)
 rw[GA.out, <-dY.out];clear GA
 by_cases jg:n1=0\/n2=0
 ·have HF:Hid (xE M w (vB n1 n2) (zC z1 (aP n2 z2) n1) (.returned (.slice none 0 0)) W1):=by
   have e:vB n1 n2=0:=ai jg;rw[e];exact⟨none,λ_=>⟨false,none,0,0⟩,rfl,bC.nil _ _ _ _,aS.out⟩
  by_cases kT:n1=0
  ·have qmK:((n1:Int)==0)=true:=by simp;omega
   clear jg kT;go_wp2;go_ret;exact HF.out
  ·have qmK:((n1:Int)==0)=false:=by simp;omega
   have qxn:((n2:Int)==0)=true:=by simp;omega
   clear jg kT;go_wp2;go_ret;exact HF.out
 have qEP:1<=n1:=by omega
 have qEQ:1<=n2:=by omega
 have qmK:((n1:Int)==0)=false:=by simp;omega
 have qxn:((n2:Int)==0)=false:=by simp;omega
 obtain⟨N,hNN⟩:∃N,N=vB n1 n2:=⟨_,rfl⟩
 have Ws:N+1=n1+n2:=by rw[hNN];unfold vB;rw[ah jg];omega
 have hNI:(n1:Int)+(n2:Int)-1=(N:Int):=by omega
 have UL:=ae hNN;clear hNN jg
 go_wp2_with (first|(at_make;refine LK _ rfl _ _ _ rfl 30 i0 (.agg #[.bool false,.slice none 0 0]) 2 Tryz.underlying23 hi hz0 hz1 .i64 .i64 _ _ N rfl rfl ?c4 ?c5 ?c2 ?c3 ?_))
 case c2=>rw[hz2];omega
 case c3=>unfold maxLen;omega
 case c4=>go_num
 case c5=>go_num
 have cO:=qa1 W1 N 30;have az:=(aA W1).alloc (.cells (madeCells (Value.agg #[.bool false,.slice none 0 0]).cells (N*2)) 30);intro w2 iQ;replace iQ:W1.alloc (.cells (madeCells (Value.agg #[.bool false,.slice none 0 0]).cells (N*2)) 30)=w2:=iQ.out.symm;rw[iQ]at cO az;obtain⟨go,Rq⟩:∃go,go=W1.heap.size:=⟨_,rfl⟩;rw[<-Rq]at cO⊢
 have qDJ:b0<go:=by have:=Gl.out.lt;omega
 have IG:w.heap.size<=go:=by have:=aS.out.size;omega
 have hm:∀b,(M b\/b=go)->M b\/w.heap.size<=b:=λb hb=>hb.imp id λe=>by rw[e];exact IG
 have aZ:=ae (aS.out.trans az);have HO:Hid (UK (λb=>M b\/b=go) w2 go N N λi=>if i<0 then zC z1 (aP n2 z2) n1 i else 0):=(UK.zero cO λ_ _=>rfl).congr λi _=>(ah (by omega)).symm;have Ey:=ae (Gl.out.ext Gl.out.lt az);have HF:=ae ((H1.out.more hm).ext aZ.out);have HG:=ae ((H2.out.more hm).ext aZ.out);have gJ:Hid (Mb (λb=>M b\/b=go) w2):=pz (HM.out.ext aZ.out) cO.lt;have Qa:=ae IG
 have vG:Hid (∀k V,aH (zC z1 (aP n2 z2) V k).natAbs<=A+D+V\/n1<V):=λk V=>by
  by_cases h:n1<V
  ·exact .inr h
  ·refine .inl ?_;rw[show zC z1 (aP n2 z2) V k=zC (aP n1 z1) (aP n2 z2) V k from qff V λj hj=>(ai (by omega)).symm];exact qq5 Fh Fb k V
 have sO:=ae Fb;have Mh:=ae Fh;clear iQ cO az hm aS Gl Rq dY hi hz0 hz1 hz2 Fb Fh IG H1 H2;go_wp2
 go_loopw [32] (λiv wr=>∃k:Nat,k<=N/\iv=.int .i64 (k:Int)/\Hid (UK (λb=>M b\/b=go) wr go N N λi=>if i<k then zC z1 (aP n2 z2) n1 i else 0)/\Hid (JC wr b0 0 ⟨false,none,0,0⟩)/\Hid (bC (λb=>M b\/b=go) wr a1 n1 c1 X1 z1)/\Hid (bC (λb=>M b\/b=go) wr a2 n2 c2 X2 z2)/\Hid (Mb (λb=>M b\/b=go) wr)/\Hid (Ext w wr)) (λiv _=>N-(intOf iv).toNat)
 case atStart=>exact⟨0,bK _,rfl,HO,Ey,HF,HG,gJ,aZ⟩
 case round=>
  clear HO Ey HF HG gJ aZ;obtain⟨k,hk,rfl,HO,HJ,HF,HG,eP,HE⟩:=hrel
  by_cases hlt:k<N
  ·have NZ:(k:Int)<(N:Int):=by omega
   have iO:(0:Int)<=(k:Int):=iw _;have jX:Hid (k<N):=hlt;obtain⟨j0,j1⟩:=HJ.out;obtain⟨gs,zn⟩:∃gs,gs=wr.heap.size:=⟨_,rfl⟩;have aT:=(aA wr).alloc (.cells #[.bool false,.slice none 0 0] 30);have bQ:=aG.bq wr #[.bool false,.slice none 0 0] 30 2 rfl;rw[<-zn]at bQ;obtain⟨W3,pV⟩:∃W3,wr.alloc (.cells #[.bool false,.slice none 0 0] 30)=W3:=⟨_,rfl⟩;rw[pV]at aT bQ
   have Ij:∀b,M3 M go gs b->(M b\/b=go)\/wr.heap.size<=b:=λb hb=>hb.imp id λe=>by rw[e];omega
   have qcW:=HO.out.lt;have qwn:=HJ.out.lt;obtain⟨lo,RF⟩:∃lo,lo=k+1-n2:=⟨_,rfl⟩
   have hlk:lo<=k:=by omega
   have qED:max 0 ((k:Int)-(n2:Int)+1)=(lo:Int):=by omega
   have HS:Hid (En M w go gs b0 N a1 n1 c1 X1 z1 a2 n2 c2 X2 z2 (λi=>if i<k then zC z1 (aP n2 z2) n1 i else 0) ⟨false,none,0,0⟩ (zC z1 (aP n2 z2) lo k) W3):=by
    refine⟨(HO.out.more Ij).ext aT,bQ,?_,HJ.out.ext HJ.out.lt aT,(HF.out.more Ij).ext aT,(HG.out.more Ij).ext aT,pz (eP.out.ext aT) bQ.lt,HE.out.trans aT,Qa.out,by have:=HE.out.size;omega,by omega,by omega,by omega⟩;rw[qCR RF];exact(ek.zero _ _).fB
   obtain⟨hh,hhh⟩:∃hh,hh=min k (n1-1):=⟨_,rfl⟩
   have hhI:min (k:Int) ((n1:Int)-1)=(hh:Int):=by omega
   have hh1:hh<=k/\hh<n1/\(hh+1=n1\/hh=k):=by omega
   have hlh:lo<=hh+1:=by omega
   have qEE:k<lo+n2:=by omega
   have CB:=ae pV;have xn:=ae zn;clear pV aT bQ Ij zn HO HJ HF HG eP HE RF hhh hlt
   go_upto_region 8 with(fail)
   rw[CB.out, <-xn.out];clear j0 j1 CB xn qcW qwn;go_wp2
   go_loopw [14] (λiv wr=>∃(i:Nat)(x:IE),lo<=i/\i<=hh+1/\iv=.int .i64 (i:Int)/\Hid (En M w go gs b0 N a1 n1 c1 X1 z1 a2 n2 c2 X2 z2 (λi=>if i<k then zC z1 (aP n2 z2) n1 i else 0) x (zC z1 (aP n2 z2) i k) wr)) (λiv _=>hh+1-(intOf iv).toNat)
   case atStart=>exact⟨lo,⟨false,none,0,0⟩,aI _,hlh,rfl,HS⟩
   case round=>
    clear HS;obtain⟨i,x,hli,hih,rfl,HS⟩:=hrel
    by_cases hlt:i<=hh
    ·have hiI:(i:Int)<=(hh:Int):=by omega
     have hi0:(0:Int)<=(i:Int):=iw _
     have qI:(i:Int)<(n1:Int):=by omega
     have hiB:(i:Int)+1<=1000001:=by omega
     have hiw:IntKind.i64.wrap (i:Int)=(i:Int):=IntWalk.i64_in _ (by omega);obtain⟨d,hd⟩:∃d,d=k-i:=⟨_,rfl⟩
     have hdI:(k:Int)-(i:Int)=(d:Int):=by omega
     have hd0:(0:Int)<=(d:Int):=iw _
     have ou:(d:Int)<(n2:Int):=by omega
     have hdw:IntKind.i64.wrap (d:Int)=(d:Int):=IntWalk.i64_in _ (by omega);have Gf:=ae hd;have lU:Hid (lo<=i+1/\i+1<=hh+1/\i<=k/\i<n1):=⟨by omega,by omega,by omega,by omega⟩
     have DL:d<n2:=by omega
     obtain⟨g1,o1,Bf,fF,qmd,gY⟩:=HS.out.f.kI (i:=i) (by omega);obtain⟨g2,o2,Bg,fw,qme,qd⟩:=HS.out.g.kI (i:=d) DL;subst Bf;subst Bg;have bI:=(aA wr).drew;have hS:um g1 (o1+i*2) (X1 i) gs x g2 (o2+d*2) (X2 d) wr.drew:=um.ext ⟨fF,lJ HS.out.s,fw,qmd,HS.out.s.lt,qme⟩ bI;have lG:=ae (HS.out.ext bI);have lH:=ae (gY.ext bI);have lY:=ae (qd.ext bI);have QO:g1<wr.drew.heap.size:=hS.2.2.2.1;have qxW:gs<wr.drew.heap.size:=hS.2.2.2.2.1;have QQ:g2<wr.drew.heap.size:=hS.2.2.2.2.2;clear bI gY qd fF fw qmd qme HS hd hlt
     go_upto_region 11 with(fail)
     refine gB (um g1 (o1+i*2) (X1 i) gs x g2 (o2+d*2) (X2 d)) 15 (by kernel_rfl) hS (λhHeld=>?_);clear hS;generalize wr.drew=Jo at*
     have hz1:Hid (aH (z1 i).natAbs<=A):=by
      have:=Mh.out i;rw[HZ1.out,ai lU.out.2.2.2]at this;exact this
     have hz2:Hid (aP n2 z2 d=z2 d):=by show _=_;unfold aP;rw[ai DL]
     have C13:Hid (∀W:World,Ext Jo W->Calls Tryz.prog 65 #[.agg #[.bool (X1 i).b,.slice (X1 i).a (X1 i).n (X1 i).p],.agg #[.bool (X2 d).b,.slice (X2 d).a (X2 d).n (X2 d).p]] W (lg (M3 M go gs) W (z1 i*z2 d))):=λW he=>
      La (X1 i) (X2 d) _ _ W (lG.out.m.ext he) (lH.out.ext he) (lY.out.ext he) (by
       have e1:=hz1.out;have e2:=sO.out d;rw[hz2.out]at e2
       omega)
     have O1:Hid (∀(W:World)(u:IE),Ext Jo W->IX (M3 M go gs) W u (z1 i*z2 d)->Calls Tryz.prog 124 #[.agg #[.bool x.b,.slice x.a x.n x.p],.agg #[.bool u.b,.slice u.a u.n u.p]] W (lg (M3 M go gs) W (zC z1 (aP n2 z2) i k+z1 i*z2 d))):=λW u he hu=>
      qiB x u _ _ W (lG.out.m.ext he) (lG.out.x.ext he) hu (by
       have e1:=hz1.out;have e2:=sO.out d;rw[hz2.out]at e2;have e3:=(vG.out k i).resolve_right (by have:=lU.out;omega);have e4:=pQ (z1 i).natAbs (z2 d).natAbs;have e5:=lU.out;rw[Int.natAbs_mul]
       omega)
     (refine cB [0,1,2,3,4,5,6,7,8,9,10,11,12] ?_;(iterate 13 (refine bZ (v:=?_) ?_ ?_;rotate_left 1;(intro wS hSw;obtain⟨⟨S1,S2⟩,⟨S3,S4⟩,⟨S5,S6⟩,S7,S8,S9⟩:=hSw;go_simp;try with_reducible rfl);(try simp only[Act.put,aB,aC,aD])));refine cK ?_);((refine aO 13 ?_;intro K hK);go_simp;(refine(C13.out _ (aA _)).mono ?_);rintro e_ u2 ⟨u,rfl,hu,bM⟩;go_wp2_with (fail);(try clear ag);(have ag:=hHeld.ext bM);(refine hK.out _ _ (λ_=>ag) ?_);clear hK K;(try simp only[Act.put,aB,aC,aD]));((refine aO 14 ?_;intro K hK);go_simp;(refine(O1.out _ u bM hu).mono ?_);rintro e_ u3 ⟨v2,rfl,hv2,fM⟩;go_wp2_with (fail);(try clear ag);(have ag:=hHeld.ext (bM.trans fM));(refine hK.out _ _ (λ_=>ag) ?_);clear hK K;(try simp only[Act.put,aB,aC,aD]));have lh:=bM.trans fM;have jm:=(lG.out.ext lh)
     have qz:Hid (En M w go gs b0 N (some ⟨g1,o1,none⟩) n1 c1 X1 z1 (some ⟨g2,o2,none⟩) n2 c2 X2 z2 (λi=>if i<k then zC z1 (aP n2 z2) n1 i else 0) v2 (zC z1 (aP n2 z2) (i+1) k) (bW u3 gs 0 (.bool v2.b) (.slice v2.a v2.n v2.p))):=by
      have h9:=jm.sum hv2
      rw[show zC z1 (aP n2 z2) (i+1) k=zC z1 (aP n2 z2) i k+z1 i*z2 d by
       show zC z1 (aP n2 z2) i k+(if i<=k then z1 i*aP n2 z2 (k-i)else 0)=_
       rw[ai lU.out.2.2.1, <-Gf.out,hz2.out]]
      exact h9
     obtain⟨W6,gV⟩:∃W6,bW u3 gs 0 (.bool v2.b) (.slice v2.a v2.n v2.p)=W6:=⟨_,rfl⟩;obtain⟨k0,k1⟩:=lJ jm.s;have fV:=jm.s.frozen 0;have fP:=jm.s.frozen 1;have mH:=jm.s.lt;rw[gV]at qz;unfold bW at gV;have oZ:=ae gV;clear jm hu hv2 bM fM lh gV lG lH lY C13 O1 hHeld ag hz1 hz2;((refine aO 15 ?_;intro K hK);go_simp;(refine hK.out _ _ (λh=>absurd rfl h) ?_);clear hK K;refine dX ?_)
     go_upto_region 10 with(fail)
     rw[oZ.out];clear k0 k1 fV fP mH oZ QO qxW QQ Gf;go_wp2
     go_roundw
     case rel=>exact⟨i+1,v2,lU.out.1,lU.out.2.1,by go_num,qz⟩
     case measure=>have:=lU.out;simp[intOf];omega
    ·obtain rfl:i=hh+1:=by omega
     have jS:¬((hh+1:Nat):Int)<=(hh:Int):=by omega
     have iC:Hid (zC z1 (aP n2 z2) (hh+1) k=zC z1 (aP n2 z2) n1 k):=(qq6 (by omega) (by omega)).symm;have iG:=HS;obtain⟨k0,k1⟩:=lJ HS.out.s;have qwU:=HS.out.s.lt;obtain⟨yy,⟨l0,l1⟩,_⟩:=HS.out.o.kI (j:=k) jX.out (aI _);have fV:=HS.out.o.wL (k*2);have fP:=HS.out.o.wL (k*2+1);have qcW:=HS.out.o.lt;have bD:=Kp.bW (M:=M3 M go gs) (w:=wr) (g:=go) (.inl (.inr rfl)) (k*2) (.bool x.b) (.slice x.a x.n x.p);obtain⟨d1,d2,d3,d4,d5⟩:=HS.out.d;have WW:∀b,(M b\/b=go)->M3 M go gs b\/(bW wr go (k*2) (.bool x.b) (.slice x.a x.n x.p)).heap.size<=b:=λb hb=>.inl (.inl hb)
     have HO:Hid (UK (λb=>M b\/b=go) (bW wr go (k*2) (.bool x.b) (.slice x.a x.n x.p)) go N N λi=>if i<k+1 then zC z1 (aP n2 z2) n1 i else 0):=by
      refine((HS.out.o.put (.inl (.inr rfl)) jX.out HS.out.x).congr λi hi=>?_).more WW
      by_cases e:i=k
      ·rw[ai e,ai (by omega),e];exact iC.out
      ·rw[ah e]
       by_cases h2:i<k
       ·rw[ai h2,ai (by omega)]
       ·rw[ah h2,ah (by omega)]
     have HJ:Hid (JC (bW wr go (k*2) (.bool x.b) (.slice x.a x.n x.p)) b0 0 ⟨false,none,0,0⟩):=HS.out.b.of_heap (xU _ _ _ _ _ _ d4);have HF:=ae ((HS.out.f.kp bD).more WW);have HG:=ae ((HS.out.g.kp bD).more WW)
     have eP:Hid (Mb (λb=>M b\/b=go) (bW wr go (k*2) (.bool x.b) (.slice x.a x.n x.p))):=λb hb=>by rw[BU];exact HS.out.m b (.inl hb)
     have HE:=ae (HS.out.e.bW d1 (k*2) (.bool x.b) (.slice x.a x.n x.p));obtain⟨W5,mf⟩:∃W5,bW wr go (k*2) (.bool x.b) (.slice x.a x.n x.p)=W5:=⟨_,rfl⟩;rw[mf]at HO HJ HF HG eP HE;unfold bW at mf;have uj:=ae mf;clear mf bD WW HS d1 d2 d3 d4 d5 iG iC
     go_upto_region 13 with(fail)
     rw[uj.out];clear k0 k1 fV fP qwU qcW l0 l1 uj;go_wp2
     go_roundw
     case rel=>exact⟨k+1,jX.out,by go_num,HO,HJ,HF,HG,eP,HE⟩
     case measure=>have:=jX.out;simp[intOf];omega
  ·obtain rfl:k=N:=by omega
   obtain⟨X,hX⟩:=(HO.out.congr (z':=zC z1 (aP n2 z2) n1) λi hi=>ai hi).row (M':=M) (λg h=>.inl (.inl h)) (HM.out.new Qa.out) (by omega)
   have HR:Hid (xE M w (vB n1 n2) (zC z1 (aP n2 z2) n1) (.returned (.slice (some ⟨go,0,none⟩) k k)) wr):=by rw[<-UL.out];exact⟨_,X,rfl,hX,HE.out⟩
   clear HO HJ HF HG eP HE hX;go_wp2;go_ret;exact HR.out
theorem qCq(M:Nat->Prop)(a1:Option Addr)(n1 c1:Nat)(X1:Nat->IE)(z1:Nat->Int)(a2:Option Addr)(n2 c2:Nat)(X2:Nat->IE)(z2:Nat->Int)(A D:Nat)(w:World)(hM:Mb M w)
 (h1:bC M w a1 n1 c1 X1 z1) (h2:bC M w a2 n2 c2 X2 z2) (kT:n1<=1000000) (mg:n2<=1000000) (hA:∀i,i<n1->aH (z1 i).natAbs<=A) (hD:∀i,i<n2->aH (z2 i).natAbs<=D) (hN:A+D<=549000000000):
 Calls Tryz.prog 76 #[.slice a1 n1 c1,.slice a2 n2 c2] w (xE M w (vB (tz z1 n1) (tz z2 n2)) (zC z1 (aP (tz z2 n2) z2) (tz z1 n1))):=by
 have WU:=iR z1 n1;have WV:=iR z2 n2;have CT1:=ae (Jm M a1 n1 c1 X1 z1 w h1);have oP:=ae (λW(he:Ext w W)=>Jm M a2 n2 c2 X2 z2 W (h2.ext he));have CC:=ae (λW(he:Ext w W)=>qCm M a1 (tz z1 n1) c1 X1 z1 a2 (tz z2 n2) c2 X2 z2 A D W (hM.ext he) ((h1.ext he).cut WU) ((h2.ext he).cut WV) (by omega) (by omega) (λi hi=>hA i (by omega)) (λi hi=>hD i (by omega)) hN);clear h1 h2 hM hA hD;generalize tz z1 n1=m1 at*;generalize tz z2 n2=m2 at*
 go_enter Tryz.func76,Tryz.ntmps76
 go_wp2_with (fail);refine CT1.out.mono ?_;rintro e w1 ⟨rfl,az⟩;go_wp2_with (fail);refine(oP.out _ az).mono ?_;rintro e w2 ⟨rfl,aJ⟩;have aZ:=ae (az.trans aJ);clear az aJ;go_wp2_with (fail);refine(CC.out _ aZ.out).mono ?_;rintro e w3 ⟨a,X,rfl,hX,bg⟩;have HF:Hid (xE M w (vB m1 m2) (zC z1 (aP m2 z2) m1) (.returned (.slice a (vB m1 m2) (vB m1 m2))) w3):=⟨a,X,rfl,hX,aZ.out.trans bg⟩;clear hX bg;generalize vB m1 m2=N at*;go_wp2;go_ret;exact HF.out
structure Ac(M':Nat->Prop)(w:World)(gr gv:Nat)(x:IE)(S:Int)(W:World):Prop where
 v:aG W gv 30 2 (arr #[.bool x.b,.slice x.a x.n x.p])
 r:aG W gr 30 2 (arr #[.bool false,.slice none 0 0])
 x:IX M' W x S
 m:Mb M' W
 e:Ext w W
 d:w.heap.size<=gv/\w.heap.size<=gr/\gv≠gr/\M' gv/\M' gr
section
variable{M':Nat->Prop}{w:World}{gr gv:Nat}{x:IE}{S S':Int}{W W':World}
theorem Ac.ext(h:Ac M' w gr gv x S W)(he:Ext W W'):Ac M' w gr gv x S W':=⟨h.v.ext he,h.r.ext he,h.x.ext he,h.m.ext he,h.e.trans he,h.d⟩
theorem Ac.sum(h:Ac M' w gr gv x S W){y:IE}(hy:IX M' W y S'):Ac M' w gr gv y S' (bW W gv 0 (.bool y.b) (.slice y.a y.n y.p)):=by
 obtain⟨d1,d2,d3,d4,d5⟩:=h.d;have hk:Kp M' W (bW W gv 0 (.bool y.b) (.slice y.a y.n y.p)):=Kp.bW d4 _ _ _;exact⟨Qm h.v y,h.r.of_heap (xU W gv 0 _ _ _ (Ne.symm d3)),hy.kp hk,h.m.size (by rw[BU];exact aI _),h.e.bW d1 _ _ _,h.d⟩
theorem Ac.put(h:Ac M' w gr gv x S W):(W.cell? ⟨gv,0,none⟩=some (.bool x.b)/\W.cell? ⟨gv,1,none⟩=some (.slice x.a x.n x.p))/\W.frozen? ⟨gv,0,none⟩=false/\W.frozen? ⟨gv,1,none⟩=false/\gv<W.heap.size:=
 ⟨lJ h.v,h.v.frozen 0,h.v.frozen 1,h.v.lt⟩
theorem Ac.ret{M:Nat->Prop}(h:Ac M' w gr gv x S W)(hm:∀g,M g->M' g):
 (W.cell? ⟨gr,0,none⟩=some (.bool false)/\W.cell? ⟨gr,1,none⟩=some (.slice none 0 0)/\W.frozen? ⟨gr,0,none⟩=false/\W.frozen? ⟨gr,1,none⟩=false)/\
 (((W.setCell ⟨gr,0,none⟩ (.bool x.b)).setCell ⟨gr,1,none⟩ (.slice x.a x.n x.p)).cell? ⟨gr,0,none⟩=some (.bool x.b)/\((W.setCell ⟨gr,0,none⟩ (.bool x.b)).setCell ⟨gr,1,none⟩ (.slice x.a x.n x.p)).cell? ⟨gr,1,none⟩=some (.slice x.a x.n x.p))/\
 lg M w S (.returned (.agg #[.bool x.b,.slice x.a x.n x.p])) ((W.setCell ⟨gr,0,none⟩ (.bool x.b)).setCell ⟨gr,1,none⟩ (.slice x.a x.n x.p)):=by
 obtain⟨d1,d2,d3,d4,d5⟩:=h.d;obtain⟨h1,h2,hk,hf⟩:=l6 (M':=M') (w:=w) (.bool x.b) (.slice x.a x.n x.p) h.r d5 d2 h.e;exact⟨h1,h2,x,rfl,(h.x.kp hk).more λg hg=>.inl (hm g hg),hf⟩
end
end Go.Proofs.YtmcfpnmoklnhoaaGreat
